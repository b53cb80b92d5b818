/- The ends of the laws: from the plain statement of each ('.. returns true, over typed values') to its given row; written by a program of mine (gen_law.py). No condition. -/
import Derived.Test.YtmlhbbkgfffmcaaOpen
namespace Go.Proofs.Ytmlhbbkgfffmcaa
set_option linter.unusedVariables false
set_option linter.unusedSimpArgs false
set_option maxRecDepth 100000
open Go.RowKit Go.ChangeShapes Go.WideShapes
def LerpRises_stmt : Prop := ∀ (aAX : Int) (aAY : Int) (aAZ : Int) (aAC0 : Int) (aAC1 : Int) (aAC2 : Int) (aAC3 : Int) (aBX : Int) (aBY : Int) (aBZ : Int) (aBC0 : Int) (aBC1 : Int) (aBC2 : Int) (aBC3 : Int) (aAt0 : Int) (aAt1 : Int) (aBy0 : Int) (aBy1 : Int) (w : World), ((-9223372036854775808 ≤ aAX ∧ aAX ≤ 9223372036854775807) ∧ (-9223372036854775808 ≤ aAY ∧ aAY ≤ 9223372036854775807) ∧ (-9223372036854775808 ≤ aAZ ∧ aAZ ≤ 9223372036854775807) ∧ (-9223372036854775808 ≤ aAC0 ∧ aAC0 ≤ 9223372036854775807) ∧ (-9223372036854775808 ≤ aAC1 ∧ aAC1 ≤ 9223372036854775807) ∧ (-9223372036854775808 ≤ aAC2 ∧ aAC2 ≤ 9223372036854775807) ∧ (-9223372036854775808 ≤ aAC3 ∧ aAC3 ≤ 9223372036854775807) ∧ (-9223372036854775808 ≤ aBX ∧ aBX ≤ 9223372036854775807) ∧ (-9223372036854775808 ≤ aBY ∧ aBY ≤ 9223372036854775807) ∧ (-9223372036854775808 ≤ aBZ ∧ aBZ ≤ 9223372036854775807) ∧ (-9223372036854775808 ≤ aBC0 ∧ aBC0 ≤ 9223372036854775807) ∧ (-9223372036854775808 ≤ aBC1 ∧ aBC1 ≤ 9223372036854775807) ∧ (-9223372036854775808 ≤ aBC2 ∧ aBC2 ≤ 9223372036854775807) ∧ (-9223372036854775808 ≤ aBC3 ∧ aBC3 ≤ 9223372036854775807) ∧ (-9223372036854775808 ≤ aAt0 ∧ aAt0 ≤ 9223372036854775807) ∧ (-9223372036854775808 ≤ aAt1 ∧ aAt1 ≤ 9223372036854775807) ∧ (-9223372036854775808 ≤ aBy0 ∧ aBy0 ≤ 9223372036854775807) ∧ (-9223372036854775808 ≤ aBy1 ∧ aBy1 ≤ 9223372036854775807)) → Calls Try.prog 14 #[.agg #[.int .i64 aAX, .int .i64 aAY, .int .i64 aAZ, .int .i64 aAC0, .int .i64 aAC1, .int .i64 aAC2, .int .i64 aAC3, .int .i64 aBX, .int .i64 aBY, .int .i64 aBZ, .int .i64 aBC0, .int .i64 aBC1, .int .i64 aBC2, .int .i64 aBC3, .int .i64 aAt0, .int .i64 aAt1, .int .i64 aBy0, .int .i64 aBy1]] w (Ret (.bool true) w)
set_option maxRecDepth 100000 in
set_option maxHeartbeats 1000000 in
theorem LerpRises_end (hw : LerpRises_stmt) : Rows.LerpRisesSaid :=
  OpenClaim.holds_of_wide 14 Try.f14 rfl rfl rfl rfl rfl rfl rfl ⟨rfl, rfl, rfl, rfl, rfl⟩ rfl rfl rfl rfl rfl (by kernel_rfl) Try.func14 (by kernel_rfl) (of_decide_eq_true (by kernel_rfl))
    (by unfold Func.isWrapper; rw [if_neg (of_decide_eq_false (by kernel_rfl))]; exact ⟨rfl, rfl⟩)
    (fun os started H enc _ => law_lifted Rows.lerpRisesSpec 14 Try.f14 (by kernel_rfl) Try.func14 rfl rfl
      (fun H ds hl => by
        rw [Try.params14] at hl
        obtain ⟨d0, rfl⟩ := list_1 ds hl
        exact ⟨rfl, rfl, rfl⟩) (by kernel_rfl)
      (fun W args h => by
        obtain ⟨H, enc, ds, ps, base, hA, hval, hlt, hfz⟩ := h
        rw [Try.params14] at hA hval
        obtain ⟨v0, vs0, d0, ds0, p0, q0, e0, -, -, h0, r0⟩ := trodAll_cons hA
        obtain ⟨e1, -, -⟩ := trodAll_nil r0
        obtain rfl : args = #[v0] := by rw [← Array.toArray_toList (xs := args), e0, e1]
        obtain ⟨aAX, aAY, aAZ, aAC0, aAC1, aAC2, aAC3, aBX, aBY, aBZ, aBC0, aBC1, aBC2, aBC3, aAt0, aAt1, aBy0, aBy1, rfl, f0⟩ := arg_rastrumlaw16_Further (hval 0 _ v0 rfl rfl) h0
        exact hw aAX aAY aAZ aAC0 aAC1 aAC2 aAC3 aBX aBY aBZ aBC0 aBC1 aBC2 aBC3 aAt0 aAt1 aBy0 aBy1 W f0)
      os started H enc (ChangeSpec.witness6 (enc := enc) (C := Try.checked) false ⟨#[], #[.agg #[.int .i64 0, .int .i64 0, .int .i64 0, .int .i64 0, .int .i64 0, .int .i64 0, .int .i64 0, .int .i64 0, .int .i64 0, .int .i64 0, .int .i64 0, .int .i64 0, .int .i64 0, .int .i64 0, .int .i64 0, .int .i64 0, .int .i64 0, .int .i64 0]], []⟩ 8 (by kernel_rfl) (by kernel_rfl) (by kernel_rfl) (by kernel_rfl)))
end Go.Proofs.Ytmlhbbkgfffmcaa
