/- The ends of the laws: from the plain statement of each ('.. returns true, over typed values') to its given row; written by a program of mine (gen_law.py). No condition. -/
import Derived.Test.YtmlhbbkgfffmcaaOpen
namespace Go.Proofs.Ytmlhbbkgfffmcaa
set_option linter.unusedVariables false
set_option linter.unusedSimpArgs false
set_option maxRecDepth 100000
open Go.RowKit Go.ChangeShapes Go.WideShapes
def WalkAts_stmt : Prop := ∀ (aX : Int) (aY : Int) (bX : Int) (bY : Int) (c : Int) (w : World), ((-9223372036854775808 ≤ aX ∧ aX ≤ 9223372036854775807) ∧ (-9223372036854775808 ≤ aY ∧ aY ≤ 9223372036854775807)) → ((-9223372036854775808 ≤ bX ∧ bX ≤ 9223372036854775807) ∧ (-9223372036854775808 ≤ bY ∧ bY ≤ 9223372036854775807)) → ((-9223372036854775808 ≤ c ∧ c ≤ 9223372036854775807)) → Calls Try.prog 10 #[.agg #[.int .i64 aX, .int .i64 aY], .agg #[.int .i64 bX, .int .i64 bY], .int .i64 c] w (Ret (.bool true) w)
set_option maxRecDepth 100000 in
set_option maxHeartbeats 1000000 in
theorem WalkAts_end (hw : WalkAts_stmt) : Rows.WalkAtsSaid :=
  OpenClaim.holds_of_wide 10 Try.f10 rfl rfl rfl rfl rfl rfl rfl ⟨rfl, rfl, rfl, rfl, rfl⟩ rfl rfl rfl rfl rfl (by kernel_rfl) Try.func10 (by kernel_rfl) (of_decide_eq_true (by kernel_rfl))
    (by unfold Func.isWrapper; rw [if_neg (of_decide_eq_false (by kernel_rfl))]; exact ⟨rfl, rfl⟩)
    (fun os started H enc _ => law_lifted Rows.walkAtsSpec 10 Try.f10 (by kernel_rfl) Try.func10 rfl rfl
      (fun H ds hl => by
        rw [Try.params10] at hl
        obtain ⟨d0, d1, d2, rfl⟩ := list_3 ds hl
        exact ⟨rfl, rfl, rfl⟩) (by kernel_rfl)
      (fun W args h => by
        obtain ⟨H, enc, ds, ps, base, hA, hval, hlt, hfz⟩ := h
        rw [Try.params10] at hA hval
        obtain ⟨v0, vs0, d0, ds0, p0, q0, e0, -, -, h0, r0⟩ := trodAll_cons hA
        obtain ⟨v1, vs1, d1, ds1, p1, q1, e1, -, -, h1, r1⟩ := trodAll_cons r0
        obtain ⟨v2, vs2, d2, ds2, p2, q2, e2, -, -, h2, r2⟩ := trodAll_cons r1
        obtain ⟨e3, -, -⟩ := trodAll_nil r2
        obtain rfl : args = #[v0, v1, v2] := by rw [← Array.toArray_toList (xs := args), e0, e1, e2, e3]
        obtain ⟨aX, aY, rfl, f0⟩ := arg_Point (hval 0 _ v0 rfl rfl) h0
        obtain ⟨bX, bY, rfl, f1⟩ := arg_Point (hval 1 _ v1 rfl rfl) h1
        obtain ⟨c, rfl, f2⟩ := arg_int (hval 2 _ v2 rfl rfl) h2
        exact hw aX aY bX bY c W f0 f1 f2)
      os started H enc (ChangeSpec.witness6 (enc := enc) (C := Try.checked) false ⟨#[], #[.agg #[.int .i64 0, .int .i64 0], .agg #[.int .i64 0, .int .i64 0], .int .i64 0], []⟩ 8 (by kernel_rfl) (by kernel_rfl) (by kernel_rfl) (by kernel_rfl)))
end Go.Proofs.Ytmlhbbkgfffmcaa
