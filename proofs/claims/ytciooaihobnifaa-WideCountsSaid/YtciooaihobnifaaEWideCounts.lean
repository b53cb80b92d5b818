/- The ends of the laws: from the plain statement of each ('.. returns true, over typed values') to its given row; written by a program of mine (gen_law.py). No condition. -/
import Derived.Test.YtciooaihobnifaaOpen
namespace Go.Proofs.Ytciooaihobnifaa
set_option linter.unusedVariables false
set_option linter.unusedSimpArgs false
set_option maxRecDepth 100000
open Go.RowKit Go.ChangeShapes Go.WideShapes
def WideCounts_stmt : Prop := ∀ (aAX : Int) (aAY : Int) (aAZ : Int) (aAC0 : Int) (aAC1 : Int) (aAC2 : Int) (aAC3 : Int) (aBX : Int) (aBY : Int) (aBZ : Int) (aBC0 : Int) (aBC1 : Int) (aBC2 : Int) (aBC3 : Int) (aWidth : Int) (aDashed : Bool) (aDPattern : Int) (aDRepeat : Int) (aDCount : Int) (aRX0 : Int) (aRY0 : Int) (aRX1 : Int) (aRY1 : Int) (w : World), ((-9223372036854775808 ≤ aAX ∧ aAX ≤ 9223372036854775807) ∧ (-9223372036854775808 ≤ aAY ∧ aAY ≤ 9223372036854775807) ∧ (-9223372036854775808 ≤ aAZ ∧ aAZ ≤ 9223372036854775807) ∧ (-9223372036854775808 ≤ aAC0 ∧ aAC0 ≤ 9223372036854775807) ∧ (-9223372036854775808 ≤ aAC1 ∧ aAC1 ≤ 9223372036854775807) ∧ (-9223372036854775808 ≤ aAC2 ∧ aAC2 ≤ 9223372036854775807) ∧ (-9223372036854775808 ≤ aAC3 ∧ aAC3 ≤ 9223372036854775807) ∧ (-9223372036854775808 ≤ aBX ∧ aBX ≤ 9223372036854775807) ∧ (-9223372036854775808 ≤ aBY ∧ aBY ≤ 9223372036854775807) ∧ (-9223372036854775808 ≤ aBZ ∧ aBZ ≤ 9223372036854775807) ∧ (-9223372036854775808 ≤ aBC0 ∧ aBC0 ≤ 9223372036854775807) ∧ (-9223372036854775808 ≤ aBC1 ∧ aBC1 ≤ 9223372036854775807) ∧ (-9223372036854775808 ≤ aBC2 ∧ aBC2 ≤ 9223372036854775807) ∧ (-9223372036854775808 ≤ aBC3 ∧ aBC3 ≤ 9223372036854775807) ∧ (-9223372036854775808 ≤ aWidth ∧ aWidth ≤ 9223372036854775807) ∧ (-9223372036854775808 ≤ aDPattern ∧ aDPattern ≤ 9223372036854775807) ∧ (-9223372036854775808 ≤ aDRepeat ∧ aDRepeat ≤ 9223372036854775807) ∧ (-9223372036854775808 ≤ aDCount ∧ aDCount ≤ 9223372036854775807) ∧ (-9223372036854775808 ≤ aRX0 ∧ aRX0 ≤ 9223372036854775807) ∧ (-9223372036854775808 ≤ aRY0 ∧ aRY0 ≤ 9223372036854775807) ∧ (-9223372036854775808 ≤ aRX1 ∧ aRX1 ≤ 9223372036854775807) ∧ (-9223372036854775808 ≤ aRY1 ∧ aRY1 ≤ 9223372036854775807)) → Calls Try.prog 5 #[.agg #[.int .i64 aAX, .int .i64 aAY, .int .i64 aAZ, .int .i64 aAC0, .int .i64 aAC1, .int .i64 aAC2, .int .i64 aAC3, .int .i64 aBX, .int .i64 aBY, .int .i64 aBZ, .int .i64 aBC0, .int .i64 aBC1, .int .i64 aBC2, .int .i64 aBC3, .int .i64 aWidth, .bool aDashed, .int .i64 aDPattern, .int .i64 aDRepeat, .int .i64 aDCount, .int .i64 aRX0, .int .i64 aRY0, .int .i64 aRX1, .int .i64 aRY1]] w (Ret (.bool true) w)
set_option maxRecDepth 100000 in
set_option maxHeartbeats 1000000 in
theorem WideCounts_end (hw : WideCounts_stmt) : Rows.WideCountsSaid :=
  OpenClaim.holds_of_wide 5 Try.f5 rfl rfl rfl rfl rfl rfl rfl ⟨rfl, rfl, rfl, rfl, rfl⟩ rfl rfl rfl rfl rfl (by kernel_rfl) Try.func5 (by kernel_rfl) (of_decide_eq_true (by kernel_rfl))
    (by unfold Func.isWrapper; rw [if_neg (of_decide_eq_false (by kernel_rfl))]; exact ⟨rfl, rfl⟩)
    (fun os started H enc _ => law_lifted Rows.wideCountsSpec 5 Try.f5 (by kernel_rfl) Try.func5 rfl rfl
      (fun H ds hl => by
        rw [Try.params5] at hl
        obtain ⟨d0, rfl⟩ := list_1 ds hl
        exact ⟨rfl, rfl, rfl⟩) (by kernel_rfl)
      (fun W args h => by
        obtain ⟨H, enc, ds, ps, base, hA, hval, hlt, hfz⟩ := h
        rw [Try.params5] at hA hval
        obtain ⟨v0, vs0, d0, ds0, p0, q0, e0, -, -, h0, r0⟩ := trodAll_cons hA
        obtain ⟨e1, -, -⟩ := trodAll_nil r0
        obtain rfl : args = #[v0] := by rw [← Array.toArray_toList (xs := args), e0, e1]
        obtain ⟨aAX, aAY, aAZ, aAC0, aAC1, aAC2, aAC3, aBX, aBY, aBZ, aBC0, aBC1, aBC2, aBC3, aWidth, aDashed, aDPattern, aDRepeat, aDCount, aRX0, aRY0, aRX1, aRY1, rfl, f0⟩ := arg_rastrumlaw17_Line (hval 0 _ v0 rfl rfl) h0
        exact hw aAX aAY aAZ aAC0 aAC1 aAC2 aAC3 aBX aBY aBZ aBC0 aBC1 aBC2 aBC3 aWidth aDashed aDPattern aDRepeat aDCount aRX0 aRY0 aRX1 aRY1 W f0)
      os started H enc (ChangeSpec.witness6 (enc := enc) (C := Try.checked) false ⟨#[], #[.agg #[.int .i64 0, .int .i64 0, .int .i64 0, .int .i64 0, .int .i64 0, .int .i64 0, .int .i64 0, .int .i64 0, .int .i64 0, .int .i64 0, .int .i64 0, .int .i64 0, .int .i64 0, .int .i64 0, .int .i64 0, .bool false, .int .i64 0, .int .i64 0, .int .i64 0, .int .i64 0, .int .i64 0, .int .i64 0, .int .i64 0]], []⟩ 8 (by kernel_rfl) (by kernel_rfl) (by kernel_rfl) (by kernel_rfl)))
end Go.Proofs.Ytciooaihobnifaa
