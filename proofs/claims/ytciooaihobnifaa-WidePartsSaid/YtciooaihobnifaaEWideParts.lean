/- The ends of the laws: from the plain statement of each ('.. returns true, over typed values') to its given row; written by a program of mine (gen_law.py). No condition. -/
import Derived.Test.YtciooaihobnifaaOpen
namespace Go.Proofs.Ytciooaihobnifaa
set_option linter.unusedVariables false
set_option linter.unusedSimpArgs false
set_option maxRecDepth 100000
open Go.RowKit Go.ChangeShapes Go.WideShapes
def WideParts_stmt : Prop := ∀ (aA0 : Int) (aA1 : Int) (aD0 : Int) (aD1 : Int) (aN0 : Int) (aN1 : Int) (aWidth : Int) (aDashPattern : Int) (aDashRepeat : Int) (aDashCount : Int) (aDashed : Bool) (w : World), ((-32768 ≤ aA0 ∧ aA0 ≤ 32767) ∧ (-32768 ≤ aA1 ∧ aA1 ≤ 32767) ∧ (-128 ≤ aD0 ∧ aD0 ≤ 127) ∧ (-128 ≤ aD1 ∧ aD1 ≤ 127) ∧ (0 ≤ aN0 ∧ aN0 ≤ 255) ∧ (0 ≤ aN1 ∧ aN1 ≤ 255) ∧ (0 ≤ aWidth ∧ aWidth ≤ 255) ∧ (-9223372036854775808 ≤ aDashPattern ∧ aDashPattern ≤ 9223372036854775807) ∧ (-9223372036854775808 ≤ aDashRepeat ∧ aDashRepeat ≤ 9223372036854775807) ∧ (-9223372036854775808 ≤ aDashCount ∧ aDashCount ≤ 9223372036854775807)) → Calls Try.prog 4 #[.agg #[.int .i16 aA0, .int .i16 aA1, .int .i8 aD0, .int .i8 aD1, .int .u8 aN0, .int .u8 aN1, .int .u8 aWidth, .int .i64 aDashPattern, .int .i64 aDashRepeat, .int .i64 aDashCount, .bool aDashed]] w (Ret (.bool true) w)
set_option maxRecDepth 100000 in
set_option maxHeartbeats 1000000 in
theorem WideParts_end (hw : WideParts_stmt) : Rows.WidePartsSaid :=
  OpenClaim.holds_of_wide 4 Try.f4 rfl rfl rfl rfl rfl rfl rfl ⟨rfl, rfl, rfl, rfl, rfl⟩ rfl rfl rfl rfl rfl (by kernel_rfl) Try.func4 (by kernel_rfl) (of_decide_eq_true (by kernel_rfl))
    (by unfold Func.isWrapper; rw [if_neg (of_decide_eq_false (by kernel_rfl))]; exact ⟨rfl, rfl⟩)
    (fun os started H enc _ => law_lifted Rows.widePartsSpec 4 Try.f4 (by kernel_rfl) Try.func4 rfl rfl
      (fun H ds hl => by
        rw [Try.params4] at hl
        obtain ⟨d0, rfl⟩ := list_1 ds hl
        exact ⟨rfl, rfl, rfl⟩) (by kernel_rfl)
      (fun W args h => by
        obtain ⟨H, enc, ds, ps, base, hA, hval, hlt, hfz⟩ := h
        rw [Try.params4] at hA hval
        obtain ⟨v0, vs0, d0, ds0, p0, q0, e0, -, -, h0, r0⟩ := trodAll_cons hA
        obtain ⟨e1, -, -⟩ := trodAll_nil r0
        obtain rfl : args = #[v0] := by rw [← Array.toArray_toList (xs := args), e0, e1]
        obtain ⟨aA0, aA1, aD0, aD1, aN0, aN1, aWidth, aDashPattern, aDashRepeat, aDashCount, aDashed, rfl, f0⟩ := arg_rastrumlaw17_Parts (hval 0 _ v0 rfl rfl) h0
        exact hw aA0 aA1 aD0 aD1 aN0 aN1 aWidth aDashPattern aDashRepeat aDashCount aDashed W f0)
      os started H enc (ChangeSpec.witness6 (enc := enc) (C := Try.checked) false ⟨#[], #[.agg #[.int .i16 0, .int .i16 0, .int .i8 0, .int .i8 0, .int .u8 0, .int .u8 0, .int .u8 0, .int .i64 0, .int .i64 0, .int .i64 0, .bool false]], []⟩ 8 (by kernel_rfl) (by kernel_rfl) (by kernel_rfl) (by kernel_rfl)))
end Go.Proofs.Ytciooaihobnifaa
