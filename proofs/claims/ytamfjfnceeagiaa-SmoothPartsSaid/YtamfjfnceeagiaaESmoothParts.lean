/- The ends of the laws: from the plain statement of each ('.. returns true, over typed values') to its given row; written by a program of mine (gen_law.py). No condition. -/
import Derived.Test.YtamfjfnceeagiaaOpen
namespace Go.Proofs.Ytamfjfnceeagiaa
set_option linter.unusedVariables false
set_option linter.unusedSimpArgs false
set_option maxRecDepth 100000
open Go.RowKit Go.ChangeShapes Go.WideShapes
def SmoothParts_stmt : Prop := ∀ (aA0 : Int) (aA1 : Int) (aD0 : Int) (aD1 : Int) (aN0 : Int) (aN1 : Int) (aWidth : Int) (aAt0 : Int) (aAt1 : Int) (w : World), ((-32768 ≤ aA0 ∧ aA0 ≤ 32767) ∧ (-32768 ≤ aA1 ∧ aA1 ≤ 32767) ∧ (-128 ≤ aD0 ∧ aD0 ≤ 127) ∧ (-128 ≤ aD1 ∧ aD1 ≤ 127) ∧ (0 ≤ aN0 ∧ aN0 ≤ 255) ∧ (0 ≤ aN1 ∧ aN1 ≤ 255) ∧ (0 ≤ aWidth ∧ aWidth ≤ 255) ∧ (-128 ≤ aAt0 ∧ aAt0 ≤ 127) ∧ (-128 ≤ aAt1 ∧ aAt1 ≤ 127)) → Calls Try.prog 9 #[.agg #[.int .i16 aA0, .int .i16 aA1, .int .i8 aD0, .int .i8 aD1, .int .u8 aN0, .int .u8 aN1, .int .u8 aWidth, .int .i8 aAt0, .int .i8 aAt1]] w (Ret (.bool true) w)
set_option maxRecDepth 100000 in
set_option maxHeartbeats 1000000 in
theorem SmoothParts_end (hw : SmoothParts_stmt) : Rows.SmoothPartsSaid :=
  OpenClaim.holds_of_wide 9 Try.f9 rfl rfl rfl rfl rfl rfl rfl ⟨rfl, rfl, rfl, rfl, rfl⟩ rfl rfl rfl rfl rfl (by kernel_rfl) Try.func9 (by kernel_rfl) (of_decide_eq_true (by kernel_rfl))
    (by unfold Func.isWrapper; rw [if_neg (of_decide_eq_false (by kernel_rfl))]; exact ⟨rfl, rfl⟩)
    (fun os started H enc _ => law_lifted Rows.smoothPartsSpec 9 Try.f9 (by kernel_rfl) Try.func9 rfl rfl
      (fun H ds hl => by
        rw [Try.params9] at hl
        obtain ⟨d0, rfl⟩ := list_1 ds hl
        exact ⟨rfl, rfl, rfl⟩) (by kernel_rfl)
      (fun W args h => by
        obtain ⟨H, enc, ds, ps, base, hA, hval, hlt, hfz⟩ := h
        rw [Try.params9] at hA hval
        obtain ⟨v0, vs0, d0, ds0, p0, q0, e0, -, -, h0, r0⟩ := trodAll_cons hA
        obtain ⟨e1, -, -⟩ := trodAll_nil r0
        obtain rfl : args = #[v0] := by rw [← Array.toArray_toList (xs := args), e0, e1]
        obtain ⟨aA0, aA1, aD0, aD1, aN0, aN1, aWidth, aAt0, aAt1, rfl, f0⟩ := arg_rastrumlaw18_Parts (hval 0 _ v0 rfl rfl) h0
        exact hw aA0 aA1 aD0 aD1 aN0 aN1 aWidth aAt0 aAt1 W f0)
      os started H enc (ChangeSpec.witness6 (enc := enc) (C := Try.checked) false ⟨#[], #[.agg #[.int .i16 0, .int .i16 0, .int .i8 0, .int .i8 0, .int .u8 0, .int .u8 0, .int .u8 0, .int .i8 0, .int .i8 0]], []⟩ 8 (by kernel_rfl) (by kernel_rfl) (by kernel_rfl) (by kernel_rfl)))
end Go.Proofs.Ytamfjfnceeagiaa
