/- The ends of the laws: from the plain statement of each ('.. returns true, over typed values') to its given row; written by a program of mine (gen_law.py). No condition. -/
import Derived.Test.YtdbbeggenbhbfaaOpen
namespace Go.Proofs.Ytdbbeggenbhbfaa
set_option linter.unusedVariables false
set_option linter.unusedSimpArgs false
open Go.RowKit Go.ChangeShapes Go.WideShapes
def StoreAlone_stmt : Prop := ∀ (aW : Int) (aH : Int) (aC : Value) (aZ : Value) (bX : Int) (bY : Int) (bZ : Int) (bC0 : Int) (bC1 : Int) (bC2 : Int) (bC3 : Int) (bMask0 : Bool) (bMask1 : Bool) (bMask2 : Bool) (bMask3 : Bool) (w : World), ((-9223372036854775808 ≤ aW ∧ aW ≤ 9223372036854775807) ∧ (-9223372036854775808 ≤ aH ∧ aH ≤ 9223372036854775807) ∧ (∃ zaC, Ints w aC zaC) ∧ (∃ zaZ, Ints w aZ zaZ)) → ((-9223372036854775808 ≤ bX ∧ bX ≤ 9223372036854775807) ∧ (-9223372036854775808 ≤ bY ∧ bY ≤ 9223372036854775807) ∧ (-9223372036854775808 ≤ bZ ∧ bZ ≤ 9223372036854775807) ∧ (-9223372036854775808 ≤ bC0 ∧ bC0 ≤ 9223372036854775807) ∧ (-9223372036854775808 ≤ bC1 ∧ bC1 ≤ 9223372036854775807) ∧ (-9223372036854775808 ≤ bC2 ∧ bC2 ≤ 9223372036854775807) ∧ (-9223372036854775808 ≤ bC3 ∧ bC3 ≤ 9223372036854775807)) → Calls Try.prog 10 #[.agg #[.int .i64 aW, .int .i64 aH, aC, aZ], .agg #[.int .i64 bX, .int .i64 bY, .int .i64 bZ, .int .i64 bC0, .int .i64 bC1, .int .i64 bC2, .int .i64 bC3, .bool bMask0, .bool bMask1, .bool bMask2, .bool bMask3]] w (Ret (.bool true) w)
set_option maxRecDepth 100000 in
theorem StoreAlone_end (hw : StoreAlone_stmt) : Rows.StoreAloneSaid :=
  OpenClaim.holds_of_wide 10 Try.f10 rfl rfl rfl rfl rfl rfl rfl ⟨rfl, rfl, rfl, rfl, rfl⟩ rfl rfl rfl rfl rfl (by kernel_rfl) Try.func10 (by kernel_rfl) (of_decide_eq_true (by kernel_rfl))
    (by unfold Func.isWrapper; rw [if_neg (of_decide_eq_false (by kernel_rfl))]; exact ⟨rfl, rfl⟩)
    (fun os started H enc _ => law_lifted Rows.storeAloneSpec 10 Try.f10 (by kernel_rfl) Try.func10 rfl rfl
      (fun H ds hl => by
        rw [Try.params10] at hl
        obtain ⟨d0, d1, rfl⟩ := list_2 ds hl
        exact ⟨rfl, rfl, rfl⟩) (by kernel_rfl)
      (fun W args h => by
        obtain ⟨H, enc, ds, ps, base, hA, hval, hlt, hfz⟩ := h
        rw [Try.params10] at hA hval
        obtain ⟨v0, vs0, d0, ds0, p0, q0, e0, -, -, h0, r0⟩ := trodAll_cons hA
        obtain ⟨v1, vs1, d1, ds1, p1, q1, e1, -, -, h1, r1⟩ := trodAll_cons r0
        obtain ⟨e2, -, -⟩ := trodAll_nil r1
        obtain rfl : args = #[v0, v1] := by rw [← Array.toArray_toList (xs := args), e0, e1, e2]
        obtain ⟨aW, aH, aC, aZ, rfl, f0⟩ := arg_Image (hval 0 _ v0 rfl rfl) h0
        obtain ⟨bX, bY, bZ, bC0, bC1, bC2, bC3, bMask0, bMask1, bMask2, bMask3, rfl, f1⟩ := arg_rastrumlaw23_Pen (hval 1 _ v1 rfl rfl) h1
        exact hw aW aH aC aZ bX bY bZ bC0 bC1 bC2 bC3 bMask0 bMask1 bMask2 bMask3 W f0 f1)
      os started H enc (ChangeSpec.witness6 (enc := enc) (C := Try.checked) false ⟨#[], #[.agg #[.int .i64 0, .int .i64 0, .slice none 0 0, .slice none 0 0], .agg #[.int .i64 0, .int .i64 0, .int .i64 0, .int .i64 0, .int .i64 0, .int .i64 0, .int .i64 0, .bool false, .bool false, .bool false, .bool false]], []⟩ 8 (by kernel_rfl) (by kernel_rfl) (by kernel_rfl) (by kernel_rfl)))
end Go.Proofs.Ytdbbeggenbhbfaa
