/- The ends of the laws: from the plain statement of each ('.. returns true, over typed values') to its given row; written by a program of mine (gen_law.py). No condition. -/
import Derived.Test.YthcjfanigfgckaaOpen
namespace Go.Proofs.Ythcjfanigfgckaa
set_option linter.unusedVariables false
set_option linter.unusedSimpArgs false
set_option maxRecDepth 100000
open Go.RowKit Go.ChangeShapes Go.WideShapes
def StoreClears_stmt : Prop := ∀ (aMW : Int) (aMH : Int) (aMC : Value) (aMZ : Value) (aRX0 : Int) (aRY0 : Int) (aRX1 : Int) (aRY1 : Int) (aWhat : Int) (aPX : Int) (aPY : Int) (aPZ : Int) (aPC0 : Int) (aPC1 : Int) (aPC2 : Int) (aPC3 : Int) (aPMask0 : Bool) (aPMask1 : Bool) (aPMask2 : Bool) (aPMask3 : Bool) (w : World), ((-9223372036854775808 ≤ aMW ∧ aMW ≤ 9223372036854775807) ∧ (-9223372036854775808 ≤ aMH ∧ aMH ≤ 9223372036854775807) ∧ (∃ zaMC, Ints w aMC zaMC) ∧ (∃ zaMZ, Ints w aMZ zaMZ) ∧ (-9223372036854775808 ≤ aRX0 ∧ aRX0 ≤ 9223372036854775807) ∧ (-9223372036854775808 ≤ aRY0 ∧ aRY0 ≤ 9223372036854775807) ∧ (-9223372036854775808 ≤ aRX1 ∧ aRX1 ≤ 9223372036854775807) ∧ (-9223372036854775808 ≤ aRY1 ∧ aRY1 ≤ 9223372036854775807) ∧ (-9223372036854775808 ≤ aWhat ∧ aWhat ≤ 9223372036854775807) ∧ (-9223372036854775808 ≤ aPX ∧ aPX ≤ 9223372036854775807) ∧ (-9223372036854775808 ≤ aPY ∧ aPY ≤ 9223372036854775807) ∧ (-9223372036854775808 ≤ aPZ ∧ aPZ ≤ 9223372036854775807) ∧ (-9223372036854775808 ≤ aPC0 ∧ aPC0 ≤ 9223372036854775807) ∧ (-9223372036854775808 ≤ aPC1 ∧ aPC1 ≤ 9223372036854775807) ∧ (-9223372036854775808 ≤ aPC2 ∧ aPC2 ≤ 9223372036854775807) ∧ (-9223372036854775808 ≤ aPC3 ∧ aPC3 ≤ 9223372036854775807)) → Calls Try.prog 3 #[.agg #[.int .i64 aMW, .int .i64 aMH, aMC, aMZ, .int .i64 aRX0, .int .i64 aRY0, .int .i64 aRX1, .int .i64 aRY1, .int .i64 aWhat, .int .i64 aPX, .int .i64 aPY, .int .i64 aPZ, .int .i64 aPC0, .int .i64 aPC1, .int .i64 aPC2, .int .i64 aPC3, .bool aPMask0, .bool aPMask1, .bool aPMask2, .bool aPMask3]] w (Ret (.bool true) w)
set_option maxRecDepth 100000 in
set_option maxHeartbeats 1000000 in
theorem StoreClears_end (hw : StoreClears_stmt) : Rows.StoreClearsSaid :=
  OpenClaim.holds_of_wide 3 Try.f3 rfl rfl rfl rfl rfl rfl rfl ⟨rfl, rfl, rfl, rfl, rfl⟩ rfl rfl rfl rfl rfl (by kernel_rfl) Try.func3 (by kernel_rfl) (of_decide_eq_true (by kernel_rfl))
    (by unfold Func.isWrapper; rw [if_neg (of_decide_eq_false (by kernel_rfl))]; exact ⟨rfl, rfl⟩)
    (fun os started H enc _ => law_lifted Rows.storeClearsSpec 3 Try.f3 (by kernel_rfl) Try.func3 rfl rfl
      (fun H ds hl => by
        rw [Try.params3] at hl
        obtain ⟨d0, rfl⟩ := list_1 ds hl
        exact ⟨rfl, rfl, rfl⟩) (by kernel_rfl)
      (fun W args h => by
        obtain ⟨H, enc, ds, ps, base, hA, hval, hlt, hfz⟩ := h
        rw [Try.params3] at hA hval
        obtain ⟨v0, vs0, d0, ds0, p0, q0, e0, -, -, h0, r0⟩ := trodAll_cons hA
        obtain ⟨e1, -, -⟩ := trodAll_nil r0
        obtain rfl : args = #[v0] := by rw [← Array.toArray_toList (xs := args), e0, e1]
        obtain ⟨aMW, aMH, aMC, aMZ, aRX0, aRY0, aRX1, aRY1, aWhat, aPX, aPY, aPZ, aPC0, aPC1, aPC2, aPC3, aPMask0, aPMask1, aPMask2, aPMask3, rfl, f0⟩ := arg_rastrumlaw23_Wipe (hval 0 _ v0 rfl rfl) h0
        exact hw aMW aMH aMC aMZ aRX0 aRY0 aRX1 aRY1 aWhat aPX aPY aPZ aPC0 aPC1 aPC2 aPC3 aPMask0 aPMask1 aPMask2 aPMask3 W f0)
      os started H enc (ChangeSpec.witness6 (enc := enc) (C := Try.checked) false ⟨#[], #[.agg #[.int .i64 0, .int .i64 0, .slice none 0 0, .slice none 0 0, .int .i64 0, .int .i64 0, .int .i64 0, .int .i64 0, .int .i64 0, .int .i64 0, .int .i64 0, .int .i64 0, .int .i64 0, .int .i64 0, .int .i64 0, .int .i64 0, .bool false, .bool false, .bool false, .bool false]], []⟩ 8 (by kernel_rfl) (by kernel_rfl) (by kernel_rfl) (by kernel_rfl)))
end Go.Proofs.Ythcjfanigfgckaa
