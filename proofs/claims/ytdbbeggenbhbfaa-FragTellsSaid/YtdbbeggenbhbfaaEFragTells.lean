/- The ends of the laws: from the plain statement of each ('.. returns true, over typed values') to its given row; written by a program of mine (gen_law.py). No condition. -/
import Derived.Test.YtdbbeggenbhbfaaOpen
namespace Go.Proofs.Ytdbbeggenbhbfaa
set_option linter.unusedVariables false
set_option linter.unusedSimpArgs false
open Go.RowKit Go.ChangeShapes Go.WideShapes
def FragTells_stmt : Prop := ∀ (aCut : Bool) (aBoxX0 : Int) (aBoxY0 : Int) (aBoxX1 : Int) (aBoxY1 : Int) (aDeep : Bool) (aFunc : Int) (aKeep : Bool) (aMix : Bool) (aSf : Int) (aDf : Int) (aMask0 : Bool) (aMask1 : Bool) (aMask2 : Bool) (aMask3 : Bool) (bX : Int) (bY : Int) (bZ : Int) (bC0 : Int) (bC1 : Int) (bC2 : Int) (bC3 : Int) (bCov : Int) (c0 : Int) (c1 : Int) (c2 : Int) (w : World), ((-9223372036854775808 ≤ aBoxX0 ∧ aBoxX0 ≤ 9223372036854775807) ∧ (-9223372036854775808 ≤ aBoxY0 ∧ aBoxY0 ≤ 9223372036854775807) ∧ (-9223372036854775808 ≤ aBoxX1 ∧ aBoxX1 ≤ 9223372036854775807) ∧ (-9223372036854775808 ≤ aBoxY1 ∧ aBoxY1 ≤ 9223372036854775807) ∧ (-9223372036854775808 ≤ aFunc ∧ aFunc ≤ 9223372036854775807) ∧ (-9223372036854775808 ≤ aSf ∧ aSf ≤ 9223372036854775807) ∧ (-9223372036854775808 ≤ aDf ∧ aDf ≤ 9223372036854775807)) → ((-9223372036854775808 ≤ bX ∧ bX ≤ 9223372036854775807) ∧ (-9223372036854775808 ≤ bY ∧ bY ≤ 9223372036854775807) ∧ (-9223372036854775808 ≤ bZ ∧ bZ ≤ 9223372036854775807) ∧ (-9223372036854775808 ≤ bC0 ∧ bC0 ≤ 9223372036854775807) ∧ (-9223372036854775808 ≤ bC1 ∧ bC1 ≤ 9223372036854775807) ∧ (-9223372036854775808 ≤ bC2 ∧ bC2 ≤ 9223372036854775807) ∧ (-9223372036854775808 ≤ bC3 ∧ bC3 ≤ 9223372036854775807) ∧ (-9223372036854775808 ≤ bCov ∧ bCov ≤ 9223372036854775807)) → ((-9223372036854775808 ≤ c0 ∧ c0 ≤ 9223372036854775807) ∧ (-9223372036854775808 ≤ c1 ∧ c1 ≤ 9223372036854775807) ∧ (-9223372036854775808 ≤ c2 ∧ c2 ≤ 9223372036854775807)) → Calls Try.prog 12 #[.agg #[.bool aCut, .int .i64 aBoxX0, .int .i64 aBoxY0, .int .i64 aBoxX1, .int .i64 aBoxY1, .bool aDeep, .int .i64 aFunc, .bool aKeep, .bool aMix, .int .i64 aSf, .int .i64 aDf, .bool aMask0, .bool aMask1, .bool aMask2, .bool aMask3], .agg #[.int .i64 bX, .int .i64 bY, .int .i64 bZ, .int .i64 bC0, .int .i64 bC1, .int .i64 bC2, .int .i64 bC3, .int .i64 bCov], .agg #[.int .i64 c0, .int .i64 c1, .int .i64 c2]] w (Ret (.bool true) w)
set_option maxRecDepth 100000 in
theorem FragTells_end (hw : FragTells_stmt) : Rows.FragTellsSaid :=
  OpenClaim.holds_of_wide 12 Try.f12 rfl rfl rfl rfl rfl rfl rfl ⟨rfl, rfl, rfl, rfl, rfl⟩ rfl rfl rfl rfl rfl (by kernel_rfl) Try.func12 (by kernel_rfl) (of_decide_eq_true (by kernel_rfl))
    (by unfold Func.isWrapper; rw [if_neg (of_decide_eq_false (by kernel_rfl))]; exact ⟨rfl, rfl⟩)
    (fun os started H enc _ => law_lifted Rows.fragTellsSpec 12 Try.f12 (by kernel_rfl) Try.func12 rfl rfl
      (fun H ds hl => by
        rw [Try.params12] at hl
        obtain ⟨d0, d1, d2, rfl⟩ := list_3 ds hl
        exact ⟨rfl, rfl, rfl⟩) (by kernel_rfl)
      (fun W args h => by
        obtain ⟨H, enc, ds, ps, base, hA, hval, hlt, hfz⟩ := h
        rw [Try.params12] at hA hval
        obtain ⟨v0, vs0, d0, ds0, p0, q0, e0, -, -, h0, r0⟩ := trodAll_cons hA
        obtain ⟨v1, vs1, d1, ds1, p1, q1, e1, -, -, h1, r1⟩ := trodAll_cons r0
        obtain ⟨v2, vs2, d2, ds2, p2, q2, e2, -, -, h2, r2⟩ := trodAll_cons r1
        obtain ⟨e3, -, -⟩ := trodAll_nil r2
        obtain rfl : args = #[v0, v1, v2] := by rw [← Array.toArray_toList (xs := args), e0, e1, e2, e3]
        obtain ⟨aCut, aBoxX0, aBoxY0, aBoxX1, aBoxY1, aDeep, aFunc, aKeep, aMix, aSf, aDf, aMask0, aMask1, aMask2, aMask3, rfl, f0⟩ := arg_Ops (hval 0 _ v0 rfl rfl) h0
        obtain ⟨bX, bY, bZ, bC0, bC1, bC2, bC3, bCov, rfl, f1⟩ := arg_Frag (hval 1 _ v1 rfl rfl) h1
        obtain ⟨c0, c1, c2, rfl, f2⟩ := arg_A3_int (hval 2 _ v2 rfl rfl) h2
        exact hw aCut aBoxX0 aBoxY0 aBoxX1 aBoxY1 aDeep aFunc aKeep aMix aSf aDf aMask0 aMask1 aMask2 aMask3 bX bY bZ bC0 bC1 bC2 bC3 bCov c0 c1 c2 W f0 f1 f2)
      os started H enc (ChangeSpec.witness6 (enc := enc) (C := Try.checked) false ⟨#[], #[.agg #[.bool false, .int .i64 0, .int .i64 0, .int .i64 0, .int .i64 0, .bool false, .int .i64 0, .bool false, .bool false, .int .i64 0, .int .i64 0, .bool false, .bool false, .bool false, .bool false], .agg #[.int .i64 0, .int .i64 0, .int .i64 0, .int .i64 0, .int .i64 0, .int .i64 0, .int .i64 0, .int .i64 0], .agg #[.int .i64 0, .int .i64 0, .int .i64 0]], []⟩ 8 (by kernel_rfl) (by kernel_rfl) (by kernel_rfl) (by kernel_rfl)))
end Go.Proofs.Ytdbbeggenbhbfaa
