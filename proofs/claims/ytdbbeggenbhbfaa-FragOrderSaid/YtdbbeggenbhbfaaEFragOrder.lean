/- The ends of the laws: from the plain statement of each ('.. returns true, over typed values') to its given row; written by a program of mine (gen_law.py). No condition. -/
import Derived.Test.YtdbbeggenbhbfaaOpen
namespace Go.Proofs.Ytdbbeggenbhbfaa
set_option linter.unusedVariables false
set_option linter.unusedSimpArgs false
open Go.RowKit Go.ChangeShapes Go.WideShapes
def FragOrder_stmt : Prop := ∀ (aW : Int) (aH : Int) (aC : Value) (aZ : Value) (bCut : Bool) (bBoxX0 : Int) (bBoxY0 : Int) (bBoxX1 : Int) (bBoxY1 : Int) (bDeep : Bool) (bFunc : Int) (bKeep : Bool) (bMix : Bool) (bSf : Int) (bDf : Int) (bMask0 : Bool) (bMask1 : Bool) (bMask2 : Bool) (bMask3 : Bool) (c : Value) (w : World), ((-9223372036854775808 ≤ aW ∧ aW ≤ 9223372036854775807) ∧ (-9223372036854775808 ≤ aH ∧ aH ≤ 9223372036854775807) ∧ (∃ zaC, Ints w aC zaC) ∧ (∃ zaZ, Ints w aZ zaZ)) → ((-9223372036854775808 ≤ bBoxX0 ∧ bBoxX0 ≤ 9223372036854775807) ∧ (-9223372036854775808 ≤ bBoxY0 ∧ bBoxY0 ≤ 9223372036854775807) ∧ (-9223372036854775808 ≤ bBoxX1 ∧ bBoxX1 ≤ 9223372036854775807) ∧ (-9223372036854775808 ≤ bBoxY1 ∧ bBoxY1 ≤ 9223372036854775807) ∧ (-9223372036854775808 ≤ bFunc ∧ bFunc ≤ 9223372036854775807) ∧ (-9223372036854775808 ≤ bSf ∧ bSf ≤ 9223372036854775807) ∧ (-9223372036854775808 ≤ bDf ∧ bDf ≤ 9223372036854775807)) → ((∃ zc, Sls w 8 (fun r => ∃ (ecX : Int) (ecY : Int) (ecZ : Int) (ecC0 : Int) (ecC1 : Int) (ecC2 : Int) (ecC3 : Int) (ecCov : Int), r = [.int .i64 ecX, .int .i64 ecY, .int .i64 ecZ, .int .i64 ecC0, .int .i64 ecC1, .int .i64 ecC2, .int .i64 ecC3, .int .i64 ecCov] ∧ (-9223372036854775808 ≤ ecX ∧ ecX ≤ 9223372036854775807) ∧ (-9223372036854775808 ≤ ecY ∧ ecY ≤ 9223372036854775807) ∧ (-9223372036854775808 ≤ ecZ ∧ ecZ ≤ 9223372036854775807) ∧ (-9223372036854775808 ≤ ecC0 ∧ ecC0 ≤ 9223372036854775807) ∧ (-9223372036854775808 ≤ ecC1 ∧ ecC1 ≤ 9223372036854775807) ∧ (-9223372036854775808 ≤ ecC2 ∧ ecC2 ≤ 9223372036854775807) ∧ (-9223372036854775808 ≤ ecC3 ∧ ecC3 ≤ 9223372036854775807) ∧ (-9223372036854775808 ≤ ecCov ∧ ecCov ≤ 9223372036854775807)) c zc)) → Calls Try.prog 16 #[.agg #[.int .i64 aW, .int .i64 aH, aC, aZ], .agg #[.bool bCut, .int .i64 bBoxX0, .int .i64 bBoxY0, .int .i64 bBoxX1, .int .i64 bBoxY1, .bool bDeep, .int .i64 bFunc, .bool bKeep, .bool bMix, .int .i64 bSf, .int .i64 bDf, .bool bMask0, .bool bMask1, .bool bMask2, .bool bMask3], c] w (Ret (.bool true) w)
set_option maxRecDepth 100000 in
set_option maxHeartbeats 1000000 in
theorem FragOrder_end (hw : FragOrder_stmt) : Rows.FragOrderSaid :=
  OpenClaim.holds_of_wide 16 Try.f16 rfl rfl rfl rfl rfl rfl rfl ⟨rfl, rfl, rfl, rfl, rfl⟩ rfl rfl rfl rfl rfl (by kernel_rfl) Try.func16 (by kernel_rfl) (of_decide_eq_true (by kernel_rfl))
    (by unfold Func.isWrapper; rw [if_neg (of_decide_eq_false (by kernel_rfl))]; exact ⟨rfl, rfl⟩)
    (fun os started H enc _ => law_lifted Rows.fragOrderSpec 16 Try.f16 (by kernel_rfl) Try.func16 rfl rfl
      (fun H ds hl => by
        rw [Try.params16] at hl
        obtain ⟨d0, d1, d2, rfl⟩ := list_3 ds hl
        exact ⟨rfl, rfl, rfl⟩) (by kernel_rfl)
      (fun W args h => by
        obtain ⟨H, enc, ds, ps, base, hA, hval, hlt, hfz⟩ := h
        rw [Try.params16] at hA hval
        obtain ⟨v0, vs0, d0, ds0, p0, q0, e0, -, -, h0, r0⟩ := trodAll_cons hA
        obtain ⟨v1, vs1, d1, ds1, p1, q1, e1, -, -, h1, r1⟩ := trodAll_cons r0
        obtain ⟨v2, vs2, d2, ds2, p2, q2, e2, -, -, h2, r2⟩ := trodAll_cons r1
        obtain ⟨e3, -, -⟩ := trodAll_nil r2
        obtain rfl : args = #[v0, v1, v2] := by rw [← Array.toArray_toList (xs := args), e0, e1, e2, e3]
        obtain ⟨aW, aH, aC, aZ, rfl, f0⟩ := arg_Image (hval 0 _ v0 rfl rfl) h0
        obtain ⟨bCut, bBoxX0, bBoxY0, bBoxX1, bBoxY1, bDeep, bFunc, bKeep, bMix, bSf, bDf, bMask0, bMask1, bMask2, bMask3, rfl, f1⟩ := arg_Ops (hval 1 _ v1 rfl rfl) h1
        obtain ⟨c, rfl, f2⟩ := arg_SlFrag (hval 2 _ v2 rfl rfl) h2
        exact hw aW aH aC aZ bCut bBoxX0 bBoxY0 bBoxX1 bBoxY1 bDeep bFunc bKeep bMix bSf bDf bMask0 bMask1 bMask2 bMask3 v2 W f0 f1 f2)
      os started H enc (ChangeSpec.witness6 (enc := enc) (C := Try.checked) false ⟨#[], #[.agg #[.int .i64 0, .int .i64 0, .slice none 0 0, .slice none 0 0], .agg #[.bool false, .int .i64 0, .int .i64 0, .int .i64 0, .int .i64 0, .bool false, .int .i64 0, .bool false, .bool false, .int .i64 0, .int .i64 0, .bool false, .bool false, .bool false, .bool false], .slice none 0 0], []⟩ 8 (by kernel_rfl) (by kernel_rfl) (by kernel_rfl) (by kernel_rfl)))
end Go.Proofs.Ytdbbeggenbhbfaa
