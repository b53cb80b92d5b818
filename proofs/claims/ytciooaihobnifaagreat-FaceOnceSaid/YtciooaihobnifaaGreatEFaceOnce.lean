/- The ends of the laws: from the plain statement of each ('.. returns true, over typed values') to its given row; written by a program of mine (gen_law.py). No condition. -/
import Derived.Test.YtciooaihobnifaaGreatOpenZ
namespace Go.Proofs.YtciooaihobnifaaGreat
set_option linter.unusedVariables false
set_option linter.unusedSimpArgs false
set_option maxRecDepth 100000
open Go.RowKit Go.ChangeShapes Go.WideShapes
def FaceOnce_stmt : Prop := ∀ (aA0 : Int) (aA1 : Int) (aU0 : Int) (aU1 : Int) (aV0 : Int) (aV1 : Int) (bX0 : Int) (bY0 : Int) (bX1 : Int) (bY1 : Int) (w : World), ((-32768 ≤ aA0 ∧ aA0 ≤ 32767) ∧ (-32768 ≤ aA1 ∧ aA1 ≤ 32767) ∧ (-32768 ≤ aU0 ∧ aU0 ≤ 32767) ∧ (-32768 ≤ aU1 ∧ aU1 ≤ 32767) ∧ (-32768 ≤ aV0 ∧ aV0 ≤ 32767) ∧ (-32768 ≤ aV1 ∧ aV1 ≤ 32767)) → ((-9223372036854775808 ≤ bX0 ∧ bX0 ≤ 9223372036854775807) ∧ (-9223372036854775808 ≤ bY0 ∧ bY0 ≤ 9223372036854775807) ∧ (-9223372036854775808 ≤ bX1 ∧ bX1 ≤ 9223372036854775807) ∧ (-9223372036854775808 ≤ bY1 ∧ bY1 ≤ 9223372036854775807)) → Calls Tryz.prog 6 #[.agg #[.int .i16 aA0, .int .i16 aA1, .int .i16 aU0, .int .i16 aU1, .int .i16 aV0, .int .i16 aV1], .agg #[.int .i64 bX0, .int .i64 bY0, .int .i64 bX1, .int .i64 bY1]] w (Ret (.bool true) w)
set_option maxRecDepth 100000 in
set_option maxHeartbeats 1000000 in
theorem FaceOnce_end (hw : FaceOnce_stmt) : Rows.FaceOnceSaid :=
  OpenClaim.holds_of_wide 6 Tryz.f6 rfl rfl rfl rfl rfl rfl rfl ⟨rfl, rfl, rfl, rfl, rfl⟩ rfl rfl rfl rfl rfl (by kernel_rfl) Tryz.func6 (by kernel_rfl) (of_decide_eq_true (by kernel_rfl))
    (by unfold Func.isWrapper; rw [if_neg (of_decide_eq_false (by kernel_rfl))]; exact ⟨rfl, rfl⟩)
    (fun os started H enc _ => law_lifted Rows.faceOnceSpec 6 Tryz.f6 (by kernel_rfl) Tryz.func6 rfl rfl
      (fun H ds hl => by
        rw [Tryz.params6] at hl
        obtain ⟨d0, d1, rfl⟩ := list_2 ds hl
        exact ⟨rfl, rfl, rfl⟩) (by kernel_rfl)
      (fun W args h => by
        obtain ⟨H, enc, ds, ps, base, hA, hval, hlt, hfz⟩ := h
        rw [Tryz.params6] at hA hval
        obtain ⟨v0, vs0, d0, ds0, p0, q0, e0, -, -, h0, r0⟩ := trodAll_cons hA
        obtain ⟨v1, vs1, d1, ds1, p1, q1, e1, -, -, h1, r1⟩ := trodAll_cons r0
        obtain ⟨e2, -, -⟩ := trodAll_nil r1
        obtain rfl : args = #[v0, v1] := by rw [← Array.toArray_toList (xs := args), e0, e1, e2]
        obtain ⟨aA0, aA1, aU0, aU1, aV0, aV1, rfl, f0⟩ := arg_rastrumlaw22_Quad (hval 0 _ v0 rfl rfl) h0
        obtain ⟨bX0, bY0, bX1, bY1, rfl, f1⟩ := arg_Rect (hval 1 _ v1 rfl rfl) h1
        exact hw aA0 aA1 aU0 aU1 aV0 aV1 bX0 bY0 bX1 bY1 W f0 f1)
      os started H enc (ChangeSpec.witness6 (enc := enc) (C := Tryz.checked) false ⟨#[], #[.agg #[.int .i16 0, .int .i16 0, .int .i16 0, .int .i16 0, .int .i16 0, .int .i16 0], .agg #[.int .i64 0, .int .i64 0, .int .i64 0, .int .i64 0]], []⟩ 8 (by kernel_rfl) (by kernel_rfl) (by kernel_rfl) (by kernel_rfl)))
end Go.Proofs.YtciooaihobnifaaGreat
