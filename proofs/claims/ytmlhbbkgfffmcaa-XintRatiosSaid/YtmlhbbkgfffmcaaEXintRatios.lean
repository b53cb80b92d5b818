/- The ends of the laws: from the plain statement of each ('.. returns true, over typed values') to its given row; written by a program of mine (gen_law.py). No condition. -/
import Derived.Test.YtmlhbbkgfffmcaaOpen
namespace Go.Proofs.Ytmlhbbkgfffmcaa
set_option linter.unusedVariables false
set_option linter.unusedSimpArgs false
set_option maxRecDepth 100000
open Go.RowKit Go.ChangeShapes Go.WideShapes
def XintRatios_stmt : Prop := ∀ (aAHi : Int) (aALo : Int) (aCHi : Int) (aCLo : Int) (aB : Int) (aD : Int) (w : World), ((-9223372036854775808 ≤ aAHi ∧ aAHi ≤ 9223372036854775807) ∧ (0 ≤ aALo ∧ aALo ≤ 18446744073709551615) ∧ (-9223372036854775808 ≤ aCHi ∧ aCHi ≤ 9223372036854775807) ∧ (0 ≤ aCLo ∧ aCLo ≤ 18446744073709551615) ∧ (-9223372036854775808 ≤ aB ∧ aB ≤ 9223372036854775807) ∧ (-9223372036854775808 ≤ aD ∧ aD ≤ 9223372036854775807)) → Calls Try.prog 9 #[.agg #[.int .i64 aAHi, .int .u64 aALo, .int .i64 aCHi, .int .u64 aCLo, .int .i64 aB, .int .i64 aD]] w (Ret (.bool true) w)
set_option maxRecDepth 100000 in
set_option maxHeartbeats 1000000 in
theorem XintRatios_end (hw : XintRatios_stmt) : Rows.XintRatiosSaid :=
  OpenClaim.holds_of_wide 9 Try.f9 rfl rfl rfl rfl rfl rfl rfl ⟨rfl, rfl, rfl, rfl, rfl⟩ rfl rfl rfl rfl rfl (by kernel_rfl) Try.func9 (by kernel_rfl) (of_decide_eq_true (by kernel_rfl))
    (by unfold Func.isWrapper; rw [if_neg (of_decide_eq_false (by kernel_rfl))]; exact ⟨rfl, rfl⟩)
    (fun os started H enc _ => law_lifted Rows.xintRatiosSpec 9 Try.f9 (by kernel_rfl) Try.func9 rfl rfl
      (fun H ds hl => by
        rw [Try.params9] at hl
        obtain ⟨d0, rfl⟩ := list_1 ds hl
        exact ⟨rfl, rfl, rfl⟩) (by kernel_rfl)
      (fun W args h => by
        obtain ⟨H, enc, ds, ps, base, hA, hval, hlt, hfz⟩ := h
        rw [Try.params9] at hA hval
        obtain ⟨v0, vs0, d0, ds0, p0, q0, e0, -, -, h0, r0⟩ := trodAll_cons hA
        obtain ⟨e1, -, -⟩ := trodAll_nil r0
        obtain rfl : args = #[v0] := by rw [← Array.toArray_toList (xs := args), e0, e1]
        obtain ⟨aAHi, aALo, aCHi, aCLo, aB, aD, rfl, f0⟩ := arg_rastrumlaw02_Two (hval 0 _ v0 rfl rfl) h0
        exact hw aAHi aALo aCHi aCLo aB aD W f0)
      os started H enc (ChangeSpec.witness6 (enc := enc) (C := Try.checked) false ⟨#[], #[.agg #[.int .i64 0, .int .u64 0, .int .i64 0, .int .u64 0, .int .i64 0, .int .i64 0]], []⟩ 8 (by kernel_rfl) (by kernel_rfl) (by kernel_rfl) (by kernel_rfl)))
end Go.Proofs.Ytmlhbbkgfffmcaa
