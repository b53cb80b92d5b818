/- The ends of the laws: from the plain statement of each ('.. returns true, over typed values') to its given row; written by a program of mine (gen_law.py). No condition. -/
import Derived.Test.YtdbbeggenbhbfaaOpen
namespace Go.Proofs.Ytdbbeggenbhbfaa
set_option linter.unusedVariables false
set_option linter.unusedSimpArgs false
open Go.RowKit Go.ChangeShapes Go.WideShapes
def StorePacks_stmt : Prop := ∀ (a0 : Int) (a1 : Int) (a2 : Int) (a3 : Int) (b : Int) (w : World), ((-9223372036854775808 ≤ a0 ∧ a0 ≤ 9223372036854775807) ∧ (-9223372036854775808 ≤ a1 ∧ a1 ≤ 9223372036854775807) ∧ (-9223372036854775808 ≤ a2 ∧ a2 ≤ 9223372036854775807) ∧ (-9223372036854775808 ≤ a3 ∧ a3 ≤ 9223372036854775807)) → ((0 ≤ b ∧ b ≤ 4294967295)) → Calls Try.prog 7 #[.agg #[.int .i64 a0, .int .i64 a1, .int .i64 a2, .int .i64 a3], .int .u32 b] w (Ret (.bool true) w)
set_option maxRecDepth 100000 in
theorem StorePacks_end (hw : StorePacks_stmt) : Rows.StorePacksSaid :=
  OpenClaim.holds_of_wide 7 Try.f7 rfl rfl rfl rfl rfl rfl rfl ⟨rfl, rfl, rfl, rfl, rfl⟩ rfl rfl rfl rfl rfl (by kernel_rfl) Try.func7 (by kernel_rfl) (of_decide_eq_true (by kernel_rfl))
    (by unfold Func.isWrapper; rw [if_neg (of_decide_eq_false (by kernel_rfl))]; exact ⟨rfl, rfl⟩)
    (fun os started H enc _ => law_lifted Rows.storePacksSpec 7 Try.f7 (by kernel_rfl) Try.func7 rfl rfl
      (fun H ds hl => by
        rw [Try.params7] at hl
        obtain ⟨d0, d1, rfl⟩ := list_2 ds hl
        exact ⟨rfl, rfl, rfl⟩) (by kernel_rfl)
      (fun W args h => by
        obtain ⟨H, enc, ds, ps, base, hA, hval, hlt, hfz⟩ := h
        rw [Try.params7] at hA hval
        obtain ⟨v0, vs0, d0, ds0, p0, q0, e0, -, -, h0, r0⟩ := trodAll_cons hA
        obtain ⟨v1, vs1, d1, ds1, p1, q1, e1, -, -, h1, r1⟩ := trodAll_cons r0
        obtain ⟨e2, -, -⟩ := trodAll_nil r1
        obtain rfl : args = #[v0, v1] := by rw [← Array.toArray_toList (xs := args), e0, e1, e2]
        obtain ⟨a0, a1, a2, a3, rfl, f0⟩ := arg_Color (hval 0 _ v0 rfl rfl) h0
        obtain ⟨b, rfl, f1⟩ := arg_uint32 (hval 1 _ v1 rfl rfl) h1
        exact hw a0 a1 a2 a3 b W f0 f1)
      os started H enc (ChangeSpec.witness6 (enc := enc) (C := Try.checked) false ⟨#[], #[.agg #[.int .i64 0, .int .i64 0, .int .i64 0, .int .i64 0], .int .u32 0], []⟩ 8 (by kernel_rfl) (by kernel_rfl) (by kernel_rfl) (by kernel_rfl)))
end Go.Proofs.Ytdbbeggenbhbfaa
