/- The laws of layer 23 (store) where the image is not small or may not be, or the pen may not be: they return true. Conditions: just that. (Written by gen_guard23.py.) -/
import Derived.Test.YthcjfanigfgckaaPImg
import Derived.Test.YthcjfanigfgckaaPStoreB
import Derived.Test.YthcjfanigfgckaaOpen
namespace Go.Proofs.Ythcjfanigfgckaa
set_option linter.unusedVariables false
set_option linter.unusedSimpArgs false
open Go.RowKit
theorem right_b (W H : Int) (C Z : List Int) : ∃ b : Bool, b = true ↔ ImOk W H C Z := by
  by_cases h : ImOk W H C Z
  · exact ⟨true, by simp [h]⟩
  · exact ⟨false, by simp [h]⟩
theorem Rd.of_ints {w : World} {v : Value} {zs : List Int} (h : Ints w v zs) : Rd w v zs := by
  obtain ⟨h0, h1, a, cap, rfl, h2, h3, h4⟩ := h
  exact ⟨h0, by simp only [maxLen] at h1; omega, a, cap, rfl, h2, h4⟩
/-- A pen's value. -/
abbrev Pn (x y z a b c d : Int) (m0 m1 m2 m3 : Bool) : Value := .agg #[.int .i64 x, .int .i64 y, .int .i64 z, .int .i64 a, .int .i64 b, .int .i64 c, .int .i64 d, .bool m0, .bool m1, .bool m2, .bool m3]
/-- What a law of a pen asks. -/
def Asked (W H : Int) (C Z : List Int) (z a b c d : Int) : Prop := (C.length ≤ 400 ∧ Z.length ≤ 400) ∧ ImOk W H C Z ∧ May a b c d ∧ 0 ≤ z ∧ z ≤ 16777215
end Go.Proofs.Ythcjfanigfgckaa
