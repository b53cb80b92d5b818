/- Lists that are made anew number by number; what becomes of an image that is cleared in a rectangle. No condition. -/
import Derived.Test.YthcjfanigfgckaaPImg
import Derived.Test.YthcjfanigfgckaaPRect
namespace Go.Proofs.Ythcjfanigfgckaa
set_option linter.unusedVariables false
set_option linter.unusedSimpArgs false
/-- The first j numbers anew. -/
def clr (f : Nat → Int) (C : List Int) (j : Nat) : List Int := (List.range j).map f ++ C.drop j
theorem clr_zero (f : Nat → Int) (C : List Int) : clr f C 0 = C := by simp [clr]
theorem clr_len {f : Nat → Int} {C : List Int} {j : Nat} (h : j ≤ C.length) : (clr f C j).length = C.length := by
  unfold clr
  rw [List.length_append, List.length_map, List.length_range, List.length_drop]; omega
theorem clr_next {f : Nat → Int} {C : List Int} {j : Nat} (h : j < C.length) : (clr f C j).set j (f j) = clr f C (j + 1) := by
  unfold clr
  rw [List.set_append_right _ _ (by simp), List.length_map, List.length_range, Nat.sub_self, List.drop_eq_getElem_cons h, List.set_cons_zero, List.range_succ, List.map_append, List.append_assoc]
  rfl
theorem clr_at {f : Nat → Int} {C : List Int} {j : Nat} (h : j < C.length) : elt (clr f C j) j = elt C j := by
  unfold clr elt
  rw [List.getD_eq_getElem?_getD, List.getD_eq_getElem?_getD, List.getElem?_append_right (by simp)]
  simp
theorem set_elt (l : List Int) (i : Nat) : l.set i (elt l i) = l := by
  apply List.ext_getElem?
  intro j
  by_cases h : i = j
  · subst h
    by_cases hi : i < l.length
    · simp [elt, hi]
    · rw [List.getElem?_eq_none (by simp; omega), List.getElem?_eq_none (by omega)]
  · rw [List.getElem?_set_ne h]
/-- A number that stays. -/
theorem clr_same {f : Nat → Int} {C : List Int} {j : Nat} (h : j < C.length) (hf : f j = elt C j) : clr f C (j + 1) = clr f C j := by
  rw [← clr_next h, hf, ← clr_at (f := f) h, set_elt]
theorem clr_all {f : Nat → Int} {C : List Int} : clr f C C.length = (List.range C.length).map f := by
  unfold clr
  rw [List.drop_eq_nil_of_le (Nat.le_refl _), List.append_nil]
/-- What becomes of the i-th color, of the i-th depth. -/
def colC (W : Int) (x0 y0 x1 y1 : Int) (on : Bool) (a b c d : Int) (m0 m1 m2 m3 : Bool) (C : List Int) (i : Nat) : Int := if on = true ∧ hasP x0 y0 x1 y1 ((i : Int) % W) ((i : Int) / W) then mixN (elt C i) a b c d m0 m1 m2 m3 else elt C i
def colZ (W : Int) (x0 y0 x1 y1 : Int) (on : Bool) (z : Int) (Z : List Int) (i : Nat) : Int := if on = true ∧ hasP x0 y0 x1 y1 ((i : Int) % W) ((i : Int) / W) then z else elt Z i
theorem colC_no {W x0 y0 x1 y1 a b c d : Int} {on m0 m1 m2 m3 : Bool} {C : List Int} {i : Nat} (h : ¬ (on = true ∧ hasP x0 y0 x1 y1 ((i : Int) % W) ((i : Int) / W))) : colC W x0 y0 x1 y1 on a b c d m0 m1 m2 m3 C i = elt C i := by unfold colC; rw [if_neg h]
theorem colC_yes {W x0 y0 x1 y1 a b c d : Int} {on m0 m1 m2 m3 : Bool} {C : List Int} {i : Nat} (h : on = true ∧ hasP x0 y0 x1 y1 ((i : Int) % W) ((i : Int) / W)) : colC W x0 y0 x1 y1 on a b c d m0 m1 m2 m3 C i = mixN (elt C i) a b c d m0 m1 m2 m3 := by unfold colC; rw [if_pos h]
theorem colZ_no {W x0 y0 x1 y1 z : Int} {on : Bool} {Z : List Int} {i : Nat} (h : ¬ (on = true ∧ hasP x0 y0 x1 y1 ((i : Int) % W) ((i : Int) / W))) : colZ W x0 y0 x1 y1 on z Z i = elt Z i := by unfold colZ; rw [if_neg h]
theorem colZ_yes {W x0 y0 x1 y1 z : Int} {on : Bool} {Z : List Int} {i : Nat} (h : on = true ∧ hasP x0 y0 x1 y1 ((i : Int) % W) ((i : Int) / W)) : colZ W x0 y0 x1 y1 on z Z i = z := by unfold colZ; rw [if_pos h]
end Go.Proofs.Ythcjfanigfgckaa
