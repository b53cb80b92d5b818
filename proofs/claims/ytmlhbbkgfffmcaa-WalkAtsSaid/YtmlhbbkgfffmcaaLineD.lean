/- The plain law of a line's pixels (layer 14), with no program in sight: what the program's loop has of them. No condition. -/
import Derived.Test.YtmlhbbkgfffmcaaLineC
namespace Go.Proofs.Ytmlhbbkgfffmcaa
set_option linter.unusedVariables false
set_option linter.unusedSimpArgs false
theorem mkWay_opn (ax ay bx y2 : Int) (h : (mkWay ax ay bx y2).opn = true) : 0 < (mkWay ax ay bx y2).size := by
  unfold mkWay at h ⊢
  rw [ended_eq _ rfl rfl] at h ⊢
  exact (of_decide_eq_true h).1.1
theorem mkWay_len (ax ay bx y2 : Int) : 0 ≤ (mkWay ax ay bx y2).len := by
  have h0 : 0 ≤ (mkWay ax ay bx y2).size := by unfold Way.size; omega
  unfold Way.len
  split
  · have := mkWay_opn ax ay bx y2 (by assumption); omega
  · omega
theorem step_is (W : Way) : W.step = 1 ∨ W.step = -1 := by unfold Way.step; split <;> simp
theorem line_length (W : Way) (h : 0 ≤ W.len) : ((W.line.length : Nat) : Int) = W.count := by
  unfold Way.line Way.count
  unfold Way.len at h ⊢
  rw [List.length_append, List.length_map, List.length_range]
  split <;> simp <;> omega
theorem mkWay_count (ax ay bx y2 : Int) (h : ¬ (ax = bx ∧ ay = y2)) : (mkWay ax ay bx y2).count = (((lineL ax ay bx y2).length : Nat) : Int) := by
  rw [← mkWay_line ax ay bx y2 h, line_length _ (mkWay_len _ _ _ _)]
/-- One step. -/
def Way.nth (W : Way) (k : Int) : St := if W.extra = true ∧ k = 0 then ⟨0, W.px W.u W.v, W.py W.u W.v⟩ else W.cell k (W.first + (k - if W.extra = true then 1 else 0) * W.step)
theorem line_get (W : Way) (h : 0 ≤ W.len) (k : Int) (k0 : 0 ≤ k) (k1 : k < W.count) : W.line[k.toNat]? = some (W.nth k) := by
  unfold Way.line Way.nth
  unfold Way.count at k1
  cases he : W.extra
  · simp only [he, Bool.false_eq_true, if_false, List.nil_append, false_and] at k1 ⊢
    rw [List.getElem?_map, List.getElem?_range (by unfold Way.len; omega)]
    simp only [Option.map_some, Int.toNat_of_nonneg k0, Int.zero_add, Int.sub_zero]
  · simp only [he, if_true, true_and] at k1 ⊢
    by_cases c : k = 0
    · subst c; rfl
    · rw [if_neg c, List.getElem?_append_right (by simp; omega), List.getElem?_map, List.length_singleton, List.getElem?_range (by unfold Way.len; omega)]
      simp only [Option.map_some]
      have e : ((k.toNat - 1 : Nat) : Int) = k - 1 := by omega
      rw [e, show 1 + (k - 1) = k from by omega]
theorem range_cut (n b m : Nat) (h : b + m ≤ n) : List.range n = List.range b ++ ((List.range m).map (b + ·) ++ (List.range (n - b - m)).map (b + m + ·)) := by
  have e : n = b + (m + (n - b - m)) := by omega
  rw [e, List.range_add, List.range_add, List.map_append, List.map_map]
  rw [show b + (m + (n - b - m)) - b - m = n - b - m from by omega]
  congr 2
  apply List.map_congr_left
  intro j _
  show b + (m + j) = b + m + j
  omega
theorem filter_none {α : Type} (p : α → Bool) (l : List α) (h : ∀ x, x ∈ l → p x = false) : l.filter p = [] := by
  induction l with
  | nil => rfl
  | cons a l ih =>
    rw [List.filter_cons, h a List.mem_cons_self, ih (fun x hx => h x (List.mem_cons_of_mem _ hx))]; rfl
/-- Only those of a middle part pass. -/
theorem filter_part {α : Type} (f : Nat → α) (p : α → Bool) (n b m : Nat) (h : b + m ≤ n) (h1 : ∀ j, j < b → p (f j) = false) (h2 : ∀ j, b + m ≤ j → j < n → p (f j) = false) :
    ((List.range n).map f).filter p = ((List.range m).map (fun j => f (b + j))).filter p := by
  rw [range_cut n b m h, List.map_append, List.map_append, List.map_map, List.map_map, List.filter_append, List.filter_append]
  rw [filter_none p ((List.range b).map f) (fun x hx => by obtain ⟨j, hj, rfl⟩ := List.mem_map.1 hx; exact h1 j (List.mem_range.1 hj))]
  rw [filter_none p ((List.range (n - b - m)).map (f ∘ (b + m + ·))) (fun x hx => by obtain ⟨j, hj, rfl⟩ := List.mem_map.1 hx; exact h2 _ (by show b + m ≤ b + m + j; omega) (by have := List.mem_range.1 hj; show b + m + j < n; omega))]
  rw [List.nil_append, List.append_nil]
  rfl
theorem filter_nil_range {α : Type} (f : Nat → α) (p : α → Bool) (n : Nat) (h : ∀ j, j < n → p (f j) = false) : ((List.range n).map f).filter p = [] :=
  filter_none p _ (fun x hx => by obtain ⟨j, hj, rfl⟩ := List.mem_map.1 hx; exact h j (List.mem_range.1 hj))
/-- The numbers of the first and the last middle that a rectangle has. -/
def Way.lo (W : Way) (x0 y0 x1 y1 : Int) : Int := max (if W.step < 0 then W.first - (if W.turned = true then y1 else x1) + 1 else (if W.turned = true then y0 else x0) - W.first) 0
def Way.hi (W : Way) (x0 y0 x1 y1 : Int) : Int := min (if W.step < 0 then W.first - (if W.turned = true then y0 else x0) else (if W.turned = true then y1 else x1) - 1 - W.first) (W.len - 1)
theorem cell_has (W : Way) (x0 y0 x1 y1 k : Int) (j : Int) (h : hasP x0 y0 x1 y1 (W.cell k (W.first + j * W.step)).X (W.cell k (W.first + j * W.step)).Y) (j0 : 0 ≤ j) (j1 : j < W.len) :
    W.lo x0 y0 x1 y1 ≤ j ∧ j ≤ W.hi x0 y0 x1 y1 := by
  unfold hasP Way.cell Way.px Way.py at h
  unfold Way.lo Way.hi
  have hs : W.step = 1 ∨ W.step = -1 := by unfold Way.step; split <;> simp
  obtain ⟨_, h1, h2, h3, h4⟩ := h
  simp only at h1 h2 h3 h4
  cases ht : W.turned
  · rw [ht] at h1 h2 h3 h4
    simp only [Bool.false_eq_true, if_false] at h1 h2 h3 h4 ⊢
    rcases hs with hs | hs
    · rw [hs] at h1 h2 ⊢; rw [if_neg (by omega), if_neg (by omega)]; omega
    · rw [hs] at h1 h2 ⊢; rw [if_pos (by omega), if_pos (by omega)]; omega
  · rw [ht] at h1 h2 h3 h4
    simp only [if_true] at h1 h2 h3 h4 ⊢
    rcases hs with hs | hs
    · rw [hs] at h3 h4 ⊢; rw [if_neg (by omega), if_neg (by omega)]; omega
    · rw [hs] at h3 h4 ⊢; rw [if_pos (by omega), if_pos (by omega)]; omega
/-- What the program's loop has of the line. -/
def Way.loopL (W : Way) (x0 y0 x1 y1 : Int) (m : Nat) : List St := ((List.range m).map (fun j : Nat => W.cell ((if W.extra = true then 1 else 0) + W.lo x0 y0 x1 y1 + (j : Int)) (W.first + W.lo x0 y0 x1 y1 * W.step + (j : Int) * W.step))).filter (fun s => decide (hasP x0 y0 x1 y1 s.X s.Y))
def Way.headL (W : Way) (x0 y0 x1 y1 : Int) : List St := (if W.extra = true then [⟨0, W.px W.u W.v, W.py W.u W.v⟩] else []).filter (fun s => decide (hasP x0 y0 x1 y1 s.X s.Y))
theorem line_filter (W : Way) (x0 y0 x1 y1 : Int) : W.line.filter (fun s => decide (hasP x0 y0 x1 y1 s.X s.Y)) = W.headL x0 y0 x1 y1 ++ W.loopL x0 y0 x1 y1 (W.hi x0 y0 x1 y1 - W.lo x0 y0 x1 y1 + 1).toNat := by
  unfold Way.line Way.headL Way.loopL
  rw [List.filter_append]
  congr 1
  have l0 : 0 ≤ W.lo x0 y0 x1 y1 := by unfold Way.lo; omega
  have h1 : W.hi x0 y0 x1 y1 ≤ W.len - 1 := by unfold Way.hi; omega
  by_cases c : W.lo x0 y0 x1 y1 ≤ W.hi x0 y0 x1 y1
  · rw [filter_part _ _ _ (W.lo x0 y0 x1 y1).toNat (W.hi x0 y0 x1 y1 - W.lo x0 y0 x1 y1 + 1).toNat (by omega)]
    · congr 1
      apply List.map_congr_left
      intro j _
      show W.cell (_ + (((W.lo x0 y0 x1 y1).toNat + j : Nat) : Int)) (W.first + (((W.lo x0 y0 x1 y1).toNat + j : Nat) : Int) * W.step) = _
      have e : (((W.lo x0 y0 x1 y1).toNat + j : Nat) : Int) = W.lo x0 y0 x1 y1 + j := by omega
      rw [e, Int.add_mul]
      congr 1 <;> omega
    · intro j hj
      rw [decide_eq_false_iff_not]
      intro q
      have := cell_has W _ _ _ _ _ _ q (by omega) (by omega)
      omega
    · intro j hj hj2
      rw [decide_eq_false_iff_not]
      intro q
      have := cell_has W _ _ _ _ _ _ q (by omega) (by omega)
      omega
  · rw [show (W.hi x0 y0 x1 y1 - W.lo x0 y0 x1 y1 + 1).toNat = 0 from by omega]
    apply filter_nil_range
    intro j hj
    rw [decide_eq_false_iff_not]
    intro q
    have := cell_has W _ _ _ _ _ _ q (by omega) (by omega)
    omega
theorem loopL_succ (W : Way) (x0 y0 x1 y1 : Int) (m : Nat) : W.loopL x0 y0 x1 y1 (m + 1) = W.loopL x0 y0 x1 y1 m ++ [W.cell ((if W.extra = true then 1 else 0) + W.lo x0 y0 x1 y1 + (m : Int)) (W.first + W.lo x0 y0 x1 y1 * W.step + (m : Int) * W.step)].filter (fun s => decide (hasP x0 y0 x1 y1 s.X s.Y)) := by
  unfold Way.loopL
  rw [List.range_succ, List.map_append, List.filter_append]; rfl
end Go.Proofs.Ytmlhbbkgfffmcaa
