/- The plain law of the reference's search for a line's pixels (layer 14): each pixel of a rectangle in turn, put where its number stands. No condition. -/
import Derived.Test.YtmlhbbkgfffmcaaLineF
import Derived.Test.YtmlhbbkgfffmcaaWalkL
namespace Go.Proofs.Ytmlhbbkgfffmcaa
set_option linter.unusedVariables false
set_option linter.unusedSimpArgs false
theorem exP_same (ax ay x y : Int) : ¬ exP ax ay ax ay x y := by
  unfold exP mtP insP; omega
theorem idx_inj {ax ay bx y2 x y x' y' : Int} (h : exP ax ay bx y2 x y) (h' : exP ax ay bx y2 x' y') (e : idxP ax ay bx y2 x y = idxP ax ay bx y2 x' y') : x = x' ∧ y = y' := by
  by_cases c : ax = bx ∧ ay = y2
  · obtain ⟨rfl, rfl⟩ := c; exact absurd h (exP_same _ _ _ _)
  rw [exits_at _ _ _ _ _ _ c] at h h'
  have hu : uC (decide (turnP ax ay bx y2)) x y = uC (decide (turnP ax ay bx y2)) x' y' := by
    unfold idxP at e; split at e <;> omega
  rw [uv_ext (decide (turnP ax ay bx y2))]
  exact ⟨hu, by rw [← h.1, ← h'.1, hu]⟩
theorem idx_bd {ax ay bx y2 x y : Int} (ha : MayP ax ay) (hb : MayP bx y2) (h : exP ax ay bx y2 x y) : 0 ≤ idxP ax ay bx y2 x y ∧ idxP ax ay bx y2 x y < 4194308 := by
  by_cases c : ax = bx ∧ ay = y2
  · obtain ⟨rfl, rfl⟩ := c; exact absurd h (exP_same _ _ _ _)
  rw [exits_at _ _ _ _ _ _ c] at h
  have b1 := uC_bd (decide (turnP ax ay bx y2)) ha
  have b2 := uC_bd (decide (turnP ax ay bx y2)) hb
  have p1 : -2097154 ≤ posU (decide (turnP ax ay bx y2)) ax ay ∧ posU (decide (turnP ax ay bx y2)) ax ay ≤ 2097153 := by unfold posU leastC; split <;> omega
  have p2 : -2097154 ≤ posU (decide (turnP ax ay bx y2)) bx y2 ∧ posU (decide (turnP ax ay bx y2)) bx y2 ≤ 2097153 := by unfold posU leastC; split <;> omega
  have p3 : -2097154 ≤ posD (decide (turnP ax ay bx y2)) ax ay ∧ posD (decide (turnP ax ay bx y2)) ax ay ≤ 2097153 := by unfold posD leastC; split <;> omega
  have p4 : -2097154 ≤ posD (decide (turnP ax ay bx y2)) bx y2 ∧ posD (decide (turnP ax ay bx y2)) bx y2 ≤ 2097153 := by unfold posD leastC; split <;> omega
  obtain ⟨h1, h2⟩ := h
  unfold idxP
  split at h2 <;> split <;> first | omega | contradiction
/-- The pixels that have been looked at so far. -/
structure Proc (ax ay bx y2 x0 y0 y1 x y : Int) (L : List St) : Prop where
  rise : L.Pairwise (fun s t => s.K < t.K)
  mem : ∀ q, q ∈ L ↔ (x0 ≤ q.X ∧ y0 ≤ q.Y ∧ q.Y < y1 ∧ (q.X < x ∨ q.X = x ∧ q.Y < y)) ∧ exP ax ay bx y2 q.X q.Y ∧ q.K = idxP ax ay bx y2 q.X q.Y
section
variable {ax ay bx y2 x0 y0 y1 x y : Int} {L : List St}
theorem Proc.start : Proc ax ay bx y2 x0 y0 y1 x0 y0 [] := ⟨List.Pairwise.nil, fun q => ⟨fun h => absurd h (by simp), fun ⟨h, _⟩ => by omega⟩⟩
theorem Proc.skip (h : Proc ax ay bx y2 x0 y0 y1 x y L) (hn : ¬ exP ax ay bx y2 x y) : Proc ax ay bx y2 x0 y0 y1 x (y + 1) L := by
  refine ⟨h.rise, fun q => (h.mem q).trans ⟨fun ⟨h1, h2⟩ => ⟨by omega, h2⟩, fun ⟨h1, h2⟩ => ⟨?_, h2⟩⟩⟩
  by_cases e : q.X = x ∧ q.Y = y
  · rw [e.1, e.2] at h2; exact absurd h2.1 hn
  · omega
theorem Proc.column (h : Proc ax ay bx y2 x0 y0 y1 x y1 L) : Proc ax ay bx y2 x0 y0 y1 (x + 1) y0 L :=
  ⟨h.rise, fun q => (h.mem q).trans ⟨fun ⟨h1, h2⟩ => ⟨by omega, h2⟩, fun ⟨h1, h2⟩ => ⟨by omega, h2⟩⟩⟩
theorem Proc.done {x1 : Int} (h : Proc ax ay bx y2 x0 y0 y1 x1 y0 L) (r : rightP x0 y0 x1 y1) : L = withinL ax ay bx y2 x0 y0 x1 y1 := by
  by_cases c : ax = bx ∧ ay = y2
  · obtain ⟨rfl, rfl⟩ := c
    have : L = [] := by
      cases L with
      | nil => rfl
      | cons s L => exact absurd ((h.mem s).1 List.mem_cons_self).2.1 (exP_same _ _ _ _)
    rw [this]; unfold withinL; rw [if_pos (Or.inl ⟨rfl, rfl⟩)]
  · refine rise_ext _ _ h.rise (withinL_rise _ _ _ _ _ _ _ _) fun q => (h.mem q).trans ?_
    rw [mem_within _ _ _ _ _ _ _ _ c r]
    constructor
    · intro ⟨h1, h2⟩; exact ⟨by omega, h2⟩
    · intro ⟨h1, h2⟩; exact ⟨by omega, h2⟩
def putAt (L : List St) (j : Nat) (s : St) : List St := L.take j ++ s :: L.drop j
theorem Proc.put (h : Proc ax ay bx y2 x0 y0 y1 x y L) (he : exP ax ay bx y2 x y) (hx : x0 ≤ x) (hy : y0 ≤ y) (hy1 : y < y1) (j : Nat)
    (h1 : ∀ i s, i < j → L[i]? = some s → s.K < idxP ax ay bx y2 x y) (h2 : ∀ s, L[j]? = some s → idxP ax ay bx y2 x y ≤ s.K) :
    Proc ax ay bx y2 x0 y0 y1 x (y + 1) (putAt L j ⟨idxP ax ay bx y2 x y, x, y⟩) := by
  have hne : ∀ q ∈ L, q.K ≠ idxP ax ay bx y2 x y := fun q hq e => by
    obtain ⟨g1, g2, g3⟩ := (h.mem q).1 hq
    have := idx_inj g2 he (by rw [← g3, e])
    omega
  have hT : ∀ q ∈ L.take j, q.K < idxP ax ay bx y2 x y := fun q hq => by
    obtain ⟨i, hi⟩ := List.mem_iff_getElem?.1 hq
    rw [List.getElem?_take] at hi
    split at hi
    · exact h1 i q (by assumption) hi
    · cases hi
  have hD : ∀ q ∈ L.drop j, idxP ax ay bx y2 x y < q.K := fun q hq => by
    have hm := List.mem_of_mem_drop hq
    obtain ⟨i, hi⟩ := List.mem_iff_getElem?.1 hq
    rw [List.getElem?_drop] at hi
    have hlt : j < L.length := by have := (List.getElem?_eq_some_iff.1 hi).1; omega
    have g := h2 L[j] (by simp [hlt])
    have gn := hne q hm
    cases i with
    | zero =>
      have : L[j] = q := by rw [Nat.add_zero] at hi; simpa [hlt] using hi
      rw [this] at g; omega
    | succ i =>
      have hlt2 := (List.getElem?_eq_some_iff.1 hi).1
      have := List.pairwise_iff_getElem.1 h.rise j (j + (i + 1)) hlt hlt2 (by omega)
      have e2 := (List.getElem?_eq_some_iff.1 hi).2
      rw [e2] at this
      omega
  refine ⟨?_, fun q => ?_⟩
  · unfold putAt
    rw [List.pairwise_append, List.pairwise_cons]
    refine ⟨h.rise.sublist (List.take_sublist _ _), ⟨fun q hq => hD q hq, h.rise.sublist (List.drop_sublist _ _)⟩, fun q hq t ht => ?_⟩
    have a := hT q hq
    rcases List.mem_cons.1 ht with rfl | ht
    · exact a
    · have := hD t ht; omega
  · unfold putAt
    have e : q ∈ L.take j ++ (⟨idxP ax ay bx y2 x y, x, y⟩ : St) :: L.drop j ↔ q = ⟨idxP ax ay bx y2 x y, x, y⟩ ∨ q ∈ L := by
      have : q ∈ L ↔ q ∈ L.take j ++ L.drop j := by rw [List.take_append_drop]
      rw [this]
      simp only [List.mem_append, List.mem_cons]
      constructor
      · rintro (a | a | a)
        · exact Or.inr (Or.inl a)
        · exact Or.inl a
        · exact Or.inr (Or.inr a)
      · rintro (a | a | a)
        · exact Or.inr (Or.inl a)
        · exact Or.inl a
        · exact Or.inr (Or.inr a)
    rw [e, h.mem q]
    constructor
    · rintro (rfl | ⟨g1, g2⟩)
      · exact ⟨⟨hx, hy, hy1, Or.inr ⟨rfl, show y < y + 1 by omega⟩⟩, he, rfl⟩
      · exact ⟨by omega, g2⟩
    · intro ⟨g1, g2, g3⟩
      by_cases c : q.X = x ∧ q.Y = y
      · left
        obtain ⟨K, X, Y⟩ := q
        obtain ⟨rfl, rfl⟩ := c
        rw [show K = _ from g3]
      · right; exact ⟨by omega, g2, g3⟩
theorem rise_len : ∀ (L : List St) (a b : Int), L.Pairwise (fun s t => s.K < t.K) → (∀ q ∈ L, a ≤ q.K ∧ q.K < b) → a ≤ b → ((L.length : Nat) : Int) ≤ b - a
  | [], a, b, _, _, h => by simp; omega
  | s :: L, a, b, hp, hb, h => by
    obtain ⟨h1, h2⟩ := List.pairwise_cons.1 hp
    have b0 := hb s List.mem_cons_self
    have := rise_len L (s.K + 1) b h2 (fun q hq => ⟨by have := h1 q hq; omega, (hb q (List.mem_cons_of_mem _ hq)).2⟩) (by omega)
    simp; omega
theorem Proc.len (h : Proc ax ay bx y2 x0 y0 y1 x y L) (ha : MayP ax ay) (hb : MayP bx y2) : L.length ≤ 4194308 := by
  have := rise_len L 0 4194308 h.rise (fun q hq => by
    obtain ⟨_, g2, g3⟩ := (h.mem q).1 hq
    rw [g3]; exact idx_bd ha hb g2) (by omega)
  omega
end
theorem take_flat (L : List St) (j : Nat) : (L.flatMap St.cells).take (j * 3) = (L.take j).flatMap St.cells := by
  induction L generalizing j with
  | nil => simp
  | cons s L ih =>
    cases j with
    | zero => simp
    | succ j =>
      rw [List.flatMap_cons, List.take_succ_cons, List.flatMap_cons, ← ih, List.take_append]
      have e8 : (St.cells s).length = 3 := rfl
      rw [List.take_of_length_le (by rw [e8]; omega), e8, show (j + 1) * 3 - 3 = j * 3 by omega]
theorem drop_flat (L : List St) (j : Nat) : (L.flatMap St.cells).drop (j * 3) = (L.drop j).flatMap St.cells := by
  induction L generalizing j with
  | nil => simp
  | cons s L ih =>
    cases j with
    | zero => simp
    | succ j =>
      rw [List.flatMap_cons, List.drop_succ_cons, ← ih, List.drop_append]
      have e8 : (St.cells s).length = 3 := rfl
      rw [List.drop_of_length_le (by rw [e8]; omega), e8, show (j + 1) * 3 - 3 = j * 3 by omega, List.nil_append]
end Go.Proofs.Ytmlhbbkgfffmcaa
