/- A region that draws its order and makes two images of their own by two calls ('a, b := Copy(m), Copy(m)'): whatever the order, both are there, apart. Condition: the call's contract. -/
import Derived.Test.YtdbbeggenbhbfaaImg
import Derived.Test.YtdbbeggenbhbfaaInv
import Derived.Test.YtdbbeggenbhbfaaMix
namespace Go.Proofs.Ytdbbeggenbhbfaa
set_option linter.unusedVariables false
set_option linter.unusedSimpArgs false
open Go.RowKit
/-- An image's cells. -/
abbrev IC (W H : Int) (n g1 k1 g2 k2 : Nat) : Array Value := #[.int .i64 W, .int .i64 H, sl g1 n k1, sl g2 n k2]
abbrev c0I : Array Value := #[.int .i64 0, .int .i64 0, .slice none 0 0, .slice none 0 0]
def ow (j : Nat) : Nat := if j < 2 then 1 else if j < 4 then 3 else j
def vv (W H : Int) (n : Nat) (V : Value) (e k : Nat → Nat) (i : Nat) : Value :=
  if i = 0 then V else if i = 1 then .agg (IC W H n (e 0) (k 0) (e 1) (k 1)) else if i = 2 then V else if i = 3 then .agg (IC W H n (e 2) (k 2) (e 3) (k 3)) else ptr (e i)
structure CI (w : World) (a : Act) (W H : Int) (C Z : List Int) (V : Value) (σ : Nat → Tmp) (e k : Nat → Nat) (d : Nat → Bool) (a' : Act) (w' : World) : Prop where
  size : a'.tmps.size = a.tmps.size
  defers : a'.defers = a.defers
  off : ∀ s, (∀ i, i < 6 → σ i ≠ s) → a'.tmps[s]? = a.tmps[s]?
  on : ∀ i, i < 6 → d i = true → a'.tmps[σ i]? = some (vv W H C.length V e k i)
  world : ∃ X, w' = w.ext X
  lo : ∀ j, j < 6 → d (ow j) = true → w.heap.size ≤ e j ∧ e j < w'.heap.size
  ne : ∀ i j, i < 6 → j < 6 → d (ow i) = true → d (ow j) = true → i ≠ j → e i ≠ e j
  c0 : d 1 = true → Arr w' (e 0) (k 0) C ∧ Arr w' (e 1) (k 1) Z
  c1 : d 3 = true → Arr w' (e 2) (k 2) C ∧ Arr w' (e 3) (k 3) Z
  r4 : d 4 = true → Row w' (e 4) (if d 6 then IC W H C.length (e 0) (k 0) (e 1) (k 1) else c0I) 39
  r5 : d 5 = true → Row w' (e 5) (if d 7 then IC W H C.length (e 2) (k 2) (e 3) (k 3) else c0I) 39
theorem upd_eq (d : Nat → Bool) (i j : Nat) : upd d i j = true ↔ j = i ∨ d j = true := by
  unfold upd; by_cases h : j = i <;> simp [h]
theorem upd_ne (d : Nat → Bool) {i j : Nat} (h : j ≠ i) : upd d i j = d j := by unfold upd; rw [if_neg h]
section
variable {w : World} {a : Act} {W H : Int} {C Z : List Int} {V : Value} {σ : Nat → Tmp} {e k : Nat → Nat} {d : Nat → Bool} {a' : Act} {w' : World}
/-- The frame behind an operation that yields. -/
theorem CI.put (h : CI w a W H C Z V σ e k d a' w') (hinj : ∀ i j, i < 6 → j < 6 → σ i = σ j → i = j) (hlt : ∀ i, i < 6 → σ i < a.tmps.size) (e' k' : Nat → Nat) (i : Nat) (hi : i < 6) (v : Value) (hv : v = vv W H C.length V e' k' i)
    (hk : ∀ j, j < 6 → j ≠ i → d j = true → vv W H C.length V e' k' j = vv W H C.length V e k j) :
    (a'.put (some (σ i)) v).tmps.size = a.tmps.size ∧ (a'.put (some (σ i)) v).defers = a.defers ∧ (∀ s, (∀ i, i < 6 → σ i ≠ s) → (a'.put (some (σ i)) v).tmps[s]? = a.tmps[s]?) ∧
      (∀ j, j < 6 → upd d i j = true → (a'.put (some (σ i)) v).tmps[σ j]? = some (vv W H C.length V e' k' j)) := by
  refine ⟨by rw [← h.size]; simp [Act.put], by rw [← h.defers]; rfl, fun s hs => ?_, fun j hj hd => ?_⟩
  · rw [Act.put_at rfl, if_neg (hs i hi)]; exact h.off s hs
  · by_cases hji : j = i
    · subst hji
      rw [Act.put_at rfl, if_pos rfl]
      have : σ j < a'.tmps.size := by rw [h.size]; exact hlt j hj
      simp [this, hv]
    · rw [Act.put_at rfl, if_neg fun he => hji (hinj _ _ hi hj he).symm]
      rw [upd_ne _ hji] at hd
      rw [h.on j hj hd, hk j hj hji hd]
theorem CI.load (h : CI w a W H C Z V σ e k d a' w') (hinj : ∀ i j, i < 6 → j < 6 → σ i = σ j → i = j) (hlt : ∀ i, i < 6 → σ i < a.tmps.size) (i : Nat) (hi : i = 0 ∨ i = 2) : CI w a W H C Z V σ e k (upd d i) (a'.put (some (σ i)) V) w' := by
  obtain ⟨f1, f2, f3, f4⟩ := h.put hinj hlt e k i (by omega) V (by rcases hi with rfl | rfl <;> rfl) fun j _ _ _ => rfl
  have hu : ∀ j, j ≠ 0 → j ≠ 2 → upd d i j = d j := fun j h0 h2 => upd_ne _ (by omega)
  have how : ∀ j, upd d i (ow j) = d (ow j) := fun j => hu _ (by unfold ow; split <;> (try split) <;> omega) (by unfold ow; split <;> (try split) <;> omega)
  refine ⟨f1, f2, f3, f4, h.world, fun j hj hd => h.lo j hj (by rwa [how] at hd), fun x y hx hy h1 h2 => h.ne x y hx hy (by rwa [how] at h1) (by rwa [how] at h2), ?_, ?_, ?_, ?_⟩
  · rw [hu 1 (by decide) (by decide)]; exact h.c0
  · rw [hu 3 (by decide) (by decide)]; exact h.c1
  · rw [hu 4 (by decide) (by decide), hu 6 (by decide) (by decide)]; exact h.r4
  · rw [hu 5 (by decide) (by decide), hu 7 (by decide) (by decide)]; exact h.r5
theorem CI.call (h : CI w a W H C Z V σ e k d a' w') (hinj : ∀ i j, i < 6 → j < 6 → σ i = σ j → i = j) (hlt : ∀ i, i < 6 → σ i < a.tmps.size) (b : Nat) (hb : b = 0 ∨ b = 2) (hd0 : d (b + 1) = false) (h6 : d (if b = 0 then 6 else 7) = false)
    (g1 k1 g2 k2 : Nat) (X : Xt) (A1 : Arr (w'.ext X) g1 k1 C) (A2 : Arr (w'.ext X) g2 k2 Z) (b1 : w'.heap.size ≤ g1) (b2 : w'.heap.size ≤ g2) (hne : g1 ≠ g2) :
    ∃ e' k', CI w a W H C Z V σ e' k' (upd d (b + 1)) (a'.put (some (σ (b + 1))) (.agg (IC W H C.length g1 k1 g2 k2))) (w'.ext X) := by
  obtain ⟨e', he'⟩ : ∃ e' : Nat → Nat, ∀ j, e' j = if j = b then g1 else if j = b + 1 then g2 else e j := ⟨_, fun _ => rfl⟩
  obtain ⟨k', hk'⟩ : ∃ k' : Nat → Nat, ∀ j, k' j = if j = b then k1 else if j = b + 1 then k2 else k j := ⟨_, fun _ => rfl⟩
  have eo : ∀ j, j ≠ b → j ≠ b + 1 → e' j = e j := fun j h1 h2 => by rw [he', if_neg h1, if_neg h2]
  have ko : ∀ j, j ≠ b → j ≠ b + 1 → k' j = k j := fun j h1 h2 => by rw [hk', if_neg h1, if_neg h2]
  have e0 : e' b = g1 := by rw [he', if_pos rfl]
  have e1 : e' (b + 1) = g2 := by rw [he', if_neg (by omega), if_pos rfl]
  have q0 : k' b = k1 := by rw [hk', if_pos rfl]
  have q1 : k' (b + 1) = k2 := by rw [hk', if_neg (by omega), if_pos rfl]
  have hC : Chg (fun _ => False) w' (w'.ext X) := Chg.of_ext X
  obtain ⟨f1, f2, f3, f4⟩ := h.put hinj hlt e' k' (b + 1) (by omega) (.agg (IC W H C.length g1 k1 g2 k2)) (by
      rcases hb with rfl | rfl
      · simp only [vv]; simp only [Nat.zero_add] at e1 q1 ⊢; simp [e0, e1, q0, q1]
      · simp only [vv]; simp only [Nat.reduceAdd] at e1 q1 ⊢; simp [e0, e1, q0, q1]) (by
      intro j hj hji hdj
      unfold vv
      rcases hb with rfl | rfl
      · rw [eo 2 (by decide) (by decide), ko 2 (by decide) (by decide), eo 3 (by decide) (by decide), ko 3 (by decide) (by decide)]
        have : j = 0 ∨ j = 2 ∨ j = 3 ∨ j = 4 ∨ j = 5 := by omega
        rcases this with rfl | rfl | rfl | rfl | rfl <;> simp [eo]
      · rw [eo 0 (by decide) (by decide), ko 0 (by decide) (by decide), eo 1 (by decide) (by decide), ko 1 (by decide) (by decide)]
        have : j = 0 ∨ j = 1 ∨ j = 2 ∨ j = 4 ∨ j = 5 := by omega
        rcases this with rfl | rfl | rfl | rfl | rfl <;> simp [eo])
  have hsz : (w'.ext X).heap.size = w'.heap.size + X.sz := World.size_ext
  obtain ⟨X0, hX0⟩ := h.world
  have hw0 : w.heap.size ≤ w'.heap.size := by rw [hX0]; simp
  have how : ∀ j, j < 6 → j ≠ b → j ≠ b + 1 → upd d (b + 1) (ow j) = d (ow j) := fun j hj h1 h2 => upd_ne _ (by
    unfold ow; rcases hb with rfl | rfl <;> split <;> (try split) <;> omega)
  have hu : ∀ j, j ≠ b + 1 → upd d (b + 1) j = d j := fun j h => upd_ne _ h
  have A1l := A1.lt
  have A2l := A2.lt
  refine ⟨e', k', f1, f2, f3, f4, ⟨_, by rw [hX0, World.ext_ext]⟩, ?_, ?_, ?_, ?_, ?_, ?_⟩
  · intro j hj hd
    by_cases hjb : j = b
    · subst hjb; rw [e0]; omega
    · by_cases hjb1 : j = b + 1
      · subst hjb1; rw [e1]; omega
      · rw [how j hj hjb hjb1] at hd
        have := h.lo j hj hd
        rw [eo j hjb hjb1]; omega
  · have hbig : ∀ j, j < 6 → upd d (b + 1) (ow j) = true → j ≠ b → j ≠ b + 1 → e' j < w'.heap.size := fun j hj hd h1 h2 => by
      rw [how j hj h1 h2] at hd; rw [eo j h1 h2]; exact (h.lo j hj hd).2
    intro i j hi hj h1 h2 hij
    by_cases ib : i = b
    · subst ib
      by_cases jb1 : j = i + 1
      · subst jb1; rw [e0, e1]; exact hne
      · have := hbig j hj h2 (Ne.symm hij) jb1; rw [e0]; omega
    · by_cases ib1 : i = b + 1
      · subst ib1
        by_cases jb : j = b
        · subst jb; rw [e0, e1]; exact Ne.symm hne
        · have := hbig j hj h2 jb (Ne.symm hij); rw [e1]; omega
      · have hi' := hbig i hi h1 ib ib1
        by_cases jb : j = b
        · subst jb; rw [e0]; omega
        · by_cases jb1 : j = b + 1
          · subst jb1; rw [e1]; omega
          · rw [eo i ib ib1, eo j jb jb1]
            rw [how i hi ib ib1] at h1; rw [how j hj jb jb1] at h2
            exact h.ne i j hi hj h1 h2 hij
  · intro hd
    rcases hb with rfl | rfl
    · simp only [Nat.zero_add] at e1 q1; rw [e0, e1, q0, q1]; exact ⟨A1, A2⟩
    · rw [eo 0 (by decide) (by decide), ko 0 (by decide) (by decide), eo 1 (by decide) (by decide), ko 1 (by decide) (by decide)]
      rw [hu 1 (by decide)] at hd
      exact ⟨(h.c0 hd).1.chg hC id, (h.c0 hd).2.chg hC id⟩
  · intro hd
    rcases hb with rfl | rfl
    · rw [eo 2 (by decide) (by decide), ko 2 (by decide) (by decide), eo 3 (by decide) (by decide), ko 3 (by decide) (by decide)]
      rw [hu 3 (by decide)] at hd
      exact ⟨(h.c1 hd).1.chg hC id, (h.c1 hd).2.chg hC id⟩
    · simp only [Nat.reduceAdd] at e1 q1; rw [e0, e1, q0, q1]; exact ⟨A1, A2⟩
  · intro hd
    rw [hu 4 (by omega)] at hd
    rw [hu 6 (by omega), eo 4 (by omega) (by omega)]
    have := hC.row (h.r4 hd) id
    rcases hb with rfl | rfl
    · simp only [if_true] at h6; rw [h6] at this ⊢; exact this
    · rw [eo 0 (by decide) (by decide), ko 0 (by decide) (by decide), eo 1 (by decide) (by decide), ko 1 (by decide) (by decide)]; exact this
  · intro hd
    rw [hu 5 (by omega)] at hd
    rw [hu 7 (by omega), eo 5 (by omega) (by omega)]
    have := hC.row (h.r5 hd) id
    rcases hb with rfl | rfl
    · rw [eo 2 (by decide) (by decide), ko 2 (by decide) (by decide), eo 3 (by decide) (by decide), ko 3 (by decide) (by decide)]; exact this
    · simp only [if_neg (show ¬ (2 : Nat) = 0 by decide)] at h6; rw [h6] at this ⊢; exact this
theorem CI.alloc (h : CI w a W H C Z V σ e k d a' w') (hinj : ∀ i j, i < 6 → j < 6 → σ i = σ j → i = j) (hlt : ∀ i, i < 6 → σ i < a.tmps.size) (t : Nat) (ht : t = 4 ∨ t = 5) (hd0 : d t = false) (h6 : d (t + 2) = false) :
    ∃ e' k', CI w a W H C Z V σ e' k' (upd d t) (a'.put (some (σ t)) (ptr w'.heap.size)) (w'.alloc (.cells c0I 39)) := by
  obtain ⟨e', he'⟩ : ∃ e' : Nat → Nat, ∀ j, e' j = if j = t then w'.heap.size else e j := ⟨_, fun _ => rfl⟩
  have eo : ∀ j, j ≠ t → e' j = e j := fun j h1 => by rw [he', if_neg h1]
  have e0 : e' t = w'.heap.size := by rw [he', if_pos rfl]
  have hC : Chg (fun _ => False) w' (w'.alloc (.cells c0I 39)) := Chg.refl.alloc _
  obtain ⟨f1, f2, f3, f4⟩ := h.put hinj hlt e' k t (by omega) (ptr w'.heap.size) (by
      rcases ht with rfl | rfl <;> simp [vv, e0]) (by
      intro j hj hji hdj
      unfold vv
      rw [eo 0 (by omega), eo 1 (by omega), eo 2 (by omega), eo 3 (by omega), eo j hji])
  have hsz : (w'.alloc (.cells c0I 39)).heap.size = w'.heap.size + 1 := by rw [World.hp_alloc, Array.size_push]
  obtain ⟨X0, hX0⟩ := h.world
  have hw0 : w.heap.size ≤ w'.heap.size := by rw [hX0]; simp
  have how : ∀ j, j < 6 → j ≠ t → upd d t (ow j) = d (ow j) := fun j hj h1 => upd_ne _ (by
    unfold ow; rcases ht with rfl | rfl <;> split <;> (try split) <;> omega)
  have hu : ∀ j, j ≠ t → upd d t j = d j := fun j h => upd_ne _ h
  refine ⟨e', k, f1, f2, f3, f4, ?_, ?_, ?_, ?_, ?_, ?_, ?_⟩
  · rw [hX0]; exact Below.toExt ((Below.refl _ _).ext (Nat.le_refl _) X0 |>.alloc (by simp) _)
  · intro j hj hd
    rw [hsz]
    by_cases hjb : j = t
    · subst hjb; rw [e0]; omega
    · rw [how j hj hjb] at hd
      have := h.lo j hj hd
      rw [eo j hjb]; omega
  · intro i j hi hj h1 h2 hij
    by_cases ib : i = t
    · subst ib
      rw [how j hj (Ne.symm hij)] at h2
      have := h.lo j hj h2
      rw [e0, eo j (Ne.symm hij)]; omega
    · rw [how i hi ib] at h1
      have hi' := h.lo i hi h1
      by_cases jb : j = t
      · subst jb; rw [e0, eo i ib]; omega
      · rw [how j hj jb] at h2
        rw [eo i ib, eo j jb]; exact h.ne i j hi hj h1 h2 hij
  · intro hd
    rw [hu 1 (by omega)] at hd
    rw [eo 0 (by omega), eo 1 (by omega)]
    exact ⟨(h.c0 hd).1.chg hC id, (h.c0 hd).2.chg hC id⟩
  · intro hd
    rw [hu 3 (by omega)] at hd
    rw [eo 2 (by omega), eo 3 (by omega)]
    exact ⟨(h.c1 hd).1.chg hC id, (h.c1 hd).2.chg hC id⟩
  · intro hd
    rw [hu 6 (by omega), eo 0 (by omega), eo 1 (by omega)]
    rcases ht with rfl | rfl
    · simp only [Nat.reduceAdd] at h6; rw [h6, e0]; exact row_last rfl
    · rw [hu 4 (by decide)] at hd; rw [eo 4 (by decide)]; exact hC.row (h.r4 hd) id
  · intro hd
    rw [hu 7 (by omega), eo 2 (by omega), eo 3 (by omega)]
    rcases ht with rfl | rfl
    · rw [hu 5 (by decide)] at hd; rw [eo 5 (by decide)]; exact hC.row (h.r5 hd) id
    · simp only [Nat.reduceAdd] at h6; rw [h6, e0]; exact row_last rfl
theorem CI.store (h : CI w a W H C Z V σ e k d a' w') (t : Nat) (ht : t = 6 ∨ t = 7) (hall : ∀ j, j < 6 → d j = true) :
    CI w a W H C Z V σ e k (upd d t) a' (w'.setRow (e (t - 2)) (if t = 6 then IC W H C.length (e 0) (k 0) (e 1) (k 1) else IC W H C.length (e 2) (k 2) (e 3) (k 3))) := by
  have hu : ∀ j, j ≠ t → upd d t j = d j := fun j h => upd_ne _ h
  have how : ∀ j, j < 6 → d (ow j) = true := fun j hj => hall _ (by unfold ow; split <;> (try split) <;> omega)
  have how' : ∀ j, j < 6 → upd d t (ow j) = true := fun j hj => (upd_eq _ _ _).2 (.inr (how j hj))
  have hoth : ∀ (g : Nat) (cs : Array Value) (b : Nat) (c : Array Value) (T : TypeId), Row w' b c T → b ≠ g → Row (w'.setRow g cs) b c T := fun g cs b c T hr hne => by
    unfold Row; rw [setRow_other w' g b cs hne]; exact hr
  have aoth : ∀ (g : Nat) (cs : Array Value) (b cap : Nat) (xs : List Int), Arr w' b cap xs → b ≠ g → Arr (w'.setRow g cs) b cap xs := fun g cs b cap xs ⟨h1, cur, h2, h3⟩ hne =>
    ⟨h1, cur, hoth g cs b _ _ h2 hne, h3⟩
  have hne : ∀ i j, i < 6 → j < 6 → i ≠ j → e i ≠ e j := fun i j hi hj hij => h.ne i j hi hj (how i hi) (how j hj) hij
  have hlo := h.lo (t - 2) (by omega) (how _ (by omega))
  refine ⟨h.size, h.defers, h.off, fun i hi hd => h.on i hi (hall i hi), ?_, fun j hj _ => by rw [size_setRow]; exact h.lo j hj (how j hj), fun i j hi hj _ _ hij => hne i j hi hj hij, ?_, ?_, ?_, ?_⟩
  · obtain ⟨X0, hX0⟩ := h.world
    refine Below.toExt ?_
    refine ⟨?_, ?_, ?_, by rw [size_setRow, hX0]; simp, fun j hj => ?_⟩
    · rw [hX0]; rfl
    · rw [hX0]; rfl
    · rw [hX0]; rfl
    · rw [setRow_other w' _ j _ (by omega), hX0]; exact World.heap_ext hj
  · intro _
    have hA := h.c0 (hall 1 (by decide))
    exact ⟨aoth _ _ _ _ _ hA.1 (hne _ _ (by decide) (by omega) (by omega)), aoth _ _ _ _ _ hA.2 (hne _ _ (by decide) (by omega) (by omega))⟩
  · intro _
    have hA := h.c1 (hall 3 (by decide))
    exact ⟨aoth _ _ _ _ _ hA.1 (hne _ _ (by decide) (by omega) (by omega)), aoth _ _ _ _ _ hA.2 (hne _ _ (by decide) (by omega) (by omega))⟩
  · intro _
    have hR := h.r4 (hall 4 (by decide))
    rcases ht with rfl | rfl
    · rw [show upd d 6 6 = true from by simp [upd]]
      exact setRow_heap _ _ _ _ _ _ hR
    · rw [hu 6 (by decide)]
      exact hoth _ _ _ _ _ hR (hne 4 5 (by decide) (by decide) (by decide))
  · intro _
    have hR := h.r5 (hall 5 (by decide))
    rcases ht with rfl | rfl
    · rw [hu 7 (by decide)]
      exact hoth _ _ _ _ _ hR (hne 5 4 (by decide) (by decide) (by decide))
    · rw [show upd d 7 7 = true from by simp [upd]]
      exact setRow_heap _ _ _ _ _ _ hR
end
/-- The slots of a copying of two. -/
def sg (s0 s1 s2 s3 d1 d2 : Tmp) (i : Nat) : Tmp := if i = 0 then s0 else if i = 1 then s1 else if i = 2 then s2 else if i = 3 then s3 else if i = 4 then d1 else d2
theorem six {p : Nat → Prop} (h0 : p 0) (h1 : p 1) (h2 : p 2) (h3 : p 3) (h4 : p 4) (h5 : p 5) : ∀ j, j < 6 → p j := by
  intro j hj
  have : j = 0 ∨ j = 1 ∨ j = 2 ∨ j = 3 ∨ j = 4 ∨ j = 5 := by omega
  rcases this with rfl | rfl | rfl | rfl | rfl | rfl <;> assumption
abbrev ops2 (m s0 s1 s2 s3 d1 d2 : Tmp) (q0 q1 q2 q3 q4 q5 q6 q7 : String) : Array Oper :=
  #[{ dst := some s0, op := .load 39 (.tmp m), type := 39, pos := q0, after := #[], guard := none },
    { dst := some s1, op := .call { callee := .value (.func 39), args := #[.tmp s0], argTypes := #[39] }, type := 39, pos := q1, after := #[{ on := 0, ground := .data }], guard := none },
    { dst := some s2, op := .load 39 (.tmp m), type := 39, pos := q2, after := #[], guard := none },
    { dst := some s3, op := .call { callee := .value (.func 39), args := #[.tmp s2], argTypes := #[39] }, type := 39, pos := q3, after := #[{ on := 2, ground := .data }, { on := 1, ground := .chain }], guard := none },
    { dst := some d1, op := .alloc 39, type := 0, pos := q4, after := #[], guard := none },
    { dst := some d2, op := .alloc 39, type := 0, pos := q5, after := #[], guard := none },
    { dst := none, op := .store 39 (.tmp d1) (.tmp s1), type := 0, pos := q6, after := #[{ on := 4, ground := .data }, { on := 1, ground := .data }, { on := 3, ground := .chain }, { on := 0, ground := .phase }, { on := 1, ground := .phase }, { on := 2, ground := .textOnly .lateStores }, { on := 3, ground := .phase }, { on := 4, ground := .phase }, { on := 5, ground := .phase }], guard := none },
    { dst := none, op := .store 39 (.tmp d2) (.tmp s3), type := 0, pos := q7, after := #[{ on := 5, ground := .data }, { on := 3, ground := .data }, { on := 6, ground := .chain }, { on := 0, ground := .phase }, { on := 1, ground := .phase }, { on := 2, ground := .phase }, { on := 3, ground := .phase }, { on := 4, ground := .phase }, { on := 5, ground := .phase }, { on := 6, ground := .phase }], guard := none }]
theorem put_some {a : Act} {v : Value} {d s : Tmp} : (a.put (some d) v).tmps[s]? = if d = s then (a.tmps[s]?).map (fun _ => v) else a.tmps[s]? := Act.put_at rfl
/-- Two images of their own, apart. -/
structure Two (w wx : World) (W H : Int) (C Z : List Int) (pa g1 k1 g2 k2 pb g3 k3 g4 k4 : Nat) : Prop where
  a : Img wx pa g1 k1 g2 k2 W H C Z
  b : Img wx pb g3 k3 g4 k4 W H C Z
  lo : w.heap.size ≤ pa ∧ w.heap.size ≤ g1 ∧ w.heap.size ≤ g2 ∧ w.heap.size ≤ pb ∧ w.heap.size ≤ g3 ∧ w.heap.size ≤ g4
  ap : (pb ≠ g1 ∧ pb ≠ g2 ∧ g3 ≠ g1 ∧ g3 ≠ g2 ∧ g4 ≠ g1 ∧ g4 ≠ g2) ∧ (pa ≠ g3 ∧ pa ≠ g4) ∧ pa ≠ pb
theorem wp_abs {code : Code} {Q : Exit → Act → World → Prop} {a : Act} {w : World} (F : World → Prop) (hF : F w) (h : ∀ wx, F wx → code.wp Try.prog Q a wx) : code.wp Try.prog Q a w := h _ hF
theorem Img.drew {w : World} {bm g1 k1 g2 k2 : Nat} {W H : Int} {C Z : List Int} (h : Img w bm g1 k1 g2 k2 W H C Z) : Img w.drew bm g1 k1 g2 k2 W H C Z := h.chg (p := fun _ => False) Chg.refl.drew id id id
theorem Img.alloc {w : World} {bm g1 k1 g2 k2 : Nat} {W H : Int} {C Z : List Int} (h : Img w bm g1 k1 g2 k2 W H C Z) (o : Obj) : Img (w.alloc o) bm g1 k1 g2 k2 W H C Z := h.chg (p := fun _ => False) (Chg.refl.alloc o) id id id
/-- Two images, apart, behind what was there. -/
structure Pair (w wx : World) (W H : Int) (Ca Za Cb Zb : List Int) (pa g1 k1 g2 k2 pb g3 k3 g4 k4 : Nat) : Prop where
  a : Img wx pa g1 k1 g2 k2 W H Ca Za
  b : Img wx pb g3 k3 g4 k4 W H Cb Zb
  lo : w.heap.size ≤ pa ∧ w.heap.size ≤ g1 ∧ w.heap.size ≤ g2 ∧ w.heap.size ≤ pb ∧ w.heap.size ≤ g3 ∧ w.heap.size ≤ g4
  ap : (pb ≠ g1 ∧ pb ≠ g2 ∧ g3 ≠ g1 ∧ g3 ≠ g2 ∧ g4 ≠ g1 ∧ g4 ≠ g2) ∧ (pa ≠ g3 ∧ pa ≠ g4) ∧ pa ≠ pb
  bel : Below w.heap.size w wx
section
variable {w wx w1 : World} {W H : Int} {Ca Za Cb Zb C' Z' : List Int} {pa g1 k1 g2 k2 pb g3 k3 g4 k4 : Nat} {p : Nat → Prop}
theorem Below.chg {B : Nat} {w0 : World} (h : Below B w0 wx) (hc : Chg p wx w1) (hB : B ≤ wx.heap.size) (hp : ∀ k, k < B → ¬ p k) : Below B w0 w1 := h.trans (hc.below hp hB)
theorem Pair.stepA (h : Pair w wx W H Ca Za Cb Zb pa g1 k1 g2 k2 pb g3 k3 g4 k4) (hc : Chg p wx w1) (hp : ∀ k, p k → k = g1 ∨ k = g2) (hI : Img w1 pa g1 k1 g2 k2 W H C' Z') : Pair w w1 W H C' Z' Cb Zb pa g1 k1 g2 k2 pb g3 k3 g4 k4 := by
  obtain ⟨a, b, lo, ap, bel⟩ := h
  exact ⟨hI, b.chg hc (fun h => by have := hp _ h; omega) (fun h => by have := hp _ h; omega) (fun h => by have := hp _ h; omega), lo, ap, Below.chg bel hc bel.size fun k hk h => by have := hp _ h; omega⟩
theorem Pair.stepB (h : Pair w wx W H Ca Za Cb Zb pa g1 k1 g2 k2 pb g3 k3 g4 k4) (hc : Chg p wx w1) (hp : ∀ k, p k → k = g3 ∨ k = g4) (hI : Img w1 pb g3 k3 g4 k4 W H C' Z') : Pair w w1 W H Ca Za C' Z' pa g1 k1 g2 k2 pb g3 k3 g4 k4 := by
  obtain ⟨a, b, lo, ap, bel⟩ := h
  exact ⟨a.chg hc (fun h => by have := hp _ h; omega) (fun h => by have := hp _ h; omega) (fun h => by have := hp _ h; omega), hI, lo, ap, Below.chg bel hc bel.size fun k hk h => by have := hp _ h; omega⟩
theorem Pair.drew (h : Pair w wx W H Ca Za Cb Zb pa g1 k1 g2 k2 pb g3 k3 g4 k4) : Pair w wx.drew W H Ca Za Cb Zb pa g1 k1 g2 k2 pb g3 k3 g4 k4 := ⟨h.a.drew, h.b.drew, h.lo, h.ap, h.bel.drew⟩
theorem Pair.ext (h : Pair w wx W H Ca Za Cb Zb pa g1 k1 g2 k2 pb g3 k3 g4 k4) (X : Xt) : Pair w (wx.ext X) W H Ca Za Cb Zb pa g1 k1 g2 k2 pb g3 k3 g4 k4 := ⟨h.a.ext X, h.b.ext X, h.lo, h.ap, h.bel.ext h.bel.size X⟩
theorem Pair.keep (h : Pair w wx W H Ca Za Cb Zb pa g1 k1 g2 k2 pb g3 k3 g4 k4) (hc : Chg p wx w1) (hp : ∀ k, p k → k = g1 ∨ k = g2 ∨ k = g3 ∨ k = g4) {b : Nat} {c : Array Value} {T : TypeId} (hr : Row wx b c T) (hb : b < w.heap.size) : Row w1 b c T :=
  hc.row hr fun h' => by have := hp _ h'; have := h.lo; omega
end
set_option maxHeartbeats 400000 in
theorem wp_copies2 {id : Nat} {Q : Exit → Act → World → Prop} {a : Act} {w : World} {W H : Int} {C Z : List Int} {c z : Value} {m s0 s1 s2 s3 d1 d2 : Tmp} {q0 q1 q2 q3 q4 q5 q6 q7 : String} (bm : Nat) (hok : ImOk W H C Z) (hc : Rd w c C) (hz : Rd w z Z)
    (hmv : a.tmps[m]? = some (.pointer (some ⟨bm, 0, none⟩))) (hrow : Row w bm #[.int .i64 W, .int .i64 H, c, z] 39)
    (hinj : ∀ i, i < 6 → ∀ j, j < 6 → sg s0 s1 s2 s3 d1 d2 i = sg s0 s1 s2 s3 d1 d2 j → i = j) (hlt : ∀ i, i < 6 → sg s0 s1 s2 s3 d1 d2 i < a.tmps.size) (hmo : ∀ i, i < 6 → sg s0 s1 s2 s3 d1 d2 i ≠ m)
    (h : ∀ X pa g1 k1 g2 k2 pb g3 k3 g4 k4, Two w (w.ext X) W H C Z pa g1 k1 g2 k2 pb g3 k3 g4 k4 →
      Q .normal ((((((a.put (some s0) (Im W H c z)).put (some s1) (.agg (IC W H C.length g1 k1 g2 k2))).put (some s2) (Im W H c z)).put (some s3) (.agg (IC W H C.length g3 k3 g4 k4))).put (some d1) (ptr pa)).put (some d2) (ptr pb)) (w.ext X)) :
    (Code.region id (ops2 m s0 s1 s2 s3 d1 d2 q0 q1 q2 q3 q4 q5 q6 q7) true).wp Try.prog Q a w := by
  have hinj' : ∀ i j, i < 6 → j < 6 → sg s0 s1 s2 s3 d1 d2 i = sg s0 s1 s2 s3 d1 d2 j → i = j := fun i j hi hj => hinj i hi j hj
  refine wp_region_inv (fun d a' w' => (∃ e k, CI w a W H C Z (Im W H c z) (sg s0 s1 s2 s3 d1 d2) e k d a' w') ∧ (d 6 = true → ∀ j, j < 6 → d j = true) ∧ (d 7 = true → ∀ j, j < 6 → d j = true) ∧ (d 3 = true → d 2 = true)) (by kernel_rfl) (by kernel_rfl) ?_ ?_ ?_
  · have no : ∀ {p : Prop}, (false = true) → p := fun h => Bool.noConfusion h
    exact ⟨⟨fun _ => 0, fun _ => 0, ⟨rfl, rfl, fun _ _ => rfl, fun _ _ h => no h, ⟨⟨#[], w.drawn + 1⟩, by show ({ w with drawn := w.drawn + 1 } : World) = _; simp [World.ext]⟩, fun _ _ h => no h, fun _ _ _ _ h => no h, fun h => no h, fun h => no h, fun h => no h, fun h => no h⟩⟩, fun h => no h, fun h => no h, fun h => no h⟩
  · intro i o ho d a' w' ⟨⟨e, k, inv⟩, h6, h7, h32⟩ hd hw
    have hi : i < 8 := by simpa using (Array.getElem?_eq_some_iff.1 ho).1
    obtain ⟨X0, hX0⟩ := inv.world
    have l32 : i ≠ 3 → upd d i 3 = true → upd d i 2 = true := fun hi3 h => (upd_eq _ _ _).2 (.inr (h32 (by rwa [upd_ne _ (Ne.symm hi3)] at h)))
    have late : ∀ t, t ≠ i → (d t = true → ∀ j, j < 6 → d j = true) → upd d i t = true → ∀ j, j < 6 → upd d i j = true := fun t ht h1 h2 j hj => by
      rw [upd_ne _ ht] at h2; exact (upd_eq _ _ _).2 (.inr (h1 h2 j hj))
    have hmv' : a'.eval (.tmp m) = .pointer (some ⟨bm, 0, none⟩) := by
      have := inv.off m hmo
      simp [Act.eval, Array.getD_eq_getD_getElem?, this, hmv]
    have hev : ∀ j, j < 6 → d j = true → a'.eval (.tmp (sg s0 s1 s2 s3 d1 d2 j)) = vv W H C.length (Im W H c z) e k j := fun j hj hdj => by
      simp [Act.eval, Array.getD_eq_getD_getElem?, inv.on j hj hdj]
    have no6 : ∀ j, j < 6 → d j = false → d 6 = false := fun j hj hdj => by
      cases h : d 6 with
      | false => rfl
      | true => have := h6 h j hj; rw [this] at hdj; cases hdj
    have no7 : ∀ j, j < 6 → d j = false → d 7 = false := fun j hj hdj => by
      cases h : d 7 with
      | false => rfl
      | true => have := h7 h j hj; rw [this] at hdj; cases hdj
    have hrow' : Row w' bm #[.int .i64 W, .int .i64 H, c, z] 39 := by rw [hX0]; exact hrow.ext X0
    have hcase : i = 0 ∨ i = 1 ∨ i = 2 ∨ i = 3 ∨ i = 4 ∨ i = 5 ∨ i = 6 ∨ i = 7 := by omega
    rcases hcase with rfl | rfl | rfl | rfl | rfl | rfl | rfl | rfl
    · simp at ho; subst ho
      refine wp_load_row 39 (.tmp m) rfl bm hmv' 39 _ (0, 0) _ hrow' Try.underlying39 rfl (by kernel_rfl) ?_
      exact ⟨⟨e, k, inv.load hinj' hlt 0 (.inl rfl)⟩, late 6 (by decide) h6, late 7 (by decide) h7, l32 (by decide)⟩
    · simp at ho; subst ho
      have d0 : d 0 = true := hw { on := 0, ground := .data } (by simp) rfl
      have hv := hev 0 (by decide) d0
      simp only [sg, vv, Nat.reduceEqDiff, reduceIte] at hv
      have hcall : (execOp a'.eval { dst := some s1, op := .call { callee := .value (.func 39), args := #[.tmp s0], argTypes := #[39] }, type := 39, pos := q1, after := #[{ on := 0, ground := .data }], guard := none }).run Try.prog w' = .ok (.enter 39 #[Im W H c z]) w' := by
        simp only [execOp, resolve, List.map_toArray, List.map_cons, List.map_nil, hv]
        kernel_rfl
      unfold Oper.wp
      rw [hcall, Oper.upon_enter]
      refine (rcopy_is W H c z C Z w' (by rw [hX0]; exact hc.ext X0) (by rw [hX0]; exact hz.ext X0) hok).mono ?_
      rintro _ w2 ⟨g1, k1, g2, k2, rfl, ⟨X, rfl⟩, A1, A2, b1, b2, ne⟩
      obtain ⟨e', k', inv'⟩ := inv.call hinj' hlt 0 (.inl rfl) hd (no6 1 (by decide) hd) g1 k1 g2 k2 X A1 A2 b1 b2 ne
      exact ⟨⟨e', k', inv'⟩, late 6 (by decide) h6, late 7 (by decide) h7, l32 (by decide)⟩
    · simp at ho; subst ho
      refine wp_load_row 39 (.tmp m) rfl bm hmv' 39 _ (0, 0) _ hrow' Try.underlying39 rfl (by kernel_rfl) ?_
      exact ⟨⟨e, k, inv.load hinj' hlt 2 (.inr rfl)⟩, late 6 (by decide) h6, late 7 (by decide) h7, l32 (by decide)⟩
    · simp at ho; subst ho
      have d0 : d 2 = true := hw { on := 2, ground := .data } (by simp) rfl
      have hv := hev 2 (by decide) d0
      simp only [sg, vv, Nat.reduceEqDiff, reduceIte] at hv
      have hcall : (execOp a'.eval { dst := some s3, op := .call { callee := .value (.func 39), args := #[.tmp s2], argTypes := #[39] }, type := 39, pos := q3, after := #[{ on := 2, ground := .data }, { on := 1, ground := .chain }], guard := none }).run Try.prog w' = .ok (.enter 39 #[Im W H c z]) w' := by
        simp only [execOp, resolve, List.map_toArray, List.map_cons, List.map_nil, hv]
        kernel_rfl
      unfold Oper.wp
      rw [hcall, Oper.upon_enter]
      refine (rcopy_is W H c z C Z w' (by rw [hX0]; exact hc.ext X0) (by rw [hX0]; exact hz.ext X0) hok).mono ?_
      rintro _ w2 ⟨g1, k1, g2, k2, rfl, ⟨X, rfl⟩, A1, A2, b1, b2, ne⟩
      obtain ⟨e', k', inv'⟩ := inv.call hinj' hlt 2 (.inr rfl) hd (no7 3 (by decide) hd) g1 k1 g2 k2 X A1 A2 b1 b2 ne
      exact ⟨⟨e', k', inv'⟩, late 6 (by decide) h6, late 7 (by decide) h7, (fun _ => (upd_eq _ _ _).2 (.inr d0))⟩
    · simp at ho; subst ho
      obtain ⟨e', k', inv'⟩ := inv.alloc hinj' hlt 4 (.inl rfl) hd (no6 4 (by decide) hd)
      unfold Oper.wp
      have : (execOp a'.eval { dst := some d1, op := .alloc 39, type := 0, pos := q4, after := #[], guard := none }).run Try.prog w' = .ok (.value (ptr w'.heap.size)) (w'.alloc (.cells c0I 39)) := by
        simp [execOp, Instr.alloc, newVar, Try.zeroValue39, Sem.run_bind, Result.andThen, Value.cells, ptr, newRow, newObj, Sem.run]
      rw [this]
      exact ⟨⟨e', k', inv'⟩, late 6 (by decide) h6, late 7 (by decide) h7, l32 (by decide)⟩
    · simp at ho; subst ho
      obtain ⟨e', k', inv'⟩ := inv.alloc hinj' hlt 5 (.inr rfl) hd (no7 5 (by decide) hd)
      unfold Oper.wp
      have : (execOp a'.eval { dst := some d2, op := .alloc 39, type := 0, pos := q5, after := #[], guard := none }).run Try.prog w' = .ok (.value (ptr w'.heap.size)) (w'.alloc (.cells c0I 39)) := by
        simp [execOp, Instr.alloc, newVar, Try.zeroValue39, Sem.run_bind, Result.andThen, Value.cells, ptr, newRow, newObj, Sem.run]
      rw [this]
      exact ⟨⟨e', k', inv'⟩, late 6 (by decide) h6, late 7 (by decide) h7, l32 (by decide)⟩
    · simp at ho; subst ho
      have hall : ∀ j, j < 6 → d j = true := six (hw { on := 0, ground := .phase } (by simp) rfl) (hw { on := 1, ground := .phase } (by simp) rfl) (h32 (hw { on := 3, ground := .phase } (by simp) rfl)) (hw { on := 3, ground := .phase } (by simp) rfl) (hw { on := 4, ground := .phase } (by simp) rfl) (hw { on := 5, ground := .phase } (by simp) rfl)
      have hv := hev 1 (by decide) (hall _ (by decide))
      have hp := hev 4 (by decide) (hall _ (by decide))
      simp only [sg, vv, Nat.reduceEqDiff, reduceIte] at hv hp
      have hrt := inv.r4 (hall _ (by decide))
      rw [if_neg (by rw [hd]; decide)] at hrt
      have h1 := run_storeVar_row (P := Try.prog) w' (e 4) 39 39 c0I (IC W H C.length (e 0) (k 0) (e 1) (k 1)) hrt (by kernel_rfl) rfl (by simp [Value.oneCell'])
      have hrun : ∀ aft ps, (execOp a'.eval { dst := none, op := .store 39 (.tmp d1) (.tmp s1), type := 0, pos := ps, after := aft, guard := none }).run Try.prog w' = .ok .skip (w'.setRow (e 4) (IC W H C.length (e 0) (k 0) (e 1) (k 1))) := fun aft ps => by
        simp only [execOp, hv, hp, ptr, Instr.storeAt, Instr.sureAddr, Sem.run_bind, Sem.run_pure, Result.andThen]
        rw [h1]
      unfold Oper.wp
      rw [hrun]
      have inv' := inv.store 6 (.inl rfl) hall
      exact ⟨⟨e, k, inv'⟩, fun _ j hj => (upd_eq _ _ _).2 (.inr (hall j hj)), fun _ j hj => (upd_eq _ _ _).2 (.inr (hall j hj)), l32 (by decide)⟩
    · simp at ho; subst ho
      have hall : ∀ j, j < 6 → d j = true := six (hw { on := 0, ground := .phase } (by simp) rfl) (hw { on := 1, ground := .phase } (by simp) rfl) (h32 (hw { on := 3, ground := .phase } (by simp) rfl)) (hw { on := 3, ground := .phase } (by simp) rfl) (hw { on := 4, ground := .phase } (by simp) rfl) (hw { on := 5, ground := .phase } (by simp) rfl)
      have hv := hev 3 (by decide) (hall _ (by decide))
      have hp := hev 5 (by decide) (hall _ (by decide))
      simp only [sg, vv, Nat.reduceEqDiff, reduceIte] at hv hp
      have hrt := inv.r5 (hall _ (by decide))
      rw [if_neg (by rw [hd]; decide)] at hrt
      have h1 := run_storeVar_row (P := Try.prog) w' (e 5) 39 39 c0I (IC W H C.length (e 2) (k 2) (e 3) (k 3)) hrt (by kernel_rfl) rfl (by simp [Value.oneCell'])
      have hrun : ∀ aft ps, (execOp a'.eval { dst := none, op := .store 39 (.tmp d2) (.tmp s3), type := 0, pos := ps, after := aft, guard := none }).run Try.prog w' = .ok .skip (w'.setRow (e 5) (IC W H C.length (e 2) (k 2) (e 3) (k 3))) := fun aft ps => by
        simp only [execOp, hv, hp, ptr, Instr.storeAt, Instr.sureAddr, Sem.run_bind, Sem.run_pure, Result.andThen]
        rw [h1]
      unfold Oper.wp
      rw [hrun]
      have inv' := inv.store 7 (.inr rfl) hall
      exact ⟨⟨e, k, inv'⟩, fun _ j hj => (upd_eq _ _ _).2 (.inr (hall j hj)), fun _ j hj => (upd_eq _ _ _).2 (.inr (hall j hj)), l32 (by decide)⟩
  · intro d a' w' ⟨⟨e, k, inv⟩, h6, h7, h32⟩ hall
    have hall' : ∀ j, j < 8 → d j = true := fun j hj => hall j (by simpa using hj)
    obtain ⟨X0, rfl⟩ := inv.world
    have hn := fun i j hi hj hij => inv.ne i j hi hj (hall' _ (by unfold ow; split <;> (try split) <;> omega)) (hall' _ (by unfold ow; split <;> (try split) <;> omega)) hij
    have hl := fun j hj => inv.lo j hj (hall' _ (by unfold ow; split <;> (try split) <;> omega))
    have r4 := inv.r4 (hall' 4 (by decide))
    have r5 := inv.r5 (hall' 5 (by decide))
    rw [if_pos (hall' 6 (by decide))] at r4
    rw [if_pos (hall' 7 (by decide))] at r5
    have c0 := inv.c0 (hall' 1 (by decide))
    have c1 := inv.c1 (hall' 3 (by decide))
    have HH := h X0 (e 4) (e 0) (k 0) (e 1) (k 1) (e 5) (e 2) (k 2) (e 3) (k 3) ⟨⟨hok, r4, c0.1, c0.2, hn _ _ (by decide) (by decide) (by decide), hn _ _ (by decide) (by decide) (by decide), hn _ _ (by decide) (by decide) (by decide)⟩,
      ⟨hok, r5, c1.1, c1.2, hn _ _ (by decide) (by decide) (by decide), hn _ _ (by decide) (by decide) (by decide), hn _ _ (by decide) (by decide) (by decide)⟩,
      ⟨(hl 4 (by decide)).1, (hl 0 (by decide)).1, (hl 1 (by decide)).1, (hl 5 (by decide)).1, (hl 2 (by decide)).1, (hl 3 (by decide)).1⟩,
      ⟨⟨hn _ _ (by decide) (by decide) (by decide), hn _ _ (by decide) (by decide) (by decide), hn _ _ (by decide) (by decide) (by decide), hn _ _ (by decide) (by decide) (by decide), hn _ _ (by decide) (by decide) (by decide), hn _ _ (by decide) (by decide) (by decide)⟩,
        ⟨hn _ _ (by decide) (by decide) (by decide), hn _ _ (by decide) (by decide) (by decide)⟩, hn _ _ (by decide) (by decide) (by decide)⟩⟩
    have heq : a' = ((((((a.put (some s0) (Im W H c z)).put (some s1) (.agg (IC W H C.length (e 0) (k 0) (e 1) (k 1)))).put (some s2) (Im W H c z)).put (some s3) (.agg (IC W H C.length (e 2) (k 2) (e 3) (k 3)))).put (some d1) (ptr (e 4))).put (some d2) (ptr (e 5))) := by
      have n01 : ¬ s0 = s1 := fun e => absurd (hinj 0 (by decide) 1 (by decide) e) (by decide)
      have n02 : ¬ s0 = s2 := fun e => absurd (hinj 0 (by decide) 2 (by decide) e) (by decide)
      have n03 : ¬ s0 = s3 := fun e => absurd (hinj 0 (by decide) 3 (by decide) e) (by decide)
      have n04 : ¬ s0 = d1 := fun e => absurd (hinj 0 (by decide) 4 (by decide) e) (by decide)
      have n05 : ¬ s0 = d2 := fun e => absurd (hinj 0 (by decide) 5 (by decide) e) (by decide)
      have n10 : ¬ s1 = s0 := fun e => absurd (hinj 1 (by decide) 0 (by decide) e) (by decide)
      have n12 : ¬ s1 = s2 := fun e => absurd (hinj 1 (by decide) 2 (by decide) e) (by decide)
      have n13 : ¬ s1 = s3 := fun e => absurd (hinj 1 (by decide) 3 (by decide) e) (by decide)
      have n14 : ¬ s1 = d1 := fun e => absurd (hinj 1 (by decide) 4 (by decide) e) (by decide)
      have n15 : ¬ s1 = d2 := fun e => absurd (hinj 1 (by decide) 5 (by decide) e) (by decide)
      have n20 : ¬ s2 = s0 := fun e => absurd (hinj 2 (by decide) 0 (by decide) e) (by decide)
      have n21 : ¬ s2 = s1 := fun e => absurd (hinj 2 (by decide) 1 (by decide) e) (by decide)
      have n23 : ¬ s2 = s3 := fun e => absurd (hinj 2 (by decide) 3 (by decide) e) (by decide)
      have n24 : ¬ s2 = d1 := fun e => absurd (hinj 2 (by decide) 4 (by decide) e) (by decide)
      have n25 : ¬ s2 = d2 := fun e => absurd (hinj 2 (by decide) 5 (by decide) e) (by decide)
      have n30 : ¬ s3 = s0 := fun e => absurd (hinj 3 (by decide) 0 (by decide) e) (by decide)
      have n31 : ¬ s3 = s1 := fun e => absurd (hinj 3 (by decide) 1 (by decide) e) (by decide)
      have n32 : ¬ s3 = s2 := fun e => absurd (hinj 3 (by decide) 2 (by decide) e) (by decide)
      have n34 : ¬ s3 = d1 := fun e => absurd (hinj 3 (by decide) 4 (by decide) e) (by decide)
      have n35 : ¬ s3 = d2 := fun e => absurd (hinj 3 (by decide) 5 (by decide) e) (by decide)
      have n40 : ¬ d1 = s0 := fun e => absurd (hinj 4 (by decide) 0 (by decide) e) (by decide)
      have n41 : ¬ d1 = s1 := fun e => absurd (hinj 4 (by decide) 1 (by decide) e) (by decide)
      have n42 : ¬ d1 = s2 := fun e => absurd (hinj 4 (by decide) 2 (by decide) e) (by decide)
      have n43 : ¬ d1 = s3 := fun e => absurd (hinj 4 (by decide) 3 (by decide) e) (by decide)
      have n45 : ¬ d1 = d2 := fun e => absurd (hinj 4 (by decide) 5 (by decide) e) (by decide)
      have n50 : ¬ d2 = s0 := fun e => absurd (hinj 5 (by decide) 0 (by decide) e) (by decide)
      have n51 : ¬ d2 = s1 := fun e => absurd (hinj 5 (by decide) 1 (by decide) e) (by decide)
      have n52 : ¬ d2 = s2 := fun e => absurd (hinj 5 (by decide) 2 (by decide) e) (by decide)
      have n53 : ¬ d2 = s3 := fun e => absurd (hinj 5 (by decide) 3 (by decide) e) (by decide)
      have n54 : ¬ d2 = d1 := fun e => absurd (hinj 5 (by decide) 4 (by decide) e) (by decide)
      refine act_ext (by simp [Act.put, inv.size]) (by simp [Act.put, inv.defers]) fun s => ?_
      simp only [put_some]
      by_cases q0 : s0 = s
      · subst q0
        simp only [if_true, n10, if_false, n20, if_false, n30, if_false, n40, if_false, n50, if_false]
        have h1 := inv.on 0 (by decide) (hall' 0 (by decide))
        have h2 := hlt 0 (by decide)
        simp only [sg, vv, Nat.reduceEqDiff, reduceIte] at h1 h2
        rw [h1]; simp [h2]
      by_cases q1 : s1 = s
      · subst q1
        simp only [if_true, n01, if_false, n21, if_false, n31, if_false, n41, if_false, n51, if_false]
        have h1 := inv.on 1 (by decide) (hall' 1 (by decide))
        have h2 := hlt 1 (by decide)
        simp only [sg, vv, Nat.reduceEqDiff, reduceIte] at h1 h2
        rw [h1]; simp [h2]
      by_cases q2 : s2 = s
      · subst q2
        simp only [if_true, n02, if_false, n12, if_false, n32, if_false, n42, if_false, n52, if_false]
        have h1 := inv.on 2 (by decide) (hall' 2 (by decide))
        have h2 := hlt 2 (by decide)
        simp only [sg, vv, Nat.reduceEqDiff, reduceIte] at h1 h2
        rw [h1]; simp [h2]
      by_cases q3 : s3 = s
      · subst q3
        simp only [if_true, n03, if_false, n13, if_false, n23, if_false, n43, if_false, n53, if_false]
        have h1 := inv.on 3 (by decide) (hall' 3 (by decide))
        have h2 := hlt 3 (by decide)
        simp only [sg, vv, Nat.reduceEqDiff, reduceIte] at h1 h2
        rw [h1]; simp [h2]
      by_cases q4 : d1 = s
      · subst q4
        simp only [if_true, n04, if_false, n14, if_false, n24, if_false, n34, if_false, n54, if_false]
        have h1 := inv.on 4 (by decide) (hall' 4 (by decide))
        have h2 := hlt 4 (by decide)
        simp only [sg, vv, Nat.reduceEqDiff, reduceIte] at h1 h2
        rw [h1]; simp [h2]
      by_cases q5 : d2 = s
      · subst q5
        simp only [if_true, n05, if_false, n15, if_false, n25, if_false, n35, if_false, n45, if_false]
        have h1 := inv.on 5 (by decide) (hall' 5 (by decide))
        have h2 := hlt 5 (by decide)
        simp only [sg, vv, Nat.reduceEqDiff, reduceIte] at h1 h2
        rw [h1]; simp [h2]
      simp only [q0, q1, q2, q3, q4, q5, if_false]
      exact inv.off s (six q0 q1 q2 q3 q4 q5)
    rw [heq]; exact HH
end Go.Proofs.Ytdbbeggenbhbfaa
