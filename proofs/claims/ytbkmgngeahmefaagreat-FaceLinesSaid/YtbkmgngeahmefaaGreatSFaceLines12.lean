/- Parts of the proof of FaceLines, laid together. Conditions: at each. -/
import Derived.Test.YtbkmgngeahmefaaGreatSFaceLines05
import Derived.Test.YtbkmgngeahmefaaGreatSFaceLines11
set_option linter.unusedVariables false
set_option linter.unusedSimpArgs false
section
namespace Go.Proofs.YtbkmgngeahmefaaGreat
def corX (a b : WinP) (n z : Int) : Int := if turnP a.x a.y b.x b.y then z - (n - 1) * 128 else z
def corY (a b : WinP) (n z : Int) : Int := if turnP a.x a.y b.x b.y then z else z - (n - 1) * 128
def coreL (a b : WinP) (n : Int) : List St := lineL (corX a b n a.x) (corY a b n a.y) (corX a b n b.x) (corY a b n b.y)
theorem core_turn (a b : WinP) (n : Int) : turnP (corX a b n a.x) (corY a b n a.y) (corX a b n b.x) (corY a b n b.y) ↔ turnP a.x a.y b.x b.y := by
  unfold corX corY
  by_cases h : turnP a.x a.y b.x b.y
  · simp only [if_pos h]; unfold turnP; omega
  · simp only [if_neg h]; unfold turnP; omega
def litP (p r c k : Int) : Prop := p / 2 ^ ((c + k) / r % 16).toNat % 2 = 1
instance (p r c k : Int) : Decidable (litP p r c k) := by unfold litP; exact inferInstance
def litB (dd : Bool) (p r c : Int) (s : St) : Bool := !dd || decide (litP p r c s.K)
def nextC (dd : Bool) (r c : Int) (k : Nat) : Int := if dd then (c + k) % (r * 16) else c
def alV (a b : WinP) (x y : Int) : Int × Int × Int × Int × Int := (mid a.z b.z (alN a b x y) (alD a b), mid a.c0 b.c0 (alN a b x y) (alD a b), mid a.c1 b.c1 (alN a b x y) (alD a b), mid a.c2 b.c2 (alN a b x y) (alD a b), mid a.c3 b.c3 (alN a b x y) (alD a b))
def wdFr (a b : WinP) (s : St) (m : Nat) : FrP := ⟨if turnP a.x a.y b.x b.y then s.X + m else s.X, if turnP a.x a.y b.x b.y then s.Y else s.Y + m, (alV a b s.X s.Y).1, (alV a b s.X s.Y).2.1, (alV a b s.X s.Y).2.2.1, (alV a b s.X s.Y).2.2.2.1, (alV a b s.X s.Y).2.2.2.2, 64⟩
def wdRow (a b : WinP) (n : Int) (s : St) : List FrP := (List.range n.toNat).map (wdFr a b s)
def frIn (x0 y0 x1 y1 : Int) (f : FrP) : Bool := decide (x0 ≤ f.x ∧ f.x < x1 ∧ y0 ≤ f.y ∧ f.y < y1)
theorem frIn_iff {x0 y0 x1 y1 : Int} {f : FrP} : frIn x0 y0 x1 y1 f = true ↔ (x0 ≤ f.x ∧ f.x < x1 ∧ y0 ≤ f.y ∧ f.y < y1) := by unfold frIn; exact decide_eq_true_iff
def wdOf (a b : WinP) (n x0 y0 x1 y1 : Int) (L : List St) : List FrP := (L.flatMap (wdRow a b n)).filter (frIn x0 y0 x1 y1)
def wdTo (a b : WinP) (n : Int) (dd : Bool) (p r c x0 y0 x1 y1 : Int) : List FrP := wdOf a b n x0 y0 x1 y1 ((coreL a b n).filter (litB dd p r c))
def wdL (a b : WinP) (n : Int) (dd : Bool) (p r c x0 y0 x1 y1 : Int) : List FrP := if lineP a b n p r c ∧ rightP x0 y0 x1 y1 then wdTo a b n dd p r c x0 y0 x1 y1 else []
theorem wdOf_append (a b : WinP) (n x0 y0 x1 y1 : Int) (L M : List St) : wdOf a b n x0 y0 x1 y1 (L ++ M) = wdOf a b n x0 y0 x1 y1 L ++ wdOf a b n x0 y0 x1 y1 M := by
  unfold wdOf; rw [List.flatMap_append, List.filter_append]
theorem wdRow_mem {a b : WinP} {n : Int} {s : St} {f : FrP} : f ∈ wdRow a b n s ↔ ∃ m : Nat, (m : Int) < n ∧ f = wdFr a b s m := by
  unfold wdRow
  simp only [List.mem_map, List.mem_range]
  constructor
  · rintro ⟨m, h, rfl⟩; exact ⟨m, by omega, rfl⟩
  · rintro ⟨m, h, rfl⟩; exact ⟨m, by omega, rfl⟩
theorem wdRow_len (a b : WinP) (n : Int) (s : St) : (wdRow a b n s).length = n.toNat := by unfold wdRow; simp
def rchX (a b : WinP) (n x0 : Int) : Int := if turnP a.x a.y b.x b.y then max (x0 - n + 1) (-4194304) else x0
def rchY (a b : WinP) (n y0 : Int) : Int := if turnP a.x a.y b.x b.y then y0 else max (y0 - n + 1) (-4194304)
theorem wdRow_none {a b : WinP} {n x0 y0 x1 y1 : Int} {s : St} (h : ¬ ((rchX a b n x0 ≤ s.X ∧ s.X < x1) ∧ rchY a b n y0 ≤ s.Y ∧ s.Y < y1)) (hx : -4194304 ≤ s.X) (hy : -4194304 ≤ s.Y) : (wdRow a b n s).filter (frIn x0 y0 x1 y1) = [] := by
  rw [List.filter_eq_nil_iff]
  intro f hf
  obtain ⟨m, hm, rfl⟩ := wdRow_mem.1 hf
  rw [frIn_iff]
  unfold rchX rchY at h
  unfold wdFr
  by_cases t : turnP a.x a.y b.x b.y
  · simp only [if_pos t] at h ⊢; omega
  · simp only [if_neg t] at h ⊢; omega
theorem core_bd {a b : WinP} {n : Int} (ha : a.fitsP) (hb : b.fitsP) (hn : widthP n) {s : St} (hs : s ∈ coreL a b n) : (-1048641 ≤ s.X ∧ s.X ≤ 1048576) ∧ -1048641 ≤ s.Y ∧ s.Y ≤ 1048576 := by
  have h := lineL_in _ _ _ _ s hs
  unfold WinP.fitsP at ha hb
  unfold widthP at hn
  unfold corX corY at h
  by_cases t : turnP a.x a.y b.x b.y
  · simp only [if_pos t] at h; omega
  · simp only [if_neg t] at h; omega
theorem core_may {a b : WinP} {n : Int} (ha : a.fitsP) (hb : b.fitsP) (hn : widthP n) : MayP (corX a b n a.x) (corY a b n a.y) ∧ MayP (corX a b n b.x) (corY a b n b.y) := by
  unfold WinP.fitsP at ha hb
  unfold widthP at hn
  unfold corX corY
  by_cases t : turnP a.x a.y b.x b.y
  · simp only [if_pos t]; exact ⟨⟨by omega, by omega, by omega, by omega⟩, ⟨by omega, by omega, by omega, by omega⟩⟩
  · simp only [if_neg t]; exact ⟨⟨by omega, by omega, by omega, by omega⟩, ⟨by omega, by omega, by omega, by omega⟩⟩
theorem rch_right {a b : WinP} {n x0 y0 x1 y1 : Int} (hn : widthP n) (h : rightP x0 y0 x1 y1) : rightP (rchX a b n x0) (rchY a b n y0) x1 y1 := by
  unfold rightP rchX rchY widthP at *
  by_cases t : turnP a.x a.y b.x b.y
  · simp only [if_pos t]; omega
  · simp only [if_neg t]; omega
theorem filter_swap {α : Type} (p q : α → Bool) (L : List α) : (L.filter p).filter q = (L.filter q).filter p := by
  rw [List.filter_filter, List.filter_filter]
  congr 1; funext x; exact Bool.and_comm _ _
theorem flatMap_filter_none {α β : Type} (g : α → List β) (p : α → Bool) (L : List α) (h : ∀ s ∈ L, p s = false → g s = []) : (L.filter p).flatMap g = L.flatMap g := by
  induction L with
  | nil => rfl
  | cons s L ih =>
    have ih := ih fun t ht => h t (List.mem_cons_of_mem _ ht)
    by_cases hp : p s = true
    · rw [List.filter_cons_of_pos hp, List.flatMap_cons, List.flatMap_cons, ih]
    · rw [List.filter_cons_of_neg hp, List.flatMap_cons, h s List.mem_cons_self (by simpa using hp), ih, List.nil_append]
theorem wdOf_rows (a b : WinP) (n x0 y0 x1 y1 : Int) (L : List St) : wdOf a b n x0 y0 x1 y1 L = L.flatMap (fun s => (wdRow a b n s).filter (frIn x0 y0 x1 y1)) := by
  unfold wdOf
  induction L with
  | nil => rfl
  | cons s L ih => rw [List.flatMap_cons, List.filter_append, ih, List.flatMap_cons]
theorem wdTo_within {a b : WinP} {n : Int} {dd : Bool} {p r c x0 y0 x1 y1 : Int} (ha : a.fitsP) (hb : b.fitsP) (hn : widthP n) (hr : rightP x0 y0 x1 y1) :
    wdOf a b n x0 y0 x1 y1 ((withinL (corX a b n a.x) (corY a b n a.y) (corX a b n b.x) (corY a b n b.y) (rchX a b n x0) (rchY a b n y0) x1 y1).filter (litB dd p r c)) = wdTo a b n dd p r c x0 y0 x1 y1 := by
  unfold wdTo
  have rr := rch_right (a := a) (b := b) hn hr
  by_cases hz : corX a b n a.x = corX a b n b.x ∧ corY a b n a.y = corY a b n b.y
  · have : coreL a b n = [] := by unfold coreL; rw [hz.1, hz.2, lineL_self]
    rw [this]
    unfold withinL
    rw [if_pos (.inl hz)]
  · unfold withinL
    rw [if_neg (fun k => k.elim hz fun k => k rr), filter_swap, wdOf_rows, wdOf_rows]
    refine flatMap_filter_none _ _ _ fun s hs hp => ?_
    have hb' := core_bd ha hb hn (List.mem_filter.1 hs).1
    refine wdRow_none (fun k => ?_) (by omega) (by omega)
    have hp := of_decide_eq_false hp
    exact hp ⟨rr, k.1.1, k.1.2, k.2.1, k.2.2⟩
theorem core_num {a b : WinP} {n : Int} {s : St} (hs : s ∈ coreL a b n) : ∃ d e : Int, (e = 1 ∨ e = -1) ∧ ∀ t ∈ coreL a b n, t.K = d + e * uC (decide (turnP a.x a.y b.x b.y)) t.X t.Y := by
  by_cases hz : corX a b n a.x = corX a b n b.x ∧ corY a b n a.y = corY a b n b.y
  · have : coreL a b n = [] := by unfold coreL; rw [hz.1, hz.2, lineL_self]
    rw [this] at hs; cases hs
  · have ht : decide (turnP (corX a b n a.x) (corY a b n a.y) (corX a b n b.x) (corY a b n b.y)) = decide (turnP a.x a.y b.x b.y) := decide_eq_decide.2 (core_turn a b n)
    by_cases hu : (mkWay0 (corX a b n a.x) (corY a b n a.y) (corX a b n b.x) (corY a b n b.y)).au < (mkWay0 (corX a b n a.x) (corY a b n a.y) (corX a b n b.x) (corY a b n b.y)).bu
    · refine ⟨-posU (decide (turnP a.x a.y b.x b.y)) (corX a b n a.x) (corY a b n a.y), 1, .inl rfl, fun t ht' => ?_⟩
      have := ((mem_line _ _ _ _ hz t).1 ht').2
      unfold idxP at this
      rw [if_pos hu, ht] at this
      omega
    · refine ⟨posD (decide (turnP a.x a.y b.x b.y)) (corX a b n a.x) (corY a b n a.y), -1, .inr rfl, fun t ht' => ?_⟩
      have := ((mem_line _ _ _ _ hz t).1 ht').2
      unfold idxP at this
      rw [if_neg hu, ht] at this
      omega
theorem core_rise (a b : WinP) (n : Int) : (coreL a b n).Pairwise (fun s t => s.K < t.K) := by
  unfold coreL lineL
  split
  · exact run_rise _ _ _ _
  · exact run_rise _ _ _ _
def FrP.off (f g : FrP) : Prop := ¬ (f.x = g.x ∧ f.y = g.y)
theorem flatMap_len {α β : Type} (g : α → List β) (k : Nat) (L : List α) (h : ∀ s ∈ L, (g s).length ≤ k) : (L.flatMap g).length ≤ L.length * k := by
  induction L with
  | nil => simp
  | cons s L ih =>
    rw [List.flatMap_cons, List.length_append, List.length_cons, Nat.succ_mul]
    have := ih fun t ht => h t (List.mem_cons_of_mem _ ht)
    have := h s List.mem_cons_self
    omega
theorem wdTo_len {a b : WinP} {n : Int} {dd : Bool} {p r c x0 y0 x1 y1 : Int} (hn : 0 ≤ n) (m : Nat) (hx : x0 ≤ x1) (hy : y0 ≤ y1) (h1 : x1 - x0 ≤ m) (h2 : y1 - y0 ≤ m) : (wdTo a b n dd p r c x0 y0 x1 y1).length ≤ m * n.toNat := by
  unfold wdTo
  rw [wdOf_rows]
  have e : ∀ L : List St, (L.filter (fun s => decide ((if turnP a.x a.y b.x b.y then y0 else x0) ≤ uC (decide (turnP a.x a.y b.x b.y)) s.X s.Y ∧ uC (decide (turnP a.x a.y b.x b.y)) s.X s.Y < if turnP a.x a.y b.x b.y then y1 else x1))).flatMap (fun s => (wdRow a b n s).filter (frIn x0 y0 x1 y1)) = L.flatMap (fun s => (wdRow a b n s).filter (frIn x0 y0 x1 y1)) := fun L => by
    refine flatMap_filter_none _ _ _ fun s hs hp => ?_
    rw [List.filter_eq_nil_iff]
    intro f hf
    obtain ⟨j, hj, rfl⟩ := wdRow_mem.1 hf
    rw [frIn_iff]
    have hp := of_decide_eq_false hp
    unfold uC at hp
    unfold wdFr
    by_cases t : turnP a.x a.y b.x b.y
    · simp only [t, decide_true, if_true] at hp ⊢; omega
    · simp only [t, decide_false, if_false, Bool.false_eq_true] at hp ⊢; omega
  rw [← e]
  refine Nat.le_trans (flatMap_len _ n.toNat _ fun s _ => Nat.le_trans (List.length_filter_le _ _) (Nat.le_of_eq (wdRow_len a b n s))) ?_
  refine Nat.mul_le_mul_right _ ?_
  generalize hM : ((coreL a b n).filter (litB dd p r c)).filter _ = M
  cases hc : M with
  | nil => simp
  | cons s0 M' =>
    rw [← hc]
    have hmem : ∀ s ∈ M, s ∈ coreL a b n ∧ ((if turnP a.x a.y b.x b.y then y0 else x0) ≤ uC (decide (turnP a.x a.y b.x b.y)) s.X s.Y ∧ uC (decide (turnP a.x a.y b.x b.y)) s.X s.Y < if turnP a.x a.y b.x b.y then y1 else x1) := fun s hs => by
      rw [← hM] at hs
      obtain ⟨h3, h4⟩ := List.mem_filter.1 hs
      exact ⟨(List.mem_filter.1 h3).1, of_decide_eq_true h4⟩
    have hp : M.Pairwise (fun s t => s.K < t.K) := by rw [← hM]; exact ((core_rise a b n).filter _).filter _
    obtain ⟨d, e, he, hK⟩ := core_num (hmem s0 (by rw [hc]; exact List.mem_cons_self)).1
    have hlen : (if turnP a.x a.y b.x b.y then y0 else x0) ≤ (if turnP a.x a.y b.x b.y then y1 else x1) ∧ (if turnP a.x a.y b.x b.y then y1 else x1) - (if turnP a.x a.y b.x b.y then y0 else x0) ≤ m := by
      by_cases t : turnP a.x a.y b.x b.y
      · simp only [t, if_true]; omega
      · simp only [t, if_false]; omega
    generalize (if turnP a.x a.y b.x b.y then y0 else x0) = lo at *
    generalize (if turnP a.x a.y b.x b.y then y1 else x1) = hi at *
    rcases he with rfl | rfl
    · have := rise_len M (d + lo) (d + hi) hp (fun q hq => by have := hK q (hmem q hq).1; have := (hmem q hq).2; omega) (by omega)
      omega
    · have := rise_len M (d - hi + 1) (d - lo + 1) hp (fun q hq => by have := hK q (hmem q hq).1; have := (hmem q hq).2; omega) (by omega)
      omega
end Go.Proofs.YtbkmgngeahmefaaGreat
end
section
namespace Go.Proofs.YtbkmgngeahmefaaGreat
theorem coreL_same {a b : WinP} (n : Int) (hx : a.x = b.x) (hy : a.y = b.y) : coreL a b n = [] := by
  unfold coreL; rw [hx, hy]; exact lineL_self _ _
theorem later_zero (L : List St) : L.map (St.later ((0 : Nat) : Int)) = L := by
  have : St.later ((0 : Nat) : Int) = id := by funext s; unfold St.later; simp
  rw [this, List.map_id]
structure Parts (a c b : WinP) (dx dy m k : Int) : Prop where
  m0 : 0 ≤ m
  k0 : 0 ≤ k
  cx : c.x = a.x + m * dx
  cy : c.y = a.y + m * dy
  bx : b.x = c.x + k * dx
  y2 : b.y = c.y + k * dy
section
variable {a b c : WinP} {dx dy m k n : Int}
theorem Parts.turn (h : Parts a c b dx dy m k) (hm : 0 < m) (hk : 0 < k) : (turnP a.x a.y b.x b.y ↔ turnP a.x a.y c.x c.y) ∧ (turnP c.x c.y b.x b.y ↔ turnP a.x a.y c.x c.y) := by
  obtain ⟨-, -, h1, h2, h3, h4⟩ := h
  have e1 : b.x = a.x + (m + k) * dx := by rw [Int.add_mul]; omega
  have e2 : b.y = a.y + (m + k) * dy := by rw [Int.add_mul]; omega
  have t1 := turnP_scale m a.x a.y dx dy hm
  have t2 := turnP_scale (m + k) a.x a.y dx dy (by omega)
  have t3 := turnP_scale k c.x c.y dx dy hk
  rw [← h1, ← h2] at t1
  rw [← e1, ← e2] at t2
  rw [← h3, ← h4] at t3
  exact ⟨t2.trans t1.symm, t3.trans t1.symm⟩
theorem Parts.core (h : Parts a c b dx dy m k) : coreL a b n = coreL a c n ++ (coreL c b n).map (St.later ((coreL a c n).length : Nat)) := by
  by_cases hm : m = 0
  · obtain ⟨-, -, h1, h2, h3, h4⟩ := h
    rw [hm, Int.zero_mul, Int.add_zero] at h1 h2
    rw [coreL_same (a := a) (b := c) n h1.symm h2.symm, List.nil_append, List.length_nil, later_zero]
    unfold coreL corX corY
    rw [h1, h2]
  by_cases hk : k = 0
  · obtain ⟨-, -, h1, h2, h3, h4⟩ := h
    rw [hk, Int.zero_mul, Int.add_zero] at h3 h4
    rw [coreL_same (a := c) (b := b) n h3.symm h4.symm, List.map_nil, List.append_nil]
    unfold coreL corX corY
    rw [h3, h4]
  · obtain ⟨t1, t2⟩ := h.turn (by have := h.m0; omega) (by have := h.k0; omega)
    obtain ⟨m0, k0, h1, h2, h3, h4⟩ := h
    have := lineL_parts (if turnP a.x a.y c.x c.y then a.x - (n - 1) * 128 else a.x) (if turnP a.x a.y c.x c.y then a.y else a.y - (n - 1) * 128) dx dy m k m0 k0
    have e1 : b.x = a.x + (m + k) * dx := by rw [Int.add_mul]; omega
    have e2 : b.y = a.y + (m + k) * dy := by rw [Int.add_mul]; omega
    unfold coreL corX corY
    by_cases t : turnP a.x a.y c.x c.y
    · simp only [t1.2 t, t2.2 t, t, if_true] at this ⊢
      rw [show a.x - (n - 1) * 128 + (m + k) * dx = b.x - (n - 1) * 128 by omega, show a.x - (n - 1) * 128 + m * dx = c.x - (n - 1) * 128 by omega, ← e2, ← h2] at this
      exact this
    · have n1 := mt t1.1 t
      have n2 := mt t2.1 t
      simp only [n1, n2, t, if_false] at this ⊢
      rw [show a.y - (n - 1) * 128 + (m + k) * dy = b.y - (n - 1) * 128 by omega, show a.y - (n - 1) * 128 + m * dy = c.y - (n - 1) * 128 by omega, ← e1, ← h1] at this
      exact this
end
theorem lit_later {dd : Bool} {p r c : Int} (hr : 1 ≤ r) (j : Nat) (s : St) : litB dd p r c (s.later j) = litB dd p r (nextC dd r c j) s := by
  unfold litB nextC St.later
  cases dd
  · rfl
  · simp only [Bool.not_true, Bool.false_or, if_true]
    refine decide_eq_decide.2 ?_
    unfold litP
    have e : (c + (s.K + j)) / r % 16 = ((c + j) % (r * 16) + s.K) / r % 16 := by
      have h1 : c + j = r * 16 * ((c + j) / (r * 16)) + (c + j) % (r * 16) := by rw [Int.mul_ediv_add_emod]
      generalize (c + j) % (r * 16) = t at *
      generalize (c + j) / (r * 16) = q at *
      rw [show c + (s.K + j) = (t + s.K) + (16 * q) * r by grind, Int.add_mul_ediv_right _ _ (by omega)]
      omega
    rw [e]
def pxRow (t : Bool) (n : Int) (s : St) : List (Int × Int) := (List.range n.toNat).map (fun m : Nat => (if t then s.X + m else s.X, if t then s.Y else s.Y + m))
def FrP.px (f : FrP) : Int × Int := (f.x, f.y)
theorem wdRow_px (a b : WinP) (n : Int) (s : St) : (wdRow a b n s).map FrP.px = pxRow (decide (turnP a.x a.y b.x b.y)) n s := by
  unfold wdRow pxRow
  rw [List.map_map]
  refine List.map_congr_left fun m _ => ?_
  simp only [Function.comp, FrP.px, wdFr, decide_eq_true_eq]
def inC (x0 y0 x1 y1 : Int) (q : Int × Int) : Bool := decide (x0 ≤ q.1 ∧ q.1 < x1 ∧ y0 ≤ q.2 ∧ q.2 < y1)
theorem wdOf_px (a b : WinP) (n x0 y0 x1 y1 : Int) (L : List St) : (wdOf a b n x0 y0 x1 y1 L).map FrP.px = (L.flatMap (pxRow (decide (turnP a.x a.y b.x b.y)) n)).filter (inC x0 y0 x1 y1) := by
  unfold wdOf
  have : frIn x0 y0 x1 y1 = inC x0 y0 x1 y1 ∘ FrP.px := rfl
  rw [this, ← List.filter_map, List.map_flatMap]
  congr 2
  funext s
  exact wdRow_px a b n s
theorem px_later (t : Bool) (n : Int) (j : Int) (L : List St) : (L.map (St.later j)).flatMap (pxRow t n) = L.flatMap (pxRow t n) := by
  rw [List.flatMap_map]; rfl
section
variable {a b c : WinP} {dx dy m k n p r q x0 y0 x1 y1 : Int} {dd : Bool}
theorem Parts.list (h : Parts a c b dx dy m k) (hr : 1 ≤ r) :
    (wdTo a b n dd p r q x0 y0 x1 y1).map FrP.px = (wdTo a c n dd p r q x0 y0 x1 y1).map FrP.px ++ (wdTo c b n dd p r (nextC dd r q (coreL a c n).length) x0 y0 x1 y1).map FrP.px := by
  unfold wdTo
  rw [wdOf_px, wdOf_px, wdOf_px, h.core (n := n), List.filter_append, List.filter_map]
  have : litB dd p r q ∘ St.later ((coreL a c n).length : Nat) = litB dd p r (nextC dd r q (coreL a c n).length) := by
    funext s; exact lit_later hr _ s
  rw [this, List.flatMap_append, px_later, List.filter_append]
  by_cases hm : m = 0
  · obtain ⟨-, -, h1, h2, -, -⟩ := h
    rw [hm, Int.zero_mul, Int.add_zero] at h1 h2
    rw [coreL_same (a := a) (b := c) n h1.symm h2.symm, h1, h2]; rfl
  by_cases hk : k = 0
  · obtain ⟨-, -, -, -, h3, h4⟩ := h
    rw [hk, Int.zero_mul, Int.add_zero] at h3 h4
    rw [coreL_same (a := c) (b := b) n h3.symm h4.symm, h3, h4]; rfl
  · obtain ⟨t1, t2⟩ := h.turn (by have := h.m0; omega) (by have := h.k0; omega)
    rw [decide_eq_decide.2 t1, decide_eq_decide.2 t2]
theorem Parts.len (h : Parts a c b dx dy m k) (hr : 1 ≤ r) :
    (wdTo a b n dd p r q x0 y0 x1 y1).length = (wdTo a c n dd p r q x0 y0 x1 y1).length + (wdTo c b n dd p r (nextC dd r q (coreL a c n).length) x0 y0 x1 y1).length := by
  have := congrArg List.length (h.list (n := n) (dd := dd) (p := p) (q := q) (x0 := x0) (y0 := y0) (x1 := x1) (y1 := y1) hr)
  simpa using this
theorem Parts.next (h : Parts a c b dx dy m k) : nextC dd r (nextC dd r q (coreL a c n).length) (coreL c b n).length = nextC dd r q (coreL a b n).length := by
  rw [h.core (n := n), List.length_append, List.length_map]
  unfold nextC
  cases dd
  · rfl
  · simp only [if_true]
    rw [Int.emod_add_emod]
    congr 1; omega
theorem Parts.first (h : Parts a c b dx dy m k) (hr : 1 ≤ r) (i : Nat) (f g : FrP) (hf : (wdTo a b n dd p r q x0 y0 x1 y1)[i]? = some f) (hg : (wdTo a c n dd p r q x0 y0 x1 y1)[i]? = some g) : g.x = f.x ∧ g.y = f.y := by
  have e := congrArg (fun l => l[i]?) (h.list (n := n) (dd := dd) (p := p) (q := q) (x0 := x0) (y0 := y0) (x1 := x1) (y1 := y1) hr)
  rw [List.getElem?_map, hf, List.getElem?_append_left (by rw [List.length_map]; exact (List.getElem?_eq_some_iff.1 hg).1), List.getElem?_map, hg] at e
  simp only [Option.map_some, Option.some.injEq, FrP.px, Prod.mk.injEq] at e
  exact ⟨e.1.symm, e.2.symm⟩
end
theorem core_at {a b : WinP} {n : Int} {i : Nat} {s : St} (h : (coreL a b n)[i]? = some s) : s.K = i := line_num h
theorem core_len {a b : WinP} {n : Int} (ha : a.fitsP) (hb : b.fitsP) (hn : widthP n) : (coreL a b n).length ≤ 2097220 := by
  cases hc : coreL a b n with
  | nil => simp
  | cons s0 L =>
    rw [← hc]
    obtain ⟨d, e, he, hK⟩ := core_num (n := n) (a := a) (b := b) (s := s0) (by rw [hc]; exact List.mem_cons_self)
    have hu : ∀ s ∈ coreL a b n, -1048641 ≤ uC (decide (turnP a.x a.y b.x b.y)) s.X s.Y ∧ uC (decide (turnP a.x a.y b.x b.y)) s.X s.Y ≤ 1048576 := fun s hs => by
      have := core_bd ha hb hn hs
      unfold uC
      split <;> omega
    rcases he with rfl | rfl
    · have := rise_len (coreL a b n) (d - 1048641) (d + 1048577) (core_rise a b n) (fun q hq => by have := hK q hq; have := hu q hq; omega) (by omega)
      omega
    · have := rise_len (coreL a b n) (d - 1048576) (d + 1048642) (core_rise a b n) (fun q hq => by have := hK q hq; have := hu q hq; omega) (by omega)
      omega
end Go.Proofs.YtbkmgngeahmefaaGreat
end
