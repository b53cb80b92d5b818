/- The plain laws of layer 18's statements: parts, moves, wider lines, lesser rectangles. No condition. -/
import Derived.Test.YtamfjfnceeagiaaSmoI
namespace Go.Proofs.Ytamfjfnceeagiaa
set_option linter.unusedVariables false
set_option linter.unusedSimpArgs false
/-- On the strip's width. -/
def Str (c K : Int) : Prop := (0 < c ∧ c * c ≤ K) ∨ c = 0 ∨ (c < 0 ∧ c * c < K)
theorem Str_times {t c K : Int} (ht : 0 < t) : Str (t * c) (t * t * K) ↔ Str c K := by
  have tt : 0 < t * t := Int.mul_pos ht ht
  have e : t * c * (t * c) = t * t * (c * c) := by grind
  have k1 : 0 < t * c ↔ 0 < c := by
    constructor
    · intro h; apply Classical.byContradiction; intro k
      have := Int.mul_nonneg (show 0 ≤ t by omega) (show 0 ≤ -c by omega)
      rw [Int.mul_neg] at this; omega
    · intro h; exact Int.mul_pos ht h
  have k2 : t * c < 0 ↔ c < 0 := by
    constructor
    · intro h; apply Classical.byContradiction; intro k
      have := Int.mul_nonneg (show 0 ≤ t by omega) (show 0 ≤ c by omega)
      omega
    · intro h
      have := Int.mul_pos ht (show 0 < -c by omega)
      rw [Int.mul_neg] at this; omega
  have k3 : t * t * (c * c) ≤ t * t * K ↔ c * c ≤ K := Int.mul_le_mul_left tt
  have k4 : t * t * (c * c) < t * t * K ↔ c * c < K := Int.mul_lt_mul_left tt
  unfold Str
  rw [e, k1, k2, k3, k4]
  have k5 : t * c = 0 ↔ c = 0 := by omega
  rw [k5]
theorem inS_times {a b : WinP} {n x y dx dy t : Int} (ht : 0 ≤ t) (hx : b.x - a.x = t * dx) (hy : b.y - a.y = t * dy) :
    inS a b n x y ↔ (0 ≤ (x - a.x) * dx + (y - a.y) * dy ∧ (x - a.x) * dx + (y - a.y) * dy < t * (dx * dx + dy * dy)) ∧ Str (dx * (y - a.y) - dy * (x - a.x)) ((dx * dx + dy * dy) * (128 * n * 128 * n)) := by
  have e1 : smS a b x y = t * ((x - a.x) * dx + (y - a.y) * dy) := by unfold smS; rw [hx, hy]; grind
  have e2 : smC a b x y = t * (dx * (y - a.y) - dy * (x - a.x)) := by unfold smC; rw [hx, hy]; grind
  have e3 : smL a b = t * (t * (dx * dx + dy * dy)) := by unfold smL; rw [hx, hy]; grind
  have e4 : smK a b n = t * t * ((dx * dx + dy * dy) * (128 * n * 128 * n)) := by unfold smK; rw [e3]; grind
  have e : inS a b n x y ↔ (0 ≤ smS a b x y ∧ smS a b x y < smL a b) ∧ Str (smC a b x y) (smK a b n) := Iff.rfl
  rw [e, e1, e2, e3, e4]
  generalize (x - a.x) * dx + (y - a.y) * dy = s
  generalize dx * (y - a.y) - dy * (x - a.x) = c
  generalize dx * dx + dy * dy = D
  by_cases h0 : t = 0
  · subst h0; simp only [Int.zero_mul]; omega
  · have tp : 0 < t := by omega
    rw [Str_times tp]
    have k1 : 0 ≤ t * s ↔ 0 ≤ s := by
      constructor
      · intro h; apply Classical.byContradiction; intro k
        have := Int.mul_pos tp (show 0 < -s by omega)
        rw [Int.mul_neg] at this; omega
      · intro h; exact Int.mul_nonneg ht h
    have k2 : t * s < t * (t * D) ↔ s < t * D := Int.mul_lt_mul_left tp
    rw [k1, k2]
theorem smp_parts {a b c : WinP} {n x y dx dy m k : Int} (hm : 0 ≤ m) (hk : 0 ≤ k) (cx : c.x = a.x + m * dx) (cy : c.y = a.y + m * dy) (bx : b.x = c.x + k * dx) (by_ : b.y = c.y + k * dy) :
    smp a b n x y = smp a c n x y + smp c b n x y := by
  have i1 := inS_times (a := a) (b := b) (n := n) (x := x) (y := y) (dx := dx) (dy := dy) (t := m + k) (by omega) (by rw [Int.add_mul]; omega) (by rw [Int.add_mul]; omega)
  have i2 := inS_times (a := a) (b := c) (n := n) (x := x) (y := y) (dx := dx) (dy := dy) (t := m) (by omega) (by omega) (by omega)
  have i3 := inS_times (a := c) (b := b) (n := n) (x := x) (y := y) (dx := dx) (dy := dy) (t := k) (by omega) (by omega) (by omega)
  have e1 : (x - c.x) * dx + (y - c.y) * dy = ((x - a.x) * dx + (y - a.y) * dy) - m * (dx * dx + dy * dy) := by rw [cx, cy]; grind
  have e2 : dx * (y - c.y) - dy * (x - c.x) = dx * (y - a.y) - dy * (x - a.x) := by rw [cx, cy]; grind
  rw [e1, e2] at i3
  rw [Int.add_mul] at i1
  have hD : 0 ≤ dx * dx + dy * dy := by have := smq_nn dx; have := smq_nn dy; omega
  have m0 := Int.mul_nonneg hm hD
  have k0 := Int.mul_nonneg hk hD
  generalize (x - a.x) * dx + (y - a.y) * dy = s at *
  generalize Str (dx * (y - a.y) - dy * (x - a.x)) ((dx * dx + dy * dy) * (128 * n * 128 * n)) = Q at *
  generalize m * (dx * dx + dy * dy) = M at *
  generalize k * (dx * dx + dy * dy) = K at *
  unfold smp
  by_cases hQ : Q
  · simp only [hQ, and_true] at i1 i2 i3
    by_cases c1 : inS a c n x y
    · have c2 : ¬ inS c b n x y := by rw [i3]; have := i2.1 c1; omega
      have c3 : inS a b n x y := by rw [i1]; have := i2.1 c1; omega
      rw [if_pos c1, if_neg c2, if_pos c3]
    · by_cases c2 : inS c b n x y
      · have c3 : inS a b n x y := by rw [i1]; have := i3.1 c2; omega
        rw [if_neg c1, if_pos c2, if_pos c3]
      · have c3 : ¬ inS a b n x y := by
          rw [i1]; intro h
          have n1 : ¬ (0 ≤ s ∧ s < M) := fun q => c1 (i2.2 q)
          have n2 : ¬ (0 ≤ s - M ∧ s - M < K) := fun q => c2 (i3.2 q)
          omega
        rw [if_neg c1, if_neg c2, if_neg c3]
  · simp only [hQ, and_false, iff_false] at i1 i2 i3
    rw [if_neg i1, if_neg i2, if_neg i3]
theorem covN_parts {a b c : WinP} {n dx dy m k : Int} (hm : 0 ≤ m) (hk : 0 ≤ k) (cx : c.x = a.x + m * dx) (cy : c.y = a.y + m * dy) (bx : b.x = c.x + k * dx) (by_ : b.y = c.y + k * dy) (x y : Int) :
    covN a b n x y = covN a c n x y + covN c b n x y := by
  unfold covN covRow
  rw [← sumTo_add]
  refine sumTo_congr 8 fun i _ => ?_
  rw [← sumTo_add]
  exact sumTo_congr 8 fun j _ => smp_parts hm hk cx cy bx by_
/-- A fragment that is moved. -/
def FrP.move (p q : Int) (f : FrP) : FrP := ⟨f.x + p, f.y + q, f.z, f.c0, f.c1, f.c2, f.c3, f.cov⟩
structure Moved (a b a' b' : WinP) (p q : Int) : Prop where
  ax : a'.x = a.x + 256 * p
  ay : a'.y = a.y + 256 * q
  bx : b'.x = b.x + 256 * p
  y2 : b'.y = b.y + 256 * q
section
variable {a b a' b' : WinP} {p q : Int}
theorem Moved.in_ (h : Moved a b a' b' p q) (n x y : Int) : inS a' b' n (x + 256 * p) (y + 256 * q) ↔ inS a b n x y := by
  obtain ⟨h1, h2, h3, h4⟩ := h
  unfold inS smS smC smK smL
  rw [h1, h2, h3, h4]
  rw [show x + 256 * p - (a.x + 256 * p) = x - a.x by omega, show y + 256 * q - (a.y + 256 * q) = y - a.y by omega, show b.x + 256 * p - (a.x + 256 * p) = b.x - a.x by omega, show b.y + 256 * q - (a.y + 256 * q) = b.y - a.y by omega]
theorem Moved.cov (h : Moved a b a' b' p q) (n x y : Int) : covN a' b' n (x + p) (y + q) = covN a b n x y := by
  unfold covN covRow
  refine sumTo_congr 8 fun i _ => sumTo_congr 8 fun j _ => ?_
  unfold smp
  have := h.in_ n (32 * (8 * x + j) + 16) (256 * y + 32 * i + 16)
  rw [show 32 * (8 * (x + p) + (j : Int)) + 16 = 32 * (8 * x + j) + 16 + 256 * p by omega, show 256 * (y + q) + 32 * (i : Int) + 16 = 256 * y + 32 * i + 16 + 256 * q by omega]
  by_cases k : inS a b n (32 * (8 * x + j) + 16) (256 * y + 32 * i + 16)
  · rw [if_pos k, if_pos (this.2 k)]
  · rw [if_neg k, if_neg (fun k' => k (this.1 k'))]
theorem Moved.ac (h : Moved a b a' b' p q) (x y : Int) : acN a' b' (x + p) (y + q) = acN a b x y ∧ acD a' b' = acD a b := by
  obtain ⟨h1, h2, h3, h4⟩ := h
  unfold acN acD
  rw [h1, h2, h3, h4]
  rw [show (x + p) * 256 + 128 - (a.x + 256 * p) = x * 256 + 128 - a.x by omega, show (y + q) * 256 + 128 - (a.y + 256 * q) = y * 256 + 128 - a.y by omega, show b.x + 256 * p - (a.x + 256 * p) = b.x - a.x by omega, show b.y + 256 * q - (a.y + 256 * q) = b.y - a.y by omega]
  exact ⟨rfl, rfl⟩
structure Alike (a a' : WinP) : Prop where
  z : a'.z = a.z
  c0 : a'.c0 = a.c0
  c1 : a'.c1 = a.c1
  c2 : a'.c2 = a.c2
  c3 : a'.c3 = a.c3
theorem Moved.fr (h : Moved a b a' b' p q) (ha : Alike a a') (hb : Alike b b') (n x y : Int) : smFr a' b' n (x + p) (y + q) (smV a' b') = (smFr a b n x y (smV a b)).move p q := by
  obtain ⟨e1, e2⟩ := h.ac x y
  obtain ⟨z1, z2, z3, z4, z5⟩ := ha
  obtain ⟨y1, y2, y3, y4, y5⟩ := hb
  unfold smFr smV FrP.move
  rw [h.cov, e1, e2, z1, z2, z3, z4, z5, y1, y2, y3, y4, y5]
theorem rng_move (x0 x1 p : Int) : rng (x0 + p) (x1 + p) = (rng x0 x1).map (· + p) := by
  unfold rng
  rw [show x1 + p - (x0 + p) = x1 - x0 by omega, List.map_map]
  exact List.map_congr_left fun i _ => by simp only [Function.comp]; omega
theorem Moved.row (h : Moved a b a' b' p q) (ha : Alike a a') (hb : Alike b b') (n x0 x1 y : Int) : smRowL a' b' n (smV a' b') (x0 + p) (x1 + p) (y + q) = (smRowL a b n (smV a b) x0 x1 y).map (FrP.move p q) := by
  unfold smRowL
  rw [rng_move, List.filter_map, List.map_map, List.map_map]
  have : ((fun x => decide (covN a' b' n x (y + q) ≠ 0)) ∘ fun x => x + p) = fun x => decide (covN a b n x y ≠ 0) := by
    funext x; simp only [Function.comp, h.cov]
  rw [this]
  exact List.map_congr_left fun x _ => h.fr ha hb n x y
theorem Moved.to (h : Moved a b a' b' p q) (ha : Alike a a') (hb : Alike b b') (n x0 y0 x1 y1 : Int) : smTo a' b' n (smV a' b') (x0 + p) (x1 + p) (y0 + q) (y1 + q) = (smTo a b n (smV a b) x0 x1 y0 y1).map (FrP.move p q) := by
  unfold smTo
  rw [rng_move, List.flatMap_map, List.map_flatMap]
  congr 1
  funext y
  exact h.row ha hb n x0 x1 y
end
theorem smK_wider {a b : WinP} {n m : Int} (hn : 0 ≤ n) (h : n ≤ m) : smK a b n ≤ smK a b m := by
  unfold smK
  refine Int.mul_le_mul_of_nonneg_left ?_ (by unfold smL; have := smq_nn (b.x - a.x); have := smq_nn (b.y - a.y); omega)
  have := smq_le (a := 128 * n) (b := 128 * m) (by omega) (by omega)
  rw [show 128 * n * 128 * n = (128 * n) * (128 * n) by grind, show 128 * m * 128 * m = (128 * m) * (128 * m) by grind]
  exact this
theorem inS_wider {a b : WinP} {n m x y : Int} (hn : 0 ≤ n) (h : n ≤ m) (hi : inS a b n x y) : inS a b m x y := by
  have := smK_wider (a := a) (b := b) hn h
  obtain ⟨h1, h2⟩ := hi
  refine ⟨h1, ?_⟩
  omega
theorem sumTo_mono {f g : Nat → Nat} (h : ∀ i, f i ≤ g i) : ∀ n, sumTo f n ≤ sumTo g n
  | 0 => Nat.le_refl _
  | n + 1 => by rw [sumTo, sumTo]; exact Nat.add_le_add (sumTo_mono h n) (h n)
theorem covN_wider {a b : WinP} {n m : Int} (hn : 0 ≤ n) (h : n ≤ m) (x y : Int) : covN a b n x y ≤ covN a b m x y := by
  unfold covN covRow
  refine sumTo_mono (fun i => sumTo_mono (fun j => ?_) 8) 8
  unfold smp
  split
  · rw [if_pos (inS_wider hn h (by assumption))]; exact Nat.le_refl _
  · exact Nat.zero_le _
theorem smRowL_mem {a b : WinP} {n x0 x1 y : Int} {v : Int → Int → Int × Int × Int × Int × Int} {f : FrP} : f ∈ smRowL a b n v x0 x1 y ↔ ∃ x, (x0 ≤ x ∧ x < x1) ∧ covN a b n x y ≠ 0 ∧ f = smFr a b n x y v := by
  unfold smRowL
  simp only [List.mem_map, List.mem_filter, rng_mem, decide_eq_true_eq]
  constructor
  · rintro ⟨x, ⟨h1, h2⟩, rfl⟩; exact ⟨x, h1, h2, rfl⟩
  · rintro ⟨x, h1, h2, rfl⟩; exact ⟨x, ⟨h1, h2⟩, rfl⟩
theorem smTo_mem {a b : WinP} {n x0 y0 x1 y1 : Int} {v : Int → Int → Int × Int × Int × Int × Int} {f : FrP} : f ∈ smTo a b n v x0 x1 y0 y1 ↔ ∃ x y, (x0 ≤ x ∧ x < x1 ∧ y0 ≤ y ∧ y < y1) ∧ covN a b n x y ≠ 0 ∧ f = smFr a b n x y v := by
  unfold smTo
  simp only [List.mem_flatMap, rng_mem, smRowL_mem]
  constructor
  · rintro ⟨y, hy, x, hx, hc, rfl⟩; exact ⟨x, y, by omega, hc, rfl⟩
  · rintro ⟨x, y, h, hc, rfl⟩; exact ⟨y, by omega, x, by omega, hc, rfl⟩
/-- Rising by Y, then by X. -/
def FrP.lt (f g : FrP) : Prop := f.y < g.y ∨ f.y = g.y ∧ f.x < g.x
theorem FrP.lt_irrefl (f : FrP) : ¬ f.lt f := by unfold FrP.lt; omega
theorem FrP.lt_trans {f g h : FrP} (h1 : f.lt g) (h2 : g.lt h) : f.lt h := by unfold FrP.lt at *; omega
/-- Rising lists with the same members are the same. -/
theorem rise_extF {L M : List FrP} (hL : L.Pairwise FrP.lt) (hM : M.Pairwise FrP.lt) (h : ∀ f, f ∈ L ↔ f ∈ M) : L = M := by
  induction L generalizing M with
  | nil =>
    cases M with
    | nil => rfl
    | cons g M => exact absurd ((h g).2 List.mem_cons_self) (by simp)
  | cons f L ih =>
    cases M with
    | nil => exact absurd ((h f).1 List.mem_cons_self) (by simp)
    | cons g M =>
      rw [List.pairwise_cons] at hL hM
      have e : f = g := by
        rcases List.mem_cons.1 ((h f).1 List.mem_cons_self) with e | e
        · exact e
        · rcases List.mem_cons.1 ((h g).2 List.mem_cons_self) with e' | e'
          · exact e'.symm
          · exact absurd (FrP.lt_trans (hL.1 g e') (hM.1 f e)) (FrP.lt_irrefl f)
      subst e
      congr 1
      refine ih hL.2 hM.2 fun k => ⟨fun hk => ?_, fun hk => ?_⟩
      · rcases List.mem_cons.1 ((h k).1 (List.mem_cons_of_mem _ hk)) with e | e
        · subst e; exact absurd (hL.1 k hk) (FrP.lt_irrefl k)
        · exact e
      · rcases List.mem_cons.1 ((h k).2 (List.mem_cons_of_mem _ hk)) with e | e
        · subst e; exact absurd (hM.1 k hk) (FrP.lt_irrefl k)
        · exact e
theorem rng_rise (a b : Int) : (rng a b).Pairwise (· < ·) := by
  unfold rng
  rw [List.pairwise_map]
  exact List.pairwise_lt_range.imp (fun h => by omega)
theorem smRowL_rise (a b : WinP) (n x0 x1 y : Int) (v : Int → Int → Int × Int × Int × Int × Int) : (smRowL a b n v x0 x1 y).Pairwise FrP.lt := by
  unfold smRowL
  rw [List.pairwise_map]
  exact ((rng_rise x0 x1).filter _).imp (fun h => .inr ⟨rfl, h⟩)
theorem smTo_rise (a b : WinP) (n x0 x1 y0 y1 : Int) (v : Int → Int → Int × Int × Int × Int × Int) : (smTo a b n v x0 x1 y0 y1).Pairwise FrP.lt := by
  unfold smTo
  rw [List.pairwise_flatMap]
  refine ⟨fun y _ => smRowL_rise a b n x0 x1 y v, (rng_rise y0 y1).imp fun {y y'} h f hf g hg => ?_⟩
  obtain ⟨x, -, -, rfl⟩ := smRowL_mem.1 hf
  obtain ⟨x', -, -, rfl⟩ := smRowL_mem.1 hg
  exact .inl h
/-- What a lesser rectangle shows. -/
theorem smTo_less (a b : WinP) (n x0 y0 x1 y1 p0 q0 p1 q1 : Int) (v : Int → Int → Int × Int × Int × Int × Int) (h : x0 ≤ p0 ∧ y0 ≤ q0 ∧ p1 ≤ x1 ∧ q1 ≤ y1) :
    smTo a b n v p0 p1 q0 q1 = (smTo a b n v x0 x1 y0 y1).filter (fun f => decide (p0 ≤ f.x ∧ f.x < p1 ∧ q0 ≤ f.y ∧ f.y < q1)) := by
  refine rise_extF (smTo_rise ..) ((smTo_rise ..).filter _) fun f => ?_
  rw [List.mem_filter, smTo_mem, smTo_mem]
  simp only [decide_eq_true_eq]
  constructor
  · rintro ⟨x, y, h1, h2, rfl⟩; exact ⟨⟨x, y, by omega, h2, rfl⟩, by simpa only [smFr] using h1⟩
  · rintro ⟨⟨x, y, h1, h2, rfl⟩, h3⟩; exact ⟨x, y, by simpa only [smFr] using h3, h2, rfl⟩
theorem filter_get {α : Type} (p : α → Bool) (L : List α) (k : Nat) (f : α) (hf : L[k]? = some f) (hp : p f = true) : (L.filter p)[((L.take k).filter p).length]? = some f := by
  obtain ⟨hk, rfl⟩ := List.getElem?_eq_some_iff.1 hf
  have e : L = L.take k ++ L[k] :: L.drop (k + 1) := by rw [← List.drop_eq_getElem_cons hk, List.take_append_drop]
  have e2 : L.filter p = (L.take k).filter p ++ L[k] :: (L.drop (k + 1)).filter p := by
    have := congrArg (List.filter p) e
    rw [List.filter_append, List.filter_cons_of_pos hp] at this
    exact this
  rw [e2, List.getElem?_append_right (Nat.le_refl _), Nat.sub_self]; rfl
theorem filter_next {α : Type} (p : α → Bool) (L : List α) (k : Nat) (f : α) (hf : L[k]? = some f) : ((L.take (k + 1)).filter p).length = ((L.take k).filter p).length + (if p f then 1 else 0) := by
  obtain ⟨hk, rfl⟩ := List.getElem?_eq_some_iff.1 hf
  rw [List.take_add_one, List.getElem?_eq_getElem hk, List.filter_append, List.length_append]
  by_cases h : p L[k] = true
  · simp [h]
  · simp [h]
theorem filter_full {α : Type} (p : α → Bool) (L : List α) : ((L.take L.length).filter p).length = (L.filter p).length := by rw [List.take_length]
end Go.Proofs.Ytamfjfnceeagiaa
