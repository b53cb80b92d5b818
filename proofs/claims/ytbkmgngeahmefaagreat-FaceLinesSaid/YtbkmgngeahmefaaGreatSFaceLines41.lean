/- Parts of the proof of FaceLines, laid together. Conditions: at each. -/
import Derived.Test.YtbkmgngeahmefaaGreatSFaceLines40
set_option linter.unusedVariables false
set_option linter.unusedSimpArgs false
namespace Go.Proofs.YtbkmgngeahmefaaGreat
theorem sm_y (a b : WinP) (x y : Int) : (y - a.y) * smL a b = smS a b x y * (b.y - a.y) + smC a b x y * (b.x - a.x) := by unfold smL smS smC; grind
theorem sm_x (a b : WinP) (x y : Int) : (x - a.x) * smL a b = smS a b x y * (b.x - a.x) - smC a b x y * (b.y - a.y) := by unfold smL smS smC; grind
theorem sq_bound {c w l m : Int} (hl : 0 < l) (hm : 0 ≤ m) (hc : c * c ≤ l * (m * m)) (hw : w * w ≤ l) : -(m * l) ≤ c * w ∧ c * w ≤ m * l := by
  have e : (c * w) * (c * w) = (c * c) * (w * w) := by grind
  have h1 : (c * c) * (w * w) ≤ (l * (m * m)) * l := Int.mul_le_mul hc hw (smq_nn w) (Int.mul_nonneg (by omega) (smq_nn m))
  have e2 : (l * (m * m)) * l = (m * l) * (m * l) := by grind
  rw [← e, e2] at h1
  have ml : 0 ≤ m * l := Int.mul_nonneg hm (by omega)
  constructor
  · apply Classical.byContradiction; intro k
    have := smq_lt (a := m * l) (b := -(c * w)) ml (by omega)
    rw [Int.neg_mul_neg] at this
    omega
  · apply Classical.byContradiction; intro k
    have := smq_lt (a := m * l) (b := c * w) ml (by omega)
    omega
theorem in_K {a b : WinP} {n x y : Int} (h : inS a b n x y) : smC a b x y * smC a b x y ≤ smK a b n ∧ 0 < smL a b := by
  obtain ⟨⟨h1, h2⟩, h3⟩ := h
  have hl : 0 < smL a b := by omega
  refine ⟨?_, hl⟩
  rcases h3 with h3 | h3 | h3
  · exact h3.2
  · rw [h3]
    unfold smK
    rw [show 128 * n * 128 * n = (128 * n) * (128 * n) by grind]
    have := Int.mul_nonneg (show 0 ≤ smL a b by omega) (smq_nn (128 * n))
    omega
  · omega
theorem part_bound {s l h : Int} (h0 : 0 ≤ s) (h1 : s < l) : min 0 h * l ≤ s * h ∧ s * h ≤ max 0 h * l := by
  by_cases k : 0 ≤ h
  · rw [show min 0 h = 0 by omega, show max 0 h = h by omega]
    have := Int.mul_nonneg h0 k
    have := Int.mul_le_mul_of_nonneg_right (show s ≤ l by omega) k
    rw [Int.mul_comm h l]
    omega
  · rw [show min 0 h = h by omega, show max 0 h = 0 by omega]
    have a1 := Int.mul_nonneg h0 (show 0 ≤ -h by omega)
    have a2 := Int.mul_le_mul_of_nonneg_right (show s ≤ l by omega) (show 0 ≤ -h by omega)
    rw [Int.mul_neg] at a1 a2
    rw [Int.mul_neg] at a2
    rw [Int.mul_comm h l]
    omega
theorem in_y {a b : WinP} {n x y : Int} (hn : 0 ≤ n) (h : inS a b n x y) : min a.y b.y - 128 * n ≤ y ∧ y ≤ max a.y b.y + 128 * n := by
  obtain ⟨hK, hl⟩ := in_K h
  obtain ⟨⟨h1, h2⟩, -⟩ := h
  have e := sm_y a b x y
  have hw : (b.x - a.x) * (b.x - a.x) ≤ smL a b := by have := smq_nn (b.y - a.y); unfold smL; omega
  have sb := sq_bound (c := smC a b x y) (w := b.x - a.x) (m := 128 * n) hl (by omega) (by unfold smK at hK; rw [show 128 * n * 128 * n = (128 * n) * (128 * n) by grind] at hK; exact hK) hw
  have pb := part_bound (h := b.y - a.y) h1 h2
  generalize smL a b = l at *
  generalize smS a b x y * (b.y - a.y) = S at *
  generalize smC a b x y * (b.x - a.x) = C at *
  have k1 : (y - a.y) * l ≤ (max 0 (b.y - a.y) + 128 * n) * l := by rw [Int.add_mul]; omega
  have k2 : (min 0 (b.y - a.y) - 128 * n) * l ≤ (y - a.y) * l := by rw [Int.sub_mul]; omega
  have j1 := Int.le_of_mul_le_mul_right k1 hl
  have j2 := Int.le_of_mul_le_mul_right k2 hl
  omega
theorem in_x {a b : WinP} {n x y : Int} (hn : 0 ≤ n) (h : inS a b n x y) : min a.x b.x - 128 * n ≤ x ∧ x ≤ max a.x b.x + 128 * n := by
  obtain ⟨hK, hl⟩ := in_K h
  obtain ⟨⟨h1, h2⟩, -⟩ := h
  have e := sm_x a b x y
  have hw : (b.y - a.y) * (b.y - a.y) ≤ smL a b := by have := smq_nn (b.x - a.x); unfold smL; omega
  have sb := sq_bound (c := smC a b x y) (w := b.y - a.y) (m := 128 * n) hl (by omega) (by unfold smK at hK; rw [show 128 * n * 128 * n = (128 * n) * (128 * n) by grind] at hK; exact hK) hw
  have pb := part_bound (h := b.x - a.x) h1 h2
  generalize smL a b = l at *
  generalize smS a b x y * (b.x - a.x) = S at *
  generalize smC a b x y * (b.y - a.y) = C at *
  have k1 : (x - a.x) * l ≤ (max 0 (b.x - a.x) + 128 * n) * l := by rw [Int.add_mul]; omega
  have k2 : (min 0 (b.x - a.x) - 128 * n) * l ≤ (x - a.x) * l := by rw [Int.sub_mul]; omega
  have j1 := Int.le_of_mul_le_mul_right k1 hl
  have j2 := Int.le_of_mul_le_mul_right k2 hl
  omega
theorem covN_none {a b : WinP} {n x y : Int} (hn : 0 ≤ n) (h : 256 * y + 240 < min a.y b.y - 128 * n ∨ max a.y b.y + 128 * n < 256 * y + 16 ∨ 256 * x + 240 < min a.x b.x - 128 * n ∨ max a.x b.x + 128 * n < 256 * x + 16) : covN a b n x y = 0 := by
  unfold covN covRow
  refine Eq.trans (sumTo_congr 8 fun k hk => ?_) (sumTo_zero 8)
  refine Eq.trans (sumTo_congr 8 fun i hi => if_neg fun hin => ?_) (sumTo_zero 8)
  have h1 := in_y hn hin
  have h2 := in_x hn hin
  omega
def smFr (a b : WinP) (n x y : Int) (v : Int → Int → Int × Int × Int × Int × Int) : FrP := ⟨x, y, (v x y).1, (v x y).2.1, (v x y).2.2.1, (v x y).2.2.2.1, (v x y).2.2.2.2, covN a b n x y⟩
def smRowL (a b : WinP) (n : Int) (v : Int → Int → Int × Int × Int × Int × Int) (x0 x y : Int) : List FrP := ((rng x0 x).filter (fun x => decide (covN a b n x y ≠ 0))).map (fun x => smFr a b n x y v)
def smTo (a b : WinP) (n : Int) (v : Int → Int → Int × Int × Int × Int × Int) (x0 x1 y0 y : Int) : List FrP := (rng y0 y).flatMap (smRowL a b n v x0 x1)
theorem smRowL_start (a b : WinP) (n : Int) (v : Int → Int → Int × Int × Int × Int × Int) (x0 x y : Int) (h : ∀ z, x0 ≤ z → z < x → covN a b n z y = 0) : smRowL a b n v x0 x y = [] := by
  unfold smRowL
  rw [List.map_eq_nil_iff, List.filter_eq_nil_iff]
  intro z hz
  obtain ⟨h1, h2⟩ := rng_mem.1 hz
  simp [h z h1 h2]
theorem smRowL_yes (a b : WinP) (n : Int) (v : Int → Int → Int × Int × Int × Int × Int) (x0 x y : Int) (h : x0 ≤ x) (hc : covN a b n x y ≠ 0) : smRowL a b n v x0 (x + 1) y = smRowL a b n v x0 x y ++ [smFr a b n x y v] := by
  unfold smRowL
  rw [rng_snoc h, List.filter_append, List.map_append]
  simp [hc]
theorem smRowL_no (a b : WinP) (n : Int) (v : Int → Int → Int × Int × Int × Int × Int) (x0 x y : Int) (h : x0 ≤ x) (hc : covN a b n x y = 0) : smRowL a b n v x0 (x + 1) y = smRowL a b n v x0 x y := by
  unfold smRowL
  rw [rng_snoc h, List.filter_append, List.map_append]
  simp [hc]
theorem smRowL_end (a b : WinP) (n : Int) (v : Int → Int → Int × Int × Int × Int × Int) (x0 x y : Int) (hx : x0 ≤ x) (m : Nat) (h : ∀ z, x ≤ z → z < x + m → covN a b n z y = 0) : smRowL a b n v x0 (x + m) y = smRowL a b n v x0 x y := by
  induction m with
  | zero => simp
  | succ m ih => rw [show x + ((m + 1 : Nat) : Int) = (x + m) + 1 by omega, smRowL_no a b n v x0 (x + m) y (by omega) (h _ (by omega) (by omega)), ih fun z h1 h2 => h z h1 (by omega)]
theorem smTo_snoc (a b : WinP) (n : Int) (v : Int → Int → Int × Int × Int × Int × Int) (x0 x1 y0 y : Int) (h : y0 ≤ y) : smTo a b n v x0 x1 y0 (y + 1) = smTo a b n v x0 x1 y0 y ++ smRowL a b n v x0 x1 y := by
  unfold smTo; rw [rng_snoc h, List.flatMap_append, List.flatMap_cons, List.flatMap_nil, List.append_nil]
theorem smTo_start (a b : WinP) (n : Int) (v : Int → Int → Int × Int × Int × Int × Int) (x0 x1 y0 y : Int) (h : ∀ z, y0 ≤ z → z < y → ∀ x, covN a b n x z = 0) : smTo a b n v x0 x1 y0 y = [] := by
  unfold smTo
  rw [List.flatMap_eq_nil_iff]
  intro z hz
  obtain ⟨h1, h2⟩ := rng_mem.1 hz
  exact smRowL_start a b n v x0 x1 z fun x _ _ => h z h1 h2 x
theorem smTo_end (a b : WinP) (n : Int) (v : Int → Int → Int × Int × Int × Int × Int) (x0 x1 y0 y : Int) (hy : y0 ≤ y) (m : Nat) (h : ∀ z, y ≤ z → z < y + m → ∀ x, covN a b n x z = 0) : smTo a b n v x0 x1 y0 (y + m) = smTo a b n v x0 x1 y0 y := by
  induction m with
  | zero => simp
  | succ m ih => rw [show y + ((m + 1 : Nat) : Int) = (y + m) + 1 by omega, smTo_snoc a b n v x0 x1 y0 (y + m) (by omega), ih fun z h1 h2 => h z h1 (by omega), smRowL_start a b n v x0 x1 (y + m) fun x _ _ => h _ (by omega) (by omega) x, List.append_nil]
structure Band (a b : WinP) (n x0 y0 x1 y1 L R O I : Int) : Prop where
  l : L = max x0 ((min a.x b.x - n * 128) / 256 - 1)
  r : R = min x1 ((max a.x b.x + n * 128) / 256 + 2)
  o : O = max y0 ((min a.y b.y - n * 128) / 256 - 1)
  i : I = min y1 ((max a.y b.y + n * 128) / 256 + 2)
section
variable {a b : WinP} {n x0 y0 x1 y1 L R O I : Int} {v : Int → Int → Int × Int × Int × Int × Int}
theorem Band.col (h : Band a b n x0 y0 x1 y1 L R O I) (hn : 0 ≤ n) (x y : Int) (h0 : x0 ≤ x) (h1 : x < x1) (hx : x < L ∨ R ≤ x) : covN a b n x y = 0 := by
  obtain ⟨rfl, rfl, -, -⟩ := h
  exact covN_none hn (by omega)
theorem Band.row (h : Band a b n x0 y0 x1 y1 L R O I) (hn : 0 ≤ n) (x y : Int) (h0 : y0 ≤ y) (h1 : y < y1) (hy : y < O ∨ I ≤ y) : covN a b n x y = 0 := by
  obtain ⟨-, -, rfl, rfl⟩ := h
  exact covN_none hn (by omega)
theorem Band.none (h : Band a b n x0 y0 x1 y1 L R O I) (hn : 0 ≤ n) (hL : R ≤ L) : smTo a b n v x0 x1 y0 y1 = [] := by
  unfold smTo
  rw [List.flatMap_eq_nil_iff]
  intro z hz
  exact smRowL_start a b n v x0 x1 z fun x h0 h1 => h.col hn x z h0 h1 (by omega)
theorem Band.start (h : Band a b n x0 y0 x1 y1 L R O I) (hn : 0 ≤ n) (hy : y0 < y1) : smTo a b n v x0 x1 y0 (min O y1) = [] :=
  smTo_start a b n v x0 x1 y0 _ fun z h0 h1 x => h.row hn x z h0 (by omega) (by omega)
theorem Band.stop (h : Band a b n x0 y0 x1 y1 L R O I) (hn : 0 ≤ n) (y : Int) (h0 : y0 ≤ y) (h1 : y ≤ y1) (hy : I ≤ y) : smTo a b n v x0 x1 y0 y = smTo a b n v x0 x1 y0 y1 := by
  have := smTo_end a b n v x0 x1 y0 y h0 (y1 - y).toNat fun z k0 k1 x => h.row hn x z (by omega) (by omega) (by omega)
  rw [show y + ((y1 - y).toNat : Int) = y1 by omega] at this
  exact this.symm
theorem Band.left (h : Band a b n x0 y0 x1 y1 L R O I) (hn : 0 ≤ n) (hl : L < R) (y : Int) : smRowL a b n v x0 L y = [] :=
  smRowL_start a b n v x0 L y fun z h0 h1 => h.col hn z y h0 (by have := h.r; omega) (by omega)
theorem Band.right (h : Band a b n x0 y0 x1 y1 L R O I) (hn : 0 ≤ n) (hl : L < R) (y : Int) : smRowL a b n v x0 R y = smRowL a b n v x0 x1 y := by
  have hR : R ≤ x1 := by have := h.r; omega
  have hL : x0 ≤ L := by have := h.l; omega
  have := smRowL_end a b n v x0 R y (by omega) (x1 - R).toNat fun z k0 k1 => h.col hn z y (by omega) (by omega) (by omega)
  rw [show R + ((x1 - R).toNat : Int) = x1 by omega] at this
  exact this.symm
end
theorem smRowL_len (a b : WinP) (n : Int) (v : Int → Int → Int × Int × Int × Int × Int) (x0 x y : Int) : (smRowL a b n v x0 x y).length ≤ (x - x0).toNat := by
  unfold smRowL
  rw [List.length_map, ← rng_len x0 x]
  exact List.length_filter_le _ _
theorem smTo_len (a b : WinP) (n : Int) (v : Int → Int → Int × Int × Int × Int × Int) (x0 x1 y0 y : Int) : (smTo a b n v x0 x1 y0 y).length ≤ (x1 - x0).toNat * (y - y0).toNat := by
  unfold smTo
  rw [← rng_len y0 y]
  induction rng y0 y with
  | nil => simp
  | cons z l ih =>
    rw [List.flatMap_cons, List.length_append, List.length_cons, Nat.mul_succ]
    have := smRowL_len a b n v x0 x1 z
    omega
end Go.Proofs.YtbkmgngeahmefaaGreat
