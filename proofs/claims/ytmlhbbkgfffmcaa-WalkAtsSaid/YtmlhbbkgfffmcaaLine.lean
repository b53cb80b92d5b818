/- The plain law of a line's pixels (layer 14), with no program in sight. No condition. -/
import Derived.Test.YtmlhbbkgfffmcaaWalkE
namespace Go.Proofs.Ytmlhbbkgfffmcaa
set_option linter.unusedVariables false
set_option linter.unusedSimpArgs false
/-- The point is in the diamond of the pixel i, k. -/
theorem in_ins (x y i k : Int) : (inOk x y = true ∧ inX x y = i ∧ inY x y = k) ↔ insP (x - 256 * i - 128) (y - 256 * k - 128) := by
  unfold inX inY insP
  cases h : inOk x y
  · unfold inOk at h; rw [decide_eq_false_iff_not] at h
    simp only [Bool.false_eq_true, if_false, false_and, false_iff]; omega
  · unfold inOk at h; rw [decide_eq_true_iff] at h
    simp only [if_true, true_and]
    split <;> omega
/-- How a line goes: so much along, so much across; what a boundary counts to. -/
structure Slope (t : Bool) (D E back : Int) : Prop where
  pos : 0 < D
  le : E ≤ D
  ge : -D ≤ E
  lt : t = true → -D < E ∧ E < D
  back1 : t = true ∨ E ≤ 0 → back = 1
  back0 : t = false → 0 < E → back = 0
theorem Slope.b01 {t : Bool} {D E back : Int} (S : Slope t D E back) : back = 0 ∧ t = false ∧ 0 < E ∨ back = 1 ∧ (t = true ∨ E ≤ 0) := by
  cases t
  · by_cases h : 0 < E
    · exact Or.inl ⟨S.back0 rfl h, rfl, h⟩
    · exact Or.inr ⟨S.back1 (Or.inr (by omega)), Or.inr (by omega)⟩
  · exact Or.inr ⟨S.back1 (Or.inl rfl), Or.inl rfl⟩
/-- In a diamond, along and across from its middle. -/
def ins (t : Bool) (pu pv : Int) : Prop := insP (if t then pv else pu) (if t then pu else pv)
theorem ins_f (pu pv : Int) : ins false pu pv ↔ insP pu pv := Iff.rfl
theorem ins_t (pu pv : Int) : ins true pu pv ↔ insP pv pu := Iff.rfl
def Mid (D back r : Int) : Prop := -128 * D ≤ r - back ∧ r - back < 128 * D
theorem pm {a b c : Int} (h : a ≤ b) (c0 : 0 ≤ c) : a * c ≤ b * c := Int.mul_le_mul_of_nonneg_right h c0
theorem ins_mid {t : Bool} {D E back pu pv : Int} (S : Slope t D E back) (h : ins t pu pv) : Mid D back (pv * D - E * pu) := by
  have e : 2 * (pv * D - E * pu) = (pu + pv) * (D - E) - (pu - pv) * (D + E) := by grind
  have d0 : 0 ≤ D - E := by have := S.le; omega
  have d1 : 0 ≤ D + E := by have := S.ge; omega
  have p0 := S.pos
  unfold Mid
  rcases S.b01 with ⟨b, rfl, hE⟩ | ⟨b, hE⟩
  · obtain ⟨h1, h2, h3, h4⟩ := (ins_f pu pv).1 h
    have q1 := pm (a := pu + pv) (b := 128) (by omega) d0
    have q2 := pm (a := -127) (b := pu + pv) (by omega) d0
    have q3 := pm (a := pu - pv) (b := 128) (by omega) d1
    have q4 := pm (a := -127) (b := pu - pv) (by omega) d1
    omega
  · cases t
    · obtain ⟨h1, h2, h3, h4⟩ := (ins_f pu pv).1 h
      have hE : E ≤ 0 := by rcases hE with h | h; cases h; exact h
      have q1 := pm (a := pu + pv) (b := 128) (by omega) d0
      have q2 := pm (a := -127) (b := pu + pv) (by omega) d0
      have q3 := pm (a := pu - pv) (b := 128) (by omega) d1
      have q4 := pm (a := -127) (b := pu - pv) (by omega) d1
      omega
    · obtain ⟨h1, h2, h3, h4⟩ := (ins_t pu pv).1 h
      have q1 := pm (a := pu + pv) (b := 128) (by omega) d0
      have q2 := pm (a := -127) (b := pu + pv) (by omega) d0
      have q3 := pm (a := pu - pv) (b := 127) (by omega) d1
      have q4 := pm (a := -128) (b := pu - pv) (by omega) d1
      omega
theorem mul_pos_lt {D a b : Int} (hD : 0 < D) (h : D * a < D * b) : a < b := Int.lt_of_mul_lt_mul_left h (by omega)
/-- Between a point of the diamond and its middle lie points of the diamond. -/
theorem ins_near {t : Bool} {D E back pu pv qu qv : Int} (S : Slope t D E back) (h : ins t pu pv) (hr : qv * D - E * qu = pv * D - E * pu) (ho : pu ≤ qu ∧ qu ≤ 0 ∨ 0 < qu ∧ qu ≤ pu) : ins t qu qv := by
  have hM := ins_mid S h
  have p0 := S.pos
  have d0 : 0 ≤ D - E := by have := S.le; omega
  have d1 : 0 ≤ D + E := by have := S.ge; omega
  obtain ⟨r, er⟩ : ∃ r, pv * D - E * pu = r := ⟨_, rfl⟩
  rw [er] at hM hr
  obtain ⟨m0, m1⟩ := hM
  have a1 : D * (qu + qv) = qu * (D + E) + r := by grind
  have a2 : D * (qu - qv) = qu * (D - E) - r := by grind
  have a3 : D * (pu + pv) = pu * (D + E) + r := by grind
  have a4 : D * (pu - pv) = pu * (D - E) - r := by grind
  have key : ∀ a b : Int, (D * a < D * b → a < b) := fun a b h => mul_pos_lt p0 h
  have s1 := key (-128) (qu + qv)
  have s2 := key (qu + qv) 129
  have s3 := key (-129) (qu - qv)
  have s4 := key (-128) (qu - qv)
  have s5 := key (qu - qv) 128
  have s6 := key (qu - qv) 129
  have z1 : D * (-128) = -(128 * D) := by grind
  have z2 : D * 128 = 128 * D := by grind
  have z3 : D * (-129) = -(128 * D) - D := by grind
  have z4 : D * 129 = 128 * D + D := by grind
  have k1 : ∀ a b : Int, a ≤ b → D * a ≤ D * b := fun a b h => Int.mul_le_mul_of_nonneg_left h (by omega)
  rcases S.b01 with ⟨b, rfl, hE⟩ | ⟨b, hE⟩
  · rw [ins_f] at h ⊢
    obtain ⟨h1, h2, h3, h4⟩ := h
    have g1 := k1 (-127) (pu + pv) (by omega)
    have g2 := k1 (pu + pv) 128 (by omega)
    have g3 := k1 (-127) (pu - pv) (by omega)
    have g4 := k1 (pu - pv) 128 (by omega)
    have z5 : D * (-127) = -(128 * D) + D := by grind
    rcases ho with ⟨o1, o2⟩ | ⟨o1, o2⟩
    · have q1 := pm o1 d1; have q2 := pm o1 d0; have q3 := pm o2 d1; have q4 := pm o2 d0
      unfold insP; omega
    · have q1 := pm o2 d1; have q2 := pm o2 d0; have q3 := pm (show 1 ≤ qu by omega) d1; have q4 := pm (show 1 ≤ qu by omega) d0
      unfold insP; omega
  · cases t
    · have hE : E ≤ 0 := by rcases hE with h | h; cases h; exact h
      rw [ins_f] at h ⊢
      obtain ⟨h1, h2, h3, h4⟩ := h
      have g1 := k1 (-127) (pu + pv) (by omega)
      have g2 := k1 (pu + pv) 128 (by omega)
      have g3 := k1 (-127) (pu - pv) (by omega)
      have g4 := k1 (pu - pv) 128 (by omega)
      have z5 : D * (-127) = -(128 * D) + D := by grind
      rcases ho with ⟨o1, o2⟩ | ⟨o1, o2⟩
      · have q1 := pm o1 d1; have q2 := pm o1 d0; have q3 := pm o2 d1; have q4 := pm o2 d0
        unfold insP; omega
      · have q1 := pm o2 d1; have q2 := pm o2 d0; have q3 := pm (show 1 ≤ qu by omega) d1; have q4 := pm (show 1 ≤ qu by omega) d0
        unfold insP; omega
    · have hl := S.lt rfl
      rw [ins_t] at h ⊢
      obtain ⟨h1, h2, h3, h4⟩ := h
      have g1 := k1 (-127) (pu + pv) (by omega)
      have g2 := k1 (pu + pv) 128 (by omega)
      have g3 := k1 (-128) (pu - pv) (by omega)
      have g4 := k1 (pu - pv) 127 (by omega)
      have z5 : D * (-127) = -(128 * D) + D := by grind
      have z6 : D * 127 = 128 * D - D := by grind
      rcases ho with ⟨o1, o2⟩ | ⟨o1, o2⟩
      · have q1 := pm o1 d1; have q2 := pm o1 d0; have q3 := pm o2 d1; have q4 := pm o2 d0
        unfold insP; omega
      · have q1 := pm o2 d1; have q2 := pm o2 d0; have q3 := pm (show 1 ≤ qu by omega) d1; have q4 := pm (show 1 ≤ qu by omega) d0
        unfold insP; omega
def leastC (u : Int) : Int := (u + 127) / 256
def uC (t : Bool) (x y : Int) : Int := if t then y else x
def vC (t : Bool) (x y : Int) : Int := if t then x else y
def iC (t : Bool) (x y : Int) : Int := if t then inY x y else inX x y
def kC (t : Bool) (x y : Int) : Int := if t then inX x y else inY x y
theorem in_insC (t : Bool) (x y i k : Int) : (inOk x y = true ∧ iC t x y = i ∧ kC t x y = k) ↔ ins t (uC t x y - 256 * i - 128) (vC t x y - 256 * k - 128) := by
  cases t
  · exact in_ins x y i k
  · rw [ins_t]
    exact Iff.trans ⟨fun ⟨a, b, c⟩ => ⟨a, c, b⟩, fun ⟨a, b, c⟩ => ⟨a, c, b⟩⟩ (in_ins x y k i)
theorem iC_or (t : Bool) (x y : Int) (h : inOk x y = true) : (iC t x y = leastC (uC t x y) ∧ uC t x y ≤ 256 * iC t x y + 128) ∨ (iC t x y = leastC (uC t x y) - 1 ∧ 256 * iC t x y + 128 < uC t x y) := by
  have := (in_insC t x y (iC t x y) (kC t x y)).1 ⟨h, rfl, rfl⟩
  obtain ⟨i, hi⟩ : ∃ i, iC t x y = i := ⟨_, rfl⟩
  rw [hi] at this ⊢
  unfold leastC
  cases t
  · obtain ⟨h1, h2, h3, h4⟩ := (ins_f _ _).1 this; omega
  · obtain ⟨h1, h2, h3, h4⟩ := (ins_t _ _).1 this; omega
theorem leastC_mono {u v : Int} (h : u ≤ v) : leastC u ≤ leastC v := by unfold leastC; omega
/-- The way is as a line's way is. -/
def Way.Good (W : Way) : Prop := Slope W.turned W.du W.dv W.back
def Way.On (W : Way) (cu cv : Int) : Prop := W.du * (cv - W.av) = W.dv * (cu - W.au)
theorem on_a (W : Way) : W.On W.au W.av := by unfold Way.On; grind
theorem on_b (W : Way) : W.On W.bu W.bv := by unfold Way.On Way.du Way.dv; split <;> grind
theorem div_iff (n d k : Int) (hd : 0 < d) : n / d = k ↔ k * d ≤ n ∧ n < (k + 1) * d := by
  rw [Int.ediv_eq_iff_of_pos hd, Int.add_mul]; omega
theorem across_iff {W : Way} (g : W.Good) (i k cu cv : Int) (o : W.On cu cv) : W.across i = k ↔ Mid W.du W.back ((cv - 256 * k - 128) * W.du - W.dv * (cu - 256 * i - 128)) := by
  have p0 := Slope.pos g
  unfold Way.across
  rw [div_iff _ _ _ (by unfold Way.den; omega)]
  unfold Way.On at o
  unfold Way.num Way.den Mid
  obtain ⟨D, hD⟩ : ∃ D, W.du = D := ⟨_, rfl⟩
  obtain ⟨E, hE⟩ : ∃ E, W.dv = E := ⟨_, rfl⟩
  obtain ⟨b, hb⟩ : ∃ b, W.back = b := ⟨_, rfl⟩
  rw [hD, hE] at o
  rw [hD, hE, hb]
  have e1 : (cv - 256 * k - 128) * D - E * (cu - 256 * i - 128) = W.av * D + E * (256 * i + 128 - W.au) - k * (256 * D) - 128 * D := by grind
  have e2 : (k + 1) * (256 * D) = k * (256 * D) + 256 * D := by grind
  rw [e1, e2]
  obtain ⟨T, hT⟩ : ∃ T, W.av * D + E * (256 * i + 128 - W.au) = T := ⟨_, rfl⟩
  obtain ⟨K, hK⟩ : ∃ T, k * (256 * D) = T := ⟨_, rfl⟩
  rw [hT, hK]
  omega
theorem across_in {W : Way} (g : W.Good) (x y : Int) (o : W.On (uC W.turned x y) (vC W.turned x y)) (h : inOk x y = true) : W.across (iC W.turned x y) = kC W.turned x y :=
  (across_iff g _ _ _ _ o).2 (ins_mid g ((in_insC W.turned x y _ _).1 ⟨h, rfl, rfl⟩))
/-- Between a point in a diamond and the diamond's middle the line stays in it. -/
theorem Way.near {W : Way} (g : W.Good) {x y x' y' : Int} (o : W.On (uC W.turned x y) (vC W.turned x y)) (o' : W.On (uC W.turned x' y') (vC W.turned x' y')) (h : inOk x y = true)
    (ho : uC W.turned x y ≤ uC W.turned x' y' ∧ uC W.turned x' y' ≤ 256 * iC W.turned x y + 128 ∨ 256 * iC W.turned x y + 128 < uC W.turned x' y' ∧ uC W.turned x' y' ≤ uC W.turned x y) :
    inOk x' y' = true ∧ iC W.turned x' y' = iC W.turned x y ∧ kC W.turned x' y' = kC W.turned x y := by
  have hi := (in_insC W.turned x y _ _).1 ⟨h, rfl, rfl⟩
  rw [in_insC]
  refine ins_near g hi ?_ (by omega)
  unfold Way.On at o o'
  grind
def posU (t : Bool) (x y : Int) : Int := leastC (uC t x y) - if inOk x y = true ∧ iC t x y = leastC (uC t x y) - 1 then 1 else 0
def posD (t : Bool) (x y : Int) : Int := leastC (uC t x y) - if inOk x y = true ∧ iC t x y = leastC (uC t x y) then 0 else 1
theorem posU_le {W : Way} (g : W.Good) {x y x' y' : Int} (o : W.On (uC W.turned x y) (vC W.turned x y)) (o' : W.On (uC W.turned x' y') (vC W.turned x' y')) (h : uC W.turned x y ≤ uC W.turned x' y') : posU W.turned x y ≤ posU W.turned x' y' := by
  have hm := leastC_mono h
  unfold posU
  by_cases c : inOk x' y' = true ∧ iC W.turned x' y' = leastC (uC W.turned x' y') - 1
  · rw [if_pos c]
    by_cases e : leastC (uC W.turned x y) = leastC (uC W.turned x' y')
    · have := iC_or W.turned x' y' c.1
      have n := Way.near g o' o c.1 (by right; unfold leastC at e this c; omega)
      rw [if_pos ⟨n.1, by omega⟩]; omega
    · split <;> omega
  · rw [if_neg c]; split <;> omega
theorem posD_le {W : Way} (g : W.Good) {x y x' y' : Int} (o : W.On (uC W.turned x y) (vC W.turned x y)) (o' : W.On (uC W.turned x' y') (vC W.turned x' y')) (h : uC W.turned x y ≤ uC W.turned x' y') : posD W.turned x y ≤ posD W.turned x' y' := by
  have hm := leastC_mono h
  unfold posD
  by_cases c : inOk x y = true ∧ iC W.turned x y = leastC (uC W.turned x y)
  · rw [if_pos c]
    by_cases e : leastC (uC W.turned x y) = leastC (uC W.turned x' y')
    · have := iC_or W.turned x y c.1
      have n := Way.near g o o' c.1 (by left; unfold leastC at e this c; omega)
      rw [if_pos ⟨n.1, by omega⟩]; omega
    · split <;> omega
  · rw [if_neg c]; split <;> omega
/-- A step of a line: its number, its pixel. -/
structure St where
  K : Int
  X : Int
  Y : Int
def turnP (ax ay bx y2 : Int) : Prop := max (bx - ax) (-(bx - ax)) < max (y2 - ay) (-(y2 - ay))
instance (ax ay bx y2 : Int) : Decidable (turnP ax ay bx y2) := by unfold turnP; exact inferInstance
/-- Both above 0, or both below. -/
def signP (w h : Int) : Prop := (0 < w ∧ 0 < h) ∨ (w < 0 ∧ h < 0)
instance (w h : Int) : Decidable (signP w h) := by unfold signP; exact inferInstance
def backOf (ax ay bx y2 : Int) : Int := if ¬ turnP ax ay bx y2 ∧ signP (bx - ax) (y2 - ay) then 0 else 1
def wayZ (t : Bool) (back ax ay bx y2 z : Int) : Way := ⟨uC t ax ay, vC t ax ay, uC t bx y2, vC t bx y2, t, back, leastC (uC t ax ay) - z, leastC (uC t bx y2) - z, false, false, 0, 0⟩
def mkWay0 (ax ay bx y2 : Int) : Way := wayZ (decide (turnP ax ay bx y2)) (backOf ax ay bx y2) ax ay bx y2 (if leastC (uC (decide (turnP ax ay bx y2)) bx y2) < leastC (uC (decide (turnP ax ay bx y2)) ax ay) then 1 else 0)
def mkWay (ax ay bx y2 : Int) : Way := (mkWay0 ax ay bx y2).ended ax ay bx y2
theorem wayZ_good (ax ay bx y2 z : Int) (h : ¬ (ax = bx ∧ ay = y2)) : (wayZ (decide (turnP ax ay bx y2)) (backOf ax ay bx y2) ax ay bx y2 z).Good := by
  unfold Way.Good wayZ Way.du Way.dv backOf
  by_cases t : turnP ax ay bx y2
  · simp only [t, decide_true, uC, vC, if_true, not_true, false_and, if_false]
    unfold turnP at t
    split
    · refine ⟨by omega, by omega, by omega, fun _ => by omega, fun _ => rfl, fun h => by cases h⟩
    · refine ⟨by omega, by omega, by omega, fun _ => by omega, fun _ => rfl, fun h => by cases h⟩
  · simp only [t, decide_false, uC, vC, Bool.false_eq_true, if_false, not_false_iff, true_and]
    unfold turnP at t
    by_cases c : signP (bx - ax) (y2 - ay)
    · rw [if_pos c]; unfold signP at c
      split
      · refine ⟨by omega, by omega, by omega, (fun h => by cases h), (fun h => h.elim (fun h => by cases h) (fun h => by omega)), fun _ _ => rfl⟩
      · refine ⟨by omega, by omega, by omega, (fun h => by cases h), (fun h => h.elim (fun h => by cases h) (fun h => by omega)), fun _ _ => rfl⟩
    · rw [if_neg c]; unfold signP at c
      split
      · refine ⟨by omega, by omega, by omega, (fun h => by cases h), fun _ => rfl, fun _ h => by omega⟩
      · refine ⟨by omega, by omega, by omega, (fun h => by cases h), fun _ => rfl, fun _ h => by omega⟩
/-- The middles that it crosses, less the last one's pixel if it ends in it. -/
def Way.len (W : Way) : Int := W.size - if W.opn = true then 1 else 0
def Way.cell (W : Way) (k u : Int) : St := ⟨k, W.px u (W.across u), W.py u (W.across u)⟩
/-- The pixels, as the program has them. -/
def Way.line (W : Way) : List St := (if W.extra = true then [⟨0, W.px W.u W.v, W.py W.u W.v⟩] else []) ++ (List.range W.len.toNat).map (fun j : Nat => W.cell ((if W.extra = true then 1 else 0) + (j : Int)) (W.first + (j : Int) * W.step))
/-- So many pixels from one place on. -/
def Way.run (W : Way) (s σ N : Int) : List St := (List.range N.toNat).map (fun j : Nat => W.cell (j : Int) (s + (j : Int) * σ))
theorem run_cons (W : Way) (s σ N : Int) (h : 0 ≤ N) : W.run s σ (N + 1) = W.cell 0 s :: (List.range N.toNat).map (fun j : Nat => W.cell (1 + (j : Int)) (s + σ + (j : Int) * σ)) := by
  unfold Way.run
  rw [show (N + 1).toNat = N.toNat + 1 from by omega, List.range_succ_eq_map, List.map_cons, List.map_map]
  congr 1
  · congr 1; simp
  · apply List.map_congr_left
    intro j _
    show W.cell ((j + 1 : Nat) : Int) (s + ((j + 1 : Nat) : Int) * σ) = _
    rw [Int.natCast_add, Int.add_mul]
    congr 1 <;> simp <;> omega
theorem run_zero (W : Way) (s σ N : Int) (h : N ≤ 0) : W.run s σ N = [] := by
  unfold Way.run; rw [show N.toNat = 0 from by omega]; rfl
/-- What the pixels are, once it is known what the ends add and take away. -/
theorem line_of (W : Way) (s N : Int) (e o : Int)
    (hE : W.extra = true ∧ e = 1 ∧ W.v = W.across W.u ∧ W.u = s ∨ W.extra = false ∧ e = 0) (hO : W.len = N - e) (hN : 0 ≤ N - e) (hs : N = e ∨ W.first = s + e * W.step) :
    W.line = W.run s W.step N := by
  rcases hE with ⟨h1, rfl, h2, h3⟩ | ⟨h1, rfl⟩
  · unfold Way.line
    rw [if_pos h1, if_pos h1, hO]
    have := run_cons W s W.step (N - 1) hN
    rw [show N - 1 + 1 = N from by omega] at this
    rw [this, List.cons_append, List.nil_append]
    congr 1
    · unfold Way.cell; rw [h2, h3]
    · rcases hs with rfl | hs
      · rfl
      · rw [hs, Int.one_mul]
  · unfold Way.line Way.run
    rw [if_neg (by rw [h1]; simp), if_neg (by rw [h1]; simp), hO]
    rcases hs with rfl | hs
    · rfl
    · rw [hs]; simp
theorem ended_eq (W : Way) (h1 : W.extra = false) (h2 : W.opn = false) (ax ay bx y2 : Int) :
    W.ended ax ay bx y2 = { W with extra := decide (W.endA ax ay bx y2), opn := decide (W.endB bx y2 ∧ W.across (iC W.turned bx y2) = kC W.turned bx y2), u := if W.endA ax ay bx y2 then iC W.turned ax ay else W.u, v := if W.endA ax ay bx y2 then kC W.turned ax ay else W.v } := by
  unfold Way.ended Way.ended2 Way.ended1
  by_cases a : W.endA ax ay bx y2
  · by_cases b : W.endB bx y2
    · simp only [a, b, if_true, decide_true, true_and]; rfl
    · simp only [a, b, if_true, if_false, decide_true, false_and, decide_false, ← h2]; rfl
  · by_cases b : W.endB bx y2
    · simp only [a, b, if_true, if_false, decide_true, true_and, decide_false, ← h1]; rfl
    · simp only [a, b, if_false, false_and, decide_false]
      cases W
      simp only at h1 h2
      subst h1; subst h2; rfl
theorem core_up {PA PB EA OB : Prop} {i k i' k' La Lb ua ub : Int} (f : Int → Int) (hm : La ≤ Lb) (h : ua < ub)
    (la : ua ≤ 256 * La + 128 ∧ 256 * La - 128 < ua) (lb : ub ≤ 256 * Lb + 128 ∧ 256 * Lb - 128 < ub)
    (A : PA → (i = La ∧ ua ≤ 256 * i + 128) ∨ (i = La - 1 ∧ 256 * i + 128 < ua)) (B : PB → (i' = Lb ∧ ub ≤ 256 * i' + 128) ∨ (i' = Lb - 1 ∧ 256 * i' + 128 < ub))
    (NA : PA → (ua ≤ ub ∧ ub ≤ 256 * i + 128 ∨ 256 * i + 128 < ub ∧ ub ≤ ua) → PB ∧ i' = i ∧ k' = k)
    (NB : PB → (ub ≤ ua ∧ ua ≤ 256 * i' + 128 ∨ 256 * i' + 128 < ua ∧ ua ≤ ub) → PA ∧ i = i' ∧ k = k')
    (XA : PA → f i = k) (XB : PB → f i' = k')
    (hEA : EA ↔ PA ∧ (Lb - La = 0 ∨ i ≠ La) ∧ ¬ (PB ∧ i = i' ∧ k = k'))
    (hOB : OB ↔ (0 < Lb - La ∧ PB ∧ i' = Lb - 1) ∧ f i' = k') :
    (EA ↔ (PA ∧ i = La - 1) ∧ ¬ (Lb = La ∧ PB ∧ i' = Lb - 1)) ∧ (OB ↔ La < Lb ∧ PB ∧ i' = Lb - 1) ∧ (Lb = La → PB ∧ i' = Lb - 1 → PA ∧ i = La - 1) := by
  rw [hEA, hOB]; clear hEA hOB
  by_cases a : PA
  · replace A := A a; replace NA := NA a; replace XA := XA a
    by_cases b : PB
    · replace B := B b; replace NB := NB b; replace XB := XB b
      by_cases e : i = i'
      · subst e; rw [XA] at XB
        refine ⟨⟨fun ⟨_, q1, q2⟩ => absurd ⟨b, rfl, XB⟩ q2, fun ⟨⟨_, q1⟩, q2⟩ => ⟨a, by omega, fun q => q2 ⟨by omega, b, by omega⟩⟩⟩, ⟨fun q => ⟨by omega, b, q.1.2.2⟩, fun q => ⟨⟨by omega, b, q.2.2⟩, by omega⟩⟩, fun _ _ => ⟨a, by omega⟩⟩
      · refine ⟨⟨fun ⟨_, q1, q2⟩ => ⟨⟨a, by omega⟩, fun ⟨q3, _, q4⟩ => by omega⟩, fun ⟨⟨_, q1⟩, q2⟩ => ⟨a, by omega, fun q => e q.2.1⟩⟩, ⟨fun q => ⟨by omega, b, q.1.2.2⟩, fun q => ⟨⟨by omega, b, q.2.2⟩, XB⟩⟩, fun _ _ => ⟨a, by omega⟩⟩
    · have NA' : ¬ (ua ≤ ub ∧ ub ≤ 256 * i + 128 ∨ 256 * i + 128 < ub ∧ ub ≤ ua) := fun c => b (NA c).1
      refine ⟨⟨fun ⟨_, q1, q2⟩ => ⟨⟨a, by omega⟩, fun q => b q.2.1⟩, fun ⟨⟨_, q1⟩, q2⟩ => ⟨a, by omega, fun q => b q.1⟩⟩, ⟨fun q => absurd q.1.2.1 b, fun q => absurd q.2.1 b⟩, fun _ q => absurd q.1 b⟩
  · refine ⟨⟨fun q => absurd q.1 a, fun q => absurd q.1.1 a⟩, ⟨fun q => ⟨by omega, q.1.2.1, q.1.2.2⟩, fun q => ⟨⟨by omega, q.2.1, q.2.2⟩, XB q.2.1⟩⟩, fun q1 ⟨q2, q3⟩ => ?_⟩
    have NB' : ¬ (ub ≤ ua ∧ ua ≤ 256 * i' + 128 ∨ 256 * i' + 128 < ua ∧ ua ≤ ub) := fun c => a (NB q2 c).1
    exfalso; omega
theorem leastC_is (u : Int) : u ≤ 256 * leastC u + 128 ∧ 256 * leastC u - 128 < u := by unfold leastC; omega
theorem core_up2 {EA OB A1 B1 : Prop} [Decidable EA] [Decidable OB] [Decidable A1] [Decidable B1] {La Lb n first step : Int}
    (hm : La ≤ Lb) (hn : n = Lb - La) (hf : first = La) (hs : step = 1)
    (k : (EA ↔ A1 ∧ ¬ (Lb = La ∧ B1)) ∧ (OB ↔ La < Lb ∧ B1) ∧ (Lb = La → B1 → A1)) :
    (EA → A1) ∧ (EA → La - (if A1 then 1 else 0) = La - 1) ∧ (n - (if OB then 1 else 0) = (Lb - (if B1 then 1 else 0)) - (La - (if A1 then 1 else 0)) - (if EA then 1 else 0)) ∧ 0 ≤ (Lb - (if B1 then 1 else 0)) - (La - (if A1 then 1 else 0)) - (if EA then 1 else 0) ∧ ((Lb - (if B1 then 1 else 0)) - (La - (if A1 then 1 else 0)) = (if EA then 1 else 0) ∨ first = La - (if A1 then 1 else 0) + (if EA then 1 else 0) * step) := by
  obtain ⟨k1, k2, k3⟩ := k
  subst hn hf hs
  by_cases a : A1
  · by_cases b : B1
    · by_cases c : Lb = first
      · have x1 : ¬ EA := fun h => (k1.1 h).2 ⟨c, b⟩
        have x2 : ¬ OB := fun h => by have := (k2.1 h).1; omega
        simp only [if_pos a, if_pos b, if_neg x1, if_neg x2]
        refine ⟨fun _ => ?_, fun _ => ?_, ?_, ?_, ?_⟩ <;> first | exact trivial | assumption | contradiction | omega
      · have x1 : EA := k1.2 ⟨a, fun h => c h.1⟩
        have x2 : OB := k2.2 ⟨by omega, b⟩
        simp only [if_pos a, if_pos b, if_pos x1, if_pos x2]
        refine ⟨fun _ => ?_, fun _ => ?_, ?_, ?_, ?_⟩ <;> first | exact trivial | assumption | contradiction | omega
    · have x1 : EA := k1.2 ⟨a, fun h => b h.2⟩
      have x2 : ¬ OB := fun h => b (k2.1 h).2
      simp only [if_pos a, if_neg b, if_pos x1, if_neg x2]
      refine ⟨fun _ => ?_, fun _ => ?_, ?_, ?_, ?_⟩ <;> first | exact trivial | assumption | contradiction | omega
  · have x1 : ¬ EA := fun h => a (k1.1 h).1
    by_cases b : B1
    · have c : Lb ≠ first := fun h => a (k3 h b)
      have x2 : OB := k2.2 ⟨by omega, b⟩
      simp only [if_neg a, if_pos b, if_neg x1, if_pos x2]
      refine ⟨fun _ => ?_, fun _ => ?_, ?_, ?_, ?_⟩ <;> first | exact trivial | assumption | contradiction | omega
    · have x2 : ¬ OB := fun h => b (k2.1 h).2
      simp only [if_neg a, if_neg b, if_neg x1, if_neg x2]
      refine ⟨fun _ => ?_, fun _ => ?_, ?_, ?_, ?_⟩ <;> first | exact trivial | assumption | contradiction | omega
theorem line_up {W : Way} (g : W.Good) (h1 : W.extra = false) (h2 : W.opn = false) (ax ay bx y2 : Int) (ea : W.au = uC W.turned ax ay) (eb : W.av = vC W.turned ax ay) (ec : W.bu = uC W.turned bx y2) (ed : W.bv = vC W.turned bx y2)
    (h : W.au < W.bu) (hf : W.first = leastC W.au) (hl : W.last = leastC W.bu) :
    (W.ended ax ay bx y2).line = W.run (posU W.turned ax ay) 1 (posU W.turned bx y2 - posU W.turned ax ay) := by
  have oa : W.On (uC W.turned ax ay) (vC W.turned ax ay) := by rw [← ea, ← eb]; exact on_a W
  have ob : W.On (uC W.turned bx y2) (vC W.turned bx y2) := by rw [← ec, ← ed]; exact on_b W
  have hm := leastC_mono (Int.le_of_lt h)
  have hstep : W.step = 1 := by unfold Way.step; rw [if_neg (by omega)]
  have hsize : W.size = leastC W.bu - leastC W.au := by unfold Way.size; omega
  have XA := across_in g ax ay oa
  have K := core_up (PA := inOk ax ay = true) (PB := inOk bx y2 = true) (EA := W.endA ax ay bx y2) (OB := W.endB bx y2 ∧ W.across (iC W.turned bx y2) = kC W.turned bx y2)
    (i := iC W.turned ax ay) (k := kC W.turned ax ay) (i' := iC W.turned bx y2) (k' := kC W.turned bx y2) (ua := W.au) (ub := W.bu) W.across hm h (leastC_is _) (leastC_is _)
    (by rw [ea]; exact iC_or W.turned ax ay) (by rw [ec]; exact iC_or W.turned bx y2) (by rw [ea, ec]; exact Way.near g oa ob) (by rw [ea, ec]; exact Way.near g ob oa)
    XA (across_in g bx y2 ob)
    (by rw [← hsize, ← hf]; exact Iff.rfl) (by rw [← hsize, ← hl, ← hstep]; exact Iff.rfl)
  replace K := core_up2 (n := W.size) (first := W.first) (step := W.step) hm hsize hf hstep K
  rw [ended_eq W h1 h2]
  unfold posU
  rw [← ea, ← ec]
  clear h1 h2
  have e1 : ∀ s N, W.run s 1 N = W.run s W.step N := fun s N => by rw [hstep]
  rw [e1]
  refine line_of _ _ _ (if W.endA ax ay bx y2 then 1 else 0) 0 ?_ ?_ ?_ ?_
  · by_cases c : W.endA ax ay bx y2
    · left
      refine ⟨decide_eq_true c, if_pos c, ?_, ?_⟩
      · show (if W.endA ax ay bx y2 then _ else _) = W.across (if W.endA ax ay bx y2 then _ else _)
        rw [if_pos c, if_pos c]; exact (XA (K.1 c).1).symm
      · show (if W.endA ax ay bx y2 then _ else _) = _
        rw [if_pos c]; have := K.1 c; rw [if_pos this]; exact this.2
    · right; exact ⟨decide_eq_false c, if_neg c⟩
  · show W.size - (if decide (W.endB bx y2 ∧ W.across (iC W.turned bx y2) = kC W.turned bx y2) = true then 1 else 0) = _
    simp only [decide_eq_true_iff]
    exact K.2.2.1
  · exact K.2.2.2.1
  · exact K.2.2.2.2
theorem run_one (W : Way) (s σ σ' N : Int) (h : N ≤ 1) : W.run s σ N = W.run s σ' N := by
  by_cases h0 : N ≤ 0
  · rw [run_zero _ _ _ _ h0, run_zero _ _ _ _ h0]
  · have : N = 0 + 1 := by omega
    rw [this, run_cons _ _ _ _ (by omega), run_cons _ _ _ _ (by omega)]
    rfl
theorem core_down {PA PB EA OB : Prop} {i k i' k' La Lb ua ub first last step : Int} (f : Int → Int) (hm : Lb ≤ La) (h : ub < ua)
    (la : ua ≤ 256 * La + 128 ∧ 256 * La - 128 < ua) (lb : ub ≤ 256 * Lb + 128 ∧ 256 * Lb - 128 < ub)
    (hfl : Lb < La ∧ first = La - 1 ∧ last = Lb - 1 ∧ step = -1 ∨ La = Lb ∧ first = La)
    (A : PA → (i = La ∧ ua ≤ 256 * i + 128) ∨ (i = La - 1 ∧ 256 * i + 128 < ua)) (B : PB → (i' = Lb ∧ ub ≤ 256 * i' + 128) ∨ (i' = Lb - 1 ∧ 256 * i' + 128 < ub))
    (NA : PA → (ua ≤ ub ∧ ub ≤ 256 * i + 128 ∨ 256 * i + 128 < ub ∧ ub ≤ ua) → PB ∧ i' = i ∧ k' = k)
    (NB : PB → (ub ≤ ua ∧ ua ≤ 256 * i' + 128 ∨ 256 * i' + 128 < ua ∧ ua ≤ ub) → PA ∧ i = i' ∧ k = k')
    (XA : PA → f i = k) (XB : PB → f i' = k')
    (hEA : EA ↔ PA ∧ (La - Lb = 0 ∨ i ≠ first) ∧ ¬ (PB ∧ i = i' ∧ k = k'))
    (hOB : OB ↔ (0 < La - Lb ∧ PB ∧ i' = last - step) ∧ f i' = k') :
    (EA ↔ (PA ∧ i = La) ∧ ¬ (Lb = La ∧ PB ∧ i' = Lb)) ∧ (OB ↔ Lb < La ∧ PB ∧ i' = Lb) ∧ (Lb = La → PB ∧ i' = Lb → PA ∧ i = La) := by
  rw [hEA, hOB]; clear hEA hOB
  by_cases a : PA
  · replace A := A a; replace NA := NA a; replace XA := XA a
    by_cases b : PB
    · replace B := B b; replace NB := NB b; replace XB := XB b
      by_cases e : i = i'
      · subst e; rw [XA] at XB
        refine ⟨⟨fun ⟨_, q1, q2⟩ => absurd ⟨b, rfl, XB⟩ q2, fun ⟨⟨_, q1⟩, q2⟩ => ⟨a, by omega, fun q => q2 ⟨by omega, b, by omega⟩⟩⟩, ⟨fun q => ⟨by omega, b, by omega⟩, fun q => ⟨⟨by omega, b, by omega⟩, by omega⟩⟩, fun _ _ => ⟨a, by omega⟩⟩
      · refine ⟨⟨fun ⟨_, q1, q2⟩ => ⟨⟨a, by omega⟩, fun ⟨q3, _, q4⟩ => by omega⟩, fun ⟨⟨_, q1⟩, q2⟩ => ⟨a, by omega, fun q => e q.2.1⟩⟩, ⟨fun q => ⟨by omega, b, by omega⟩, fun q => ⟨⟨by omega, b, by omega⟩, XB⟩⟩, fun _ _ => ⟨a, by omega⟩⟩
    · have NA' : ¬ (ua ≤ ub ∧ ub ≤ 256 * i + 128 ∨ 256 * i + 128 < ub ∧ ub ≤ ua) := fun c => b (NA c).1
      refine ⟨⟨fun ⟨_, q1, q2⟩ => ⟨⟨a, by omega⟩, fun q => b q.2.1⟩, fun ⟨⟨_, q1⟩, q2⟩ => ⟨a, by omega, fun q => b q.1⟩⟩, ⟨fun q => absurd q.1.2.1 b, fun q => absurd q.2.1 b⟩, fun _ q => absurd q.1 b⟩
  · refine ⟨⟨fun q => absurd q.1 a, fun q => absurd q.1.1 a⟩, ⟨fun q => ⟨by omega, q.1.2.1, by omega⟩, fun q => ⟨⟨by omega, q.2.1, by omega⟩, XB q.2.1⟩⟩, fun q1 ⟨q2, q3⟩ => ?_⟩
    have NB' : ¬ (ub ≤ ua ∧ ua ≤ 256 * i' + 128 ∨ 256 * i' + 128 < ua ∧ ua ≤ ub) := fun c => a (NB q2 c).1
    exfalso; omega
theorem core_down2 {EA OB A1 B1 : Prop} [Decidable EA] [Decidable OB] [Decidable A1] [Decidable B1] {La Lb n first step : Int}
    (hm : Lb ≤ La) (hn : n = La - Lb) (hf : Lb < La ∧ first = La - 1 ∧ step = -1 ∨ La = Lb ∧ first = La)
    (k : (EA ↔ A1 ∧ ¬ (Lb = La ∧ B1)) ∧ (OB ↔ Lb < La ∧ B1) ∧ (Lb = La → B1 → A1)) :
    (EA → A1) ∧ (EA → La - (if A1 then 0 else 1) = La) ∧ (n - (if OB then 1 else 0) = (La - (if A1 then 0 else 1)) - (Lb - (if B1 then 0 else 1)) - (if EA then 1 else 0)) ∧ 0 ≤ (La - (if A1 then 0 else 1)) - (Lb - (if B1 then 0 else 1)) - (if EA then 1 else 0) ∧
      ((La - (if A1 then 0 else 1)) - (Lb - (if B1 then 0 else 1)) = (if EA then 1 else 0) ∨ step = -1 ∧ first = La - (if A1 then 0 else 1) + (if EA then 1 else 0) * step) := by
  obtain ⟨k1, k2, k3⟩ := k
  subst hn
  by_cases a : A1
  · by_cases b : B1
    · by_cases c : Lb = La
      · have x1 : ¬ EA := fun h => (k1.1 h).2 ⟨c, b⟩
        have x2 : ¬ OB := fun h => by have := (k2.1 h).1; omega
        simp only [if_pos a, if_pos b, if_neg x1, if_neg x2]
        refine ⟨fun _ => ?_, fun _ => ?_, ?_, ?_, ?_⟩ <;> first | exact trivial | assumption | contradiction | omega
      · have x1 : EA := k1.2 ⟨a, fun h => c h.1⟩
        have x2 : OB := k2.2 ⟨by omega, b⟩
        simp only [if_pos a, if_pos b, if_pos x1, if_pos x2]
        refine ⟨fun _ => ?_, fun _ => ?_, ?_, ?_, ?_⟩ <;> first | exact trivial | assumption | contradiction | omega
    · have x1 : EA := k1.2 ⟨a, fun h => b h.2⟩
      have x2 : ¬ OB := fun h => b (k2.1 h).2
      simp only [if_pos a, if_neg b, if_pos x1, if_neg x2]
      refine ⟨fun _ => ?_, fun _ => ?_, ?_, ?_, ?_⟩ <;> first | exact trivial | assumption | contradiction | omega
  · have x1 : ¬ EA := fun h => a (k1.1 h).1
    by_cases b : B1
    · have c : Lb ≠ La := fun h => a (k3 h b)
      have x2 : OB := k2.2 ⟨by omega, b⟩
      simp only [if_neg a, if_pos b, if_neg x1, if_pos x2]
      refine ⟨fun _ => ?_, fun _ => ?_, ?_, ?_, ?_⟩ <;> first | exact trivial | assumption | contradiction | omega
    · have x2 : ¬ OB := fun h => b (k2.1 h).2
      simp only [if_neg a, if_neg b, if_neg x1, if_neg x2]
      refine ⟨fun _ => ?_, fun _ => ?_, ?_, ?_, ?_⟩ <;> first | exact trivial | assumption | contradiction | omega
theorem line_down {W : Way} (g : W.Good) (h1 : W.extra = false) (h2 : W.opn = false) (ax ay bx y2 : Int) (ea : W.au = uC W.turned ax ay) (eb : W.av = vC W.turned ax ay) (ec : W.bu = uC W.turned bx y2) (ed : W.bv = vC W.turned bx y2)
    (h : W.bu < W.au) (hfl : leastC W.bu < leastC W.au ∧ W.first = leastC W.au - 1 ∧ W.last = leastC W.bu - 1 ∨ leastC W.au = leastC W.bu ∧ W.first = leastC W.au ∧ W.last = W.first) :
    (W.ended ax ay bx y2).line = W.run (posD W.turned ax ay) (-1) (posD W.turned ax ay - posD W.turned bx y2) := by
  have oa : W.On (uC W.turned ax ay) (vC W.turned ax ay) := by rw [← ea, ← eb]; exact on_a W
  have ob : W.On (uC W.turned bx y2) (vC W.turned bx y2) := by rw [← ec, ← ed]; exact on_b W
  have hm := leastC_mono (Int.le_of_lt h)
  have hfs : leastC W.bu < leastC W.au ∧ W.first = leastC W.au - 1 ∧ W.last = leastC W.bu - 1 ∧ W.step = -1 ∨ leastC W.au = leastC W.bu ∧ W.first = leastC W.au := by
    rcases hfl with q | q
    · left; refine ⟨q.1, q.2.1, q.2.2, ?_⟩
      unfold Way.step; rw [if_pos (by omega)]
    · right; exact ⟨q.1, q.2.1⟩
  have hsize : W.size = leastC W.au - leastC W.bu := by unfold Way.size; omega
  have XA := across_in g ax ay oa
  have K := core_down (PA := inOk ax ay = true) (PB := inOk bx y2 = true) (EA := W.endA ax ay bx y2) (OB := W.endB bx y2 ∧ W.across (iC W.turned bx y2) = kC W.turned bx y2)
    (i := iC W.turned ax ay) (k := kC W.turned ax ay) (i' := iC W.turned bx y2) (k' := kC W.turned bx y2) (ua := W.au) (ub := W.bu) W.across hm h (leastC_is _) (leastC_is _) hfs
    (by rw [ea]; exact iC_or W.turned ax ay) (by rw [ec]; exact iC_or W.turned bx y2) (by rw [ea, ec]; exact Way.near g oa ob) (by rw [ea, ec]; exact Way.near g ob oa)
    XA (across_in g bx y2 ob)
    (by rw [← hsize]; exact Iff.rfl) (by rw [← hsize]; exact Iff.rfl)
  replace K := core_down2 (n := W.size) (first := W.first) (step := W.step) hm hsize (hfs.elim (fun q => Or.inl ⟨q.1, q.2.1, q.2.2.2⟩) Or.inr) K
  rw [ended_eq W h1 h2]
  unfold posD
  rw [← ea, ← ec]
  clear h1 h2
  have e1 : ∀ s N, N ≤ 1 ∨ W.step = -1 → W.run s (-1) N = W.run s W.step N := fun s N q => by
    rcases q with q | q
    · exact run_one W s _ _ N q
    · rw [q]
  rw [e1 _ _ (by
    rcases K.2.2.2.2 with q | q
    · left; rw [q]; split <;> omega
    · right; exact q.1)]
  refine line_of _ _ _ (if W.endA ax ay bx y2 then 1 else 0) 0 ?_ ?_ ?_ ?_
  · by_cases c : W.endA ax ay bx y2
    · left
      refine ⟨decide_eq_true c, if_pos c, ?_, ?_⟩
      · show (if W.endA ax ay bx y2 then _ else _) = W.across (if W.endA ax ay bx y2 then _ else _)
        rw [if_pos c, if_pos c]; exact (XA (K.1 c).1).symm
      · show (if W.endA ax ay bx y2 then _ else _) = _
        rw [if_pos c]; have := K.1 c; rw [if_pos this]; exact this.2.trans (by omega)
    · right; exact ⟨decide_eq_false c, if_neg c⟩
  · show W.size - (if decide (W.endB bx y2 ∧ W.across (iC W.turned bx y2) = kC W.turned bx y2) = true then 1 else 0) = _
    simp only [decide_eq_true_iff]
    exact K.2.2.1
  · exact K.2.2.2.1
  · exact K.2.2.2.2.elim Or.inl (fun q => Or.inr q.2)
end Go.Proofs.Ytmlhbbkgfffmcaa
