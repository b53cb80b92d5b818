/- The plain law of a line's pixels (layer 14), with no program in sight: how many, in which order; the parts of a line. No condition. -/
import Derived.Test.YtmlhbbkgfffmcaaLineB
namespace Go.Proofs.Ytmlhbbkgfffmcaa
set_option linter.unusedVariables false
set_option linter.unusedSimpArgs false
theorem filt_len (p : Nat → Bool) (c : Int) (m : Nat) (h : ∀ j : Nat, p j = true → c ≤ j ∧ (j : Int) < c + m) (n : Nat) : ((List.range n).filter p).length ≤ m ∧ ((((List.range n).filter p).length : Nat) : Int) ≤ max 0 ((n : Int) - c) := by
  induction n with
  | zero => exact ⟨Nat.zero_le _, by show ((0 : Nat) : Int) ≤ _; omega⟩
  | succ n ih =>
    obtain ⟨i1, i2⟩ := ih
    rw [List.range_succ, List.filter_append, List.length_append]
    cases hp : p n
    · simp only [List.filter_cons, hp, List.filter_nil]
      exact ⟨by simpa using i1, by simp; omega⟩
    · have := h n hp
      simp only [List.filter_cons, hp, List.filter_nil, if_true, List.length_singleton]
      constructor
      · omega
      · push_cast at *; omega
theorem run_len (W : Way) (s σ N x0 y0 : Int) (m : Nat) (hσ : σ = 1 ∨ σ = -1) : ((W.run s σ N).filter (fun q => decide (hasP x0 y0 (x0 + m) (y0 + m) q.X q.Y))).length ≤ m := by
  unfold Way.run
  rw [List.filter_map, List.length_map]
  rcases hσ with rfl | rfl
  · refine (filt_len _ ((if W.turned = true then y0 else x0) - s) m ?_ _).1
    intro j hj
    rw [Function.comp_apply, decide_eq_true_iff] at hj
    obtain ⟨_, q1, q2, q3, q4⟩ := hj
    unfold Way.cell Way.px Way.py at q1 q2 q3 q4
    simp only at q1 q2 q3 q4
    split <;> simp_all <;> omega
  · refine (filt_len _ (s - (if W.turned = true then y0 else x0) - m + 1) m ?_ _).1
    intro j hj
    rw [Function.comp_apply, decide_eq_true_iff] at hj
    obtain ⟨_, q1, q2, q3, q4⟩ := hj
    unfold Way.cell Way.px Way.py at q1 q2 q3 q4
    simp only at q1 q2 q3 q4
    split <;> simp_all <;> omega
theorem withinL_len (ax ay bx y2 x0 y0 : Int) (m : Nat) : (withinL ax ay bx y2 x0 y0 (x0 + m) (y0 + m)).length ≤ m := by
  unfold withinL
  split
  · exact Nat.zero_le _
  · unfold lineL; split
    · exact run_len _ _ _ _ _ _ _ (Or.inl rfl)
    · exact run_len _ _ _ _ _ _ _ (Or.inr rfl)
theorem run_rise (W : Way) (s σ N : Int) : (W.run s σ N).Pairwise (fun a b => a.K < b.K) := by
  unfold Way.run
  rw [List.pairwise_map]
  exact List.pairwise_lt_range.imp (fun h => by show ((_ : Nat) : Int) < ((_ : Nat) : Int); omega)
theorem withinL_rise (ax ay bx y2 x0 y0 x1 y1 : Int) : (withinL ax ay bx y2 x0 y0 x1 y1).Pairwise (fun a b => a.K < b.K) := by
  unfold withinL
  split
  · exact List.Pairwise.nil
  · unfold lineL; split <;> exact (run_rise _ _ _ _).filter _
theorem mid_scale {D r b n : Int} (hb : b = 0 ∨ b = 1) (hn : 0 < n) : Mid (n * D) b (n * r) ↔ Mid D b r := by
  unfold Mid
  have e1 : -128 * (n * D) = n * (-128 * D) := by grind
  have e2 : 128 * (n * D) = n * (128 * D) := by grind
  rw [e1, e2]
  obtain ⟨L, hL⟩ : ∃ L, -128 * D = L := ⟨_, rfl⟩
  obtain ⟨H, hH⟩ : ∃ H, 128 * D = H := ⟨_, rfl⟩
  rw [hL, hH]
  have m1 : ∀ a c : Int, n * a ≤ n * c ↔ a ≤ c := fun a c => ⟨fun h => Int.le_of_mul_le_mul_left h hn, fun h => Int.mul_le_mul_of_nonneg_left h (by omega)⟩
  have m2 : ∀ a c : Int, n * a < n * c ↔ a < c := fun a c => ⟨fun h => Int.lt_of_mul_lt_mul_left h (by omega), fun h => Int.mul_lt_mul_of_pos_left h hn⟩
  rcases hb with rfl | rfl
  · simp only [Int.sub_zero, m1, m2]
  · have a1 := m2 L r
    have a2 := m1 r H
    omega
theorem across_scale {W U : Way} (gW : W.Good) (gU : U.Good) {n : Int} (hn : 0 < n) (h1 : W.du = n * U.du) (h2 : W.dv = n * U.dv) (h3 : W.back = U.back) {cu cv : Int} (o1 : W.On cu cv) (o2 : U.On cu cv) (i : Int) : W.across i = U.across i := by
  rw [across_iff gW i (U.across i) cu cv o1]
  have := (across_iff gU i (U.across i) cu cv o2).1 rfl
  rw [h1, h2, h3, show (cv - 256 * U.across i - 128) * (n * U.du) - n * U.dv * (cu - 256 * i - 128) = n * ((cv - 256 * U.across i - 128) * U.du - U.dv * (cu - 256 * i - 128)) from by grind]
  refine (mid_scale ?_ hn).2 this
  rcases Slope.b01 gU with q | q <;> simp [q.1]
theorem run_same {W U : Way} (ht : W.turned = U.turned) (hx : ∀ i, W.across i = U.across i) (s σ N : Int) : W.run s σ N = U.run s σ N := by
  unfold Way.run Way.cell Way.px Way.py
  simp only [ht, hx]
/-- A step that is so many further on. -/
def St.later (n : Int) (s : St) : St := ⟨s.K + n, s.X, s.Y⟩
theorem run_add (W : Way) (s σ M N : Int) (hM : 0 ≤ M) (hN : 0 ≤ N) : W.run s σ (M + N) = W.run s σ M ++ (W.run (s + M * σ) σ N).map (St.later M) := by
  unfold Way.run
  rw [show (M + N).toNat = M.toNat + N.toNat from by omega, List.range_add, List.map_append, List.map_map, List.map_map]
  congr 1
  apply List.map_congr_left
  intro j _
  show W.cell ((M.toNat + j : Nat) : Int) (s + ((M.toNat + j : Nat) : Int) * σ) = (W.cell (j : Int) (s + M * σ + (j : Int) * σ)).later M
  have e : ((M.toNat + j : Nat) : Int) = M + j := by omega
  rw [e, Int.add_mul]
  unfold Way.cell St.later
  rw [show s + (M * σ + (j : Int) * σ) = s + M * σ + (j : Int) * σ from by omega]
  simp only [Int.add_comm]
theorem turnP_scale (n x y w h : Int) (hn : 0 < n) : turnP x y (x + n * w) (y + n * h) ↔ max w (-w) < max h (-h) := by
  unfold turnP
  rw [show x + n * w - x = n * w from by omega, show y + n * h - y = n * h from by omega, ← Int.mul_neg, ← Int.mul_neg]
  have m2 : ∀ a c : Int, n * a < n * c ↔ a < c := fun a c => ⟨fun h => Int.lt_of_mul_lt_mul_left h (by omega), fun h => Int.mul_lt_mul_of_pos_left h hn⟩
  have a1 := m2 w h; have a2 := m2 w (-h); have a3 := m2 (-w) h; have a4 := m2 (-w) (-h)
  omega
theorem signP_scale (n w h : Int) (hn : 0 < n) : signP (n * w) (n * h) ↔ signP w h := by
  unfold signP
  have p : ∀ a : Int, (0 < n * a ↔ 0 < a) ∧ (n * a < 0 ↔ a < 0) := fun a => by
    have m2 : ∀ a c : Int, n * a < n * c ↔ a < c := fun a c => ⟨fun h => Int.lt_of_mul_lt_mul_left h (by omega), fun h => Int.mul_lt_mul_of_pos_left h hn⟩
    have a1 := m2 0 a; have a2 := m2 a 0
    rw [Int.mul_zero] at a1 a2
    exact ⟨a1, a2⟩
  rw [(p w).1, (p w).2, (p h).1, (p h).2]
/-- The way of a step that is laid end to end. -/
def unitW (x y w h : Int) : Way := ⟨uC (decide (max w (-w) < max h (-h))) x y, vC (decide (max w (-w) < max h (-h))) x y, uC (decide (max w (-w) < max h (-h))) (x + w) (y + h), vC (decide (max w (-w) < max h (-h))) (x + w) (y + h), decide (max w (-w) < max h (-h)), if ¬ max w (-w) < max h (-h) ∧ signP w h then 0 else 1, 0, 0, false, false, 0, 0⟩
theorem unitW_is (x y w h : Int) : unitW x y w h = { wayZ (decide (turnP x y (x + w) (y + h))) (backOf x y (x + w) (y + h)) x y (x + w) (y + h) 0 with first := 0, last := 0 } := by
  have e : turnP x y (x + w) (y + h) ↔ max w (-w) < max h (-h) := by have := turnP_scale 1 x y w h (by omega); rwa [Int.one_mul, Int.one_mul] at this
  have e' : decide (turnP x y (x + w) (y + h)) = decide (max w (-w) < max h (-h)) := decide_eq_decide.2 e
  unfold unitW wayZ backOf
  rw [e']
  congr 1
  rw [show x + w - x = w from by omega, show y + h - y = h from by omega]
  simp only [e]
theorem unitW_good (x y w h : Int) (hz : ¬ (w = 0 ∧ h = 0)) : (unitW x y w h).Good := by
  have := wayZ_good x y (x + w) (y + h) 0 (fun q => hz (by omega))
  rw [unitW_is]; exact this
theorem uC_add (t : Bool) (x y w h : Int) : uC t (x + w) (y + h) = uC t x y + uC t w h := by cases t <;> rfl
theorem vC_add (t : Bool) (x y w h : Int) : vC t (x + w) (y + h) = vC t x y + vC t w h := by cases t <;> rfl
theorem uC_mul (t : Bool) (n w h : Int) : uC t (n * w) (n * h) = n * uC t w h := by cases t <;> rfl
theorem vC_mul (t : Bool) (n w h : Int) : vC t (n * w) (n * h) = n * vC t w h := by cases t <;> rfl
theorem unitW_on (x y w h m : Int) : (unitW x y w h).On (uC (unitW x y w h).turned (x + m * w) (y + m * h)) (vC (unitW x y w h).turned (x + m * w) (y + m * h)) := by
  obtain ⟨U, hU⟩ : ∃ U, U = unitW x y w h := ⟨_, rfl⟩
  have e1 : U.au = uC U.turned x y := by rw [hU]; rfl
  have e2 : U.av = vC U.turned x y := by rw [hU]; rfl
  have e3 : U.bu = uC U.turned x y + uC U.turned w h := by rw [hU]; exact uC_add _ x y w h
  have e4 : U.bv = vC U.turned x y + vC U.turned w h := by rw [hU]; exact vC_add _ x y w h
  rw [← hU, uC_add, vC_add, uC_mul, vC_mul]
  unfold Way.On Way.du Way.dv
  rw [e1, e2, e3, e4]
  split <;> grind
theorem lineL_self (x y : Int) : lineL x y x y = [] := by
  unfold lineL
  split
  · exact run_zero _ _ _ _ (by omega)
  · exact run_zero _ _ _ _ (by omega)
/-- A part of a line, by the step that is laid end to end. -/
theorem lineL_unit (x y w h m n : Int) (hz : ¬ (w = 0 ∧ h = 0)) (hn : 0 ≤ n) :
    lineL (x + m * w) (y + m * h) (x + (m + n) * w) (y + (m + n) * h) =
      if 0 < uC (unitW x y w h).turned w h then (unitW x y w h).run (posU (unitW x y w h).turned (x + m * w) (y + m * h)) 1 (posU (unitW x y w h).turned (x + (m + n) * w) (y + (m + n) * h) - posU (unitW x y w h).turned (x + m * w) (y + m * h))
      else (unitW x y w h).run (posD (unitW x y w h).turned (x + m * w) (y + m * h)) (-1) (posD (unitW x y w h).turned (x + m * w) (y + m * h) - posD (unitW x y w h).turned (x + (m + n) * w) (y + (m + n) * h)) := by
  by_cases h0 : n = 0
  · subst h0
    rw [Int.add_zero, lineL_self]
    split
    · rw [run_zero _ _ _ _ (by omega)]
    · rw [run_zero _ _ _ _ (by omega)]
  have hn : 0 < n := by omega
  have gU := unitW_good x y w h hz
  have oU := unitW_on x y w h m
  have hA : x + (m + n) * w = (x + m * w) + n * w := by grind
  have hB : y + (m + n) * h = (y + m * h) + n * h := by grind
  have hT : decide (turnP (x + m * w) (y + m * h) (x + (m + n) * w) (y + (m + n) * h)) = (unitW x y w h).turned := by
    rw [hA, hB]; exact decide_eq_decide.2 (turnP_scale n _ _ w h hn)
  have hK : backOf (x + m * w) (y + m * h) (x + (m + n) * w) (y + (m + n) * h) = (unitW x y w h).back := by
    rw [hA, hB]
    unfold backOf unitW
    rw [show x + m * w + n * w - (x + m * w) = n * w from by omega, show y + m * h + n * h - (y + m * h) = n * h from by omega]
    simp only [turnP_scale n _ _ w h hn, signP_scale n w h hn]
  have hne : ¬ (x + m * w = x + (m + n) * w ∧ y + m * h = y + (m + n) * h) := by
    rw [hA, hB]
    intro ⟨q1, q2⟩
    have z1 : n * w = 0 := by omega
    have z2 : n * h = 0 := by omega
    exact hz ⟨(Int.mul_eq_zero.1 z1).resolve_left (by omega), (Int.mul_eq_zero.1 z2).resolve_left (by omega)⟩
  have gW : (mkWay0 (x + m * w) (y + m * h) (x + (m + n) * w) (y + (m + n) * h)).Good := wayZ_good _ _ _ _ _ hne
  unfold lineL
  obtain ⟨U, hU⟩ : ∃ U, U = unitW x y w h := ⟨_, rfl⟩
  obtain ⟨W, hW⟩ : ∃ W, W = mkWay0 (x + m * w) (y + m * h) (x + (m + n) * w) (y + (m + n) * h) := ⟨_, rfl⟩
  have wt : W.turned = U.turned := by rw [hW, hU]; exact hT
  have wb : W.back = U.back := by rw [hW, hU]; exact hK
  rw [← hW, hT, ← hU]
  rw [← hW] at gW
  rw [← hU] at gU oU
  have w1 : W.au = uC U.turned (x + m * w) (y + m * h) := by rw [← wt, hW]; rfl
  have w2 : W.av = vC U.turned (x + m * w) (y + m * h) := by rw [← wt, hW]; rfl
  have w3 : W.bu = W.au + n * uC U.turned w h := by
    rw [w1, ← uC_mul, ← uC_add, ← hA, ← hB, ← wt, hW]; rfl
  have w4 : W.bv = W.av + n * vC U.turned w h := by
    rw [w2, ← vC_mul, ← vC_add, ← hA, ← hB, ← wt, hW]; rfl
  have e1 : U.au = uC U.turned x y := by rw [hU]; rfl
  have e2 : U.av = vC U.turned x y := by rw [hU]; rfl
  have e3 : U.bu = U.au + uC U.turned w h := by rw [e1, hU]; exact uC_add _ x y w h
  have e4 : U.bv = U.av + vC U.turned w h := by rw [e2, hU]; exact vC_add _ x y w h
  rw [← w1, ← w2] at oU
  have m2 : ∀ a c : Int, n * a < n * c ↔ a < c := fun a c => ⟨fun h => Int.lt_of_mul_lt_mul_left h (by omega), fun h => Int.mul_lt_mul_of_pos_left h hn⟩
  have s1 := m2 0 (uC U.turned w h)
  have s2 := m2 (uC U.turned w h) 0
  rw [Int.mul_zero] at s1 s2
  have d1 : W.du = n * U.du := by
    unfold Way.du; rw [w3, e3]
    by_cases c : uC U.turned w h < 0
    · rw [if_pos (by omega), if_pos (by omega)]; grind
    · rw [if_neg (by omega), if_neg (by omega)]; grind
  have d2 : W.dv = n * U.dv := by
    unfold Way.dv; rw [w3, e3, w4, e4]
    by_cases c : uC U.turned w h < 0
    · rw [if_pos (by omega), if_pos (by omega)]; grind
    · rw [if_neg (by omega), if_neg (by omega)]; grind
  have hx := across_scale gW gU hn d1 d2 wb (on_a W) oU
  by_cases c : 0 < uC U.turned w h
  · rw [if_pos c, if_pos (by omega), run_same wt hx]
  · rw [if_neg c, if_neg (by omega), run_same wt hx]
/-- The parts of a line have the line's pixels, one behind the other. -/
theorem lineL_parts (x y w h m k : Int) (hm : 0 ≤ m) (hk : 0 ≤ k) :
    lineL x y (x + (m + k) * w) (y + (m + k) * h) = lineL x y (x + m * w) (y + m * h) ++ (lineL (x + m * w) (y + m * h) (x + (m + k) * w) (y + (m + k) * h)).map (St.later (lineL x y (x + m * w) (y + m * h)).length) := by
  by_cases hz : w = 0 ∧ h = 0
  · obtain ⟨rfl, rfl⟩ := hz
    simp only [Int.mul_zero, Int.add_zero, lineL_self]; rfl
  have f1 := lineL_unit x y w h 0 (m + k) hz (by omega)
  have f2 := lineL_unit x y w h 0 m hz hm
  have f3 := lineL_unit x y w h m k hz hk
  simp only [Int.zero_add, Int.zero_mul, Int.add_zero] at f1 f2
  rw [f1, f2, f3]
  have g := unitW_good x y w h hz
  have o0 := unitW_on x y w h 0
  have o1 := unitW_on x y w h m
  have o2 := unitW_on x y w h (m + k)
  simp only [Int.zero_mul, Int.add_zero] at o0
  have u1 : uC (unitW x y w h).turned (x + m * w) (y + m * h) = uC (unitW x y w h).turned x y + m * uC (unitW x y w h).turned w h := by rw [uC_add, uC_mul]
  have u2 : uC (unitW x y w h).turned (x + (m + k) * w) (y + (m + k) * h) = uC (unitW x y w h).turned x y + (m + k) * uC (unitW x y w h).turned w h := by rw [uC_add, uC_mul]
  obtain ⟨U, hU⟩ : ∃ U, U = unitW x y w h := ⟨_, rfl⟩
  rw [← hU] at g o0 o1 o2 u1 u2 ⊢
  by_cases c : 0 < uC U.turned w h
  · simp only [if_pos c]
    have q1 : 0 ≤ m * uC U.turned w h := Int.mul_nonneg hm (by omega)
    have q2 : 0 ≤ k * uC U.turned w h := Int.mul_nonneg hk (by omega)
    have p1 := posU_le g o0 o1 (by omega)
    have p2 := posU_le g o1 o2 (by rw [u1, u2, Int.add_mul]; omega)
    obtain ⟨a, ha⟩ : ∃ a, posU U.turned x y = a := ⟨_, rfl⟩
    obtain ⟨b, hb⟩ : ∃ a, posU U.turned (x + m * w) (y + m * h) = a := ⟨_, rfl⟩
    obtain ⟨d, hd⟩ : ∃ a, posU U.turned (x + (m + k) * w) (y + (m + k) * h) = a := ⟨_, rfl⟩
    rw [ha, hb] at p1; rw [hb, hd] at p2; rw [ha, hb, hd]
    rw [show d - a = (b - a) + (d - b) from by omega, run_add _ _ _ _ _ (by omega) (by omega)]
    congr 1
    rw [show a + (b - a) * 1 = b from by omega]
    congr 2
    unfold Way.run; rw [List.length_map, List.length_range]; omega
  · simp only [if_neg c]
    have q1 : m * uC U.turned w h ≤ 0 := Int.mul_nonpos_of_nonneg_of_nonpos hm (by omega)
    have q2 : k * uC U.turned w h ≤ 0 := Int.mul_nonpos_of_nonneg_of_nonpos hk (by omega)
    have p1 := posD_le g o1 o0 (by omega)
    have p2 := posD_le g o2 o1 (by rw [u1, u2, Int.add_mul]; omega)
    obtain ⟨a, ha⟩ : ∃ a, posD U.turned x y = a := ⟨_, rfl⟩
    obtain ⟨b, hb⟩ : ∃ a, posD U.turned (x + m * w) (y + m * h) = a := ⟨_, rfl⟩
    obtain ⟨d, hd⟩ : ∃ a, posD U.turned (x + (m + k) * w) (y + (m + k) * h) = a := ⟨_, rfl⟩
    rw [ha, hb] at p1; rw [hb, hd] at p2; rw [ha, hb, hd]
    rw [show a - d = (a - b) + (b - d) from by omega, run_add _ _ _ _ _ (by omega) (by omega)]
    congr 1
    rw [show a + (a - b) * -1 = b from by omega]
    congr 2
    unfold Way.run; rw [List.length_map, List.length_range]; omega
theorem across_bd {W : Way} (g : W.Good) (u : Int) (h0 : min W.au W.bu ≤ 256 * u + 128) (h1 : 256 * u + 128 ≤ max W.au W.bu) : min W.av W.bv - 256 ≤ 256 * W.across u ∧ 256 * W.across u ≤ max W.av W.bv := by
  obtain ⟨k, hk⟩ : ∃ k, W.across u = k := ⟨_, rfl⟩
  rw [hk]
  have p0 := Slope.pos g
  have := (div_iff (W.num u) W.den k (by unfold Way.den; omega)).1 hk
  obtain ⟨q1, q2⟩ := this
  have hb : W.back = 0 ∨ W.back = 1 := by rcases Slope.b01 g with q | q <;> simp [q.1]
  have key : ∀ M : Int, (256 * k) * W.du ≤ M * W.du → 256 * k ≤ M := fun M h => Int.le_of_mul_le_mul_right h p0
  have key2 : ∀ M : Int, M * W.du < (256 * k + 256 + 1) * W.du → M < 256 * k + 256 + 1 := fun M h => Int.lt_of_mul_lt_mul_right h (by omega)
  unfold Way.num Way.den at q1 q2
  have e1 : k * (256 * W.du) = (256 * k) * W.du := by grind
  have e2 : (k + 1) * (256 * W.du) = (256 * k + 256 + 1) * W.du - W.du := by grind
  rw [e1] at q1; rw [e2] at q2
  obtain ⟨t, ht⟩ : ∃ t, 256 * u + 128 - W.au = t := ⟨_, rfl⟩
  rw [ht] at q1 q2
  -- the line's height at the middle, times the width
  have b0 : min W.av W.bv * W.du ≤ W.av * W.du + W.dv * t ∧ W.av * W.du + W.dv * t ≤ max W.av W.bv * W.du := by
    by_cases c : W.bu - W.au < 0
    · have d1 : W.du = -(W.bu - W.au) := if_pos c
      have d2 : W.dv = -(W.bv - W.av) := if_pos c
      have e3 : W.bv * W.du = W.av * W.du + W.dv * (-W.du) := by rw [d1, d2]; grind
      have t0 : -W.du ≤ t ∧ t ≤ 0 := by omega
      by_cases s : 0 ≤ W.dv
      · have m1 : W.dv * (-W.du) ≤ W.dv * t := Int.mul_le_mul_of_nonneg_left t0.1 s
        have m2 : W.dv * t ≤ W.dv * 0 := Int.mul_le_mul_of_nonneg_left t0.2 s
        have n1 : W.bv ≤ W.av := by omega
        rw [Int.min_eq_right n1, Int.max_eq_left n1]; omega
      · have m1 : W.dv * t ≤ W.dv * (-W.du) := Int.mul_le_mul_of_nonpos_left (by omega) t0.1
        have m2 : W.dv * 0 ≤ W.dv * t := Int.mul_le_mul_of_nonpos_left (by omega) t0.2
        have n1 : W.av ≤ W.bv := by omega
        rw [Int.min_eq_left n1, Int.max_eq_right n1]; omega
    · have d1 : W.du = W.bu - W.au := if_neg c
      have d2 : W.dv = W.bv - W.av := if_neg c
      have e3 : W.bv * W.du = W.av * W.du + W.dv * W.du := by rw [d2]; grind
      have t0 : 0 ≤ t ∧ t ≤ W.du := by omega
      by_cases s : 0 ≤ W.dv
      · have m1 : W.dv * 0 ≤ W.dv * t := Int.mul_le_mul_of_nonneg_left t0.1 s
        have m2 : W.dv * t ≤ W.dv * W.du := Int.mul_le_mul_of_nonneg_left t0.2 s
        have n1 : W.av ≤ W.bv := by omega
        rw [Int.min_eq_left n1, Int.max_eq_right n1]; omega
      · have m1 : W.dv * t ≤ W.dv * 0 := Int.mul_le_mul_of_nonpos_left (by omega) t0.1
        have m2 : W.dv * W.du ≤ W.dv * t := Int.mul_le_mul_of_nonpos_left (by omega) t0.2
        have n1 : W.bv ≤ W.av := by omega
        rw [Int.min_eq_right n1, Int.max_eq_left n1]; omega
  have k1 := key (max W.av W.bv) (by omega)
  have k2 := key2 (min W.av W.bv) (by omega)
  omega
theorem ins_bd {t : Bool} {pu pv : Int} (h : ins t pu pv) : -128 ≤ pu ∧ pu ≤ 128 ∧ -128 ≤ pv ∧ pv ≤ 128 := by
  cases t
  · obtain ⟨a, b, c, d⟩ := (ins_f _ _).1 h; omega
  · obtain ⟨a, b, c, d⟩ := (ins_t _ _).1 h; omega
/-- Where the pixels of a line lie. -/
theorem cell_bd {W : Way} (g : W.Good) (ax ay : Int) (ea : W.au = uC W.turned ax ay) (eb : W.av = vC W.turned ax ay) (u : Int)
    (hu : (min W.au W.bu ≤ 256 * u + 128 ∧ 256 * u + 128 ≤ max W.au W.bu) ∨ (inOk ax ay = true ∧ u = iC W.turned ax ay)) :
    (min W.au W.bu - 256 ≤ 256 * u ∧ 256 * u ≤ max W.au W.bu) ∧ (min W.av W.bv - 256 ≤ 256 * W.across u ∧ 256 * W.across u ≤ max W.av W.bv) := by
  rcases hu with ⟨h0, h1⟩ | ⟨h0, rfl⟩
  · exact ⟨by omega, across_bd g u h0 h1⟩
  · have o : W.On (uC W.turned ax ay) (vC W.turned ax ay) := by rw [← ea, ← eb]; exact on_a W
    rw [across_in g ax ay o h0]
    have := ins_bd ((in_insC W.turned ax ay _ _).1 ⟨h0, rfl, rfl⟩)
    rw [← ea, ← eb] at this
    omega
theorem lineL_in (ax ay bx y2 : Int) (q : St) (hq : q ∈ lineL ax ay bx y2) :
    (min ax bx - 256 ≤ 256 * q.X ∧ 256 * q.X ≤ max ax bx) ∧ (min ay y2 - 256 ≤ 256 * q.Y ∧ 256 * q.Y ≤ max ay y2) := by
  by_cases hz : ax = bx ∧ ay = y2
  · obtain ⟨rfl, rfl⟩ := hz; rw [lineL_self] at hq; cases hq
  have g : (mkWay0 ax ay bx y2).Good := wayZ_good _ _ _ _ _ hz
  have hne : (mkWay0 ax ay bx y2).au ≠ (mkWay0 ax ay bx y2).bu := way_ne _ _ _ _ _ hz
  unfold lineL at hq
  obtain ⟨W, hW⟩ : ∃ W, W = mkWay0 ax ay bx y2 := ⟨_, rfl⟩
  rw [← hW] at g hne hq
  have t1 : decide (turnP ax ay bx y2) = W.turned := by rw [hW]; rfl
  have e1 : W.au = uC W.turned ax ay := by rw [hW]; rfl
  have e2 : W.av = vC W.turned ax ay := by rw [hW]; rfl
  have e3 : W.bu = uC W.turned bx y2 := by rw [hW]; rfl
  have e4 : W.bv = vC W.turned bx y2 := by rw [hW]; rfl
  rw [t1] at hq
  have fin : ∀ u n : Int, q = W.cell n u → (min W.au W.bu - 256 ≤ 256 * u ∧ 256 * u ≤ max W.au W.bu) ∧ (min W.av W.bv - 256 ≤ 256 * W.across u ∧ 256 * W.across u ≤ max W.av W.bv) → (min ax bx - 256 ≤ 256 * q.X ∧ 256 * q.X ≤ max ax bx) ∧ (min ay y2 - 256 ≤ 256 * q.Y ∧ 256 * q.Y ≤ max ay y2) := by
    intro u n hc hb
    rw [hc]
    unfold Way.cell Way.px Way.py
    rw [e1, e2, e3, e4] at hb
    unfold uC vC at hb
    cases ht : W.turned
    · rw [ht] at hb; exact hb
    · rw [ht] at hb; exact ⟨hb.2, hb.1⟩
  by_cases c : W.au < W.bu
  · rw [if_pos c] at hq
    unfold Way.run at hq
    obtain ⟨j, hj, rfl⟩ := List.mem_map.1 hq
    rw [List.mem_range] at hj
    refine fin _ _ rfl (cell_bd g ax ay e1 e2 _ ?_)
    have la := leastC_is W.au
    have lb := leastC_is W.bu
    have hA : posU W.turned ax ay = leastC W.au ∨ inOk ax ay = true ∧ iC W.turned ax ay = leastC W.au - 1 ∧ posU W.turned ax ay = leastC W.au - 1 := by
      unfold posU; rw [← e1]; split
      · rename_i h; exact Or.inr ⟨h.1, h.2, rfl⟩
      · left; omega
    have hB : posU W.turned bx y2 ≤ leastC W.bu := by
      unfold posU; rw [← e3]; split <;> omega
    by_cases d : posU W.turned ax ay + (j : Int) * 1 = leastC W.au - 1
    · right
      rcases hA with hA | hA
      · omega
      · exact ⟨hA.1, by omega⟩
    · left; omega
  · rw [if_neg c] at hq
    unfold Way.run at hq
    obtain ⟨j, hj, rfl⟩ := List.mem_map.1 hq
    rw [List.mem_range] at hj
    refine fin _ _ rfl (cell_bd g ax ay e1 e2 _ ?_)
    have la := leastC_is W.au
    have lb := leastC_is W.bu
    have hA : posD W.turned ax ay = leastC W.au - 1 ∨ inOk ax ay = true ∧ iC W.turned ax ay = leastC W.au ∧ posD W.turned ax ay = leastC W.au := by
      unfold posD; rw [← e1]; split
      · rename_i h; exact Or.inr ⟨h.1, h.2, by omega⟩
      · left; omega
    have hB : leastC W.bu - 1 ≤ posD W.turned bx y2 := by
      unfold posD; rw [← e3]; split <;> omega
    by_cases d : posD W.turned ax ay + (j : Int) * -1 = leastC W.au
    · right
      rcases hA with hA | hA
      · omega
      · exact ⟨hA.1, by omega⟩
    · left; omega
end Go.Proofs.Ytmlhbbkgfffmcaa
