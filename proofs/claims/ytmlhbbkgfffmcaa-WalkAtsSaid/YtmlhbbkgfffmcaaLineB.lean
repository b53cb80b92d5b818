/- The plain law of a line's pixels (layer 14), with no program in sight: the line as a list; moved lines; those of a rectangle. No condition. -/
import Derived.Test.YtmlhbbkgfffmcaaLine
namespace Go.Proofs.Ytmlhbbkgfffmcaa
set_option linter.unusedVariables false
set_option linter.unusedSimpArgs false
/-- The pixels of a line that isn't just a point. -/
def lineL (ax ay bx y2 : Int) : List St :=
  if (mkWay0 ax ay bx y2).au < (mkWay0 ax ay bx y2).bu then (mkWay0 ax ay bx y2).run (posU (decide (turnP ax ay bx y2)) ax ay) 1 (posU (decide (turnP ax ay bx y2)) bx y2 - posU (decide (turnP ax ay bx y2)) ax ay)
  else (mkWay0 ax ay bx y2).run (posD (decide (turnP ax ay bx y2)) ax ay) (-1) (posD (decide (turnP ax ay bx y2)) ax ay - posD (decide (turnP ax ay bx y2)) bx y2)
theorem way_ne (ax ay bx y2 z : Int) (h : ¬ (ax = bx ∧ ay = y2)) : (wayZ (decide (turnP ax ay bx y2)) (backOf ax ay bx y2) ax ay bx y2 z).au ≠ (wayZ (decide (turnP ax ay bx y2)) (backOf ax ay bx y2) ax ay bx y2 z).bu := by
  have := Slope.pos (wayZ_good ax ay bx y2 z h)
  unfold Way.du at this
  intro e; rw [e] at this; split at this <;> omega
theorem mkWay_line (ax ay bx y2 : Int) (h : ¬ (ax = bx ∧ ay = y2)) : (mkWay ax ay bx y2).line = lineL ax ay bx y2 := by
  unfold lineL mkWay
  have hd := way_ne ax ay bx y2
  have hg := wayZ_good ax ay bx y2
  unfold mkWay0
  obtain ⟨z, hz⟩ : ∃ z : Int, z = (if leastC (uC (decide (turnP ax ay bx y2)) bx y2) < leastC (uC (decide (turnP ax ay bx y2)) ax ay) then 1 else 0) := ⟨_, rfl⟩
  rw [← hz]
  have hg := hg z h
  have hd := hd z h
  obtain ⟨W, hW⟩ : ∃ W, W = wayZ (decide (turnP ax ay bx y2)) (backOf ax ay bx y2) ax ay bx y2 z := ⟨_, rfl⟩
  rw [← hW] at hg hd ⊢
  have ht : W.turned = decide (turnP ax ay bx y2) := by rw [hW]; rfl
  rw [← ht] at hz hW ⊢
  have e1 : W.au = uC W.turned ax ay := congrArg Way.au hW
  have e2 : W.av = vC W.turned ax ay := congrArg Way.av hW
  have e3 : W.bu = uC W.turned bx y2 := congrArg Way.bu hW
  have e4 : W.bv = vC W.turned bx y2 := congrArg Way.bv hW
  have e5 : W.first = leastC W.au - z := by rw [e1]; exact congrArg Way.first hW
  have e6 : W.last = leastC W.bu - z := by rw [e3]; exact congrArg Way.last hW
  rw [← e1, ← e3] at hz
  have e7 : W.extra = false := by rw [hW]; rfl
  have e8 : W.opn = false := by rw [hW]; rfl
  clear hW
  by_cases c : W.au < W.bu
  · rw [if_pos c]
    have := leastC_mono (Int.le_of_lt c)
    rw [if_neg (by omega)] at hz
    exact line_up hg e7 e8 ax ay bx y2 e1 e2 e3 e4 c (by omega) (by omega)
  · rw [if_neg c]
    have c : W.bu < W.au := by omega
    have := leastC_mono (Int.le_of_lt c)
    refine line_down hg e7 e8 ax ay bx y2 e1 e2 e3 e4 c ?_
    split at hz <;> omega
theorem uC_bd (t : Bool) {x y : Int} (h : MayP x y) : -536870912 ≤ uC t x y ∧ uC t x y ≤ 536870912 := by
  obtain ⟨a, b, c, d⟩ := h
  unfold uC; split <;> omega
theorem vC_bd (t : Bool) {x y : Int} (h : MayP x y) : -536870912 ≤ vC t x y ∧ vC t x y ≤ 536870912 := by
  obtain ⟨a, b, c, d⟩ := h
  unfold vC; split <;> omega
theorem wayZ_ok (t : Bool) (ax ay bx y2 z : Int) (ha : MayP ax ay) (hb : MayP bx y2) (hz : z = 0 ∨ z = 1) : (wayZ t (backOf ax ay bx y2) ax ay bx y2 z).Ok := by
  have a1 := uC_bd t ha; have a2 := vC_bd t ha; have a3 := uC_bd t hb; have a4 := vC_bd t hb
  have k : 0 ≤ backOf ax ay bx y2 ∧ backOf ax ay bx y2 ≤ 1 := by unfold backOf; split <;> omega
  refine ⟨a1.1, a1.2, a2.1, a2.2, a3.1, a3.2, a4.1, a4.2, k.1, k.2, ?_, ?_, ?_, ?_⟩
  all_goals simp only [wayZ, leastC]
  all_goals omega
theorem mkWay0_ok (ax ay bx y2 : Int) (ha : MayP ax ay) (hb : MayP bx y2) : (mkWay0 ax ay bx y2).Ok := wayZ_ok _ _ _ _ _ _ ha hb (by split <;> simp)
theorem ended_ok {W : Way} (h1 : W.extra = false) (h2 : W.opn = false) (ax ay bx y2 : Int) (ok : W.Ok) : (W.ended ax ay bx y2).Ok := by
  rw [ended_eq W h1 h2]; exact ⟨ok.1, ok.2, ok.3, ok.4, ok.5, ok.6, ok.7, ok.8, ok.9, ok.10, ok.11, ok.12, ok.13, ok.14⟩
theorem mkWay_ok (ax ay bx y2 : Int) (ha : MayP ax ay) (hb : MayP bx y2) : (mkWay ax ay bx y2).Ok := ended_ok rfl rfl _ _ _ _ (mkWay0_ok _ _ _ _ ha hb)
/-- Those of a rectangle. -/
def withinL (ax ay bx y2 x0 y0 x1 y1 : Int) : List St := if (ax = bx ∧ ay = y2) ∨ ¬ rightP x0 y0 x1 y1 then [] else (lineL ax ay bx y2).filter (fun s => decide (hasP x0 y0 x1 y1 s.X s.Y))
theorem inOk_shift (x y i k : Int) : inOk (x + 256 * i) (y + 256 * k) = inOk x y := by
  unfold inOk
  rw [show (x + 256 * i) % 256 = x % 256 from by omega, show (y + 256 * k) % 256 = y % 256 from by omega]
theorem inX_shift (x y i k : Int) (h : inOk x y = true) : inX (x + 256 * i) (y + 256 * k) = inX x y + i := by
  unfold inX
  rw [inOk_shift, if_pos h, if_pos h]
  split <;> split <;> omega
theorem inY_shift (x y i k : Int) (h : inOk x y = true) : inY (x + 256 * i) (y + 256 * k) = inY x y + k := by
  unfold inY
  rw [inOk_shift, if_pos h, if_pos h]
  omega
def alongC (t : Bool) (i k : Int) : Int := if t then k else i
theorem uC_shift (t : Bool) (x y i k : Int) : uC t (x + 256 * i) (y + 256 * k) = uC t x y + 256 * alongC t i k := by cases t <;> rfl
theorem vC_shift (t : Bool) (x y i k : Int) : vC t (x + 256 * i) (y + 256 * k) = vC t x y + 256 * alongC t k i := by cases t <;> rfl
theorem iC_shift (t : Bool) (x y i k : Int) (h : inOk x y = true) : iC t (x + 256 * i) (y + 256 * k) = iC t x y + alongC t i k := by
  cases t
  · exact inX_shift x y i k h
  · exact inY_shift x y i k h
theorem leastC_shift (u c : Int) : leastC (u + 256 * c) = leastC u + c := by unfold leastC; omega
theorem posU_shift (t : Bool) (x y i k : Int) : posU t (x + 256 * i) (y + 256 * k) = posU t x y + alongC t i k := by
  unfold posU
  rw [uC_shift, leastC_shift, inOk_shift]
  by_cases h : inOk x y = true
  · rw [iC_shift t x y i k h]
    by_cases c : iC t x y = leastC (uC t x y) - 1
    · rw [if_pos ⟨h, by omega⟩, if_pos ⟨h, c⟩]; omega
    · rw [if_neg (fun q => c (by omega)), if_neg (fun q => c q.2)]; omega
  · rw [if_neg (fun q => h q.1), if_neg (fun q => h q.1)]; omega
theorem posD_shift (t : Bool) (x y i k : Int) : posD t (x + 256 * i) (y + 256 * k) = posD t x y + alongC t i k := by
  unfold posD
  rw [uC_shift, leastC_shift, inOk_shift]
  by_cases h : inOk x y = true
  · rw [iC_shift t x y i k h]
    by_cases c : iC t x y = leastC (uC t x y)
    · rw [if_pos ⟨h, by omega⟩, if_pos ⟨h, c⟩]; omega
    · rw [if_neg (fun q => c (by omega)), if_neg (fun q => c q.2)]; omega
  · rw [if_neg (fun q => h q.1), if_neg (fun q => h q.1)]; omega
/-- A step moved by so many pixels. -/
def St.move (i k : Int) (s : St) : St := ⟨s.K, s.X + i, s.Y + k⟩
theorem cell_shift {W V : Way} {i k : Int} (hd : 0 < W.du) (ht : V.turned = W.turned) (hb : V.back = W.back) (h1 : V.au = W.au + 256 * alongC W.turned i k) (h2 : V.av = W.av + 256 * alongC W.turned k i) (h3 : V.bu = W.bu + 256 * alongC W.turned i k) (h4 : V.bv = W.bv + 256 * alongC W.turned k i) (n u : Int) :
    V.cell n (u + alongC W.turned i k) = (W.cell n u).move i k := by
  have e1 : V.du = W.du := by unfold Way.du; rw [h1, h3]; split <;> split <;> omega
  have e2 : V.dv = W.dv := by unfold Way.dv; rw [h1, h2, h3, h4]; split <;> split <;> omega
  have e3 : V.across (u + alongC W.turned i k) = W.across u + alongC W.turned k i := by
    unfold Way.across Way.num Way.den
    rw [e1, e2, hb, h1, h2]
    rw [show (W.av + 256 * alongC W.turned k i) * W.du + W.dv * (256 * (u + alongC W.turned i k) + 128 - (W.au + 256 * alongC W.turned i k)) - W.back = (W.av * W.du + W.dv * (256 * u + 128 - W.au) - W.back) + alongC W.turned k i * (256 * W.du) from by grind]
    rw [Int.add_mul_ediv_right _ _ (by omega)]
  unfold Way.cell St.move Way.px Way.py
  rw [e3, ht]
  cases W.turned <;> rfl
theorem run_shift {W V : Way} {i k : Int} (hd : 0 < W.du) (ht : V.turned = W.turned) (hb : V.back = W.back) (h1 : V.au = W.au + 256 * alongC W.turned i k) (h2 : V.av = W.av + 256 * alongC W.turned k i) (h3 : V.bu = W.bu + 256 * alongC W.turned i k) (h4 : V.bv = W.bv + 256 * alongC W.turned k i) (s σ N : Int) :
    V.run (s + alongC W.turned i k) σ N = (W.run s σ N).map (St.move i k) := by
  unfold Way.run
  rw [List.map_map]
  apply List.map_congr_left
  intro j _
  rw [Function.comp_apply, ← cell_shift hd ht hb h1 h2 h3 h4]
  congr 1; omega
theorem turnP_shift (ax ay bx y2 i k : Int) : turnP (ax + 256 * i) (ay + 256 * k) (bx + 256 * i) (y2 + 256 * k) ↔ turnP ax ay bx y2 := by
  unfold turnP
  rw [show (bx + 256 * i) - (ax + 256 * i) = bx - ax from by omega, show (y2 + 256 * k) - (ay + 256 * k) = y2 - ay from by omega]
theorem backOf_shift (ax ay bx y2 i k : Int) : backOf (ax + 256 * i) (ay + 256 * k) (bx + 256 * i) (y2 + 256 * k) = backOf ax ay bx y2 := by
  unfold backOf
  rw [show (bx + 256 * i) - (ax + 256 * i) = bx - ax from by omega, show (y2 + 256 * k) - (ay + 256 * k) = y2 - ay from by omega]
  simp only [turnP_shift]
/-- A line that is moved has the same pixels, moved. -/
theorem lineL_shift (ax ay bx y2 i k : Int) (h : ¬ (ax = bx ∧ ay = y2)) : lineL (ax + 256 * i) (ay + 256 * k) (bx + 256 * i) (y2 + 256 * k) = (lineL ax ay bx y2).map (St.move i k) := by
  have hd := Slope.pos (wayZ_good ax ay bx y2 (if leastC (uC (decide (turnP ax ay bx y2)) bx y2) < leastC (uC (decide (turnP ax ay bx y2)) ax ay) then 1 else 0) h)
  have ht : decide (turnP (ax + 256 * i) (ay + 256 * k) (bx + 256 * i) (y2 + 256 * k)) = decide (turnP ax ay bx y2) := decide_eq_decide.2 (turnP_shift ax ay bx y2 i k)
  unfold lineL
  obtain ⟨W, hW⟩ : ∃ W, W = mkWay0 ax ay bx y2 := ⟨_, rfl⟩
  obtain ⟨V, hV⟩ : ∃ V, V = mkWay0 (ax + 256 * i) (ay + 256 * k) (bx + 256 * i) (y2 + 256 * k) := ⟨_, rfl⟩
  have t1 : W.turned = decide (turnP ax ay bx y2) := by rw [hW]; rfl
  have t2 : V.turned = W.turned := by rw [t1, hV]; exact ht
  have b1 : V.back = W.back := by rw [hW, hV]; exact backOf_shift ax ay bx y2 i k
  have e1 : V.au = W.au + 256 * alongC W.turned i k := by rw [t1, hW, hV]; refine Eq.trans ?_ (uC_shift _ ax ay i k); exact congrArg (fun t => uC t _ _) ht
  have e2 : V.av = W.av + 256 * alongC W.turned k i := by rw [t1, hW, hV]; refine Eq.trans ?_ (vC_shift _ ax ay i k); exact congrArg (fun t => vC t _ _) ht
  have e3 : V.bu = W.bu + 256 * alongC W.turned i k := by rw [t1, hW, hV]; refine Eq.trans ?_ (uC_shift _ bx y2 i k); exact congrArg (fun t => uC t _ _) ht
  have e4 : V.bv = W.bv + 256 * alongC W.turned k i := by rw [t1, hW, hV]; refine Eq.trans ?_ (vC_shift _ bx y2 i k); exact congrArg (fun t => vC t _ _) ht
  have hd : 0 < W.du := by rw [hW]; exact hd
  rw [← hW, ← hV, ht, ← t1, posU_shift, posU_shift, posD_shift, posD_shift, e1, e3]
  by_cases c : W.au < W.bu
  · rw [if_pos c, if_pos (by omega), run_shift hd t2 b1 e1 e2 e3 e4]
    congr 2; omega
  · rw [if_neg c, if_neg (by omega), run_shift hd t2 b1 e1 e2 e3 e4]
    congr 2; omega
theorem hasP_shift (x0 y0 x1 y1 i k x y : Int) (h : rightP x0 y0 x1 y1) (h' : rightP (x0 + i) (y0 + k) (x1 + i) (y1 + k)) : hasP (x0 + i) (y0 + k) (x1 + i) (y1 + k) (x + i) (y + k) ↔ hasP x0 y0 x1 y1 x y := by
  unfold hasP
  constructor
  · intro ⟨_, q⟩; exact ⟨h, by omega⟩
  · intro ⟨_, q⟩; exact ⟨h', by omega⟩
theorem withinL_shift (ax ay bx y2 x0 y0 x1 y1 i k : Int) (h : rightP x0 y0 x1 y1) (h' : rightP (x0 + i) (y0 + k) (x1 + i) (y1 + k)) :
    withinL (ax + 256 * i) (ay + 256 * k) (bx + 256 * i) (y2 + 256 * k) (x0 + i) (y0 + k) (x1 + i) (y1 + k) = (withinL ax ay bx y2 x0 y0 x1 y1).map (St.move i k) := by
  unfold withinL
  by_cases c : ax = bx ∧ ay = y2
  · rw [if_pos (Or.inl ⟨by omega, by omega⟩), if_pos (Or.inl c)]; rfl
  · rw [if_neg (fun q => q.elim (fun q => c ⟨by omega, by omega⟩) (fun q => q h')), if_neg (fun q => q.elim c (fun q => q h)), lineL_shift _ _ _ _ _ _ c, List.filter_map]
    congr 1
    apply List.filter_congr
    intro s _
    exact decide_eq_decide.2 (hasP_shift x0 y0 x1 y1 i k s.X s.Y h h')
end Go.Proofs.Ytmlhbbkgfffmcaa
