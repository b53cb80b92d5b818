/- Parts of the proof of FaceLines, laid together. Conditions: at each. -/
import Derived.Test.YtbkmgngeahmefaaGreatSFaceLines08
import Derived.Test.YtbkmgngeahmefaaGreatSFaceLines09
import Derived.Test.YtbkmgngeahmefaaGreatSFaceLines10
set_option linter.unusedVariables false
set_option linter.unusedSimpArgs false
section
namespace Go.Proofs.YtbkmgngeahmefaaGreat
def exP (ax ay bx y2 x y : Int) : Prop := mtP (ax - 256 * x - 128) (ay - 256 * y - 128) (bx - 256 * x - 128) (y2 - 256 * y - 128) ∧ ¬ insP (bx - 256 * x - 128) (y2 - 256 * y - 128)
instance (ax ay bx y2 x y : Int) : Decidable (exP ax ay bx y2 x y) := by unfold exP; exact inferInstance
def diag (px py qx qy : Int) : Prop := min (px + py) (qx + qy) ≤ 128 ∧ -128 < max (px + py) (qx + qy) ∧ min (px - py) (qx - qy) ≤ 128 ∧ -128 < max (px - py) (qx - qy)
theorem mt_mid {w h px py A B : Int} (hA : w * py = A) (hB : h * px = B) (hz : ¬ (w = 0 ∧ h = 0)) :
    (sgn3 (A - B - 128 * max (max w (-w)) (max h (-h))) h (-w) < 0 ∧ 0 < sgn3 (A - B + 128 * max (max w (-w)) (max h (-h))) h (-w)) ↔
    Mid (if uC (decide (max w (-w) < max h (-h))) w h < 0 then -uC (decide (max w (-w) < max h (-h))) w h else uC (decide (max w (-w) < max h (-h))) w h) (if ¬ max w (-w) < max h (-h) ∧ signP w h then 0 else 1)
      (vC (decide (max w (-w) < max h (-h))) px py * (if uC (decide (max w (-w) < max h (-h))) w h < 0 then -uC (decide (max w (-w) < max h (-h))) w h else uC (decide (max w (-w) < max h (-h))) w h)
        - (if uC (decide (max w (-w) < max h (-h))) w h < 0 then -vC (decide (max w (-w) < max h (-h))) w h else vC (decide (max w (-w) < max h (-h))) w h) * uC (decide (max w (-w) < max h (-h))) px py) := by
  by_cases t : max w (-w) < max h (-h)
  · simp only [t, decide_true, uC, vC, if_true, not_true, false_and, if_false]
    by_cases s : h < 0
    · simp only [if_pos s]
      rw [show px * -h - -w * py = A - B from by rw [← hA, ← hB]; grind]
      unfold Mid sgn3
      repeat' split
      all_goals omega
    · simp only [if_neg s]
      rw [show px * h - w * py = B - A from by rw [← hA, ← hB]; grind]
      unfold Mid sgn3
      repeat' split
      all_goals omega
  · simp only [t, decide_false, uC, vC, Bool.false_eq_true, if_false, not_false_iff, true_and]
    by_cases s : w < 0
    · simp only [if_pos s]
      rw [show py * -w - -h * px = B - A from by rw [← hA, ← hB]; grind]
      unfold Mid sgn3 signP
      repeat' split
      all_goals omega
    · simp only [if_neg s]
      rw [show py * w - h * px = A - B from by rw [← hA, ← hB]; grind]
      unfold Mid sgn3 signP
      repeat' split
      all_goals omega
theorem mid_low {t : Bool} {D E back u v : Int} (S : Slope t D E back) (M : Mid D back (v * D - E * u)) (h : u ≤ 0) : u + v ≤ 128 ∧ u - v ≤ 128 ∧ (t = true → u - v < 128) := by
  have p0 := S.pos
  have d0 : 0 ≤ D - E := by have := S.le; omega
  have d1 : 0 ≤ D + E := by have := S.ge; omega
  obtain ⟨r, er⟩ : ∃ r, v * D - E * u = r := ⟨_, rfl⟩
  rw [er] at M
  obtain ⟨m0, m1⟩ := M
  have a1 : D * (u + v) = u * (D + E) + r := by grind
  have a2 : D * (u - v) = u * (D - E) - r := by grind
  have q1 := pm h d1
  have q2 := pm h d0
  have s1 := mul_pos_lt (a := u + v) (b := 129) p0
  have s2 := mul_pos_lt (a := u - v) (b := 129) p0
  have s3 := mul_pos_lt (a := u - v) (b := 128) p0
  have z1 : D * 128 = 128 * D := by grind
  have z2 : D * 129 = 128 * D + D := by grind
  rcases S.b01 with ⟨b, rfl, hE⟩ | ⟨b, hE⟩
  · refine ⟨by omega, by omega, fun h => by cases h⟩
  · refine ⟨by omega, by omega, fun h => by omega⟩
theorem mid_high {t : Bool} {D E back u v : Int} (S : Slope t D E back) (M : Mid D back (v * D - E * u)) (h : 0 < u) : -128 < u + v ∧ -128 < u - v := by
  have p0 := S.pos
  have d0 : 0 ≤ D - E := by have := S.le; omega
  have d1 : 0 ≤ D + E := by have := S.ge; omega
  obtain ⟨r, er⟩ : ∃ r, v * D - E * u = r := ⟨_, rfl⟩
  rw [er] at M
  obtain ⟨m0, m1⟩ := M
  have a1 : D * (u + v) = u * (D + E) + r := by grind
  have a2 : D * (u - v) = u * (D - E) - r := by grind
  have q1 := pm (show 1 ≤ u by omega) d1
  have q2 := pm (show 1 ≤ u by omega) d0
  have s1 := mul_pos_lt (a := -128) (b := u + v) p0
  have s2 := mul_pos_lt (a := -128) (b := u - v) p0
  have z1 : D * (-128) = -(128 * D) := by grind
  have hl := S.lt
  rcases S.b01 with ⟨b, rfl, hE⟩ | ⟨b, hE⟩
  · refine ⟨by omega, by omega⟩
  · rcases hE with hE | hE
    · have := hl hE; refine ⟨by omega, by omega⟩
    · refine ⟨by omega, by omega⟩
theorem diag_seg {t : Bool} {D E back lu lv hu hv : Int} (S : Slope t D E back) (hon : hv * D - E * hu = lv * D - E * lu) (hlt : lu < hu) (M : Mid D back (lv * D - E * lu)) :
    diag (if t then lv else lu) (if t then lu else lv) (if t then hv else hu) (if t then hu else hv) ↔ (lu ≤ 0 ∨ ins t lu lv) ∧ (0 < hu ∨ ins t hu hv) := by
  have p0 := S.pos
  have d0 : 0 ≤ D - E := by have := S.le; omega
  have d1 : 0 ≤ D + E := by have := S.ge; omega
  have g1 : D * (lu + lv) ≤ D * (hu + hv) := by
    have := Int.mul_nonneg (show 0 ≤ hu - lu by omega) d1
    have e : (hu - lu) * (D + E) = D * (hu + hv) - D * (lu + lv) - ((hv * D - E * hu) - (lv * D - E * lu)) := by grind
    omega
  have g2 : D * (lu - lv) ≤ D * (hu - hv) := by
    have := Int.mul_nonneg (show 0 ≤ hu - lu by omega) d0
    have e : (hu - lu) * (D - E) = D * (hu - hv) - D * (lu - lv) + ((hv * D - E * hu) - (lv * D - E * lu)) := by grind
    omega
  have k1 : lu + lv ≤ hu + hv := Int.le_of_mul_le_mul_left g1 p0
  have k2 : lu - lv ≤ hu - hv := Int.le_of_mul_le_mul_left g2 p0
  have l1 := mid_low S M
  have l2 := mid_high S M
  have M' : Mid D back (hv * D - E * hu) := by rw [hon]; exact M
  have h1 := mid_low S M'
  have h2 := mid_high S M'
  clear M M' hon g1 g2
  cases t
  · simp only [ins_f, Bool.false_eq_true, if_false, false_implies] at l1 h1 ⊢
    unfold diag insP
    constructor
    · intro ⟨q1, q2, q3, q4⟩
      constructor
      · by_cases c : lu ≤ 0
        · exact Or.inl c
        · right; have := l2 (by omega); omega
      · by_cases c : 0 < hu
        · exact Or.inl c
        · right; have := h1 (by omega); omega
    · intro ⟨q1, q2⟩
      have x1 : lu + lv ≤ 128 ∧ lu - lv ≤ 128 := by rcases q1 with q1 | q1; exact ⟨(l1 q1).1, (l1 q1).2.1⟩; omega
      have x2 : -128 < hu + hv ∧ -128 < hu - hv := by rcases q2 with q2 | q2; exact h2 q2; omega
      omega
  · simp only [ins_t, if_true, true_implies] at l1 h1 ⊢
    unfold diag insP
    constructor
    · intro ⟨q1, q2, q3, q4⟩
      constructor
      · by_cases c : lu ≤ 0
        · exact Or.inl c
        · right; have := l2 (by omega); omega
      · by_cases c : 0 < hu
        · exact Or.inl c
        · right; have := h1 (by omega); omega
    · intro ⟨q1, q2⟩
      have x1 : lu + lv ≤ 128 ∧ lu - lv < 128 := by rcases q1 with q1 | q1; exact ⟨(l1 q1).1, (l1 q1).2.2⟩; omega
      have x2 : -128 < hu + hv ∧ -128 ≤ hu - hv := by rcases q2 with q2 | q2; exact ⟨(h2 q2).1, by have := (h2 q2).2; omega⟩; omega
      omega
theorem posU_iff {W : Way} (g : W.Good) {x y i k : Int} (o : W.On (uC W.turned x y) (vC W.turned x y)) (hx : W.across i = k) :
    posU W.turned x y ≤ i ↔ (uC W.turned x y - 256 * i - 128 ≤ 0 ∨ ins W.turned (uC W.turned x y - 256 * i - 128) (vC W.turned x y - 256 * k - 128)) := by
  rw [← in_insC]
  have L := leastC_is (uC W.turned x y)
  unfold posU
  by_cases c : inOk x y = true
  · have a := across_in g x y o c
    have b := iC_or W.turned x y c
    obtain ⟨n, hn⟩ : ∃ n, iC W.turned x y = n := ⟨_, rfl⟩
    rw [hn] at a b ⊢
    have e : n = i → kC W.turned x y = k := fun e => by rw [← a, e, hx]
    constructor
    · intro h
      by_cases d : n = leastC (uC W.turned x y) - 1
      · rw [if_pos ⟨c, d⟩] at h
        by_cases f : n = i
        · right; exact ⟨c, f, e f⟩
        · left; omega
      · rw [if_neg (fun q => d q.2)] at h; left; omega
    · rintro (h | ⟨-, h, h2⟩)
      · split <;> omega
      · by_cases d : n = leastC (uC W.turned x y) - 1
        · rw [if_pos ⟨c, d⟩]; omega
        · rw [if_neg (fun q => d q.2)]; omega
  · rw [if_neg (fun q => c q.1)]
    constructor
    · intro h; left; omega
    · rintro (h | ⟨h, -⟩)
      · omega
      · exact absurd h c
theorem posD_iff {W : Way} (g : W.Good) {x y i k : Int} (o : W.On (uC W.turned x y) (vC W.turned x y)) (hx : W.across i = k) :
    i ≤ posD W.turned x y ↔ (0 < uC W.turned x y - 256 * i - 128 ∨ ins W.turned (uC W.turned x y - 256 * i - 128) (vC W.turned x y - 256 * k - 128)) := by
  rw [← in_insC]
  have L := leastC_is (uC W.turned x y)
  unfold posD
  by_cases c : inOk x y = true
  · have a := across_in g x y o c
    have b := iC_or W.turned x y c
    obtain ⟨n, hn⟩ : ∃ n, iC W.turned x y = n := ⟨_, rfl⟩
    rw [hn] at a b ⊢
    have e : n = i → kC W.turned x y = k := fun e => by rw [← a, e, hx]
    constructor
    · intro h
      by_cases d : n = leastC (uC W.turned x y)
      · rw [if_pos ⟨c, d⟩] at h
        by_cases f : n = i
        · right; exact ⟨c, f, e f⟩
        · left; omega
      · rw [if_neg (fun q => d q.2)] at h; left; omega
    · rintro (h | ⟨-, h, h2⟩)
      · split <;> omega
      · by_cases d : n = leastC (uC W.turned x y)
        · rw [if_pos ⟨c, d⟩]; omega
        · rw [if_neg (fun q => d q.2)]; omega
  · rw [if_neg (fun q => c q.1)]
    constructor
    · intro h; left; omega
    · rintro (h | ⟨h, -⟩)
      · omega
      · exact absurd h c
theorem uC_sub (t : Bool) (x y w h : Int) : uC t (x - w) (y - h) = uC t x y - uC t w h := by cases t <;> rfl
theorem vC_sub (t : Bool) (x y w h : Int) : vC t (x - w) (y - h) = vC t x y - vC t w h := by cases t <;> rfl
theorem uC_pix (t : Bool) (x y i k : Int) : uC t (x - 256 * i - 128) (y - 256 * k - 128) = uC t x y - 256 * uC t i k - 128 := by cases t <;> rfl
theorem vC_pix (t : Bool) (x y i k : Int) : vC t (x - 256 * i - 128) (y - 256 * k - 128) = vC t x y - 256 * vC t i k - 128 := by cases t <;> rfl
theorem unC (t : Bool) (x y : Int) : (if t then vC t x y else uC t x y) = x ∧ (if t then uC t x y else vC t x y) = y := by cases t <;> exact ⟨rfl, rfl⟩
theorem insP_C (t : Bool) (x y : Int) : insP x y ↔ ins t (uC t x y) (vC t x y) := by
  unfold ins; rw [(unC t x y).1, (unC t x y).2]
theorem meets_mid (ax ay bx y2 x y : Int) (c : ¬ (ax = bx ∧ ay = y2)) :
    mtP (ax - 256 * x - 128) (ay - 256 * y - 128) (bx - 256 * x - 128) (y2 - 256 * y - 128) ↔ diag (ax - 256 * x - 128) (ay - 256 * y - 128) (bx - 256 * x - 128) (y2 - 256 * y - 128) ∧
      Mid (mkWay0 ax ay bx y2).du (mkWay0 ax ay bx y2).back ((vC (mkWay0 ax ay bx y2).turned ax ay - 256 * vC (mkWay0 ax ay bx y2).turned x y - 128) * (mkWay0 ax ay bx y2).du - (mkWay0 ax ay bx y2).dv * (uC (mkWay0 ax ay bx y2).turned ax ay - 256 * uC (mkWay0 ax ay bx y2).turned x y - 128)) := by
  have ew : bx - 256 * x - 128 - (ax - 256 * x - 128) = bx - ax := by omega
  have eh : y2 - 256 * y - 128 - (ay - 256 * y - 128) = y2 - ay := by omega
  have hm := mt_mid (w := bx - ax) (h := y2 - ay) (px := ax - 256 * x - 128) (py := ay - 256 * y - 128) rfl rfl (by omega)
  rw [uC_pix, vC_pix, uC_sub, vC_sub] at hm
  unfold mtP diag
  rw [ew, eh, hm]
  have e1 : (ax - 256 * x - 128 = bx - 256 * x - 128 ∧ ay - 256 * y - 128 = y2 - 256 * y - 128) ↔ False := by
    constructor
    · intro h; exact c (by omega)
    · intro h; cases h
  rw [e1, false_or]
  constructor
  · intro ⟨h1, h2, h3, h4, h5⟩; exact ⟨⟨h1, h2, h3, h4⟩, h5⟩
  · intro ⟨⟨h1, h2, h3, h4⟩, h5⟩; exact ⟨h1, h2, h3, h4, h5⟩
theorem diag_swap (px py qx qy : Int) : diag px py qx qy ↔ diag qx qy px py := by
  unfold diag; omega
theorem exits_at (ax ay bx y2 x y : Int) (c : ¬ (ax = bx ∧ ay = y2)) :
    exP ax ay bx y2 x y ↔ (mkWay0 ax ay bx y2).across (uC (decide (turnP ax ay bx y2)) x y) = vC (decide (turnP ax ay bx y2)) x y ∧
      (if (mkWay0 ax ay bx y2).au < (mkWay0 ax ay bx y2).bu then posU (decide (turnP ax ay bx y2)) ax ay ≤ uC (decide (turnP ax ay bx y2)) x y ∧ uC (decide (turnP ax ay bx y2)) x y < posU (decide (turnP ax ay bx y2)) bx y2
        else uC (decide (turnP ax ay bx y2)) x y ≤ posD (decide (turnP ax ay bx y2)) ax ay ∧ posD (decide (turnP ax ay bx y2)) bx y2 < uC (decide (turnP ax ay bx y2)) x y) := by
  unfold exP
  rw [meets_mid ax ay bx y2 x y c]
  have g : (mkWay0 ax ay bx y2).Good := wayZ_good ax ay bx y2 _ c
  have hne := way_ne ax ay bx y2 (if leastC (uC (decide (turnP ax ay bx y2)) bx y2) < leastC (uC (decide (turnP ax ay bx y2)) ax ay) then 1 else 0) c
  have ht : (mkWay0 ax ay bx y2).turned = decide (turnP ax ay bx y2) := rfl
  have e1 : (mkWay0 ax ay bx y2).au = uC (mkWay0 ax ay bx y2).turned ax ay := rfl
  have e2 : (mkWay0 ax ay bx y2).av = vC (mkWay0 ax ay bx y2).turned ax ay := rfl
  have e3 : (mkWay0 ax ay bx y2).bu = uC (mkWay0 ax ay bx y2).turned bx y2 := rfl
  have e4 : (mkWay0 ax ay bx y2).bv = vC (mkWay0 ax ay bx y2).turned bx y2 := rfl
  have hne : (mkWay0 ax ay bx y2).au ≠ (mkWay0 ax ay bx y2).bu := hne
  rw [← ht]
  obtain ⟨W, hW⟩ : ∃ W, mkWay0 ax ay bx y2 = W := ⟨_, rfl⟩
  rw [hW] at g hne e1 e2 e3 e4 ⊢
  clear hW ht
  have oa : W.On (uC W.turned ax ay) (vC W.turned ax ay) := by rw [← e1, ← e2]; exact on_a W
  have ob : W.On (uC W.turned bx y2) (vC W.turned bx y2) := by rw [← e3, ← e4]; exact on_b W
  obtain ⟨i, hi⟩ : ∃ i, uC W.turned x y = i := ⟨_, rfl⟩
  obtain ⟨k, hk⟩ : ∃ i, vC W.turned x y = i := ⟨_, rfl⟩
  have hA : diag (ax - 256 * x - 128) (ay - 256 * y - 128) (bx - 256 * x - 128) (y2 - 256 * y - 128) ↔
      diag (if W.turned then vC W.turned ax ay - 256 * k - 128 else uC W.turned ax ay - 256 * i - 128) (if W.turned then uC W.turned ax ay - 256 * i - 128 else vC W.turned ax ay - 256 * k - 128)
        (if W.turned then vC W.turned bx y2 - 256 * k - 128 else uC W.turned bx y2 - 256 * i - 128) (if W.turned then uC W.turned bx y2 - 256 * i - 128 else vC W.turned bx y2 - 256 * k - 128) := by
    rw [← hi, ← hk]; cases W.turned <;> exact Iff.rfl
  rw [hA, insP_C W.turned, uC_pix, vC_pix, hi, hk, ← across_iff g i k _ _ oa]
  clear hA
  by_cases hx : W.across i = k
  · have M := (across_iff g i k _ _ oa).1 hx
    have M' := (across_iff g i k _ _ ob).1 hx
    have hon : (vC W.turned bx y2 - 256 * k - 128) * W.du - W.dv * (uC W.turned bx y2 - 256 * i - 128) = (vC W.turned ax ay - 256 * k - 128) * W.du - W.dv * (uC W.turned ax ay - 256 * i - 128) := by
      unfold Way.On at oa ob; grind
    by_cases hlt : W.au < W.bu
    · have n1 : i < posU W.turned bx y2 ↔ ¬ (posU W.turned bx y2 ≤ i) := Int.not_le.symm
      rw [if_pos hlt, n1, diag_seg g hon (by omega) M, posU_iff g oa hx, posU_iff g ob hx]
      constructor
      · intro ⟨⟨⟨h1, h2⟩, h3⟩, h4⟩; exact ⟨h3, h1, fun h => h.elim (fun h => h2.elim (fun h2 => by omega) h4) h4⟩
      · intro ⟨h1, h2, h3⟩; exact ⟨⟨⟨h2, Or.inl (by have := fun q => h3 (Or.inl q); omega)⟩, h1⟩, fun q => h3 (Or.inr q)⟩
    · have n1 : posD W.turned bx y2 < i ↔ ¬ (i ≤ posD W.turned bx y2) := Int.not_le.symm
      rw [if_neg hlt, n1, posD_iff g oa hx, posD_iff g ob hx]
      have hs : ∀ a b c d e f g h : Int, diag (if W.turned then a else b) (if W.turned then c else d) (if W.turned then e else f) (if W.turned then g else h) ↔ diag (if W.turned then e else f) (if W.turned then g else h) (if W.turned then a else b) (if W.turned then c else d) := fun a b c d e f g h => diag_swap _ _ _ _
      rw [hs, diag_seg g hon.symm (by omega) M']
      constructor
      · intro ⟨⟨⟨h1, h2⟩, h3⟩, h4⟩; exact ⟨h3, h2, fun h => h.elim (fun h => h1.elim (fun h2 => by omega) h4) h4⟩
      · intro ⟨h1, h2, h3⟩; exact ⟨⟨⟨Or.inl (by have := fun q => h3 (Or.inl q); omega), h2⟩, h1⟩, fun q => h3 (Or.inr q)⟩
  · constructor
    · rintro ⟨⟨-, h⟩, -⟩; exact absurd h hx
    · rintro ⟨h, -⟩; exact absurd h hx
end Go.Proofs.YtbkmgngeahmefaaGreat
end
section
namespace Go.Proofs.YtbkmgngeahmefaaGreat
theorem tdiv_near (p : Int) : p / 256 ≤ p.tdiv 256 ∧ p.tdiv 256 ≤ p / 256 + 1 := by
  have h1 := Int.tdiv_mul_add_tmod p 256
  have h2 := Int.tmod_lt_of_pos p (show (0 : Int) < 256 by omega)
  have h3 := Int.tmod_lt_of_pos (-p) (show (0 : Int) < 256 by omega)
  rw [Int.neg_tmod] at h3
  omega
theorem mem_run (W : Way) (s σ N : Int) (q : St) : q ∈ W.run s σ N ↔ ∃ j : Int, 0 ≤ j ∧ j < N ∧ q = W.cell j (s + j * σ) := by
  unfold Way.run
  rw [List.mem_map]
  constructor
  · rintro ⟨j, hj, rfl⟩
    have := List.mem_range.1 hj
    exact ⟨(j : Int), by omega, by omega, rfl⟩
  · rintro ⟨j, h0, h1, rfl⟩
    exact ⟨j.toNat, List.mem_range.2 (by omega), by rw [Int.toNat_of_nonneg h0]⟩
theorem cell_uv (W : Way) (k u : Int) : uC W.turned (W.cell k u).X (W.cell k u).Y = u ∧ vC W.turned (W.cell k u).X (W.cell k u).Y = W.across u := by
  unfold Way.cell Way.px Way.py uC vC
  cases W.turned <;> exact ⟨rfl, rfl⟩
theorem cell_of (W : Way) (q : St) (u : Int) (h1 : uC W.turned q.X q.Y = u) (h2 : W.across u = vC W.turned q.X q.Y) : q = W.cell q.K u := by
  unfold Way.cell Way.px Way.py
  rw [h2, ← h1]
  cases q; cases W.turned <;> rfl
def idxP (ax ay bx y2 x y : Int) : Int := if (mkWay0 ax ay bx y2).au < (mkWay0 ax ay bx y2).bu then uC (decide (turnP ax ay bx y2)) x y - posU (decide (turnP ax ay bx y2)) ax ay
  else posD (decide (turnP ax ay bx y2)) ax ay - uC (decide (turnP ax ay bx y2)) x y
theorem mem_line (ax ay bx y2 : Int) (c : ¬ (ax = bx ∧ ay = y2)) (q : St) : q ∈ lineL ax ay bx y2 ↔ exP ax ay bx y2 q.X q.Y ∧ q.K = idxP ax ay bx y2 q.X q.Y := by
  rw [exits_at ax ay bx y2 q.X q.Y c]
  unfold lineL idxP
  have ht : (mkWay0 ax ay bx y2).turned = decide (turnP ax ay bx y2) := rfl
  rw [← ht]
  obtain ⟨W, hW⟩ : ∃ W, mkWay0 ax ay bx y2 = W := ⟨_, rfl⟩
  rw [hW]
  by_cases hlt : W.au < W.bu
  · simp only [if_pos hlt]
    rw [mem_run]
    constructor
    · rintro ⟨j, h0, h1, rfl⟩
      obtain ⟨e1, e2⟩ := cell_uv W j (posU W.turned ax ay + j * 1)
      rw [e1, e2]
      exact ⟨⟨rfl, by omega, by omega⟩, by show j = _; omega⟩
    · rintro ⟨⟨h1, h2, h3⟩, h4⟩
      refine ⟨q.K, by omega, by omega, ?_⟩
      rw [show posU W.turned ax ay + q.K * 1 = uC W.turned q.X q.Y from by omega]
      exact cell_of W q _ rfl h1
  · simp only [if_neg hlt]
    rw [mem_run]
    constructor
    · rintro ⟨j, h0, h1, rfl⟩
      obtain ⟨e1, e2⟩ := cell_uv W j (posD W.turned ax ay + j * -1)
      rw [e1, e2]
      exact ⟨⟨rfl, by omega, by omega⟩, by show j = _; omega⟩
    · rintro ⟨⟨h1, h2, h3⟩, h4⟩
      refine ⟨q.K, by omega, by omega, ?_⟩
      rw [show posD W.turned ax ay + q.K * -1 = uC W.turned q.X q.Y from by omega]
      exact cell_of W q _ rfl h1
structure Ln where
  From : Int
  To : Int
  X : Int
  Y : Int
  Extra : Bool
def exA (ax ay bx y2 : Int) : Prop := inOk ax ay = true ∧ ¬ (ax = bx ∧ ay = y2) ∧ exP ax ay bx y2 (inX ax ay) (inY ax ay)
instance (ax ay bx y2 : Int) : Decidable (exA ax ay bx y2) := by unfold exA; exact inferInstance
def crP (f t u : Int) : Prop := min f t ≤ u ∧ u < max f t
instance (f t u : Int) : Decidable (crP f t u) := by unfold crP; exact inferInstance
def ofL (ax ay bx y2 : Int) : Ln :=
  if exA ax ay bx y2 then ⟨leastC (uC (decide (turnP ax ay bx y2)) ax ay), leastC (uC (decide (turnP ax ay bx y2)) bx y2), inX ax ay, inY ax ay, ! decide (crP (leastC (uC (decide (turnP ax ay bx y2)) ax ay)) (leastC (uC (decide (turnP ax ay bx y2)) bx y2)) (iC (decide (turnP ax ay bx y2)) ax ay))⟩
  else ⟨leastC (uC (decide (turnP ax ay bx y2)) ax ay), leastC (uC (decide (turnP ax ay bx y2)) bx y2), 0, 0, false⟩
def numL (l : Ln) (x y u : Int) : Int := if l.Extra = true then (if x = l.X ∧ y = l.Y then 0 else (if l.To < l.From then l.From - 1 - u else u - l.From) + 1) else (if l.To < l.From then l.From - 1 - u else u - l.From)
theorem iC_uv (t : Bool) (x y : Int) : iC t x y = uC t (inX x y) (inY x y) ∧ kC t x y = vC t (inX x y) (inY x y) := by cases t <;> exact ⟨rfl, rfl⟩
theorem uv_ext (t : Bool) (x y i k : Int) : (x = i ∧ y = k) ↔ (uC t x y = uC t i k ∧ vC t x y = vC t i k) := by
  cases t
  · exact Iff.rfl
  · exact And.comm
theorem num_idx (ax ay bx y2 x y : Int) (c : ¬ (ax = bx ∧ ay = y2)) (h : exP ax ay bx y2 x y) : numL (ofL ax ay bx y2) x y (uC (decide (turnP ax ay bx y2)) x y) = idxP ax ay bx y2 x y := by
  rw [exits_at ax ay bx y2 x y c] at h
  have hA := exits_at ax ay bx y2 (inX ax ay) (inY ax ay) c
  have g : (mkWay0 ax ay bx y2).Good := wayZ_good ax ay bx y2 _ c
  unfold numL ofL idxP
  have ht : (mkWay0 ax ay bx y2).turned = decide (turnP ax ay bx y2) := rfl
  have e1 : (mkWay0 ax ay bx y2).au = uC (mkWay0 ax ay bx y2).turned ax ay := rfl
  have e2 : (mkWay0 ax ay bx y2).av = vC (mkWay0 ax ay bx y2).turned ax ay := rfl
  have e3 : (mkWay0 ax ay bx y2).bu = uC (mkWay0 ax ay bx y2).turned bx y2 := rfl
  rw [← ht] at h hA ⊢
  obtain ⟨W, hW⟩ : ∃ W, mkWay0 ax ay bx y2 = W := ⟨_, rfl⟩
  rw [hW] at g e1 e2 e3 h hA ⊢
  clear hW ht
  have oa : W.On (uC W.turned ax ay) (vC W.turned ax ay) := by rw [← e1, ← e2]; exact on_a W
  obtain ⟨i1, i2⟩ := iC_uv W.turned ax ay
  rw [← i1, ← i2] at hA
  have hX := uv_ext W.turned x y (inX ax ay) (inY ax ay)
  rw [← i1, ← i2] at hX
  have L := leastC_is (uC W.turned ax ay)
  have L' := leastC_is (uC W.turned bx y2)
  rw [e1, e3] at h hA
  simp only [e1, e3]
  clear e1 e2 e3 i1 i2
  obtain ⟨ua, hua⟩ : ∃ v, uC W.turned ax ay = v := ⟨_, rfl⟩
  obtain ⟨ub, hub⟩ : ∃ v, uC W.turned bx y2 = v := ⟨_, rfl⟩
  have hm : ua < ub → leastC ua ≤ leastC ub := fun h => leastC_mono (by omega)
  have hm' : ¬ ua < ub → leastC ub ≤ leastC ua := fun h => leastC_mono (by omega)
  have a := across_in g ax ay oa
  have b := iC_or W.turned ax ay
  have pa : posU W.turned ax ay = leastC ua - if inOk ax ay = true ∧ iC W.turned ax ay = leastC ua - 1 then 1 else 0 := by unfold posU; rw [hua]
  have pb : posU W.turned bx y2 ≤ leastC ub := by unfold posU; rw [hub]; split <;> omega
  have pc : posD W.turned ax ay = leastC ua - if inOk ax ay = true ∧ iC W.turned ax ay = leastC ua then 0 else 1 := by unfold posD; rw [hua]
  have pd : leastC ub - 1 ≤ posD W.turned bx y2 := by unfold posD; rw [hub]; split <;> omega
  simp only [hua, hub] at h hA L L' b ⊢
  have hE : exA ax ay bx y2 ↔ inOk ax ay = true ∧ exP ax ay bx y2 (inX ax ay) (inY ax ay) := ⟨fun q => ⟨q.1, q.2.2⟩, fun q => ⟨q.1, c, q.2⟩⟩
  rw [hA] at hE
  clear hA
  obtain ⟨n, hn⟩ : ∃ v, iC W.turned ax ay = v := ⟨_, rfl⟩
  obtain ⟨m, hm2⟩ : ∃ v, kC W.turned ax ay = v := ⟨_, rfl⟩
  obtain ⟨i, hi⟩ : ∃ v, uC W.turned x y = v := ⟨_, rfl⟩
  obtain ⟨k, hk⟩ : ∃ v, vC W.turned x y = v := ⟨_, rfl⟩
  rw [hn, hm2] at hX
  simp only [hn, hm2, hi, hk] at h hE a b pa pc hX ⊢
  obtain ⟨A, hA⟩ : ∃ v, leastC ua = v := ⟨_, rfl⟩
  obtain ⟨B, hB⟩ : ∃ v, leastC ub = v := ⟨_, rfl⟩
  simp only [hA, hB] at hm hm' L L' b pa pb pc pd ⊢
  obtain ⟨PA, hPA⟩ : ∃ v, posU W.turned ax ay = v := ⟨_, rfl⟩
  obtain ⟨PB, hPB⟩ : ∃ v, posU W.turned bx y2 = v := ⟨_, rfl⟩
  obtain ⟨DA, hDA⟩ : ∃ v, posD W.turned ax ay = v := ⟨_, rfl⟩
  obtain ⟨DB, hDB⟩ : ∃ v, posD W.turned bx y2 = v := ⟨_, rfl⟩
  simp only [hPA, hPB, hDA, hDB] at h hE pa pb pc pd ⊢
  obtain ⟨h1, h2⟩ := h
  have hXi : inOk ax ay = true → ((x = inX ax ay ∧ y = inY ax ay) ↔ i = n) := fun q => by
    rw [hX]
    exact ⟨fun q => q.1, fun e => ⟨e, by rw [← h1, ← a q, e]⟩⟩
  clear hX hA hB hPA hPB hDA hDB hi hk hn hm2 hua hub g oa c
  by_cases hin : inOk ax ay = true
  · replace b := b hin; replace a := a hin; replace hXi := hXi hin
    by_cases hlt : ua < ub
    · simp only [if_pos hlt] at h2 hE ⊢
      have hm := hm hlt
      by_cases en : n = A - 1
      · rw [if_pos ⟨hin, en⟩] at pa
        have x1 : exA ax ay bx y2 := hE.2 ⟨hin, a, by omega, by omega⟩
        have x2 : ¬ crP A B n := fun q => by unfold crP at q; omega
        rw [if_pos x1]
        simp only [decide_eq_false x2, Bool.not_false, if_true]
        rw [if_neg (show ¬ B < A by omega)]
        by_cases ei : i = n
        · rw [if_pos (hXi.2 ei)]; omega
        · rw [if_neg (fun q => ei (hXi.1 q))]; omega
      · rw [if_neg (fun q => en q.2)] at pa
        have x1 : exA ax ay bx y2 := hE.2 ⟨hin, a, by omega, by omega⟩
        have x2 : crP A B n := by unfold crP; omega
        rw [if_pos x1]
        simp only [decide_eq_true x2, Bool.not_true, Bool.false_eq_true, if_false]
        rw [if_neg (show ¬ B < A by omega)]; omega
    · simp only [if_neg hlt] at h2 hE ⊢
      have hm := hm' hlt
      by_cases en : n = A
      · rw [if_pos ⟨hin, en⟩] at pc
        have x1 : exA ax ay bx y2 := hE.2 ⟨hin, a, by omega, by omega⟩
        have x2 : ¬ crP A B n := fun q => by unfold crP at q; omega
        rw [if_pos x1]
        simp only [decide_eq_false x2, Bool.not_false, if_true]
        by_cases ei : i = n
        · rw [if_pos (hXi.2 ei)]; omega
        · rw [if_neg (fun q => ei (hXi.1 q)), if_pos (show B < A by omega)]; omega
      · rw [if_neg (fun q => en q.2)] at pc
        have x1 : exA ax ay bx y2 := hE.2 ⟨hin, a, by omega, by omega⟩
        have x2 : crP A B n := by unfold crP; omega
        rw [if_pos x1]
        simp only [decide_eq_true x2, Bool.not_true, Bool.false_eq_true, if_false]
        rw [if_pos (show B < A by omega)]; omega
  · rw [if_neg (fun q => hin q.1)] at pa pc
    rw [if_neg (fun q => hin (hE.1 q).1)]
    simp only [Bool.false_eq_true, if_false]
    by_cases hlt : ua < ub
    · simp only [if_pos hlt] at h2 ⊢
      have hm := hm hlt
      rw [if_neg (show ¬ B < A by omega)]; omega
    · simp only [if_neg hlt] at h2 ⊢
      have hm := hm' hlt
      rw [if_pos (show B < A by omega)]; omega
theorem rise_ext : ∀ (a b : List St), a.Pairwise (fun s t => s.K < t.K) → b.Pairwise (fun s t => s.K < t.K) → (∀ q, q ∈ a ↔ q ∈ b) → a = b
  | [], [], _, _, _ => rfl
  | [], s :: b, _, _, h => absurd ((h s).2 List.mem_cons_self) (by simp)
  | s :: a, [], _, _, h => absurd ((h s).1 List.mem_cons_self) (by simp)
  | s :: a, t :: b, ha, hb, h => by
    obtain ⟨ha1, ha2⟩ := List.pairwise_cons.1 ha
    obtain ⟨hb1, hb2⟩ := List.pairwise_cons.1 hb
    have e : s = t := by
      rcases List.mem_cons.1 ((h s).1 List.mem_cons_self) with e | e
      · exact e
      rcases List.mem_cons.1 ((h t).2 List.mem_cons_self) with e' | e'
      · exact e'.symm
      · have := hb1 s e; have := ha1 t e'; omega
    subst e
    rw [rise_ext a b ha2 hb2 (fun q => ⟨fun hq => ?_, fun hq => ?_⟩)]
    · rcases List.mem_cons.1 ((h q).1 (List.mem_cons_of_mem _ hq)) with e | e
      · subst e; have := ha1 q hq; omega
      · exact e
    · rcases List.mem_cons.1 ((h q).2 (List.mem_cons_of_mem _ hq)) with e | e
      · subst e; have := hb1 q hq; omega
      · exact e
theorem mem_within (ax ay bx y2 x0 y0 x1 y1 : Int) (c : ¬ (ax = bx ∧ ay = y2)) (r : rightP x0 y0 x1 y1) (q : St) : q ∈ withinL ax ay bx y2 x0 y0 x1 y1 ↔ (x0 ≤ q.X ∧ q.X < x1 ∧ y0 ≤ q.Y ∧ q.Y < y1) ∧ exP ax ay bx y2 q.X q.Y ∧ q.K = idxP ax ay bx y2 q.X q.Y := by
  unfold withinL
  rw [if_neg (fun q => q.elim c (fun q => q r)), List.mem_filter, mem_line _ _ _ _ c, decide_eq_true_iff]
  unfold hasP
  exact ⟨fun ⟨h1, _, h2⟩ => ⟨h2, h1⟩, fun ⟨h1, h2⟩ => ⟨h2, r, h1⟩⟩
end Go.Proofs.YtbkmgngeahmefaaGreat
end
section
namespace Go.Proofs.YtbkmgngeahmefaaGreat
theorem exP_same (ax ay x y : Int) : ¬ exP ax ay ax ay x y := by
  unfold exP mtP insP; omega
theorem idx_inj {ax ay bx y2 x y x' y' : Int} (h : exP ax ay bx y2 x y) (h' : exP ax ay bx y2 x' y') (e : idxP ax ay bx y2 x y = idxP ax ay bx y2 x' y') : x = x' ∧ y = y' := by
  by_cases c : ax = bx ∧ ay = y2
  · obtain ⟨rfl, rfl⟩ := c; exact absurd h (exP_same _ _ _ _)
  rw [exits_at _ _ _ _ _ _ c] at h h'
  have hu : uC (decide (turnP ax ay bx y2)) x y = uC (decide (turnP ax ay bx y2)) x' y' := by
    unfold idxP at e; split at e <;> omega
  rw [uv_ext (decide (turnP ax ay bx y2))]
  exact ⟨hu, by rw [← h.1, ← h'.1, hu]⟩
theorem idx_bd {ax ay bx y2 x y : Int} (ha : MayP ax ay) (hb : MayP bx y2) (h : exP ax ay bx y2 x y) : 0 ≤ idxP ax ay bx y2 x y ∧ idxP ax ay bx y2 x y < 4194308 := by
  by_cases c : ax = bx ∧ ay = y2
  · obtain ⟨rfl, rfl⟩ := c; exact absurd h (exP_same _ _ _ _)
  rw [exits_at _ _ _ _ _ _ c] at h
  have b1 := uC_bd (decide (turnP ax ay bx y2)) ha
  have b2 := uC_bd (decide (turnP ax ay bx y2)) hb
  have p1 : -2097154 ≤ posU (decide (turnP ax ay bx y2)) ax ay ∧ posU (decide (turnP ax ay bx y2)) ax ay ≤ 2097153 := by unfold posU leastC; split <;> omega
  have p2 : -2097154 ≤ posU (decide (turnP ax ay bx y2)) bx y2 ∧ posU (decide (turnP ax ay bx y2)) bx y2 ≤ 2097153 := by unfold posU leastC; split <;> omega
  have p3 : -2097154 ≤ posD (decide (turnP ax ay bx y2)) ax ay ∧ posD (decide (turnP ax ay bx y2)) ax ay ≤ 2097153 := by unfold posD leastC; split <;> omega
  have p4 : -2097154 ≤ posD (decide (turnP ax ay bx y2)) bx y2 ∧ posD (decide (turnP ax ay bx y2)) bx y2 ≤ 2097153 := by unfold posD leastC; split <;> omega
  obtain ⟨h1, h2⟩ := h
  unfold idxP
  split at h2 <;> split <;> first | omega | contradiction
structure Proc (ax ay bx y2 x0 y0 y1 x y : Int) (L : List St) : Prop where
  rise : L.Pairwise (fun s t => s.K < t.K)
  mem : ∀ q, q ∈ L ↔ (x0 ≤ q.X ∧ y0 ≤ q.Y ∧ q.Y < y1 ∧ (q.X < x ∨ q.X = x ∧ q.Y < y)) ∧ exP ax ay bx y2 q.X q.Y ∧ q.K = idxP ax ay bx y2 q.X q.Y
section
variable {ax ay bx y2 x0 y0 y1 x y : Int} {L : List St}
theorem Proc.start : Proc ax ay bx y2 x0 y0 y1 x0 y0 [] := ⟨List.Pairwise.nil, fun q => ⟨fun h => absurd h (by simp), fun ⟨h, _⟩ => by omega⟩⟩
theorem Proc.skip (h : Proc ax ay bx y2 x0 y0 y1 x y L) (hn : ¬ exP ax ay bx y2 x y) : Proc ax ay bx y2 x0 y0 y1 x (y + 1) L := by
  refine ⟨h.rise, fun q => (h.mem q).trans ⟨fun ⟨h1, h2⟩ => ⟨by omega, h2⟩, fun ⟨h1, h2⟩ => ⟨?_, h2⟩⟩⟩
  by_cases e : q.X = x ∧ q.Y = y
  · rw [e.1, e.2] at h2; exact absurd h2.1 hn
  · omega
theorem Proc.column (h : Proc ax ay bx y2 x0 y0 y1 x y1 L) : Proc ax ay bx y2 x0 y0 y1 (x + 1) y0 L :=
  ⟨h.rise, fun q => (h.mem q).trans ⟨fun ⟨h1, h2⟩ => ⟨by omega, h2⟩, fun ⟨h1, h2⟩ => ⟨by omega, h2⟩⟩⟩
theorem Proc.done {x1 : Int} (h : Proc ax ay bx y2 x0 y0 y1 x1 y0 L) (r : rightP x0 y0 x1 y1) : L = withinL ax ay bx y2 x0 y0 x1 y1 := by
  by_cases c : ax = bx ∧ ay = y2
  · obtain ⟨rfl, rfl⟩ := c
    have : L = [] := by
      cases L with
      | nil => rfl
      | cons s L => exact absurd ((h.mem s).1 List.mem_cons_self).2.1 (exP_same _ _ _ _)
    rw [this]; unfold withinL; rw [if_pos (Or.inl ⟨rfl, rfl⟩)]
  · refine rise_ext _ _ h.rise (withinL_rise _ _ _ _ _ _ _ _) fun q => (h.mem q).trans ?_
    rw [mem_within _ _ _ _ _ _ _ _ c r]
    constructor
    · intro ⟨h1, h2⟩; exact ⟨by omega, h2⟩
    · intro ⟨h1, h2⟩; exact ⟨by omega, h2⟩
def putAt (L : List St) (j : Nat) (s : St) : List St := L.take j ++ s :: L.drop j
theorem Proc.put (h : Proc ax ay bx y2 x0 y0 y1 x y L) (he : exP ax ay bx y2 x y) (hx : x0 ≤ x) (hy : y0 ≤ y) (hy1 : y < y1) (j : Nat)
    (h1 : ∀ i s, i < j → L[i]? = some s → s.K < idxP ax ay bx y2 x y) (h2 : ∀ s, L[j]? = some s → idxP ax ay bx y2 x y ≤ s.K) :
    Proc ax ay bx y2 x0 y0 y1 x (y + 1) (putAt L j ⟨idxP ax ay bx y2 x y, x, y⟩) := by
  have hne : ∀ q ∈ L, q.K ≠ idxP ax ay bx y2 x y := fun q hq e => by
    obtain ⟨g1, g2, g3⟩ := (h.mem q).1 hq
    have := idx_inj g2 he (by rw [← g3, e])
    omega
  have hT : ∀ q ∈ L.take j, q.K < idxP ax ay bx y2 x y := fun q hq => by
    obtain ⟨i, hi⟩ := List.mem_iff_getElem?.1 hq
    rw [List.getElem?_take] at hi
    split at hi
    · exact h1 i q (by assumption) hi
    · cases hi
  have hD : ∀ q ∈ L.drop j, idxP ax ay bx y2 x y < q.K := fun q hq => by
    have hm := List.mem_of_mem_drop hq
    obtain ⟨i, hi⟩ := List.mem_iff_getElem?.1 hq
    rw [List.getElem?_drop] at hi
    have hlt : j < L.length := by have := (List.getElem?_eq_some_iff.1 hi).1; omega
    have g := h2 L[j] (by simp [hlt])
    have gn := hne q hm
    cases i with
    | zero =>
      have : L[j] = q := by rw [Nat.add_zero] at hi; simpa [hlt] using hi
      rw [this] at g; omega
    | succ i =>
      have hlt2 := (List.getElem?_eq_some_iff.1 hi).1
      have := List.pairwise_iff_getElem.1 h.rise j (j + (i + 1)) hlt hlt2 (by omega)
      have e2 := (List.getElem?_eq_some_iff.1 hi).2
      rw [e2] at this
      omega
  refine ⟨?_, fun q => ?_⟩
  · unfold putAt
    rw [List.pairwise_append, List.pairwise_cons]
    refine ⟨h.rise.sublist (List.take_sublist _ _), ⟨fun q hq => hD q hq, h.rise.sublist (List.drop_sublist _ _)⟩, fun q hq t ht => ?_⟩
    have a := hT q hq
    rcases List.mem_cons.1 ht with rfl | ht
    · exact a
    · have := hD t ht; omega
  · unfold putAt
    have e : q ∈ L.take j ++ (⟨idxP ax ay bx y2 x y, x, y⟩ : St) :: L.drop j ↔ q = ⟨idxP ax ay bx y2 x y, x, y⟩ ∨ q ∈ L := by
      have : q ∈ L ↔ q ∈ L.take j ++ L.drop j := by rw [List.take_append_drop]
      rw [this]
      simp only [List.mem_append, List.mem_cons]
      constructor
      · rintro (a | a | a)
        · exact Or.inr (Or.inl a)
        · exact Or.inl a
        · exact Or.inr (Or.inr a)
      · rintro (a | a | a)
        · exact Or.inr (Or.inl a)
        · exact Or.inl a
        · exact Or.inr (Or.inr a)
    rw [e, h.mem q]
    constructor
    · rintro (rfl | ⟨g1, g2⟩)
      · exact ⟨⟨hx, hy, hy1, Or.inr ⟨rfl, show y < y + 1 by omega⟩⟩, he, rfl⟩
      · exact ⟨by omega, g2⟩
    · intro ⟨g1, g2, g3⟩
      by_cases c : q.X = x ∧ q.Y = y
      · left
        obtain ⟨K, X, Y⟩ := q
        obtain ⟨rfl, rfl⟩ := c
        rw [show K = _ from g3]
      · right; exact ⟨by omega, g2, g3⟩
theorem rise_len : ∀ (L : List St) (a b : Int), L.Pairwise (fun s t => s.K < t.K) → (∀ q ∈ L, a ≤ q.K ∧ q.K < b) → a ≤ b → ((L.length : Nat) : Int) ≤ b - a
  | [], a, b, _, _, h => by simp; omega
  | s :: L, a, b, hp, hb, h => by
    obtain ⟨h1, h2⟩ := List.pairwise_cons.1 hp
    have b0 := hb s List.mem_cons_self
    have := rise_len L (s.K + 1) b h2 (fun q hq => ⟨by have := h1 q hq; omega, (hb q (List.mem_cons_of_mem _ hq)).2⟩) (by omega)
    simp; omega
theorem Proc.len (h : Proc ax ay bx y2 x0 y0 y1 x y L) (ha : MayP ax ay) (hb : MayP bx y2) : L.length ≤ 4194308 := by
  have := rise_len L 0 4194308 h.rise (fun q hq => by
    obtain ⟨_, g2, g3⟩ := (h.mem q).1 hq
    rw [g3]; exact idx_bd ha hb g2) (by omega)
  omega
end
end Go.Proofs.YtbkmgngeahmefaaGreat
end
section
namespace Go.Proofs.YtbkmgngeahmefaaGreat
theorem tdiv_bd (n d : Int) (hd : 0 < d) : n - d < n.tdiv d * d ∧ n.tdiv d * d < n + d := by
  have h1 := Int.tdiv_mul_add_tmod n d
  have h2 := Int.tmod_lt_of_pos n hd
  have h3 := Int.tmod_lt_of_pos (-n) hd
  rw [Int.neg_tmod] at h3
  omega
theorem col_near {M h w av D E back k num : Int} (hw : w ≠ 0) (hD : D = if w < 0 then -w else w) (hE : E = if w < 0 then -h else h) (hn : av * D + E * M - back = num) (hb : back = 0 ∨ back = 1) (h0 : k * (256 * D) ≤ num) (h1 : num < (k + 1) * (256 * D)) :
    k - 2 ≤ (av + (M * h).tdiv w).tdiv 256 ∧ (av + (M * h).tdiv w).tdiv 256 ≤ k + 2 := by
  have hD0 : 0 < D := by rw [hD]; split <;> omega
  have e : (M * h).tdiv w = (E * M).tdiv D := by
    by_cases c : w < 0
    · rw [if_pos c] at hD hE
      rw [hD, hE, Int.tdiv_neg, show -h * M = -(M * h) from by grind, Int.neg_tdiv, Int.neg_neg]
    · rw [if_neg c] at hD hE
      rw [hD, hE, Int.mul_comm]
  rw [e]
  obtain ⟨r0, r1⟩ := tdiv_bd (E * M) D hD0
  obtain ⟨r, hr⟩ : ∃ r, (E * M).tdiv D = r := ⟨_, rfl⟩
  rw [hr] at r0 r1 ⊢
  have t := tdiv_near (av + r)
  have g1 : D * (256 * k) < D * (av + r + 2) := by
    have a1 : D * (256 * k) = k * (256 * D) := by grind
    have a2 : D * (av + r + 2) = av * D + r * D + 2 * D := by grind
    rw [a1, a2]; omega
  have g2 : D * (av + r) < D * (256 * k + 256 + 2) := by
    have a1 : D * (av + r) = av * D + r * D := by grind
    have a2 : D * (256 * k + 256 + 2) = (k + 1) * (256 * D) + 2 * D := by grind
    rw [a1, a2]; omega
  have g1 := mul_pos_lt hD0 g1
  have g2 := mul_pos_lt hD0 g2
  omega
theorem col_bd {M h w : Int} (hw : w ≠ 0) (h0 : min 0 w ≤ M) (h1 : M ≤ max 0 w) : -(max h (-h)) ≤ (M * h).tdiv w ∧ (M * h).tdiv w ≤ max h (-h) := by
  have key : (M * h).tdiv w * w = M * h - (M * h).tmod w := by have := Int.tdiv_mul_add_tmod (M * h) w; omega
  have b : ((M * h).tdiv w).natAbs * w.natAbs ≤ h.natAbs * w.natAbs := by
    rw [← Int.natAbs_mul]
    have e1 : ((M * h).tdiv w * w).natAbs ≤ (M * h).natAbs := by
      rw [Int.natAbs_mul, Int.natAbs_tdiv]
      exact Nat.div_mul_le_self _ _
    refine Nat.le_trans e1 ?_
    rw [Int.natAbs_mul, Nat.mul_comm]
    exact Nat.mul_le_mul_left _ (by omega)
  have := Nat.le_of_mul_le_mul_right b (by omega)
  omega
def colX (ax ay bx y2 u : Int) : Int := (mkWay0 ax ay bx y2).px u ((mkWay0 ax ay bx y2).across u)
def colY (ax ay bx y2 u : Int) : Int := (mkWay0 ax ay bx y2).py u ((mkWay0 ax ay bx y2).across u)
theorem col_uv (ax ay bx y2 u : Int) : uC (decide (turnP ax ay bx y2)) (colX ax ay bx y2 u) (colY ax ay bx y2 u) = u ∧ vC (decide (turnP ax ay bx y2)) (colX ax ay bx y2 u) (colY ax ay bx y2 u) = (mkWay0 ax ay bx y2).across u := cell_uv (mkWay0 ax ay bx y2) 0 u
theorem col_only {ax ay bx y2 x y : Int} (c : ¬ (ax = bx ∧ ay = y2)) (h : exP ax ay bx y2 x y) : x = colX ax ay bx y2 (uC (decide (turnP ax ay bx y2)) x y) ∧ y = colY ax ay bx y2 (uC (decide (turnP ax ay bx y2)) x y) := by
  rw [exits_at _ _ _ _ _ _ c] at h
  rw [uv_ext (decide (turnP ax ay bx y2))]
  obtain ⟨h1, h2⟩ := col_uv ax ay bx y2 (uC (decide (turnP ax ay bx y2)) x y)
  rw [h1, h2]
  exact ⟨rfl, h.1.symm⟩
end Go.Proofs.YtbkmgngeahmefaaGreat
end
section
namespace Go.Proofs.YtbkmgngeahmefaaGreat
theorem line_num {ax ay bx y2 : Int} {i : Nat} {s : St} (h : (lineL ax ay bx y2)[i]? = some s) : s.K = i := by
  unfold lineL at h
  split at h
  all_goals
    unfold Way.run at h
    rw [List.getElem?_map] at h
    cases hj : (List.range _)[i]? with
    | none => rw [hj] at h; cases h
    | some j =>
      rw [hj] at h
      have := List.getElem?_eq_some_iff.1 hj
      obtain ⟨_, e⟩ := this
      rw [List.getElem_range] at e
      subst e
      injection h with h
      rw [← h]; rfl
theorem line_at {ax ay bx y2 : Int} (c : ¬ (ax = bx ∧ ay = y2)) (i : Nat) (s : St) : (lineL ax ay bx y2)[i]? = some s ↔ exP ax ay bx y2 s.X s.Y ∧ idxP ax ay bx y2 s.X s.Y = i ∧ s.K = i := by
  constructor
  · intro h
    have k := line_num h
    have m := (mem_line _ _ _ _ c s).1 (List.mem_of_getElem? h)
    exact ⟨m.1, by rw [← m.2, k], k⟩
  · intro ⟨h1, h2, h3⟩
    obtain ⟨j, hj⟩ := List.mem_iff_getElem?.1 ((mem_line _ _ _ _ c s).2 ⟨h1, by rw [h2, h3]⟩)
    have := line_num hj
    rw [show i = j by omega]; exact hj
theorem ofL_ft (ax ay bx y2 : Int) : (ofL ax ay bx y2).From = leastC (uC (decide (turnP ax ay bx y2)) ax ay) ∧ (ofL ax ay bx y2).To = leastC (uC (decide (turnP ax ay bx y2)) bx y2) := by
  unfold ofL; split <;> exact ⟨rfl, rfl⟩
theorem ofL_extra (ax ay bx y2 : Int) (h : (ofL ax ay bx y2).Extra = true) : exA ax ay bx y2 ∧ (ofL ax ay bx y2).X = inX ax ay ∧ (ofL ax ay bx y2).Y = inY ax ay ∧ ¬ crP (ofL ax ay bx y2).From (ofL ax ay bx y2).To (iC (decide (turnP ax ay bx y2)) ax ay) := by
  have ft := ofL_ft ax ay bx y2
  rw [ft.1, ft.2]
  unfold ofL at h ⊢
  split at h
  · rename_i e
    rw [if_pos e]
    exact ⟨e, rfl, rfl, by simpa using h⟩
  · cases h
theorem cross_of {ax ay bx y2 x y : Int} (c : ¬ (ax = bx ∧ ay = y2)) (h : exP ax ay bx y2 x y) (hn : ¬ ((ofL ax ay bx y2).Extra = true ∧ x = (ofL ax ay bx y2).X ∧ y = (ofL ax ay bx y2).Y)) :
    crP (ofL ax ay bx y2).From (ofL ax ay bx y2).To (uC (decide (turnP ax ay bx y2)) x y) := by
  have ft := ofL_ft ax ay bx y2
  have h' := h
  rw [exits_at ax ay bx y2 x y c] at h
  have g : (mkWay0 ax ay bx y2).Good := wayZ_good ax ay bx y2 _ c
  have L := leastC_is (uC (decide (turnP ax ay bx y2)) ax ay)
  have L' := leastC_is (uC (decide (turnP ax ay bx y2)) bx y2)
  have e1 : (mkWay0 ax ay bx y2).au = uC (decide (turnP ax ay bx y2)) ax ay := rfl
  have e3 : (mkWay0 ax ay bx y2).bu = uC (decide (turnP ax ay bx y2)) bx y2 := rfl
  have oa : (mkWay0 ax ay bx y2).On (uC (decide (turnP ax ay bx y2)) ax ay) (vC (decide (turnP ax ay bx y2)) ax ay) := on_a (mkWay0 ax ay bx y2)
  -- if the pixel is a's, it is extra where its column isn't crossed
  have key : inOk ax ay = true → uC (decide (turnP ax ay bx y2)) x y = iC (decide (turnP ax ay bx y2)) ax ay → crP (ofL ax ay bx y2).From (ofL ax ay bx y2).To (uC (decide (turnP ax ay bx y2)) x y) := by
    intro hin hu
    refine Classical.byContradiction fun hc => hn ?_
    have a := across_in g ax ay oa hin
    have hxy : x = inX ax ay ∧ y = inY ax ay := by
      rw [uv_ext (decide (turnP ax ay bx y2))]
      obtain ⟨i1, i2⟩ := iC_uv (decide (turnP ax ay bx y2)) ax ay
      rw [← i1, ← i2]
      exact ⟨hu, by rw [← h.1, hu]; exact a⟩
    have hA : exA ax ay bx y2 := ⟨hin, c, by rw [← hxy.1, ← hxy.2]; exact h'⟩
    rw [ft.1, ft.2, hu] at hc
    unfold ofL
    rw [if_pos hA]
    exact ⟨by simp [hc], hxy.1, hxy.2⟩
  rw [ft.1, ft.2] at key ⊢
  rw [e1, e3] at h
  obtain ⟨h1, h2⟩ := h
  by_cases hlt : uC (decide (turnP ax ay bx y2)) ax ay < uC (decide (turnP ax ay bx y2)) bx y2
  · rw [if_pos hlt] at h2
    have hm := leastC_mono (Int.le_of_lt hlt)
    by_cases hF : leastC (uC (decide (turnP ax ay bx y2)) ax ay) ≤ uC (decide (turnP ax ay bx y2)) x y
    · have pb : posU (decide (turnP ax ay bx y2)) bx y2 ≤ leastC (uC (decide (turnP ax ay bx y2)) bx y2) := by unfold posU; split <;> omega
      unfold crP; omega
    · have pa := h2.1
      unfold posU at pa
      split at pa
      · rename_i q; exact key q.1 (by omega)
      · omega
  · rw [if_neg hlt] at h2
    have hm := leastC_mono (show uC (decide (turnP ax ay bx y2)) bx y2 ≤ uC (decide (turnP ax ay bx y2)) ax ay by omega)
    have pd : leastC (uC (decide (turnP ax ay bx y2)) bx y2) - 1 ≤ posD (decide (turnP ax ay bx y2)) bx y2 := by unfold posD; split <;> omega
    by_cases hF : uC (decide (turnP ax ay bx y2)) x y < leastC (uC (decide (turnP ax ay bx y2)) ax ay)
    · unfold crP; omega
    · have pa := h2.1
      unfold posD at pa
      split at pa
      · rename_i q; exact key q.1 (by omega)
      · omega
def refU (l : Ln) (n : Int) : Int := if l.To < l.From then l.From - 1 - n else l.From + n
def refN (l : Ln) (k : Int) : Int := if l.Extra = true then k - 1 else k
def refM (l : Ln) : Int := max l.From l.To - min l.From l.To
def refAt (ax ay bx y2 : Int) (l : Ln) (k : Int) : Option St :=
  if k < 0 then none else if l.Extra = true ∧ k = 0 then some ⟨0, l.X, l.Y⟩ else if refM l ≤ refN l k then none
  else if exP ax ay bx y2 (colX ax ay bx y2 (refU l (refN l k))) (colY ax ay bx y2 (refU l (refN l k))) then some ⟨k, colX ax ay bx y2 (refU l (refN l k)), colY ax ay bx y2 (refU l (refN l k))⟩ else none
theorem ref_cr {l : Ln} {n : Int} (h0 : 0 ≤ n) (h1 : n < refM l) : crP l.From l.To (refU l n) := by
  unfold refM at h1; unfold crP refU; split <;> omega
theorem cr_ref {l : Ln} {u : Int} (h : crP l.From l.To u) : ∃ n, 0 ≤ n ∧ n < refM l ∧ u = refU l n ∧ (if l.To < l.From then l.From - 1 - u else u - l.From) = n := by
  unfold crP at h
  refine ⟨if l.To < l.From then l.From - 1 - u else u - l.From, ?_, ?_, ?_, rfl⟩
  all_goals (first | unfold refM | unfold refU | skip)
  all_goals (repeat' split)
  all_goals omega
theorem ref_at {ax ay bx y2 : Int} (c : ¬ (ax = bx ∧ ay = y2)) (k : Int) : refAt ax ay bx y2 (ofL ax ay bx y2) k = atL ax ay bx y2 k := by
  unfold refAt atL
  by_cases k0 : k < 0
  · rw [if_pos k0, if_pos k0]
  rw [if_neg k0, if_neg k0]
  have ex := ofL_extra ax ay bx y2
  have hnum := fun x y h => num_idx ax ay bx y2 x y c h
  have hcr := fun x y (h : exP ax ay bx y2 x y) => cross_of c h
  obtain ⟨l, hl⟩ : ∃ l, ofL ax ay bx y2 = l := ⟨_, rfl⟩
  rw [hl] at ex hnum hcr ⊢
  have hk : ((k.toNat : Nat) : Int) = k := by omega
  have one : ∀ s, s.K = k → exP ax ay bx y2 s.X s.Y → idxP ax ay bx y2 s.X s.Y = k → (lineL ax ay bx y2)[k.toNat]? = some s := fun s h1 h2 h3 => (line_at c _ _).2 ⟨h2, by rw [h3, hk], by rw [h1, hk]⟩
  by_cases hE : l.Extra = true ∧ k = 0
  · rw [if_pos hE]
    obtain ⟨⟨-, -, g3⟩, g4, g5, -⟩ := ex hE.1
    symm
    refine one _ hE.2.symm (by simp only [g4, g5]; exact g3) ?_
    simp only [g4, g5]
    rw [← hnum _ _ g3]
    unfold numL
    rw [if_pos hE.1, if_pos ⟨g4.symm, g5.symm⟩, hE.2]
  rw [if_neg hE]
  -- a pixel of a crossed column
  have two : ∀ n, 0 ≤ n → n < refM l → n = refN l k → exP ax ay bx y2 (colX ax ay bx y2 (refU l n)) (colY ax ay bx y2 (refU l n)) → idxP ax ay bx y2 (colX ax ay bx y2 (refU l n)) (colY ax ay bx y2 (refU l n)) = k := by
    intro n n0 n1 hn he
    rw [← hnum _ _ he, (col_uv ax ay bx y2 _).1]
    have b : (if l.To < l.From then l.From - 1 - refU l n else refU l n - l.From) = n := by unfold refU; split <;> omega
    unfold numL
    rw [b]
    unfold refN at hn
    by_cases hX : l.Extra = true
    · rw [if_pos hX] at hn ⊢
      obtain ⟨-, g4, g5, g6⟩ := ex hX
      rw [if_neg, hn]
      · omega
      · intro ⟨q1, q2⟩
        apply g6
        rw [(iC_uv _ ax ay).1, ← g4, ← g5, ← q1, ← q2, (col_uv ax ay bx y2 _).1]
        exact ref_cr n0 n1
    · rw [if_neg hX] at hn ⊢; exact hn
  have n0 : 0 ≤ refN l k := by
    unfold refN; split
    · rename_i q; have : k ≠ 0 := fun e => hE ⟨q, e⟩; omega
    · omega
  -- and back
  have three : ∀ s, (lineL ax ay bx y2)[k.toNat]? = some s → refN l k < refM l ∧ s.X = colX ax ay bx y2 (refU l (refN l k)) ∧ s.Y = colY ax ay bx y2 (refU l (refN l k)) ∧ exP ax ay bx y2 s.X s.Y ∧ s.K = k := by
    intro s hs
    obtain ⟨h1, h2, h3⟩ := (line_at c _ _).1 hs
    rw [hk] at h2 h3
    have hne : ¬ (l.Extra = true ∧ s.X = l.X ∧ s.Y = l.Y) := by
      intro ⟨q1, q2, q3⟩
      have := hnum _ _ h1
      unfold numL at this
      rw [if_pos q1, if_pos ⟨q2, q3⟩] at this
      exact hE ⟨q1, by omega⟩
    obtain ⟨n, m0, m1, m2, m3⟩ := cr_ref (hcr _ _ h1 hne)
    have hn : n = refN l k := by
      have := hnum _ _ h1
      unfold numL at this
      rw [m3, h2] at this
      unfold refN
      by_cases hX : l.Extra = true
      · rw [if_pos hX, if_neg (fun q => hne ⟨hX, q⟩)] at this
        rw [if_pos hX]; omega
      · rw [if_neg hX] at this ⊢; exact this
    have co := col_only c h1
    rw [m2, hn] at co
    exact ⟨hn ▸ m1, co.1, co.2, h1, h3⟩
  by_cases hM : refM l ≤ refN l k
  · rw [if_pos hM]
    cases hs : (lineL ax ay bx y2)[k.toNat]? with
    | none => rfl
    | some s => have := (three s hs).1; omega
  rw [if_neg hM]
  by_cases he : exP ax ay bx y2 (colX ax ay bx y2 (refU l (refN l k))) (colY ax ay bx y2 (refU l (refN l k)))
  · rw [if_pos he]
    exact (one ⟨k, _, _⟩ rfl he (two _ n0 (by omega) rfl he)).symm
  · rw [if_neg he]
    cases hs : (lineL ax ay bx y2)[k.toNat]? with
    | none => rfl
    | some s =>
      obtain ⟨-, q1, q2, q3, -⟩ := three s hs
      rw [q1, q2] at q3
      exact absurd q3 he
theorem col_has {ax ay bx y2 n : Int} (c : ¬ (ax = bx ∧ ay = y2)) (h0 : 0 ≤ n) (h1 : n < refM (ofL ax ay bx y2) - 1) : exP ax ay bx y2 (colX ax ay bx y2 (refU (ofL ax ay bx y2) n)) (colY ax ay bx y2 (refU (ofL ax ay bx y2) n)) := by
  have ft := ofL_ft ax ay bx y2
  obtain ⟨q1, q2⟩ := col_uv ax ay bx y2 (refU (ofL ax ay bx y2) n)
  rw [exits_at _ _ _ _ _ _ c, q1, q2]
  refine ⟨rfl, ?_⟩
  have e1 : (mkWay0 ax ay bx y2).au = uC (decide (turnP ax ay bx y2)) ax ay := rfl
  have e3 : (mkWay0 ax ay bx y2).bu = uC (decide (turnP ax ay bx y2)) bx y2 := rfl
  rw [e1, e3]
  unfold refM at h1
  unfold refU
  rw [ft.1, ft.2] at h1 ⊢
  by_cases hlt : uC (decide (turnP ax ay bx y2)) ax ay < uC (decide (turnP ax ay bx y2)) bx y2
  · rw [if_pos hlt]
    have hm := leastC_mono (Int.le_of_lt hlt)
    rw [if_neg (by omega)]
    have pa : posU (decide (turnP ax ay bx y2)) ax ay ≤ leastC (uC (decide (turnP ax ay bx y2)) ax ay) := by unfold posU; split <;> omega
    have pb : leastC (uC (decide (turnP ax ay bx y2)) bx y2) - 1 ≤ posU (decide (turnP ax ay bx y2)) bx y2 := by unfold posU; split <;> omega
    omega
  · rw [if_neg hlt]
    have hm := leastC_mono (show uC (decide (turnP ax ay bx y2)) bx y2 ≤ uC (decide (turnP ax ay bx y2)) ax ay by omega)
    rw [if_pos (by omega)]
    have pa : leastC (uC (decide (turnP ax ay bx y2)) ax ay) - 1 ≤ posD (decide (turnP ax ay bx y2)) ax ay := by unfold posD; split <;> omega
    have pb : posD (decide (turnP ax ay bx y2)) bx y2 ≤ leastC (uC (decide (turnP ax ay bx y2)) bx y2) := by unfold posD; split <;> omega
    omega
def refCount (ax ay bx y2 : Int) (l : Ln) : Int :=
  (if 0 < refM l ∧ ¬ exP ax ay bx y2 (colX ax ay bx y2 (refU l (refM l - 1))) (colY ax ay bx y2 (refU l (refM l - 1))) then refM l - 1 else refM l) + if l.Extra = true then 1 else 0
theorem ref_count {ax ay bx y2 : Int} (c : ¬ (ax = bx ∧ ay = y2)) : refCount ax ay bx y2 (ofL ax ay bx y2) = ((lineL ax ay bx y2).length : Nat) := by
  have hat := fun k => ref_at c k
  have hcol := fun n => col_has (ax := ax) (ay := ay) (bx := bx) (y2 := y2) (n := n) c
  obtain ⟨l, hl⟩ : ∃ l, ofL ax ay bx y2 = l := ⟨_, rfl⟩
  rw [hl] at hat hcol ⊢
  have m0 : 0 ≤ refM l := by unfold refM; omega
  have key : ∀ k : Nat, (k : Int) < refCount ax ay bx y2 l ↔ k < (lineL ax ay bx y2).length := by
    intro k
    have h := hat k
    unfold atL at h
    rw [if_neg (by omega), Int.toNat_natCast] at h
    have hs : k < (lineL ax ay bx y2).length ↔ (refAt ax ay bx y2 l k).isSome = true := by rw [h]; simp
    rw [hs]
    unfold refAt refCount
    rw [if_neg (show ¬ (k : Int) < 0 by omega)]
    by_cases hE : l.Extra = true ∧ (k : Int) = 0
    · rw [if_pos hE, if_pos hE.1]; simp; split <;> omega
    rw [if_neg hE]
    have n0 : 0 ≤ refN l k := by
      unfold refN; split
      · rename_i q; have : (k : Int) ≠ 0 := fun e => hE ⟨q, e⟩; omega
      · omega
    have e : (k : Int) = refN l k + if l.Extra = true then 1 else 0 := by unfold refN; split <;> omega
    have hc : ∀ x : Int, ((k : Int) < x + if l.Extra = true then 1 else 0) ↔ refN l k < x := fun x => by omega
    rw [hc]
    by_cases hM : refM l ≤ refN l k
    · rw [if_pos hM]; simp; split <;> omega
    rw [if_neg hM]
    by_cases hL : refN l k < refM l - 1
    · rw [if_pos (hcol _ n0 hL)]; simp; split <;> omega
    · have e2 : refN l k = refM l - 1 := by omega
      rw [e2]
      by_cases he : exP ax ay bx y2 (colX ax ay bx y2 (refU l (refM l - 1))) (colY ax ay bx y2 (refU l (refM l - 1)))
      · rw [if_pos he, if_neg (fun q => q.2 he)]; simp; omega
      · rw [if_neg he, if_pos ⟨by omega, he⟩]; simp
  have c0 : 0 ≤ refCount ax ay bx y2 l := by unfold refCount; split <;> split <;> omega
  have a := key (refCount ax ay bx y2 l).toNat
  have b := key (lineL ax ay bx y2).length
  omega
end Go.Proofs.YtbkmgngeahmefaaGreat
end
