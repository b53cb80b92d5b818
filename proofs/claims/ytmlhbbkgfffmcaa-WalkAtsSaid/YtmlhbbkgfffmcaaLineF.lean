/- The plain law of a line's pixels (layer 14), with no program in sight: membership and numbers. No condition. -/
import Derived.Test.YtmlhbbkgfffmcaaLineE
namespace Go.Proofs.Ytmlhbbkgfffmcaa
set_option linter.unusedVariables false
set_option linter.unusedSimpArgs false
theorem tdiv_near (p : Int) : p / 256 ≤ p.tdiv 256 ∧ p.tdiv 256 ≤ p / 256 + 1 := by
  have h1 := Int.tdiv_mul_add_tmod p 256
  have h2 := Int.tmod_lt_of_pos p (show (0 : Int) < 256 by omega)
  have h3 := Int.tmod_lt_of_pos (-p) (show (0 : Int) < 256 by omega)
  rw [Int.neg_tmod] at h3
  omega
theorem mem_run (W : Way) (s σ N : Int) (q : St) : q ∈ W.run s σ N ↔ ∃ j : Int, 0 ≤ j ∧ j < N ∧ q = W.cell j (s + j * σ) := by
  unfold Way.run
  rw [List.mem_map]
  constructor
  · rintro ⟨j, hj, rfl⟩
    have := List.mem_range.1 hj
    exact ⟨(j : Int), by omega, by omega, rfl⟩
  · rintro ⟨j, h0, h1, rfl⟩
    exact ⟨j.toNat, List.mem_range.2 (by omega), by rw [Int.toNat_of_nonneg h0]⟩
theorem cell_uv (W : Way) (k u : Int) : uC W.turned (W.cell k u).X (W.cell k u).Y = u ∧ vC W.turned (W.cell k u).X (W.cell k u).Y = W.across u := by
  unfold Way.cell Way.px Way.py uC vC
  cases W.turned <;> exact ⟨rfl, rfl⟩
theorem cell_of (W : Way) (q : St) (u : Int) (h1 : uC W.turned q.X q.Y = u) (h2 : W.across u = vC W.turned q.X q.Y) : q = W.cell q.K u := by
  unfold Way.cell Way.px Way.py
  rw [h2, ← h1]
  cases q; cases W.turned <;> rfl
/-- Which one a pixel of a line is. -/
def idxP (ax ay bx y2 x y : Int) : Int := if (mkWay0 ax ay bx y2).au < (mkWay0 ax ay bx y2).bu then uC (decide (turnP ax ay bx y2)) x y - posU (decide (turnP ax ay bx y2)) ax ay
  else posD (decide (turnP ax ay bx y2)) ax ay - uC (decide (turnP ax ay bx y2)) x y
theorem mem_line (ax ay bx y2 : Int) (c : ¬ (ax = bx ∧ ay = y2)) (q : St) : q ∈ lineL ax ay bx y2 ↔ exP ax ay bx y2 q.X q.Y ∧ q.K = idxP ax ay bx y2 q.X q.Y := by
  rw [exits_at ax ay bx y2 q.X q.Y c]
  unfold lineL idxP
  have ht : (mkWay0 ax ay bx y2).turned = decide (turnP ax ay bx y2) := rfl
  rw [← ht]
  obtain ⟨W, hW⟩ : ∃ W, mkWay0 ax ay bx y2 = W := ⟨_, rfl⟩
  rw [hW]
  by_cases hlt : W.au < W.bu
  · simp only [if_pos hlt]
    rw [mem_run]
    constructor
    · rintro ⟨j, h0, h1, rfl⟩
      obtain ⟨e1, e2⟩ := cell_uv W j (posU W.turned ax ay + j * 1)
      rw [e1, e2]
      exact ⟨⟨rfl, by omega, by omega⟩, by show j = _; omega⟩
    · rintro ⟨⟨h1, h2, h3⟩, h4⟩
      refine ⟨q.K, by omega, by omega, ?_⟩
      rw [show posU W.turned ax ay + q.K * 1 = uC W.turned q.X q.Y from by omega]
      exact cell_of W q _ rfl h1
  · simp only [if_neg hlt]
    rw [mem_run]
    constructor
    · rintro ⟨j, h0, h1, rfl⟩
      obtain ⟨e1, e2⟩ := cell_uv W j (posD W.turned ax ay + j * -1)
      rw [e1, e2]
      exact ⟨⟨rfl, by omega, by omega⟩, by show j = _; omega⟩
    · rintro ⟨⟨h1, h2, h3⟩, h4⟩
      refine ⟨q.K, by omega, by omega, ?_⟩
      rw [show posD W.turned ax ay + q.K * -1 = uC W.turned q.X q.Y from by omega]
      exact cell_of W q _ rfl h1
/-- The reference's line. -/
structure Ln where
  From : Int
  To : Int
  X : Int
  Y : Int
  Extra : Bool
def exA (ax ay bx y2 : Int) : Prop := inOk ax ay = true ∧ ¬ (ax = bx ∧ ay = y2) ∧ exP ax ay bx y2 (inX ax ay) (inY ax ay)
instance (ax ay bx y2 : Int) : Decidable (exA ax ay bx y2) := by unfold exA; exact inferInstance
def crP (f t u : Int) : Prop := min f t ≤ u ∧ u < max f t
instance (f t u : Int) : Decidable (crP f t u) := by unfold crP; exact inferInstance
def ofL (ax ay bx y2 : Int) : Ln :=
  if exA ax ay bx y2 then ⟨leastC (uC (decide (turnP ax ay bx y2)) ax ay), leastC (uC (decide (turnP ax ay bx y2)) bx y2), inX ax ay, inY ax ay, ! decide (crP (leastC (uC (decide (turnP ax ay bx y2)) ax ay)) (leastC (uC (decide (turnP ax ay bx y2)) bx y2)) (iC (decide (turnP ax ay bx y2)) ax ay))⟩
  else ⟨leastC (uC (decide (turnP ax ay bx y2)) ax ay), leastC (uC (decide (turnP ax ay bx y2)) bx y2), 0, 0, false⟩
def numL (l : Ln) (x y u : Int) : Int := if l.Extra = true then (if x = l.X ∧ y = l.Y then 0 else (if l.To < l.From then l.From - 1 - u else u - l.From) + 1) else (if l.To < l.From then l.From - 1 - u else u - l.From)
theorem iC_uv (t : Bool) (x y : Int) : iC t x y = uC t (inX x y) (inY x y) ∧ kC t x y = vC t (inX x y) (inY x y) := by cases t <;> exact ⟨rfl, rfl⟩
theorem uv_ext (t : Bool) (x y i k : Int) : (x = i ∧ y = k) ↔ (uC t x y = uC t i k ∧ vC t x y = vC t i k) := by
  cases t
  · exact Iff.rfl
  · exact And.comm
theorem num_idx (ax ay bx y2 x y : Int) (c : ¬ (ax = bx ∧ ay = y2)) (h : exP ax ay bx y2 x y) : numL (ofL ax ay bx y2) x y (uC (decide (turnP ax ay bx y2)) x y) = idxP ax ay bx y2 x y := by
  rw [exits_at ax ay bx y2 x y c] at h
  have hA := exits_at ax ay bx y2 (inX ax ay) (inY ax ay) c
  have g : (mkWay0 ax ay bx y2).Good := wayZ_good ax ay bx y2 _ c
  unfold numL ofL idxP
  have ht : (mkWay0 ax ay bx y2).turned = decide (turnP ax ay bx y2) := rfl
  have e1 : (mkWay0 ax ay bx y2).au = uC (mkWay0 ax ay bx y2).turned ax ay := rfl
  have e2 : (mkWay0 ax ay bx y2).av = vC (mkWay0 ax ay bx y2).turned ax ay := rfl
  have e3 : (mkWay0 ax ay bx y2).bu = uC (mkWay0 ax ay bx y2).turned bx y2 := rfl
  rw [← ht] at h hA ⊢
  obtain ⟨W, hW⟩ : ∃ W, mkWay0 ax ay bx y2 = W := ⟨_, rfl⟩
  rw [hW] at g e1 e2 e3 h hA ⊢
  clear hW ht
  have oa : W.On (uC W.turned ax ay) (vC W.turned ax ay) := by rw [← e1, ← e2]; exact on_a W
  obtain ⟨i1, i2⟩ := iC_uv W.turned ax ay
  rw [← i1, ← i2] at hA
  have hX := uv_ext W.turned x y (inX ax ay) (inY ax ay)
  rw [← i1, ← i2] at hX
  have L := leastC_is (uC W.turned ax ay)
  have L' := leastC_is (uC W.turned bx y2)
  rw [e1, e3] at h hA
  simp only [e1, e3]
  clear e1 e2 e3 i1 i2
  obtain ⟨ua, hua⟩ : ∃ v, uC W.turned ax ay = v := ⟨_, rfl⟩
  obtain ⟨ub, hub⟩ : ∃ v, uC W.turned bx y2 = v := ⟨_, rfl⟩
  have hm : ua < ub → leastC ua ≤ leastC ub := fun h => leastC_mono (by omega)
  have hm' : ¬ ua < ub → leastC ub ≤ leastC ua := fun h => leastC_mono (by omega)
  have a := across_in g ax ay oa
  have b := iC_or W.turned ax ay
  have pa : posU W.turned ax ay = leastC ua - if inOk ax ay = true ∧ iC W.turned ax ay = leastC ua - 1 then 1 else 0 := by unfold posU; rw [hua]
  have pb : posU W.turned bx y2 ≤ leastC ub := by unfold posU; rw [hub]; split <;> omega
  have pc : posD W.turned ax ay = leastC ua - if inOk ax ay = true ∧ iC W.turned ax ay = leastC ua then 0 else 1 := by unfold posD; rw [hua]
  have pd : leastC ub - 1 ≤ posD W.turned bx y2 := by unfold posD; rw [hub]; split <;> omega
  simp only [hua, hub] at h hA L L' b ⊢
  have hE : exA ax ay bx y2 ↔ inOk ax ay = true ∧ exP ax ay bx y2 (inX ax ay) (inY ax ay) := ⟨fun q => ⟨q.1, q.2.2⟩, fun q => ⟨q.1, c, q.2⟩⟩
  rw [hA] at hE
  clear hA
  obtain ⟨n, hn⟩ : ∃ v, iC W.turned ax ay = v := ⟨_, rfl⟩
  obtain ⟨m, hm2⟩ : ∃ v, kC W.turned ax ay = v := ⟨_, rfl⟩
  obtain ⟨i, hi⟩ : ∃ v, uC W.turned x y = v := ⟨_, rfl⟩
  obtain ⟨k, hk⟩ : ∃ v, vC W.turned x y = v := ⟨_, rfl⟩
  rw [hn, hm2] at hX
  simp only [hn, hm2, hi, hk] at h hE a b pa pc hX ⊢
  obtain ⟨A, hA⟩ : ∃ v, leastC ua = v := ⟨_, rfl⟩
  obtain ⟨B, hB⟩ : ∃ v, leastC ub = v := ⟨_, rfl⟩
  simp only [hA, hB] at hm hm' L L' b pa pb pc pd ⊢
  obtain ⟨PA, hPA⟩ : ∃ v, posU W.turned ax ay = v := ⟨_, rfl⟩
  obtain ⟨PB, hPB⟩ : ∃ v, posU W.turned bx y2 = v := ⟨_, rfl⟩
  obtain ⟨DA, hDA⟩ : ∃ v, posD W.turned ax ay = v := ⟨_, rfl⟩
  obtain ⟨DB, hDB⟩ : ∃ v, posD W.turned bx y2 = v := ⟨_, rfl⟩
  simp only [hPA, hPB, hDA, hDB] at h hE pa pb pc pd ⊢
  obtain ⟨h1, h2⟩ := h
  have hXi : inOk ax ay = true → ((x = inX ax ay ∧ y = inY ax ay) ↔ i = n) := fun q => by
    rw [hX]
    exact ⟨fun q => q.1, fun e => ⟨e, by rw [← h1, ← a q, e]⟩⟩
  clear hX hA hB hPA hPB hDA hDB hi hk hn hm2 hua hub g oa c
  by_cases hin : inOk ax ay = true
  · replace b := b hin; replace a := a hin; replace hXi := hXi hin
    by_cases hlt : ua < ub
    · simp only [if_pos hlt] at h2 hE ⊢
      have hm := hm hlt
      by_cases en : n = A - 1
      · rw [if_pos ⟨hin, en⟩] at pa
        have x1 : exA ax ay bx y2 := hE.2 ⟨hin, a, by omega, by omega⟩
        have x2 : ¬ crP A B n := fun q => by unfold crP at q; omega
        rw [if_pos x1]
        simp only [decide_eq_false x2, Bool.not_false, if_true]
        rw [if_neg (show ¬ B < A by omega)]
        by_cases ei : i = n
        · rw [if_pos (hXi.2 ei)]; omega
        · rw [if_neg (fun q => ei (hXi.1 q))]; omega
      · rw [if_neg (fun q => en q.2)] at pa
        have x1 : exA ax ay bx y2 := hE.2 ⟨hin, a, by omega, by omega⟩
        have x2 : crP A B n := by unfold crP; omega
        rw [if_pos x1]
        simp only [decide_eq_true x2, Bool.not_true, Bool.false_eq_true, if_false]
        rw [if_neg (show ¬ B < A by omega)]; omega
    · simp only [if_neg hlt] at h2 hE ⊢
      have hm := hm' hlt
      by_cases en : n = A
      · rw [if_pos ⟨hin, en⟩] at pc
        have x1 : exA ax ay bx y2 := hE.2 ⟨hin, a, by omega, by omega⟩
        have x2 : ¬ crP A B n := fun q => by unfold crP at q; omega
        rw [if_pos x1]
        simp only [decide_eq_false x2, Bool.not_false, if_true]
        by_cases ei : i = n
        · rw [if_pos (hXi.2 ei)]; omega
        · rw [if_neg (fun q => ei (hXi.1 q)), if_pos (show B < A by omega)]; omega
      · rw [if_neg (fun q => en q.2)] at pc
        have x1 : exA ax ay bx y2 := hE.2 ⟨hin, a, by omega, by omega⟩
        have x2 : crP A B n := by unfold crP; omega
        rw [if_pos x1]
        simp only [decide_eq_true x2, Bool.not_true, Bool.false_eq_true, if_false]
        rw [if_pos (show B < A by omega)]; omega
  · rw [if_neg (fun q => hin q.1)] at pa pc
    rw [if_neg (fun q => hin (hE.1 q).1)]
    simp only [Bool.false_eq_true, if_false]
    by_cases hlt : ua < ub
    · simp only [if_pos hlt] at h2 ⊢
      have hm := hm hlt
      rw [if_neg (show ¬ B < A by omega)]; omega
    · simp only [if_neg hlt] at h2 ⊢
      have hm := hm' hlt
      rw [if_pos (show B < A by omega)]; omega
/-- Strictly rising lists with the same members are one. -/
theorem rise_ext : ∀ (a b : List St), a.Pairwise (fun s t => s.K < t.K) → b.Pairwise (fun s t => s.K < t.K) → (∀ q, q ∈ a ↔ q ∈ b) → a = b
  | [], [], _, _, _ => rfl
  | [], s :: b, _, _, h => absurd ((h s).2 List.mem_cons_self) (by simp)
  | s :: a, [], _, _, h => absurd ((h s).1 List.mem_cons_self) (by simp)
  | s :: a, t :: b, ha, hb, h => by
    obtain ⟨ha1, ha2⟩ := List.pairwise_cons.1 ha
    obtain ⟨hb1, hb2⟩ := List.pairwise_cons.1 hb
    have e : s = t := by
      rcases List.mem_cons.1 ((h s).1 List.mem_cons_self) with e | e
      · exact e
      rcases List.mem_cons.1 ((h t).2 List.mem_cons_self) with e' | e'
      · exact e'.symm
      · have := hb1 s e; have := ha1 t e'; omega
    subst e
    rw [rise_ext a b ha2 hb2 (fun q => ⟨fun hq => ?_, fun hq => ?_⟩)]
    · rcases List.mem_cons.1 ((h q).1 (List.mem_cons_of_mem _ hq)) with e | e
      · subst e; have := ha1 q hq; omega
      · exact e
    · rcases List.mem_cons.1 ((h q).2 (List.mem_cons_of_mem _ hq)) with e | e
      · subst e; have := hb1 q hq; omega
      · exact e
theorem mem_within (ax ay bx y2 x0 y0 x1 y1 : Int) (c : ¬ (ax = bx ∧ ay = y2)) (r : rightP x0 y0 x1 y1) (q : St) : q ∈ withinL ax ay bx y2 x0 y0 x1 y1 ↔ (x0 ≤ q.X ∧ q.X < x1 ∧ y0 ≤ q.Y ∧ q.Y < y1) ∧ exP ax ay bx y2 q.X q.Y ∧ q.K = idxP ax ay bx y2 q.X q.Y := by
  unfold withinL
  rw [if_neg (fun q => q.elim c (fun q => q r)), List.mem_filter, mem_line _ _ _ _ c, decide_eq_true_iff]
  unfold hasP
  exact ⟨fun ⟨h1, _, h2⟩ => ⟨h2, h1⟩, fun ⟨h1, h2⟩ => ⟨h2, r, h1⟩⟩
end Go.Proofs.Ytmlhbbkgfffmcaa
