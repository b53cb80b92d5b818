/- The plain law of the reference's answers of layer 14: At, Count. No condition. -/
import Derived.Test.YtmlhbbkgfffmcaaLineH
namespace Go.Proofs.Ytmlhbbkgfffmcaa
set_option linter.unusedVariables false
set_option linter.unusedSimpArgs false
theorem line_num {ax ay bx y2 : Int} {i : Nat} {s : St} (h : (lineL ax ay bx y2)[i]? = some s) : s.K = i := by
  unfold lineL at h
  split at h
  all_goals
    unfold Way.run at h
    rw [List.getElem?_map] at h
    cases hj : (List.range _)[i]? with
    | none => rw [hj] at h; cases h
    | some j =>
      rw [hj] at h
      have := List.getElem?_eq_some_iff.1 hj
      obtain ⟨_, e⟩ := this
      rw [List.getElem_range] at e
      subst e
      injection h with h
      rw [← h]; rfl
theorem line_at {ax ay bx y2 : Int} (c : ¬ (ax = bx ∧ ay = y2)) (i : Nat) (s : St) : (lineL ax ay bx y2)[i]? = some s ↔ exP ax ay bx y2 s.X s.Y ∧ idxP ax ay bx y2 s.X s.Y = i ∧ s.K = i := by
  constructor
  · intro h
    have k := line_num h
    have m := (mem_line _ _ _ _ c s).1 (List.mem_of_getElem? h)
    exact ⟨m.1, by rw [← m.2, k], k⟩
  · intro ⟨h1, h2, h3⟩
    obtain ⟨j, hj⟩ := List.mem_iff_getElem?.1 ((mem_line _ _ _ _ c s).2 ⟨h1, by rw [h2, h3]⟩)
    have := line_num hj
    rw [show i = j by omega]; exact hj
theorem ofL_ft (ax ay bx y2 : Int) : (ofL ax ay bx y2).From = leastC (uC (decide (turnP ax ay bx y2)) ax ay) ∧ (ofL ax ay bx y2).To = leastC (uC (decide (turnP ax ay bx y2)) bx y2) := by
  unfold ofL; split <;> exact ⟨rfl, rfl⟩
theorem ofL_extra (ax ay bx y2 : Int) (h : (ofL ax ay bx y2).Extra = true) : exA ax ay bx y2 ∧ (ofL ax ay bx y2).X = inX ax ay ∧ (ofL ax ay bx y2).Y = inY ax ay ∧ ¬ crP (ofL ax ay bx y2).From (ofL ax ay bx y2).To (iC (decide (turnP ax ay bx y2)) ax ay) := by
  have ft := ofL_ft ax ay bx y2
  rw [ft.1, ft.2]
  unfold ofL at h ⊢
  split at h
  · rename_i e
    rw [if_pos e]
    exact ⟨e, rfl, rfl, by simpa using h⟩
  · cases h
/-- A pixel of a line that is not the extra one is one of a crossed column. -/
theorem cross_of {ax ay bx y2 x y : Int} (c : ¬ (ax = bx ∧ ay = y2)) (h : exP ax ay bx y2 x y) (hn : ¬ ((ofL ax ay bx y2).Extra = true ∧ x = (ofL ax ay bx y2).X ∧ y = (ofL ax ay bx y2).Y)) :
    crP (ofL ax ay bx y2).From (ofL ax ay bx y2).To (uC (decide (turnP ax ay bx y2)) x y) := by
  have ft := ofL_ft ax ay bx y2
  have h' := h
  rw [exits_at ax ay bx y2 x y c] at h
  have g : (mkWay0 ax ay bx y2).Good := wayZ_good ax ay bx y2 _ c
  have L := leastC_is (uC (decide (turnP ax ay bx y2)) ax ay)
  have L' := leastC_is (uC (decide (turnP ax ay bx y2)) bx y2)
  have e1 : (mkWay0 ax ay bx y2).au = uC (decide (turnP ax ay bx y2)) ax ay := rfl
  have e3 : (mkWay0 ax ay bx y2).bu = uC (decide (turnP ax ay bx y2)) bx y2 := rfl
  have oa : (mkWay0 ax ay bx y2).On (uC (decide (turnP ax ay bx y2)) ax ay) (vC (decide (turnP ax ay bx y2)) ax ay) := on_a (mkWay0 ax ay bx y2)
  -- if the pixel is a's, it is extra where its column isn't crossed
  have key : inOk ax ay = true → uC (decide (turnP ax ay bx y2)) x y = iC (decide (turnP ax ay bx y2)) ax ay → crP (ofL ax ay bx y2).From (ofL ax ay bx y2).To (uC (decide (turnP ax ay bx y2)) x y) := by
    intro hin hu
    refine Classical.byContradiction fun hc => hn ?_
    have a := across_in g ax ay oa hin
    have hxy : x = inX ax ay ∧ y = inY ax ay := by
      rw [uv_ext (decide (turnP ax ay bx y2))]
      obtain ⟨i1, i2⟩ := iC_uv (decide (turnP ax ay bx y2)) ax ay
      rw [← i1, ← i2]
      exact ⟨hu, by rw [← h.1, hu]; exact a⟩
    have hA : exA ax ay bx y2 := ⟨hin, c, by rw [← hxy.1, ← hxy.2]; exact h'⟩
    rw [ft.1, ft.2, hu] at hc
    unfold ofL
    rw [if_pos hA]
    exact ⟨by simp [hc], hxy.1, hxy.2⟩
  rw [ft.1, ft.2] at key ⊢
  rw [e1, e3] at h
  obtain ⟨h1, h2⟩ := h
  by_cases hlt : uC (decide (turnP ax ay bx y2)) ax ay < uC (decide (turnP ax ay bx y2)) bx y2
  · rw [if_pos hlt] at h2
    have hm := leastC_mono (Int.le_of_lt hlt)
    by_cases hF : leastC (uC (decide (turnP ax ay bx y2)) ax ay) ≤ uC (decide (turnP ax ay bx y2)) x y
    · have pb : posU (decide (turnP ax ay bx y2)) bx y2 ≤ leastC (uC (decide (turnP ax ay bx y2)) bx y2) := by unfold posU; split <;> omega
      unfold crP; omega
    · have pa := h2.1
      unfold posU at pa
      split at pa
      · rename_i q; exact key q.1 (by omega)
      · omega
  · rw [if_neg hlt] at h2
    have hm := leastC_mono (show uC (decide (turnP ax ay bx y2)) bx y2 ≤ uC (decide (turnP ax ay bx y2)) ax ay by omega)
    have pd : leastC (uC (decide (turnP ax ay bx y2)) bx y2) - 1 ≤ posD (decide (turnP ax ay bx y2)) bx y2 := by unfold posD; split <;> omega
    by_cases hF : uC (decide (turnP ax ay bx y2)) x y < leastC (uC (decide (turnP ax ay bx y2)) ax ay)
    · unfold crP; omega
    · have pa := h2.1
      unfold posD at pa
      split at pa
      · rename_i q; exact key q.1 (by omega)
      · omega
/-- The reference's way to a column, from a number on. -/
def refU (l : Ln) (n : Int) : Int := if l.To < l.From then l.From - 1 - n else l.From + n
def refN (l : Ln) (k : Int) : Int := if l.Extra = true then k - 1 else k
def refM (l : Ln) : Int := max l.From l.To - min l.From l.To
def refAt (ax ay bx y2 : Int) (l : Ln) (k : Int) : Option St :=
  if k < 0 then none else if l.Extra = true ∧ k = 0 then some ⟨0, l.X, l.Y⟩ else if refM l ≤ refN l k then none
  else if exP ax ay bx y2 (colX ax ay bx y2 (refU l (refN l k))) (colY ax ay bx y2 (refU l (refN l k))) then some ⟨k, colX ax ay bx y2 (refU l (refN l k)), colY ax ay bx y2 (refU l (refN l k))⟩ else none
theorem ref_cr {l : Ln} {n : Int} (h0 : 0 ≤ n) (h1 : n < refM l) : crP l.From l.To (refU l n) := by
  unfold refM at h1; unfold crP refU; split <;> omega
theorem cr_ref {l : Ln} {u : Int} (h : crP l.From l.To u) : ∃ n, 0 ≤ n ∧ n < refM l ∧ u = refU l n ∧ (if l.To < l.From then l.From - 1 - u else u - l.From) = n := by
  unfold crP at h
  refine ⟨if l.To < l.From then l.From - 1 - u else u - l.From, ?_, ?_, ?_, rfl⟩
  all_goals (first | unfold refM | unfold refU | skip)
  all_goals (repeat' split)
  all_goals omega
theorem ref_at {ax ay bx y2 : Int} (c : ¬ (ax = bx ∧ ay = y2)) (k : Int) : refAt ax ay bx y2 (ofL ax ay bx y2) k = atL ax ay bx y2 k := by
  unfold refAt atL
  by_cases k0 : k < 0
  · rw [if_pos k0, if_pos k0]
  rw [if_neg k0, if_neg k0]
  have ex := ofL_extra ax ay bx y2
  have hnum := fun x y h => num_idx ax ay bx y2 x y c h
  have hcr := fun x y (h : exP ax ay bx y2 x y) => cross_of c h
  obtain ⟨l, hl⟩ : ∃ l, ofL ax ay bx y2 = l := ⟨_, rfl⟩
  rw [hl] at ex hnum hcr ⊢
  have hk : ((k.toNat : Nat) : Int) = k := by omega
  have one : ∀ s, s.K = k → exP ax ay bx y2 s.X s.Y → idxP ax ay bx y2 s.X s.Y = k → (lineL ax ay bx y2)[k.toNat]? = some s := fun s h1 h2 h3 => (line_at c _ _).2 ⟨h2, by rw [h3, hk], by rw [h1, hk]⟩
  by_cases hE : l.Extra = true ∧ k = 0
  · rw [if_pos hE]
    obtain ⟨⟨-, -, g3⟩, g4, g5, -⟩ := ex hE.1
    symm
    refine one _ hE.2.symm (by simp only [g4, g5]; exact g3) ?_
    simp only [g4, g5]
    rw [← hnum _ _ g3]
    unfold numL
    rw [if_pos hE.1, if_pos ⟨g4.symm, g5.symm⟩, hE.2]
  rw [if_neg hE]
  -- a pixel of a crossed column
  have two : ∀ n, 0 ≤ n → n < refM l → n = refN l k → exP ax ay bx y2 (colX ax ay bx y2 (refU l n)) (colY ax ay bx y2 (refU l n)) → idxP ax ay bx y2 (colX ax ay bx y2 (refU l n)) (colY ax ay bx y2 (refU l n)) = k := by
    intro n n0 n1 hn he
    rw [← hnum _ _ he, (col_uv ax ay bx y2 _).1]
    have b : (if l.To < l.From then l.From - 1 - refU l n else refU l n - l.From) = n := by unfold refU; split <;> omega
    unfold numL
    rw [b]
    unfold refN at hn
    by_cases hX : l.Extra = true
    · rw [if_pos hX] at hn ⊢
      obtain ⟨-, g4, g5, g6⟩ := ex hX
      rw [if_neg, hn]
      · omega
      · intro ⟨q1, q2⟩
        apply g6
        rw [(iC_uv _ ax ay).1, ← g4, ← g5, ← q1, ← q2, (col_uv ax ay bx y2 _).1]
        exact ref_cr n0 n1
    · rw [if_neg hX] at hn ⊢; exact hn
  have n0 : 0 ≤ refN l k := by
    unfold refN; split
    · rename_i q; have : k ≠ 0 := fun e => hE ⟨q, e⟩; omega
    · omega
  -- and back
  have three : ∀ s, (lineL ax ay bx y2)[k.toNat]? = some s → refN l k < refM l ∧ s.X = colX ax ay bx y2 (refU l (refN l k)) ∧ s.Y = colY ax ay bx y2 (refU l (refN l k)) ∧ exP ax ay bx y2 s.X s.Y ∧ s.K = k := by
    intro s hs
    obtain ⟨h1, h2, h3⟩ := (line_at c _ _).1 hs
    rw [hk] at h2 h3
    have hne : ¬ (l.Extra = true ∧ s.X = l.X ∧ s.Y = l.Y) := by
      intro ⟨q1, q2, q3⟩
      have := hnum _ _ h1
      unfold numL at this
      rw [if_pos q1, if_pos ⟨q2, q3⟩] at this
      exact hE ⟨q1, by omega⟩
    obtain ⟨n, m0, m1, m2, m3⟩ := cr_ref (hcr _ _ h1 hne)
    have hn : n = refN l k := by
      have := hnum _ _ h1
      unfold numL at this
      rw [m3, h2] at this
      unfold refN
      by_cases hX : l.Extra = true
      · rw [if_pos hX, if_neg (fun q => hne ⟨hX, q⟩)] at this
        rw [if_pos hX]; omega
      · rw [if_neg hX] at this ⊢; exact this
    have co := col_only c h1
    rw [m2, hn] at co
    exact ⟨hn ▸ m1, co.1, co.2, h1, h3⟩
  by_cases hM : refM l ≤ refN l k
  · rw [if_pos hM]
    cases hs : (lineL ax ay bx y2)[k.toNat]? with
    | none => rfl
    | some s => have := (three s hs).1; omega
  rw [if_neg hM]
  by_cases he : exP ax ay bx y2 (colX ax ay bx y2 (refU l (refN l k))) (colY ax ay bx y2 (refU l (refN l k)))
  · rw [if_pos he]
    exact (one ⟨k, _, _⟩ rfl he (two _ n0 (by omega) rfl he)).symm
  · rw [if_neg he]
    cases hs : (lineL ax ay bx y2)[k.toNat]? with
    | none => rfl
    | some s =>
      obtain ⟨-, q1, q2, q3, -⟩ := three s hs
      rw [q1, q2] at q3
      exact absurd q3 he
/-- A crossed column that is not the last one has a pixel. -/
theorem col_has {ax ay bx y2 n : Int} (c : ¬ (ax = bx ∧ ay = y2)) (h0 : 0 ≤ n) (h1 : n < refM (ofL ax ay bx y2) - 1) : exP ax ay bx y2 (colX ax ay bx y2 (refU (ofL ax ay bx y2) n)) (colY ax ay bx y2 (refU (ofL ax ay bx y2) n)) := by
  have ft := ofL_ft ax ay bx y2
  obtain ⟨q1, q2⟩ := col_uv ax ay bx y2 (refU (ofL ax ay bx y2) n)
  rw [exits_at _ _ _ _ _ _ c, q1, q2]
  refine ⟨rfl, ?_⟩
  have e1 : (mkWay0 ax ay bx y2).au = uC (decide (turnP ax ay bx y2)) ax ay := rfl
  have e3 : (mkWay0 ax ay bx y2).bu = uC (decide (turnP ax ay bx y2)) bx y2 := rfl
  rw [e1, e3]
  unfold refM at h1
  unfold refU
  rw [ft.1, ft.2] at h1 ⊢
  by_cases hlt : uC (decide (turnP ax ay bx y2)) ax ay < uC (decide (turnP ax ay bx y2)) bx y2
  · rw [if_pos hlt]
    have hm := leastC_mono (Int.le_of_lt hlt)
    rw [if_neg (by omega)]
    have pa : posU (decide (turnP ax ay bx y2)) ax ay ≤ leastC (uC (decide (turnP ax ay bx y2)) ax ay) := by unfold posU; split <;> omega
    have pb : leastC (uC (decide (turnP ax ay bx y2)) bx y2) - 1 ≤ posU (decide (turnP ax ay bx y2)) bx y2 := by unfold posU; split <;> omega
    omega
  · rw [if_neg hlt]
    have hm := leastC_mono (show uC (decide (turnP ax ay bx y2)) bx y2 ≤ uC (decide (turnP ax ay bx y2)) ax ay by omega)
    rw [if_pos (by omega)]
    have pa : leastC (uC (decide (turnP ax ay bx y2)) ax ay) - 1 ≤ posD (decide (turnP ax ay bx y2)) ax ay := by unfold posD; split <;> omega
    have pb : posD (decide (turnP ax ay bx y2)) bx y2 ≤ leastC (uC (decide (turnP ax ay bx y2)) bx y2) := by unfold posD; split <;> omega
    omega
/-- The reference's count. -/
def refCount (ax ay bx y2 : Int) (l : Ln) : Int :=
  (if 0 < refM l ∧ ¬ exP ax ay bx y2 (colX ax ay bx y2 (refU l (refM l - 1))) (colY ax ay bx y2 (refU l (refM l - 1))) then refM l - 1 else refM l) + if l.Extra = true then 1 else 0
theorem ref_count {ax ay bx y2 : Int} (c : ¬ (ax = bx ∧ ay = y2)) : refCount ax ay bx y2 (ofL ax ay bx y2) = ((lineL ax ay bx y2).length : Nat) := by
  have hat := fun k => ref_at c k
  have hcol := fun n => col_has (ax := ax) (ay := ay) (bx := bx) (y2 := y2) (n := n) c
  obtain ⟨l, hl⟩ : ∃ l, ofL ax ay bx y2 = l := ⟨_, rfl⟩
  rw [hl] at hat hcol ⊢
  have m0 : 0 ≤ refM l := by unfold refM; omega
  have key : ∀ k : Nat, (k : Int) < refCount ax ay bx y2 l ↔ k < (lineL ax ay bx y2).length := by
    intro k
    have h := hat k
    unfold atL at h
    rw [if_neg (by omega), Int.toNat_natCast] at h
    have hs : k < (lineL ax ay bx y2).length ↔ (refAt ax ay bx y2 l k).isSome = true := by rw [h]; simp
    rw [hs]
    unfold refAt refCount
    rw [if_neg (show ¬ (k : Int) < 0 by omega)]
    by_cases hE : l.Extra = true ∧ (k : Int) = 0
    · rw [if_pos hE, if_pos hE.1]; simp; split <;> omega
    rw [if_neg hE]
    have n0 : 0 ≤ refN l k := by
      unfold refN; split
      · rename_i q; have : (k : Int) ≠ 0 := fun e => hE ⟨q, e⟩; omega
      · omega
    have e : (k : Int) = refN l k + if l.Extra = true then 1 else 0 := by unfold refN; split <;> omega
    have hc : ∀ x : Int, ((k : Int) < x + if l.Extra = true then 1 else 0) ↔ refN l k < x := fun x => by omega
    rw [hc]
    by_cases hM : refM l ≤ refN l k
    · rw [if_pos hM]; simp; split <;> omega
    rw [if_neg hM]
    by_cases hL : refN l k < refM l - 1
    · rw [if_pos (hcol _ n0 hL)]; simp; split <;> omega
    · have e2 : refN l k = refM l - 1 := by omega
      rw [e2]
      by_cases he : exP ax ay bx y2 (colX ax ay bx y2 (refU l (refM l - 1))) (colY ax ay bx y2 (refU l (refM l - 1)))
      · rw [if_pos he, if_neg (fun q => q.2 he)]; simp; omega
      · rw [if_neg he, if_pos ⟨by omega, he⟩]; simp
  have c0 : 0 ≤ refCount ax ay bx y2 l := by unfold refCount; split <;> split <;> omega
  have a := key (refCount ax ay bx y2 l).toNat
  have b := key (lineL ax ay bx y2).length
  omega
end Go.Proofs.Ytmlhbbkgfffmcaa
