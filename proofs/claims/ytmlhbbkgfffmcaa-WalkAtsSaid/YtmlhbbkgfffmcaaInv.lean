/- A region that draws its order, by an invariant over the operations that are done: each operation is walked once, in whatever order they come up. No condition. -/
import Derived.Test.YtmlhbbkgfffmcaaBase
import Derived.StillTail
namespace Go
set_option linter.unusedVariables false
set_option linter.unusedSimpArgs false
section
variable {P : Program}
/-- One more operation is done. -/
def upd (d : Nat → Bool) (i : Nat) : Nat → Bool := fun j => if j = i then true else d j
/-- Each operation waits for elder ones alone, and has no guard. -/
def lowB (ops : Array Oper) : Bool := (List.range ops.size).all fun i => match ops[i]? with
  | some o => o.guard.isNone && o.after.all fun e => !(Region.binds .any e) || decide (e.on < i)
  | none => true
theorem lowB_spec {ops : Array Oper} (h : lowB ops = true) {i : Nat} {o : Oper} (ho : ops[i]? = some o) : o.guard = none ∧ ∀ e ∈ o.after, Region.binds .any e = true → e.on < i := by
  have hi : i < ops.size := (Array.getElem?_eq_some_iff.1 ho).1
  have := List.all_eq_true.1 h i (List.mem_range.2 hi)
  simp only [ho, Bool.and_eq_true, Option.isNone_iff_eq_none, Array.all_eq_true', Bool.or_eq_true, Bool.not_eq_true', decide_eq_true_eq] at this
  exact ⟨this.1, fun e he hb => (this.2 e he).resolve_left (by rw [hb]; exact Bool.noConfusion)⟩
theorem wpAny_of_I {ops : Array Oper} {I : (Nat → Bool) → Act → World → Prop} {Q : Exit → Act → World → Prop} (hl : lowB ops = true)
    (hstep : ∀ i o, ops[i]? = some o → ∀ d a w, I d a w → d i = false → (∀ e ∈ o.after, Region.binds .any e = true → d e.on = true) → o.wp P a w (I (upd d i)) Q)
    (hend : ∀ d a w, I d a w → (∀ i, i < ops.size → d i = true) → Q .normal a w) :
    ∀ (fuel : Nat) (done : Array Bool) (a : Act) (w : World), done.size = ops.size → done.toList.count false = fuel → I (fun j => done.getD j false) a w → wpAny P .any ops Q fuel done a w := by
  have all_done : ∀ (done : Array Bool), done.size = ops.size → Region.ready .any ops done = [] → ∀ i, i < ops.size → done.getD i false = true := by
    intro done hs hr i
    induction i using Nat.strongRecOn with
    | _ i ih =>
      intro hi
      cases hd : done.getD i false with
      | true => rfl
      | false =>
        have hmem : i ∈ Region.ready .any ops done := by
          refine mem_ready.2 ⟨getD_in (by omega) hd, ops[i], by simp [hi], fun e he hb => ?_⟩
          have := (lowB_spec hl (show ops[i]? = some ops[i] by simp [hi])).2 e he hb
          exact ih e.on this (by omega)
        rw [hr] at hmem; cases hmem
  intro fuel
  induction fuel with
  | zero =>
    intro done a w hs hc hI
    have hr : Region.ready .any ops done = [] := by
      cases hr : Region.ready .any ops done with
      | nil => rfl
      | cons i l =>
        exfalso
        have h1 := (mem_ready.1 (show i ∈ Region.ready .any ops done by rw [hr]; exact List.mem_cons_self)).1
        have hi : i < done.size := by
          rcases Nat.lt_or_ge i done.size with h | h
          · exact h
          · simp [Array.getElem?_eq_none h] at h1
        have : false ∈ done.toList := by
          have h2 : done[i] = false := by simpa [hi] using h1
          rw [← h2]; simp
        have := List.count_pos_iff.2 this
        omega
    exact ⟨hr, hend _ a w hI (all_done done hs hr)⟩
  | succ fuel ih =>
    intro done a w hs hc hI
    refine ⟨fun hr => hend _ a w hI (all_done done hs hr), fun i hi => ?_⟩
    obtain ⟨h1, o, ho, haft⟩ := mem_ready.1 hi
    have hid : i < done.size := by rw [hs]; exact (Array.getElem?_eq_some_iff.1 ho).1
    have hf : done[i] = false := by simpa [hid] using h1
    have hw : Region.wanted o (yielded ops a.tmps) = true := by simp [Region.wanted, (lowB_spec hl ho).1]
    unfold wpOp
    simp only [ho, hw, if_true]
    refine .inl (Oper.wp_mono (fun a' w' h => ?_) (hstep i o ho _ a w hI (getD_both h1) haft))
    refine ih _ a' w' (by simpa using hs) ?_ ?_
    · have h0 : done.toList[i]'(by simpa using hid) = false := by simpa using hf
      rw [Array.toList_setIfInBounds, List.count_set (by simpa using hid), h0, hc]
      simp
    · have e : (fun j => (done.setIfInBounds i true).getD j false) = upd (fun j => done.getD j false) i := by
        funext j
        unfold upd
        by_cases hj : j = i
        · subst hj; simp [hid]
        · rw [if_neg hj, getD_set_ne false (Ne.symm hj)]
      rw [e]; exact h
/-- A region that draws its order, by an invariant. -/
theorem wp_region_inv {id : Nat} {Q : Exit → Act → World → Prop} {a : Act} {w : World} {ops : Array Oper} (I : (Nat → Bool) → Act → World → Prop) (hm : P.follows .mixedOrders = true) (hl : lowB ops = true)
    (h0 : I (fun _ => false) a w.drew)
    (hstep : ∀ i o, ops[i]? = some o → ∀ d a w, I d a w → d i = false → (∀ e ∈ o.after, Region.binds .any e = true → d e.on = true) → o.wp P a w (I (upd d i)) Q)
    (hend : ∀ d a w, I d a w → (∀ i, i < ops.size → d i = true) → Q .normal a w) : (Code.region id ops true).wp P Q a w := by
  refine wp_region_any hm (wpAny_of_I hl hstep hend _ _ _ _ (by simp) (by simp) ?_)
  have e : (fun j => (Array.replicate ops.size false).getD j false) = fun _ => false := by funext j; exact getD_replicate_false _ _
  rw [e]; exact h0
end
end Go
