/- The walks of the reference of layer 2: numbers added, and which is greater. Conditions: the values read as numbers. -/
import Derived.Test.YtmlhbbkgfffmcaaNumE
namespace Go.Proofs.Ytmlhbbkgfffmcaa
set_option linter.unusedVariables false
set_option linter.unusedSimpArgs false
open Go.RowKit
set_option maxRecDepth 100000 in
set_option maxHeartbeats 4000000 in
theorem sum_ge (m : Bool) (va vb : Value) (a b : List Int) (w : World) (ha : Rb w va a) (hb : Rb w vb b) (la : a.length ≤ 1048000) (lb : b.length ≤ 1048000) (hab : bv b ≤ bv a) :
    Calls Try.prog 122 #[.agg #[.bool m, va], .agg #[.bool (!m), vb]] w (RetR (fun v w => RN w v (pmv (bv a - bv b) m) (max a.length b.length + 1)) w) := by
  have HA := Lib.hid ha
  have HB := Lib.hid hb
  obtain ⟨aa, acap, rfl, -⟩ := ha.form
  obtain ⟨ba, bcap, rfl, -⟩ := hb.form
  have d1 : (m == !m) = false := by cases m <;> rfl
  have d2 : decide (0 ≤ sgn (bv a - bv b)) = true := by have := sgn_01 (bv a - bv b); simp; omega
  have HH := Lib.hid hab
  clear ha hb hab
  go_enter Try.func122, Try.ntmps122
  go_wp2_with (first | (go_at_call 136; (with_reducible refine (above_any _ _ a b _ ?_ ?_).mono ?_); (repeat (first | assumption | exact HA.out | exact HB.out | with_reducible refine Rb.ext ?_ _ | with_reducible refine Rb.alloc ?_ _ | with_reducible refine Rb.drew ?_)); (repeat (first | assumption | exact HA.out | exact HB.out | with_reducible refine Rb.ext ?_ _ | with_reducible refine Rb.alloc ?_ _ | with_reducible refine Rb.drew ?_)); rintro _ _ ⟨rfl, X0, rfl⟩))
  refine wp_region_rel 9 [none, none, none, none, none, none, some ([], srQ fun l => bv l = bv a - bv b ∧ l.length = a.length), none, some ([6], srN (pmv (bv a - bv b) m) (max a.length b.length + 1))] (by kernel_rfl) (by kernel_rfl) ?_
  simp only [List.take_succ_cons, List.take_zero, List.drop_succ_cons, List.drop_zero]
  (repeat (first | (refine rel_none ?_; intro K_ hK_; go_big_quiet_op; go_big_quiet_on) | simp only [Act.put, List.setIfInBounds_toArray, List.set_cons_zero, List.set_cons_succ]))
  refine rel_some rfl (fun w_ hw_ hk_ K_ hK_ => ?_) (fun v17 f17 => ?_)
  · obtain ⟨X_, rfl⟩ := hw_
    go_simp
    go_at_call 137
    refine (less_any _ _ a b _ (by (repeat (first | assumption | exact HA.out | exact HB.out | with_reducible refine Rb.ext ?_ _ | with_reducible refine Rb.alloc ?_ _ | with_reducible refine Rb.drew ?_))) (by (repeat (first | assumption | exact HA.out | exact HB.out | with_reducible refine Rb.ext ?_ _ | with_reducible refine Rb.alloc ?_ _ | with_reducible refine Rb.drew ?_))) la HH.out).mono ?_
    rintro _ _ ⟨v, rfl, h1, h2⟩
    exact hK_ _ _ h1 h2
  obtain ⟨a17, k17, c17, rfl⟩ := f17
  (repeat (first | (refine rel_none ?_; intro K_ hK_; go_big_quiet_op; go_big_quiet_on) | simp only [Act.put, List.setIfInBounds_toArray, List.set_cons_zero, List.set_cons_succ]))
  refine rel_some rfl (fun w_ hw_ hk_ K_ hK_ => ?_) (fun v19 f19 => ?_)
  · obtain ⟨X_, rfl⟩ := hw_
    obtain ⟨l, h1, h2, h3⟩ := (hk_ (6, _) (by repeat (first | exact List.mem_cons_self | refine List.mem_cons_of_mem _ ?_))) (by simp)
    go_simp
    go_at_call 135
    refine (trim_any _ _ l _ h1).mono ?_
    rintro _ _ ⟨v, rfl, h4, h5⟩
    rw [h2] at h4
    exact hK_ _ _ (RN.mono h4 (by omega)) h5
  refine rel_nil ?_
  intro w_ hw_ k
  obtain ⟨X, rfl⟩ := hw_
  have h1 := (k (8, _) (by repeat (first | exact List.mem_cons_self | refine List.mem_cons_of_mem _ ?_)))
  obtain ⟨m1, a1, k1, c1, rfl⟩ := RN.form h1
  have H1 := Lib.hid h1
  clear h1 k
  go_wp2
  refine bodyPost_ret (v := .agg #[.bool m1, .slice a1 k1 c1]) (by simp [results, Try.results122, go_sem]) rfl ?_
  have h2 := H1.out
  rw [World.ext_ext] at h2 ⊢
  exact fin_swap h2 (by (repeat (first | exact Below.refl _ _ | with_reducible refine Below.drew ?_ | with_reducible refine Below.ext ?_ (by first | exact Nat.le_refl _ | (simp; done) | (simp; omega)) _ | with_reducible refine Below.alloc ?_ (by first | exact Nat.le_refl _ | (simp; done) | (simp; omega)) _ | with_reducible refine Below.setCell ?_ (by first | exact Nat.le_refl _ | (simp; done) | (simp; omega)) _))) (Nat.le_refl _)
set_option maxRecDepth 100000 in
set_option maxHeartbeats 4000000 in
theorem sum_lt (m : Bool) (va vb : Value) (a b : List Int) (w : World) (ha : Rb w va a) (hb : Rb w vb b) (la : a.length ≤ 1048000) (lb : b.length ≤ 1048000) (hab : bv a < bv b) :
    Calls Try.prog 122 #[.agg #[.bool (!m), va], .agg #[.bool m, vb]] w (RetR (fun v w => RN w v (pmv (bv b - bv a) m) (max a.length b.length + 1)) w) := by
  have HA := Lib.hid ha
  have HB := Lib.hid hb
  obtain ⟨aa, acap, rfl, -⟩ := ha.form
  obtain ⟨ba, bcap, rfl, -⟩ := hb.form
  have d1 : ((!m) == m) = false := by cases m <;> rfl
  have d2 : decide (0 ≤ sgn (bv a - bv b)) = false := by have := sgn_01 (bv a - bv b); simp; omega
  have HH := Lib.hid hab
  clear ha hb hab
  go_enter Try.func122, Try.ntmps122
  go_wp2_with (first | (go_at_call 136; (with_reducible refine (above_any _ _ a b _ ?_ ?_).mono ?_); (repeat (first | assumption | exact HA.out | exact HB.out | with_reducible refine Rb.ext ?_ _ | with_reducible refine Rb.alloc ?_ _ | with_reducible refine Rb.drew ?_)); (repeat (first | assumption | exact HA.out | exact HB.out | with_reducible refine Rb.ext ?_ _ | with_reducible refine Rb.alloc ?_ _ | with_reducible refine Rb.drew ?_)); rintro _ _ ⟨rfl, X0, rfl⟩))
  refine wp_region_rel 9 [none, none, none, none, none, none, some ([], srQ fun l => bv l = bv b - bv a ∧ l.length = b.length), none, some ([6], srN (pmv (bv b - bv a) m) (max a.length b.length + 1))] (by kernel_rfl) (by kernel_rfl) ?_
  simp only [List.take_succ_cons, List.take_zero, List.drop_succ_cons, List.drop_zero]
  (repeat (first | (refine rel_none ?_; intro K_ hK_; go_big_quiet_op; go_big_quiet_on) | simp only [Act.put, List.setIfInBounds_toArray, List.set_cons_zero, List.set_cons_succ]))
  refine rel_some rfl (fun w_ hw_ hk_ K_ hK_ => ?_) (fun v17 f17 => ?_)
  · obtain ⟨X_, rfl⟩ := hw_
    go_simp
    go_at_call 137
    refine (less_any _ _ b a _ (by (repeat (first | assumption | exact HA.out | exact HB.out | with_reducible refine Rb.ext ?_ _ | with_reducible refine Rb.alloc ?_ _ | with_reducible refine Rb.drew ?_))) (by (repeat (first | assumption | exact HA.out | exact HB.out | with_reducible refine Rb.ext ?_ _ | with_reducible refine Rb.alloc ?_ _ | with_reducible refine Rb.drew ?_))) lb (by have := HH.out; omega)).mono ?_
    rintro _ _ ⟨v, rfl, h1, h2⟩
    exact hK_ _ _ h1 h2
  obtain ⟨a17, k17, c17, rfl⟩ := f17
  (repeat (first | (refine rel_none ?_; intro K_ hK_; go_big_quiet_op; go_big_quiet_on) | simp only [Act.put, List.setIfInBounds_toArray, List.set_cons_zero, List.set_cons_succ]))
  refine rel_some rfl (fun w_ hw_ hk_ K_ hK_ => ?_) (fun v19 f19 => ?_)
  · obtain ⟨X_, rfl⟩ := hw_
    obtain ⟨l, h1, h2, h3⟩ := (hk_ (6, _) (by repeat (first | exact List.mem_cons_self | refine List.mem_cons_of_mem _ ?_))) (by simp)
    go_simp
    go_at_call 135
    refine (trim_any _ _ l _ h1).mono ?_
    rintro _ _ ⟨v, rfl, h4, h5⟩
    rw [h2] at h4
    exact hK_ _ _ (RN.mono h4 (by omega)) h5
  refine rel_nil ?_
  intro w_ hw_ k
  obtain ⟨X, rfl⟩ := hw_
  have h1 := (k (8, _) (by repeat (first | exact List.mem_cons_self | refine List.mem_cons_of_mem _ ?_)))
  obtain ⟨m1, a1, k1, c1, rfl⟩ := RN.form h1
  have H1 := Lib.hid h1
  clear h1 k
  go_wp2
  refine bodyPost_ret (v := .agg #[.bool m1, .slice a1 k1 c1]) (by simp [results, Try.results122, go_sem]) rfl ?_
  have h2 := H1.out
  rw [World.ext_ext] at h2 ⊢
  exact fin_swap h2 (by (repeat (first | exact Below.refl _ _ | with_reducible refine Below.drew ?_ | with_reducible refine Below.ext ?_ (by first | exact Nat.le_refl _ | (simp; done) | (simp; omega)) _ | with_reducible refine Below.alloc ?_ (by first | exact Nat.le_refl _ | (simp; done) | (simp; omega)) _ | with_reducible refine Below.setCell ?_ (by first | exact Nat.le_refl _ | (simp; done) | (simp; omega)) _))) (Nat.le_refl _)
theorem sum_any (va vb : Value) (x y : Int) (n k : Nat) (w : World) (ha : RN w va x n) (hb : RN w vb y k) (hn : n ≤ 1048000) (hk : k ≤ 1048000) :
    Calls Try.prog 122 #[va, vb] w (RetR (fun v w => RN w v (x + y) (max n k + 1)) w) := by
  obtain ⟨m, sa, a, rfl, ra, -, -, rfl, la⟩ := ha
  obtain ⟨m', sb, b, rfl, rb, -, -, rfl, lb⟩ := hb
  have done : ∀ z, z = pmv (bv a) m + pmv (bv b) m' → Calls Try.prog 122 #[.agg #[.bool m, sa], .agg #[.bool m', sb]] w (RetR (fun v w => RN w v z (max a.length b.length + 1)) w) → Calls Try.prog 122 #[.agg #[.bool m, sa], .agg #[.bool m', sb]] w (RetR (fun v w => RN w v (pmv (bv a) m + pmv (bv b) m') (max n k + 1)) w) := by
    intro z hz h
    refine h.mono ?_
    rintro _ _ ⟨v, rfl, h1, h2⟩
    rw [hz] at h1
    exact ⟨v, rfl, h1.mono (by omega), h2⟩
  by_cases hm : m = m'
  · subst hm
    exact done _ (by cases m <;> simp [pmv]; omega) (sum_same m sa sb a b w ra rb (by omega) (by omega))
  · have e : m' = !m := by cases m <;> cases m' <;> simp_all
    subst e
    by_cases hab : bv b ≤ bv a
    · exact done _ (by cases m <;> simp [pmv] <;> omega) (sum_ge m sa sb a b w ra rb (by omega) (by omega) hab)
    · have := sum_lt (!m) sa sb a b w ra rb (by omega) (by omega) (by omega)
      rw [Bool.not_not] at this
      exact done _ (by cases m <;> simp [pmv] <;> omega) this
theorem RN.minus {w : World} {v : Value} {z : Int} {n : Nat} (h : RN w v z n) : ∃ a k cap, v = .agg #[.bool (decide (z < 0)), .slice a k cap] ∧ (0 < k ↔ z ≠ 0) := by
  obtain ⟨m, sv, l, rfl, h2, h3, h4, rfl, -⟩ := h
  obtain ⟨a, cap, rfl, -⟩ := h2.form
  have hb := (bv_bd h3.1).1
  have hz := h3.zero
  cases m
  · refine ⟨a, l.length, cap, ?_, ?_⟩
    · rw [show decide (pmv (bv l) false < 0) = false by simp [pmv]; exact hb]
    · simp [pmv]; omega
  · refine ⟨a, l.length, cap, ?_, ?_⟩
    · have := h4 rfl
      rw [show decide (pmv (bv l) true < 0) = true by simp [pmv]; omega]
    · simp [pmv]; omega
set_option maxRecDepth 100000 in
set_option maxHeartbeats 4000000 in
theorem order_any (va vb : Value) (x y : Int) (n k : Nat) (w : World) (ha : RN w va x n) (hb : RN w vb y k) (hn : n ≤ 1048000) (hk : k ≤ 1048000) :
    Calls Try.prog 107 #[va, vb] w (Ret (.int .i64 (sgn (x - y))) w) := by
  have NA := Lib.hid ha
  have NB := Lib.hid hb
  obtain ⟨am, aa, ak, ac, rfl⟩ := ha.form
  obtain ⟨bm, ba, bk, bc, rfl⟩ := hb.form
  clear ha hb
  go_enter Try.func107, Try.ntmps107
  go_wp2
  refine wp_region_rel 5 [none, none, some ([], srN (-y) k), some ([2], srN (x + -y) (max n k + 1)), some ([], srNew w.heap.size #[.bool false, .slice none 0 0] 138)] (by kernel_rfl) (by kernel_rfl) ?_
  simp only [List.take_succ_cons, List.take_zero, List.drop_succ_cons, List.drop_zero]
  (repeat (first | (refine rel_none ?_; intro K_ hK_; go_big_quiet_op; go_big_quiet_on) | simp only [Act.put, List.setIfInBounds_toArray, List.set_cons_zero, List.set_cons_succ]))
  refine rel_some rfl (fun w_ hw_ hk_ K_ hK_ => ?_) (fun v8 f8 => ?_)
  · obtain ⟨X_, rfl⟩ := hw_
    go_simp
    go_at_call 121
    refine (rturn_any _ y k _ (by (repeat (first | assumption | exact NA.out | exact NB.out | with_reducible refine RN.ext ?_ _ | with_reducible refine RN.alloc ?_ _ | with_reducible refine RN.drew ?_)))).mono ?_
    rintro _ _ ⟨v, rfl, h1, h2⟩
    exact hK_ _ _ h1 h2
  obtain ⟨m8, a8, k8, c8, rfl⟩ := f8
  (repeat (first | (refine rel_none ?_; intro K_ hK_; go_big_quiet_op; go_big_quiet_on) | simp only [Act.put, List.setIfInBounds_toArray, List.set_cons_zero, List.set_cons_succ]))
  refine rel_some rfl (fun w_ hw_ hk_ K_ hK_ => ?_) (fun v9 f9 => ?_)
  · obtain ⟨X_, rfl⟩ := hw_
    have h0 := (hk_ (2, _) (by repeat (first | exact List.mem_cons_self | refine List.mem_cons_of_mem _ ?_))) (by simp)
    go_simp
    go_at_call 122
    refine (sum_any _ _ x (-y) n k _ (by (repeat (first | assumption | exact NA.out | exact NB.out | with_reducible refine RN.ext ?_ _ | with_reducible refine RN.alloc ?_ _ | with_reducible refine RN.drew ?_))) h0 hn hk).mono ?_
    rintro _ _ ⟨v, rfl, h1, h2⟩
    exact hK_ _ _ h1 h2
  obtain ⟨m9, a9, k9, c9, rfl⟩ := f9
  (repeat (first | (refine rel_none ?_; intro K_ hK_; go_big_quiet_op; go_big_quiet_on) | simp only [Act.put, List.setIfInBounds_toArray, List.set_cons_zero, List.set_cons_succ]))
  refine rel_some rfl (fun w_ hw_ hk_ K_ hK_ => ?_) (fun v5 f5 => ?_)
  · obtain ⟨X_, rfl⟩ := hw_
    go_simp
    exact hK_ _ _ (new_R (by simp) (by omega)) new_X
  (repeat (first | (refine rel_none ?_; intro K_ hK_; go_big_quiet_op; go_big_quiet_on) | simp only [Act.put, List.setIfInBounds_toArray, List.set_cons_zero, List.set_cons_succ]))
  refine rel_nil ?_
  intro w_ hw_ hk
  obtain ⟨X, rfl⟩ := hw_
  have h1 := (hk (3, _) (by repeat (first | exact List.mem_cons_self | refine List.mem_cons_of_mem _ ?_)))
  obtain ⟨a1, k1, c1, e1, h2⟩ := RN.minus h1
  cases e1
  obtain ⟨p, rfl, h3, h4⟩ := (hk (4, _) (by repeat (first | exact List.mem_cons_self | refine List.mem_cons_of_mem _ ?_)))
  clear hk h1 f5
  have hs := sgn_01 (x - y)
  have d1 := h4.lt
  refine wpl_abs (F := fun wx => Row wx p #[.bool false, .slice none 0 0] 138 ∧ Below w.heap.size w wx) ⟨h4, by (repeat (first | exact Below.refl _ _ | with_reducible refine Below.drew ?_ | with_reducible refine Below.ext ?_ (by first | exact Nat.le_refl _ | (simp; done) | (simp; omega)) _ | with_reducible refine Below.alloc ?_ (by first | exact Nat.le_refl _ | (simp; done) | (simp; omega)) _ | with_reducible refine Below.setCell ?_ (by first | exact Nat.le_refl _ | (simp; done) | (simp; omega)) _))⟩ ?_
  clear h4 d1 X
  intro wx ⟨R, BW⟩
  have sz := R.lt
  have q0 := R.cell 0
  have q1 := R.cell 1
  have g0 := R.frozen 0
  have g1 := R.frozen 1
  simp at q0 q1
  have HS := Lib.hid hs
  have H2 := Lib.hid h2
  clear R hs h2
  by_cases hz : x + -y < 0
  · have dz : decide (x + -y < 0) = true := by simp [hz]
    go_wp2
    go_ret
    exact Ret.of' (congrArg (Value.int .i64) (by have := HS.out; omega)) (by (repeat (first | assumption | exact Below.refl _ _ | with_reducible refine Below.drew ?_ | with_reducible refine Below.ext ?_ (by first | exact Nat.le_refl _ | omega | (simp; done) | (simp; omega)) _ | with_reducible refine Below.alloc ?_ (by first | exact Nat.le_refl _ | omega | (simp; done) | (simp; omega)) _ | with_reducible refine Below.setCell ?_ (by first | exact Nat.le_refl _ | omega | (simp; done) | (simp; omega)) _)))
  · have dz : decide (x + -y < 0) = false := by simp [hz]
    go_wp2
    all_goals
      go_ret
      exact Ret.of' (congrArg (Value.int .i64) (by have := HS.out; have := H2.out; omega)) (by (repeat (first | assumption | exact Below.refl _ _ | with_reducible refine Below.drew ?_ | with_reducible refine Below.ext ?_ (by first | exact Nat.le_refl _ | omega | (simp; done) | (simp; omega)) _ | with_reducible refine Below.alloc ?_ (by first | exact Nat.le_refl _ | omega | (simp; done) | (simp; omega)) _ | with_reducible refine Below.setCell ?_ (by first | exact Nat.le_refl _ | omega | (simp; done) | (simp; omega)) _)))
end Go.Proofs.Ytmlhbbkgfffmcaa
