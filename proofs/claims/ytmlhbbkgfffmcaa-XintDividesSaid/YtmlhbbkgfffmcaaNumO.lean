/- The walks of the reference of layer 2: order, sums, differences, products of numbers of 128 bits. Conditions: 64 and 128 bits. -/
import Derived.Test.YtmlhbbkgfffmcaaNumN
namespace Go.Proofs.Ytmlhbbkgfffmcaa
set_option linter.unusedVariables false
set_option linter.unusedSimpArgs false
open Go.RowKit
/-- One value. -/
def srV (c : Value) : SR Grows := ⟨fun v w => v = c, fun v w w' h _ => h, fun v => v = c, c, rfl, fun v w h => h⟩
theorem rn_zero {w : World} : RN w (.agg #[.bool false, .slice none 0 0]) 0 0 := ⟨false, _, [], rfl, Rb.nil, ⟨Bin.nil, fun h => by simp at h⟩, by simp, by simp [pmv, bv], by simp⟩
set_option maxRecDepth 100000 in
set_option maxHeartbeats 4000000 in
theorem rcmp_any (a b : Int) (ha : inR a) (hb : inR b) (w : World) : Calls Try.prog 77 #[I2 a, I2 b] w (Ret (.int .i64 (sgn (a - b))) w) := by
  go_enter Try.func77, Try.ntmps77
  go_wp2
  refine wp_region_rel 5 [none, some ([], srN a 129), none, some ([], srN b 129), some ([1, 3], srV (.int .i64 (sgn (a - b))))] (by kernel_rfl) (by kernel_rfl) ?_
  simp only [List.take_succ_cons, List.take_zero, List.drop_succ_cons, List.drop_zero]
  (repeat (first | (refine rel_none ?_; intro K_ hK_; go_big_quiet_op; go_big_quiet_on) | simp only [Act.put, List.setIfInBounds_toArray, List.set_cons_zero, List.set_cons_succ]))
  refine rel_some rfl (fun w_ hw_ hk_ K_ hK_ => ?_) (fun v6 f6 => ?_)
  · obtain ⟨X_, rfl⟩ := hw_
    go_simp
    go_at_call 104
    refine (from_any a ha _).mono ?_
    rintro _ _ ⟨v, rfl, h1, h2⟩
    exact hK_ _ _ h1 h2
  obtain ⟨m6, a6, k6, c6, rfl⟩ := f6
  (repeat (first | (refine rel_none ?_; intro K_ hK_; go_big_quiet_op; go_big_quiet_on) | simp only [Act.put, List.setIfInBounds_toArray, List.set_cons_zero, List.set_cons_succ]))
  refine rel_some rfl (fun w_ hw_ hk_ K_ hK_ => ?_) (fun v8 f8 => ?_)
  · obtain ⟨X_, rfl⟩ := hw_
    go_simp
    go_at_call 104
    refine (from_any b hb _).mono ?_
    rintro _ _ ⟨v, rfl, h1, h2⟩
    exact hK_ _ _ h1 h2
  obtain ⟨m8, a8, k8, c8, rfl⟩ := f8
  (repeat (first | (refine rel_none ?_; intro K_ hK_; go_big_quiet_op; go_big_quiet_on) | simp only [Act.put, List.setIfInBounds_toArray, List.set_cons_zero, List.set_cons_succ]))
  refine rel_some rfl (fun w_ hw_ hk_ K_ hK_ => ?_) (fun v9 f9 => ?_)
  · obtain ⟨X_, rfl⟩ := hw_
    have h1 := (hk_ (1, _) (by repeat (first | exact List.mem_cons_self | refine List.mem_cons_of_mem _ ?_))) (by simp)
    have h3 := (hk_ (3, _) (by repeat (first | exact List.mem_cons_self | refine List.mem_cons_of_mem _ ?_))) (by simp)
    go_simp
    go_at_call 107
    refine (order_any _ _ a b 129 129 _ h1 h3 (by decide) (by decide)).mono ?_
    rintro _ _ ⟨rfl, h2⟩
    exact hK_ _ _ rfl h2
  obtain rfl := f9
  (repeat (first | (refine rel_none ?_; intro K_ hK_; go_big_quiet_op; go_big_quiet_on) | simp only [Act.put, List.setIfInBounds_toArray, List.set_cons_zero, List.set_cons_succ]))
  refine rel_nil ?_
  intro w_ hw_ k
  obtain ⟨X, rfl⟩ := hw_
  clear k
  go_wp2
  go_ret
  exact Ret.of (by (repeat (first | exact Below.refl _ _ | with_reducible refine Below.drew ?_ | with_reducible refine Below.ext ?_ (by first | exact Nat.le_refl _ | (simp; done) | (simp; omega)) _ | with_reducible refine Below.alloc ?_ (by first | exact Nat.le_refl _ | (simp; done) | (simp; omega)) _ | with_reducible refine Below.setCell ?_ (by first | exact Nat.le_refl _ | (simp; done) | (simp; omega)) _)))
theorem rsign_any (a : Int) (ha : inR a) (w : World) : Calls Try.prog 76 #[I2 a] w (Ret (.int .i64 (sgn a)) w) := by
  go_enter Try.func76, Try.ntmps76
  go_wp2_with (first
    | (go_at_call 104; (with_reducible refine Calls.mono (from_any a ha _) ?_); (repeat (first | assumption | exact N1.out | exact N2.out | exact N3.out | exact N4.out | with_reducible refine RN.ext ?_ _ | with_reducible refine RN.alloc ?_ _ | with_reducible refine RN.drew ?_)); rintro _ _ ⟨v_N1, rfl, g_N1, ⟨Y_N1, rfl⟩⟩; obtain ⟨m_N1, a_N1, k_N1, c_N1, rfl⟩ := g_N1.form; have N1 := Lib.hid g_N1; clear g_N1)
    | (go_at_call 107; (with_reducible refine (order_any _ _ a 0 129 0 _ ?_ rn_zero (by decide) (by decide)).mono ?_); (repeat (first | assumption | exact N1.out | exact N2.out | exact N3.out | exact N4.out | with_reducible refine RN.ext ?_ _ | with_reducible refine RN.alloc ?_ _ | with_reducible refine RN.drew ?_)); rintro _ _ ⟨rfl, X_, rfl⟩))
  go_ret
  exact Ret.of' (by simp) (by (repeat (first | exact Below.refl _ _ | with_reducible refine Below.drew ?_ | with_reducible refine Below.ext ?_ (by first | exact Nat.le_refl _ | (simp; done) | (simp; omega)) _ | with_reducible refine Below.alloc ?_ (by first | exact Nat.le_refl _ | (simp; done) | (simp; omega)) _ | with_reducible refine Below.setCell ?_ (by first | exact Nat.le_refl _ | (simp; done) | (simp; omega)) _)))
theorem rneg_any (a : Int) (ha : inR a) (w : World) : Calls Try.prog 71 #[I2 a] w (Ret (I2b (-a)) w) := by
  have TO := Lib.hid (fun v (k : Nat) w h => to_any v (-a) k w h)
  unfold I2b at TO ⊢
  go_enter Try.func71, Try.ntmps71
  go_wp2_with (first
    | (go_at_call 104; (with_reducible refine Calls.mono (from_any a ha _) ?_); (repeat (first | assumption | exact N1.out | exact N2.out | exact N3.out | exact N4.out | with_reducible refine RN.ext ?_ _ | with_reducible refine RN.alloc ?_ _ | with_reducible refine RN.drew ?_)); rintro _ _ ⟨v_N1, rfl, g_N1, ⟨Y_N1, rfl⟩⟩; obtain ⟨m_N1, a_N1, k_N1, c_N1, rfl⟩ := g_N1.form; have N1 := Lib.hid g_N1; clear g_N1)
    | (go_at_call 121; (with_reducible refine Calls.mono (rturn_any _ a 129 _ ?_) ?_); (repeat (first | assumption | exact N1.out | exact N2.out | exact N3.out | exact N4.out | with_reducible refine RN.ext ?_ _ | with_reducible refine RN.alloc ?_ _ | with_reducible refine RN.drew ?_)); rintro _ _ ⟨v_N2, rfl, g_N2, ⟨Y_N2, rfl⟩⟩; obtain ⟨m_N2, a_N2, k_N2, c_N2, rfl⟩ := g_N2.form; have N2 := Lib.hid g_N2; clear g_N2)
    | (go_at_call 106; (with_reducible refine (TO.out _ 129 _ ?_).mono ?_); exact N2.out; rintro _ _ ⟨rfl, X_, rfl⟩))
  refine bodyPost_ret (v := .tuple #[I2 (lim (-a)), .bool (decide (inR (-a)))]) (by simp [results, Try.results71, go_sem]) rfl (Ret.of (by (repeat (first | exact Below.refl _ _ | with_reducible refine Below.drew ?_ | with_reducible refine Below.ext ?_ (by first | exact Nat.le_refl _ | (simp; done) | (simp; omega)) _ | with_reducible refine Below.alloc ?_ (by first | exact Nat.le_refl _ | (simp; done) | (simp; omega)) _ | with_reducible refine Below.setCell ?_ (by first | exact Nat.le_refl _ | (simp; done) | (simp; omega)) _))))
theorem rtimes_any (a n : Int) (ha : inR a) (hn : sml n) (w : World) : Calls Try.prog 74 #[I2 a, .int .i64 n] w (Ret (I2b (a * n)) w) := by
  have TO := Lib.hid (fun v (k : Nat) w h => to_any v (a * n) k w h)
  unfold I2b at TO ⊢
  go_enter Try.func74, Try.ntmps74
  go_wp2_with (first
    | (go_at_call 104; (with_reducible refine Calls.mono (from_any a ha _) ?_); (repeat (first | assumption | exact N1.out | exact N2.out | exact N3.out | exact N4.out | with_reducible refine RN.ext ?_ _ | with_reducible refine RN.alloc ?_ _ | with_reducible refine RN.drew ?_)); rintro _ _ ⟨v_N1, rfl, g_N1, ⟨Y_N1, rfl⟩⟩; obtain ⟨m_N1, a_N1, k_N1, c_N1, rfl⟩ := g_N1.form; have N1 := Lib.hid g_N1; clear g_N1)
    | (go_at_call 105; (with_reducible refine Calls.mono (rnum_any n hn _) ?_); (repeat (first | assumption | exact N1.out | exact N2.out | exact N3.out | exact N4.out | with_reducible refine RN.ext ?_ _ | with_reducible refine RN.alloc ?_ _ | with_reducible refine RN.drew ?_)); rintro _ _ ⟨v_N2, rfl, g_N2, ⟨Y_N2, rfl⟩⟩; obtain ⟨m_N2, a_N2, k_N2, c_N2, rfl⟩ := g_N2.form; have N2 := Lib.hid g_N2; clear g_N2)
    | (go_at_call 108; (with_reducible refine Calls.mono (prod_any _ _ a n 129 129 _ ?_ ?_ (by decide)) ?_); (repeat (first | assumption | exact N1.out | exact N2.out | exact N3.out | exact N4.out | with_reducible refine RN.ext ?_ _ | with_reducible refine RN.alloc ?_ _ | with_reducible refine RN.drew ?_)); rintro _ _ ⟨v_N3, rfl, g_N3, ⟨Y_N3, rfl⟩⟩; obtain ⟨m_N3, a_N3, k_N3, c_N3, rfl⟩ := g_N3.form; have N3 := Lib.hid g_N3; clear g_N3)
    | (go_at_call 106; (with_reducible refine (TO.out _ 387 _ ?_).mono ?_); exact N3.out; rintro _ _ ⟨rfl, X_, rfl⟩))
  refine bodyPost_ret (v := .tuple #[I2 (lim (a * n)), .bool (decide (inR (a * n)))]) (by simp [results, Try.results74, go_sem]) rfl (Ret.of (by (repeat (first | exact Below.refl _ _ | with_reducible refine Below.drew ?_ | with_reducible refine Below.ext ?_ (by first | exact Nat.le_refl _ | (simp; done) | (simp; omega)) _ | with_reducible refine Below.alloc ?_ (by first | exact Nat.le_refl _ | (simp; done) | (simp; omega)) _ | with_reducible refine Below.setCell ?_ (by first | exact Nat.le_refl _ | (simp; done) | (simp; omega)) _))))
set_option maxRecDepth 100000 in
set_option maxHeartbeats 4000000 in
theorem radd_any (a b : Int) (ha : inR a) (hb : inR b) (w : World) : Calls Try.prog 72 #[I2 a, I2 b] w (Ret (I2b (a + b)) w) := by
  go_enter Try.func72, Try.ntmps72
  go_wp2
  refine wp_region_rel 8 [none, some ([], srN a 129), none, some ([], srN b 129), some ([1, 3], srN (a + b) 130), some ([4], srV (I2b (a + b))), none, none] (by kernel_rfl) (by kernel_rfl) ?_
  simp only [List.take_succ_cons, List.take_zero, List.drop_succ_cons, List.drop_zero]
  (repeat (first | (refine rel_none ?_; intro K_ hK_; go_big_quiet_op; go_big_quiet_on) | simp only [Act.put, List.setIfInBounds_toArray, List.set_cons_zero, List.set_cons_succ]))
  refine rel_some rfl (fun w_ hw_ hk_ K_ hK_ => ?_) (fun v6 f6 => ?_)
  · obtain ⟨X_, rfl⟩ := hw_
    go_simp
    go_at_call 104
    refine (from_any a ha _).mono ?_
    rintro _ _ ⟨v, rfl, h1, h2⟩
    exact hK_ _ _ h1 h2
  obtain ⟨m6, a6, k6, c6, rfl⟩ := f6
  (repeat (first | (refine rel_none ?_; intro K_ hK_; go_big_quiet_op; go_big_quiet_on) | simp only [Act.put, List.setIfInBounds_toArray, List.set_cons_zero, List.set_cons_succ]))
  refine rel_some rfl (fun w_ hw_ hk_ K_ hK_ => ?_) (fun v8 f8 => ?_)
  · obtain ⟨X_, rfl⟩ := hw_
    go_simp
    go_at_call 104
    refine (from_any b hb _).mono ?_
    rintro _ _ ⟨v, rfl, h1, h2⟩
    exact hK_ _ _ h1 h2
  obtain ⟨m8, a8, k8, c8, rfl⟩ := f8
  (repeat (first | (refine rel_none ?_; intro K_ hK_; go_big_quiet_op; go_big_quiet_on) | simp only [Act.put, List.setIfInBounds_toArray, List.set_cons_zero, List.set_cons_succ]))
  refine rel_some rfl (fun w_ hw_ hk_ K_ hK_ => ?_) (fun v9 f9 => ?_)
  · obtain ⟨X_, rfl⟩ := hw_
    have h1 := (hk_ (1, _) (by repeat (first | exact List.mem_cons_self | refine List.mem_cons_of_mem _ ?_))) (by simp)
    have h3 := (hk_ (3, _) (by repeat (first | exact List.mem_cons_self | refine List.mem_cons_of_mem _ ?_))) (by simp)
    go_simp
    go_at_call 122
    refine (sum_any _ _ a b 129 129 _ h1 h3 (by decide) (by decide)).mono ?_
    rintro _ _ ⟨v, rfl, h1, h2⟩
    exact hK_ _ _ h1 h2
  obtain ⟨m9, a9, k9, c9, rfl⟩ := f9
  (repeat (first | (refine rel_none ?_; intro K_ hK_; go_big_quiet_op; go_big_quiet_on) | simp only [Act.put, List.setIfInBounds_toArray, List.set_cons_zero, List.set_cons_succ]))
  refine rel_some rfl (fun w_ hw_ hk_ K_ hK_ => ?_) (fun v11 f11 => ?_)
  · obtain ⟨X_, rfl⟩ := hw_
    have h1 := (hk_ (4, _) (by repeat (first | exact List.mem_cons_self | refine List.mem_cons_of_mem _ ?_))) (by simp)
    go_simp
    go_at_call 106
    refine (to_any _ (a + b) 130 _ h1).mono ?_
    rintro _ _ ⟨rfl, h2⟩
    exact hK_ _ _ rfl h2
  obtain rfl := f11
  (repeat (first | (refine rel_none ?_; intro K_ hK_; go_big_quiet_op; go_big_quiet_on) | simp only [Act.put, List.setIfInBounds_toArray, List.set_cons_zero, List.set_cons_succ]))
  refine rel_nil ?_
  intro w_ hw_ k
  obtain ⟨X, rfl⟩ := hw_
  clear k
  go_wp2
  refine bodyPost_ret (v := .tuple #[I2 (lim (a + b)), .bool (decide (inR (a + b)))]) (by simp [results, Try.results72, go_sem]) rfl (Ret.of (by (repeat (first | exact Below.refl _ _ | with_reducible refine Below.drew ?_ | with_reducible refine Below.ext ?_ (by first | exact Nat.le_refl _ | (simp; done) | (simp; omega)) _ | with_reducible refine Below.alloc ?_ (by first | exact Nat.le_refl _ | (simp; done) | (simp; omega)) _ | with_reducible refine Below.setCell ?_ (by first | exact Nat.le_refl _ | (simp; done) | (simp; omega)) _))))
end Go.Proofs.Ytmlhbbkgfffmcaa
