/- The walks of the reference of layer 2: differences, quotients. Conditions: 64 and 128 bits. -/
import Derived.Test.YtmlhbbkgfffmcaaNumO
namespace Go.Proofs.Ytmlhbbkgfffmcaa
set_option linter.unusedVariables false
set_option linter.unusedSimpArgs false
open Go.RowKit
set_option maxRecDepth 100000 in
set_option maxHeartbeats 4000000 in
theorem rsub_any (a b : Int) (ha : inR a) (hb : inR b) (w : World) : Calls Try.prog 73 #[I2 a, I2 b] w (Ret (I2b (a - b)) w) := by
  go_enter Try.func73, Try.ntmps73
  go_wp2
  refine wp_region_rel 9 [none, some ([], srN a 129), none, some ([], srN b 129), some ([3], srN (-b) 129), some ([1, 4], srN (a + -b) 130), some ([5], srV (I2b (a - b))), none, none] (by kernel_rfl) (by kernel_rfl) ?_
  simp only [List.take_succ_cons, List.take_zero, List.drop_succ_cons, List.drop_zero]
  (repeat (first | (refine rel_none ?_; intro K_ hK_; go_big_quiet_op; go_big_quiet_on) | simp only [Act.put, List.setIfInBounds_toArray, List.set_cons_zero, List.set_cons_succ]))
  refine rel_some rfl (fun w_ hw_ hk_ K_ hK_ => ?_) (fun v6 f6 => ?_)
  · obtain ⟨X_, rfl⟩ := hw_
    go_simp
    go_at_call 104
    refine (from_any a ha _).mono ?_
    rintro _ _ ⟨v, rfl, h1, h2⟩
    exact hK_ _ _ h1 h2
  obtain ⟨m6, a6, k6, c6, rfl⟩ := f6
  (repeat (first | (refine rel_none ?_; intro K_ hK_; go_big_quiet_op; go_big_quiet_on) | simp only [Act.put, List.setIfInBounds_toArray, List.set_cons_zero, List.set_cons_succ]))
  refine rel_some rfl (fun w_ hw_ hk_ K_ hK_ => ?_) (fun v8 f8 => ?_)
  · obtain ⟨X_, rfl⟩ := hw_
    go_simp
    go_at_call 104
    refine (from_any b hb _).mono ?_
    rintro _ _ ⟨v, rfl, h1, h2⟩
    exact hK_ _ _ h1 h2
  obtain ⟨m8, a8, k8, c8, rfl⟩ := f8
  (repeat (first | (refine rel_none ?_; intro K_ hK_; go_big_quiet_op; go_big_quiet_on) | simp only [Act.put, List.setIfInBounds_toArray, List.set_cons_zero, List.set_cons_succ]))
  refine rel_some rfl (fun w_ hw_ hk_ K_ hK_ => ?_) (fun v10 f10 => ?_)
  · obtain ⟨X_, rfl⟩ := hw_
    have h3 := (hk_ (3, _) (by repeat (first | exact List.mem_cons_self | refine List.mem_cons_of_mem _ ?_))) (by simp)
    go_simp
    go_at_call 121
    refine (rturn_any _ b 129 _ h3).mono ?_
    rintro _ _ ⟨v, rfl, h1, h2⟩
    exact hK_ _ _ h1 h2
  obtain ⟨m10, a10, k10, c10, rfl⟩ := f10
  (repeat (first | (refine rel_none ?_; intro K_ hK_; go_big_quiet_op; go_big_quiet_on) | simp only [Act.put, List.setIfInBounds_toArray, List.set_cons_zero, List.set_cons_succ]))
  refine rel_some rfl (fun w_ hw_ hk_ K_ hK_ => ?_) (fun v9 f9 => ?_)
  · obtain ⟨X_, rfl⟩ := hw_
    have h1 := (hk_ (1, _) (by repeat (first | exact List.mem_cons_self | refine List.mem_cons_of_mem _ ?_))) (by simp)
    have h3 := (hk_ (4, _) (by repeat (first | exact List.mem_cons_self | refine List.mem_cons_of_mem _ ?_))) (by simp)
    go_simp
    go_at_call 122
    refine (sum_any _ _ a (-b) 129 129 _ h1 h3 (by decide) (by decide)).mono ?_
    rintro _ _ ⟨v, rfl, h1, h2⟩
    exact hK_ _ _ h1 h2
  obtain ⟨m9, a9, k9, c9, rfl⟩ := f9
  (repeat (first | (refine rel_none ?_; intro K_ hK_; go_big_quiet_op; go_big_quiet_on) | simp only [Act.put, List.setIfInBounds_toArray, List.set_cons_zero, List.set_cons_succ]))
  refine rel_some rfl (fun w_ hw_ hk_ K_ hK_ => ?_) (fun v11 f11 => ?_)
  · obtain ⟨X_, rfl⟩ := hw_
    have h1 : RN _ _ (a + -b) 130 := (hk_ (5, _) (by repeat (first | exact List.mem_cons_self | refine List.mem_cons_of_mem _ ?_))) (by simp)
    rw [show a + -b = a - b by omega] at h1
    go_simp
    go_at_call 106
    refine (to_any _ (a - b) 130 _ h1).mono ?_
    rintro _ _ ⟨rfl, h2⟩
    exact hK_ _ _ rfl h2
  obtain rfl := f11
  (repeat (first | (refine rel_none ?_; intro K_ hK_; go_big_quiet_op; go_big_quiet_on) | simp only [Act.put, List.setIfInBounds_toArray, List.set_cons_zero, List.set_cons_succ]))
  refine rel_nil ?_
  intro w_ hw_ k
  obtain ⟨X, rfl⟩ := hw_
  clear k
  go_wp2
  refine bodyPost_ret (v := .tuple #[I2 (lim (a - b)), .bool (decide (inR (a - b)))]) (by simp [results, Try.results73, go_sem]) rfl (Ret.of (by (repeat (first | exact Below.refl _ _ | with_reducible refine Below.drew ?_ | with_reducible refine Below.ext ?_ (by first | exact Nat.le_refl _ | (simp; done) | (simp; omega)) _ | with_reducible refine Below.alloc ?_ (by first | exact Nat.le_refl _ | (simp; done) | (simp; omega)) _ | with_reducible refine Below.setCell ?_ (by first | exact Nat.le_refl _ | (simp; done) | (simp; omega)) _))))
set_option maxRecDepth 100000 in
set_option maxHeartbeats 4000000 in
theorem rratio_yes (a b c d : Int) (ha : inR a) (hc : inR c) (hb : sml b) (hd : sml d) (b1 : 1 ≤ b) (d1 : 1 ≤ d) (w : World) : Calls Try.prog 51 #[I2 a, .int .i64 b, I2 c, .int .i64 d] w (Ret (.tuple #[.int .i64 (sgn (a * d - c * b)), .bool true]) w) := by
  go_enter Try.func51, Try.ntmps51
  go_wp2
  refine wp_region_rel 12 [none, some ([], srN a 129), none, some ([], srN d 129), some ([1, 3], srN (a * d) 387), none, some ([], srN c 129), none, some ([], srN b 129), some ([6, 8], srN (c * b) 387), some ([4, 9], srV (.int .i64 (sgn (a * d - c * b)))), none] (by kernel_rfl) (by kernel_rfl) ?_
  simp only [List.take_succ_cons, List.take_zero, List.drop_succ_cons, List.drop_zero]
  (repeat (first | (refine rel_none ?_; intro K_ hK_; go_big_quiet_op; go_big_quiet_on) | simp only [Act.put, List.setIfInBounds_toArray, List.set_cons_zero, List.set_cons_succ]))
  refine rel_some rfl (fun w_ hw_ hk_ K_ hK_ => ?_) (fun v17 f17 => ?_)
  · obtain ⟨X_, rfl⟩ := hw_
    go_simp
    go_at_call 104
    refine (from_any a ha _).mono ?_
    rintro _ _ ⟨v, rfl, h1, h2⟩
    exact hK_ _ _ h1 h2
  obtain ⟨m17, a17, k17, c17, rfl⟩ := f17
  (repeat (first | (refine rel_none ?_; intro K_ hK_; go_big_quiet_op; go_big_quiet_on) | simp only [Act.put, List.setIfInBounds_toArray, List.set_cons_zero, List.set_cons_succ]))
  refine rel_some rfl (fun w_ hw_ hk_ K_ hK_ => ?_) (fun v19 f19 => ?_)
  · obtain ⟨X_, rfl⟩ := hw_
    go_simp
    go_at_call 105
    refine (rnum_any d hd _).mono ?_
    rintro _ _ ⟨v, rfl, h1, h2⟩
    exact hK_ _ _ h1 h2
  obtain ⟨m19, a19, k19, c19, rfl⟩ := f19
  (repeat (first | (refine rel_none ?_; intro K_ hK_; go_big_quiet_op; go_big_quiet_on) | simp only [Act.put, List.setIfInBounds_toArray, List.set_cons_zero, List.set_cons_succ]))
  refine rel_some rfl (fun w_ hw_ hk_ K_ hK_ => ?_) (fun v20 f20 => ?_)
  · obtain ⟨X_, rfl⟩ := hw_
    have h1 := (hk_ (1, _) (by repeat (first | exact List.mem_cons_self | refine List.mem_cons_of_mem _ ?_))) (by simp)
    have h3 := (hk_ (3, _) (by repeat (first | exact List.mem_cons_self | refine List.mem_cons_of_mem _ ?_))) (by simp)
    go_simp
    go_at_call 108
    refine (prod_any _ _ a d 129 129 _ h1 h3 (by decide)).mono ?_
    rintro _ _ ⟨v, rfl, h1, h2⟩
    exact hK_ _ _ h1 h2
  obtain ⟨m20, a20, k20, c20, rfl⟩ := f20
  (repeat (first | (refine rel_none ?_; intro K_ hK_; go_big_quiet_op; go_big_quiet_on) | simp only [Act.put, List.setIfInBounds_toArray, List.set_cons_zero, List.set_cons_succ]))
  refine rel_some rfl (fun w_ hw_ hk_ K_ hK_ => ?_) (fun v22 f22 => ?_)
  · obtain ⟨X_, rfl⟩ := hw_
    go_simp
    go_at_call 104
    refine (from_any c hc _).mono ?_
    rintro _ _ ⟨v, rfl, h1, h2⟩
    exact hK_ _ _ h1 h2
  obtain ⟨m22, a22, k22, c22, rfl⟩ := f22
  (repeat (first | (refine rel_none ?_; intro K_ hK_; go_big_quiet_op; go_big_quiet_on) | simp only [Act.put, List.setIfInBounds_toArray, List.set_cons_zero, List.set_cons_succ]))
  refine rel_some rfl (fun w_ hw_ hk_ K_ hK_ => ?_) (fun v24 f24 => ?_)
  · obtain ⟨X_, rfl⟩ := hw_
    go_simp
    go_at_call 105
    refine (rnum_any b hb _).mono ?_
    rintro _ _ ⟨v, rfl, h1, h2⟩
    exact hK_ _ _ h1 h2
  obtain ⟨m24, a24, k24, c24, rfl⟩ := f24
  (repeat (first | (refine rel_none ?_; intro K_ hK_; go_big_quiet_op; go_big_quiet_on) | simp only [Act.put, List.setIfInBounds_toArray, List.set_cons_zero, List.set_cons_succ]))
  refine rel_some rfl (fun w_ hw_ hk_ K_ hK_ => ?_) (fun v25 f25 => ?_)
  · obtain ⟨X_, rfl⟩ := hw_
    have h6 := (hk_ (6, _) (by repeat (first | exact List.mem_cons_self | refine List.mem_cons_of_mem _ ?_))) (by simp)
    have h8 := (hk_ (8, _) (by repeat (first | exact List.mem_cons_self | refine List.mem_cons_of_mem _ ?_))) (by simp)
    go_simp
    go_at_call 108
    refine (prod_any _ _ c b 129 129 _ h6 h8 (by decide)).mono ?_
    rintro _ _ ⟨v, rfl, h1, h2⟩
    exact hK_ _ _ h1 h2
  obtain ⟨m25, a25, k25, c25, rfl⟩ := f25
  (repeat (first | (refine rel_none ?_; intro K_ hK_; go_big_quiet_op; go_big_quiet_on) | simp only [Act.put, List.setIfInBounds_toArray, List.set_cons_zero, List.set_cons_succ]))
  refine rel_some rfl (fun w_ hw_ hk_ K_ hK_ => ?_) (fun v26 f26 => ?_)
  · obtain ⟨X_, rfl⟩ := hw_
    have h4 := (hk_ (4, _) (by repeat (first | exact List.mem_cons_self | refine List.mem_cons_of_mem _ ?_))) (by simp)
    have h9 := (hk_ (9, _) (by repeat (first | exact List.mem_cons_self | refine List.mem_cons_of_mem _ ?_))) (by simp)
    go_simp
    go_at_call 107
    refine (order_any _ _ (a * d) (c * b) 387 387 _ h4 h9 (by decide) (by decide)).mono ?_
    rintro _ _ ⟨rfl, h2⟩
    exact hK_ _ _ rfl h2
  obtain rfl := f26
  (repeat (first | (refine rel_none ?_; intro K_ hK_; go_big_quiet_op; go_big_quiet_on) | simp only [Act.put, List.setIfInBounds_toArray, List.set_cons_zero, List.set_cons_succ]))
  refine rel_nil ?_
  intro w_ hw_ k
  obtain ⟨X, rfl⟩ := hw_
  clear k
  go_wp2
  refine bodyPost_ret (v := .tuple #[.int .i64 (sgn (a * d - c * b)), .bool true]) (by simp [results, Try.results51, go_sem]) rfl (Ret.of (by (repeat (first | exact Below.refl _ _ | with_reducible refine Below.drew ?_ | with_reducible refine Below.ext ?_ (by first | exact Nat.le_refl _ | (simp; done) | (simp; omega)) _ | with_reducible refine Below.alloc ?_ (by first | exact Nat.le_refl _ | (simp; done) | (simp; omega)) _ | with_reducible refine Below.setCell ?_ (by first | exact Nat.le_refl _ | (simp; done) | (simp; omega)) _))))
theorem rratio_no (a b c d : Int) (h : ¬ (1 ≤ b ∧ 1 ≤ d)) (w : World) : Calls Try.prog 51 #[I2 a, .int .i64 b, I2 c, .int .i64 d] w (Ret (.tuple #[.int .i64 0, .bool false]) w) := by
  by_cases h1 : b < 1
  · go_enter Try.func51, Try.ntmps51
    go_wp2
    refine bodyPost_ret (v := .tuple #[.int .i64 0, .bool false]) (by simp [results, Try.results51, go_sem]) rfl (Ret.of (by (repeat (first | exact Below.refl _ _ | with_reducible refine Below.drew ?_ | with_reducible refine Below.ext ?_ (by first | exact Nat.le_refl _ | (simp; done) | (simp; omega)) _ | with_reducible refine Below.alloc ?_ (by first | exact Nat.le_refl _ | (simp; done) | (simp; omega)) _ | with_reducible refine Below.setCell ?_ (by first | exact Nat.le_refl _ | (simp; done) | (simp; omega)) _))))
  · have h2 : d < 1 := by omega
    go_enter Try.func51, Try.ntmps51
    go_wp2
    refine bodyPost_ret (v := .tuple #[.int .i64 0, .bool false]) (by simp [results, Try.results51, go_sem]) rfl (Ret.of (by (repeat (first | exact Below.refl _ _ | with_reducible refine Below.drew ?_ | with_reducible refine Below.ext ?_ (by first | exact Nat.le_refl _ | (simp; done) | (simp; omega)) _ | with_reducible refine Below.alloc ?_ (by first | exact Nat.le_refl _ | (simp; done) | (simp; omega)) _ | with_reducible refine Below.setCell ?_ (by first | exact Nat.le_refl _ | (simp; done) | (simp; omega)) _))))
set_option maxRecDepth 100000 in
set_option maxHeartbeats 4000000 in
theorem rdiv_yes (a d : Int) (ha : inR a) (d1 : 1 ≤ d) (hd : sml d) (w : World) : Calls Try.prog 44 #[I2 a, .int .i64 d] w (Ret (.tuple #[I2 (a / d), .int .i64 (a % d), .bool true]) w) := by
  have r0 := Int.emod_nonneg a (show d ≠ 0 by omega)
  have r1 := Int.emod_lt_of_pos a (show 0 < d by omega)
  have hr : sml (a % d) := by unfold sml at *; omega
  have FLO := Lib.hid (fun v u (j k : Nat) w h1 h2 h3 => floor_any v u a d j k w h1 h2 d1 h3)
  have TQ := Lib.hid (fun v (k : Nat) w h => to_any v (a / d) k w h)
  rw [i2b_yes (div_in ha d1)] at TQ
  have TR := Lib.hid (fun v (k : Nat) w h => to_any v (a % d) k w h)
  rw [i2b_yes (sml_in hr)] at TR
  have hw : wrap64 (loN (a % d)) = a % d := by unfold sml at hr; unfold wrap64 loN; omega
  have HW := Lib.hid hw
  clear hw hr
  go_enter Try.func44, Try.ntmps44
  go_wp2_with (first
    | (go_at_call 104; (with_reducible refine Calls.mono (from_any a ha _) ?_); (repeat (first | assumption | exact N1.out | exact N2.out | exact N3.out | exact N4.out | with_reducible refine RN.ext ?_ _ | with_reducible refine RN.alloc ?_ _ | with_reducible refine RN.drew ?_)); rintro _ _ ⟨v_N1, rfl, g_N1, ⟨Y_N1, rfl⟩⟩; obtain ⟨m_N1, a_N1, k_N1, c_N1, rfl⟩ := g_N1.form; have N1 := Lib.hid g_N1; clear g_N1)
    | (go_at_call 105; (with_reducible refine Calls.mono (rnum_any d hd _) ?_); (repeat (first | assumption | exact N1.out | exact N2.out | exact N3.out | exact N4.out | with_reducible refine RN.ext ?_ _ | with_reducible refine RN.alloc ?_ _ | with_reducible refine RN.drew ?_)); rintro _ _ ⟨v_N2, rfl, g_N2, ⟨Y_N2, rfl⟩⟩; obtain ⟨m_N2, a_N2, k_N2, c_N2, rfl⟩ := g_N2.form; have N2 := Lib.hid g_N2; clear g_N2)
    | (go_at_call 103; (with_reducible refine (FLO.out _ _ 129 129 _ ?_ ?_ (by decide)).mono ?_); (repeat (first | assumption | exact N1.out | exact N2.out | exact N3.out | exact N4.out | with_reducible refine RN.ext ?_ _ | with_reducible refine RN.alloc ?_ _ | with_reducible refine RN.drew ?_)); rintro _ _ ⟨v_, rfl, ⟨qv, rv, rfl, gq, gr⟩, ⟨Y_, rfl⟩⟩; obtain ⟨mq, aq, kq, cq, rfl⟩ := gq.form; obtain ⟨mr, ar, kr, cr, rfl⟩ := gr.form; clear N1 N2; have N3 := Lib.hid gq; have N4 := Lib.hid gr; clear gq gr)
    | (go_at_call 106; (with_reducible refine (TQ.out _ 131 _ ?_).mono ?_); (repeat (first | assumption | exact N1.out | exact N2.out | exact N3.out | exact N4.out | with_reducible refine RN.ext ?_ _ | with_reducible refine RN.alloc ?_ _ | with_reducible refine RN.drew ?_)); rintro _ _ ⟨rfl, X_, rfl⟩)
    | (go_at_call 106; (with_reducible refine (TR.out _ 133 _ ?_).mono ?_); (repeat (first | assumption | exact N1.out | exact N2.out | exact N3.out | exact N4.out | with_reducible refine RN.ext ?_ _ | with_reducible refine RN.alloc ?_ _ | with_reducible refine RN.drew ?_)); rintro _ _ ⟨rfl, X_, rfl⟩))
  trace_state
  go_region
  all_goals
    go_wp2
    simp only [HW.out]
    refine bodyPost_ret (v := .tuple #[I2 (a / d), .int .i64 (a % d), .bool true]) (by simp [results, Try.results44, go_sem]) rfl (Ret.of (by (repeat (first | exact Below.refl _ _ | with_reducible refine Below.drew ?_ | with_reducible refine Below.ext ?_ (by first | exact Nat.le_refl _ | (simp; done) | (simp; omega)) _ | with_reducible refine Below.alloc ?_ (by first | exact Nat.le_refl _ | (simp; done) | (simp; omega)) _ | with_reducible refine Below.setCell ?_ (by first | exact Nat.le_refl _ | (simp; done) | (simp; omega)) _))))
theorem rdiv_no (a d : Int) (h : d < 1) (w : World) : Calls Try.prog 44 #[I2 a, .int .i64 d] w (Ret (.tuple #[I2 0, .int .i64 0, .bool false]) w) := by
  go_enter Try.func44, Try.ntmps44
  go_wp2
  refine bodyPost_ret (v := .tuple #[I2 0, .int .i64 0, .bool false]) (by simp [results, Try.results44, go_sem, hiN, loN]) rfl (Ret.of (by (repeat (first | exact Below.refl _ _ | with_reducible refine Below.drew ?_ | with_reducible refine Below.ext ?_ (by first | exact Nat.le_refl _ | (simp; done) | (simp; omega)) _ | with_reducible refine Below.alloc ?_ (by first | exact Nat.le_refl _ | (simp; done) | (simp; omega)) _ | with_reducible refine Below.setCell ?_ (by first | exact Nat.le_refl _ | (simp; done) | (simp; omega)) _))))
end Go.Proofs.Ytmlhbbkgfffmcaa
