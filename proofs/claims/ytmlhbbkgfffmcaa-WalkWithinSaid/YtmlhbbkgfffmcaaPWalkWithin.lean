/- Layer 14's law WalkWithin: the pixels of a line in a rectangle, and their numbers, are the reference's. No condition. -/
import Derived.Test.YtmlhbbkgfffmcaaWalkU
import Derived.Test.YtmlhbbkgfffmcaaXRelS
import Derived.Test.YtmlhbbkgfffmcaaEWalkWithin
namespace Go.Proofs.Ytmlhbbkgfffmcaa
set_option linter.unusedVariables false
set_option linter.unusedSimpArgs false
open Go.RowKit
theorem rwithin_any (ax ay bx y2 x0 y0 x1 y1 : Int) (ha : MayP ax ay) (hb : MayP bx y2) (w : World) : Calls Try.prog 41 #[P2 ax ay, P2 bx y2, R4 x0 y0 x1 y1] w (Lists w (withinL ax ay bx y2 x0 y0 x1 y1)) := by
  by_cases c : rightP x0 y0 x1 y1
  · exact rwithin_in ax ay bx y2 x0 y0 x1 y1 ha hb c w
  · exact rwithin_no ax ay bx y2 x0 y0 x1 y1 c w
theorem small14_any (x0 y0 x1 y1 : Int) (w : World) : Calls Try.prog 37 #[R4 x0 y0 x1 y1] w (Ret (.bool (!decide (rightP x0 y0 x1 y1) || decide (areaP x0 y0 x1 y1 ≤ 600))) w) := by
  have HR := Lib.hid (fun w => rrect_right x0 y0 x1 y1 w)
  have HA := Lib.hid (fun w => rrect_area x0 y0 x1 y1 w)
  obtain ⟨z, hz⟩ : ∃ z, decide (rightP x0 y0 x1 y1) = z := ⟨_, rfl⟩
  obtain ⟨a, ha⟩ : ∃ z, areaP x0 y0 x1 y1 = z := ⟨_, rfl⟩
  rw [hz] at HR ⊢
  rw [ha] at HA ⊢
  clear hz ha
  cases z
  · go_enter Try.func37, Try.ntmps37
    go_wp2_with (first | (go_at_call 88; (with_reducible refine (HR.out _).mono ?_); rintro _ _ ⟨rfl, X_, rfl⟩))
    go_ret
    exact Ret.of' (by simp) (by (repeat (first | exact Below.refl _ _ | with_reducible refine Below.drew ?_ | with_reducible refine Below.ext ?_ (by first | exact Nat.le_refl _ | (simp; done) | (simp; omega)) _ | with_reducible refine Below.alloc ?_ (by first | exact Nat.le_refl _ | (simp; done) | (simp; omega)) _ | with_reducible refine Below.setCell ?_ (by first | exact Nat.le_refl _ | (simp; done) | (simp; omega)) _)))
  · go_enter Try.func37, Try.ntmps37
    go_wp2_with (first | (go_at_call 88; (with_reducible refine (HR.out _).mono ?_); rintro _ _ ⟨rfl, X_, rfl⟩) | (go_at_call 89; (with_reducible refine (HA.out _).mono ?_); rintro _ _ ⟨rfl, X_, rfl⟩))
    go_ret
    exact Ret.of' (by simp) (by (repeat (first | exact Below.refl _ _ | with_reducible refine Below.drew ?_ | with_reducible refine Below.ext ?_ (by first | exact Nat.le_refl _ | (simp; done) | (simp; omega)) _ | with_reducible refine Below.alloc ?_ (by first | exact Nat.le_refl _ | (simp; done) | (simp; omega)) _ | with_reducible refine Below.setCell ?_ (by first | exact Nat.le_refl _ | (simp; done) | (simp; omega)) _)))
set_option maxRecDepth 100000 in
set_option maxHeartbeats 8000000 in
theorem WalkWithin_true : WalkWithin_stmt := by
  intro aX aY bX bY cX0 cY0 cX1 cY1 w _ _ _
  have M1 := Lib.hid (fun w => may14_any aX aY w)
  have M2 := Lib.hid (fun w => may14_any bX bY w)
  have SM := Lib.hid (fun w => small14_any cX0 cY0 cX1 cY1 w)
  obtain ⟨s, hs⟩ : ∃ s, (!decide (rightP cX0 cY0 cX1 cY1) || decide (areaP cX0 cY0 cX1 cY1 ≤ 600)) = s := ⟨_, rfl⟩
  rw [hs] at SM
  clear hs
  obtain ⟨m, hm⟩ : ∃ m, mayB aX aY = m := ⟨_, rfl⟩
  obtain ⟨n, hn⟩ : ∃ m, mayB bX bY = m := ⟨_, rfl⟩
  rw [hm] at M1
  rw [hn] at M2
  have HM := Lib.hid hm
  have HN := Lib.hid hn
  clear hm hn
  cases m
  · go_enter Try.func5, Try.ntmps5
    go_wp2_with (first | (go_at_call 36; (with_reducible refine (M1.out _).mono ?_); rintro _ _ ⟨rfl, X_, rfl⟩) | (go_at_call 38; (with_reducible refine (awake_any _).mono ?_); rintro _ _ ⟨rfl, X_, rfl⟩))
    go_ret
    exact Ret.of' rfl (by (repeat (first | exact Below.refl _ _ | with_reducible refine Below.drew ?_ | with_reducible refine Below.ext ?_ (by first | exact Nat.le_refl _ | (simp; done) | (simp; omega)) _ | with_reducible refine Below.alloc ?_ (by first | exact Nat.le_refl _ | (simp; done) | (simp; omega)) _ | with_reducible refine Below.setCell ?_ (by first | exact Nat.le_refl _ | (simp; done) | (simp; omega)) _)))
  cases n
  · go_enter Try.func5, Try.ntmps5
    go_wp2_with (first | (go_at_call 36; (first | (with_reducible refine (M1.out _).mono ?_) | (with_reducible refine (M2.out _).mono ?_)); rintro _ _ ⟨rfl, X_, rfl⟩) | (go_at_call 38; (with_reducible refine (awake_any _).mono ?_); rintro _ _ ⟨rfl, X_, rfl⟩))
    go_ret
    exact Ret.of' rfl (by (repeat (first | exact Below.refl _ _ | with_reducible refine Below.drew ?_ | with_reducible refine Below.ext ?_ (by first | exact Nat.le_refl _ | (simp; done) | (simp; omega)) _ | with_reducible refine Below.alloc ?_ (by first | exact Nat.le_refl _ | (simp; done) | (simp; omega)) _ | with_reducible refine Below.setCell ?_ (by first | exact Nat.le_refl _ | (simp; done) | (simp; omega)) _)))
  cases s
  · go_enter Try.func5, Try.ntmps5
    go_wp2_with (first | (go_at_call 36; (first | (with_reducible refine (M1.out _).mono ?_) | (with_reducible refine (M2.out _).mono ?_)); rintro _ _ ⟨rfl, X_, rfl⟩) | (go_at_call 38; (with_reducible refine (awake_any _).mono ?_); rintro _ _ ⟨rfl, X_, rfl⟩) | (go_at_call 37; (with_reducible refine (SM.out _).mono ?_); rintro _ _ ⟨rfl, X_, rfl⟩))
    go_ret
    exact Ret.of' rfl (by (repeat (first | exact Below.refl _ _ | with_reducible refine Below.drew ?_ | with_reducible refine Below.ext ?_ (by first | exact Nat.le_refl _ | (simp; done) | (simp; omega)) _ | with_reducible refine Below.alloc ?_ (by first | exact Nat.le_refl _ | (simp; done) | (simp; omega)) _ | with_reducible refine Below.setCell ?_ (by first | exact Nat.le_refl _ | (simp; done) | (simp; omega)) _)))
  have A := mayB_may HM.out
  have B := mayB_may HN.out
  obtain ⟨L, hL⟩ : ∃ L, withinL aX aY bX bY cX0 cY0 cX1 cY1 = L := ⟨_, rfl⟩
  have W1 := Lib.hid (fun w => hL ▸ walk_within aX aY bX bY cX0 cY0 cX1 cY1 A B w)
  have W2 := Lib.hid (fun w => hL ▸ rwithin_any aX aY bX bY cX0 cY0 cX1 cY1 A B w)
  clear A B hL
  go_enter Try.func5, Try.ntmps5
  go_upto_region 3 with (first | (go_at_call 36; (first | (with_reducible refine (M1.out _).mono ?_) | (with_reducible refine (M2.out _).mono ?_)); rintro _ _ ⟨rfl, X_, rfl⟩) | (go_at_call 37; (with_reducible refine (SM.out _).mono ?_); rintro _ _ ⟨rfl, X_, rfl⟩))
  refine wp_region_rel 13 [some ([], srU (.bool true)), none, none, none, none, some ([], srS L), none, none, none, some ([], srS L), some ([5, 9], srU (.bool true)), none, none] (by kernel_rfl) (by kernel_rfl) ?_
  simp only [List.take_succ_cons, List.take_zero, List.drop_succ_cons, List.drop_zero]
  (repeat (first | (refine rel_none ?_; intro K_ hK_; go_big_quiet_op; go_big_quiet_on) | simp only [Act.put, List.setIfInBounds_toArray, List.set_cons_zero, List.set_cons_succ]))
  refine rel_some rfl (fun w_ hw_ hk_ K_ hK_ => ?_) (fun v21 f21 => ?_)
  · obtain ⟨X_, rfl⟩ := hw_
    go_simp
    go_at_call 38
    refine (awake_any _).mono ?_
    rintro _ _ ⟨rfl, hX⟩
    exact hK_ _ _ rfl hX
  obtain rfl := f21
  (repeat (first | (refine rel_none ?_; intro K_ hK_; go_big_quiet_op; go_big_quiet_on) | simp only [Act.put, List.setIfInBounds_toArray, List.set_cons_zero, List.set_cons_succ]))
  refine rel_some rfl (fun w_ hw_ hk_ K_ hK_ => ?_) (fun v26 f26 => ?_)
  · obtain ⟨X_, rfl⟩ := hw_
    go_simp
    go_at_call 40
    refine (W1.out _).mono ?_
    rintro _ _ ⟨v, rfl, h1, h2⟩
    exact hK_ _ _ h1 h2
  obtain ⟨a26, k26, rfl⟩ := f26
  (repeat (first | (refine rel_none ?_; intro K_ hK_; go_big_quiet_op; go_big_quiet_on) | simp only [Act.put, List.setIfInBounds_toArray, List.set_cons_zero, List.set_cons_succ]))
  refine rel_some rfl (fun w_ hw_ hk_ K_ hK_ => ?_) (fun v30 f30 => ?_)
  · obtain ⟨X_, rfl⟩ := hw_
    go_simp
    go_at_call 41
    refine (W2.out _).mono ?_
    rintro _ _ ⟨v, rfl, h1, h2⟩
    exact hK_ _ _ h1 h2
  obtain ⟨a30, k30, rfl⟩ := f30
  (repeat (first | (refine rel_none ?_; intro K_ hK_; go_big_quiet_op; go_big_quiet_on) | simp only [Act.put, List.setIfInBounds_toArray, List.set_cons_zero, List.set_cons_succ]))
  refine rel_some rfl (fun w_ hw_ hk_ K_ hK_ => ?_) (fun v31 f31 => ?_)
  · obtain ⟨X_, rfl⟩ := hw_
    have h1 := (hk_ (5, _) (by repeat (first | exact List.mem_cons_self | refine List.mem_cons_of_mem _ ?_))) (by simp)
    have h2 := (hk_ (9, _) (by repeat (first | exact List.mem_cons_self | refine List.mem_cons_of_mem _ ?_))) (by simp)
    go_simp
    go_at_call 39
    refine (same_sts h1 h2).mono ?_
    rintro _ _ ⟨rfl, hX⟩
    exact hK_ _ _ rfl hX
  obtain rfl := f31
  (repeat (first | (refine rel_none ?_; intro K_ hK_; go_big_quiet_op; go_big_quiet_on) | simp only [Act.put, List.setIfInBounds_toArray, List.set_cons_zero, List.set_cons_succ]))
  refine rel_nil ?_
  intro w_ hw_ kk
  obtain ⟨X, rfl⟩ := hw_
  clear kk
  go_wp2
  go_ret
  exact Ret.of' rfl (by (repeat (first | exact Below.refl _ _ | with_reducible refine Below.drew ?_ | with_reducible refine Below.ext ?_ (by first | exact Nat.le_refl _ | (simp; done) | (simp; omega)) _ | with_reducible refine Below.alloc ?_ (by first | exact Nat.le_refl _ | (simp; done) | (simp; omega)) _ | with_reducible refine Below.setCell ?_ (by first | exact Nat.le_refl _ | (simp; done) | (simp; omega)) _)))
theorem WalkWithin_holds : Rows.WalkWithinSaid := WalkWithin_end WalkWithin_true
end Go.Proofs.Ytmlhbbkgfffmcaa
