/- SmoothTells: whatever the input, the law returns true and leaves its arguments as they read. No condition. -/
import Derived.Test.YtamfjfnceeagiaaSmoK
import Derived.Test.YtamfjfnceeagiaaSmoJ
import Derived.Test.YtamfjfnceeagiaaSpanG
import Derived.Test.YtamfjfnceeagiaaESmoothTells
namespace Go.Proofs.Ytamfjfnceeagiaa
set_option linter.unusedVariables false
set_option linter.unusedSimpArgs false
open Go.RowKit
set_option maxHeartbeats 4000000 in
theorem tells18_no (a b : WinP) (n x0 y0 x1 y1 : Int) (h : ¬ areaP x0 y0 x1 y1 ≤ 100) (w : World) : Calls Try.prog 7 #[lineV a b n x0 y0 x1 y1] w (Ret (.bool true) w) := by
  have S := fun w => small18_is x0 y0 x1 y1 w
  simp only [decide_eq_false h] at S
  have HS := Lib.hid S
  clear S h
  go_enter Try.func7, Try.ntmps7
  go_wp2_with (first | (go_at_call 26; (with_reducible refine (HS.out _).mono ?_); rintro _ _ ⟨rfl, X_, rfl⟩) | (go_at_call 27; (with_reducible refine (awake18 _).mono ?_); rintro _ _ ⟨rfl, X_, rfl⟩))
  go_ret
  exact Ret.of' rfl (by (repeat (first | exact Below.refl _ _ | with_reducible refine Below.drew ?_ | with_reducible refine Below.ext ?_ (by first | exact Nat.le_refl _ | (simp; done) | (simp; omega)) _ | with_reducible refine Below.alloc ?_ (by first | exact Nat.le_refl _ | (simp; done) | (simp; omega)) _ | with_reducible refine Below.setCell ?_ (by first | exact Nat.le_refl _ | (simp; done) | (simp; omega)) _)))
set_option maxRecDepth 100000 in
set_option maxHeartbeats 8000000 in
theorem tells18_in (a b : WinP) (n x0 y0 x1 y1 : Int) (ha : a.wide) (hb : b.wide) (h : areaP x0 y0 x1 y1 ≤ 100) (w : World) : Calls Try.prog 7 #[lineV a b n x0 y0 x1 y1] w (Ret (.bool true) w) := by
  have S := fun w => small18_is x0 y0 x1 y1 w
  simp only [decide_eq_true h] at S
  have HS := Lib.hid S
  have R1 := Lib.hid (fun w => smooth_right a b n ha hb w)
  have R2 := Lib.hid (fun w => rsmooth_right a b n w)
  have W1 := Lib.hid (fun w => line_any a b n x0 y0 x1 y1 ha hb (by omega) w)
  have W2 := Lib.hid (fun w => rsline_any a b n x0 y0 x1 y1 (by omega) w)
  generalize smL4 a b n x0 y0 x1 y1 = L at *
  generalize decide (smoP a b n) = B at *
  clear S h ha hb
  go_enter Try.func7, Try.ntmps7
  go_upto_region 3 with (first | (go_at_call 26; (with_reducible refine (HS.out _).mono ?_); rintro _ _ ⟨rfl, X_, rfl⟩))
  refine wp_region_rel 39 [some ([], srV (.bool true)), none, none, none, none, none, none, none, some ([], srV (.bool B)), none, none, none, none, none, none, some ([], srV (.bool B)), none, none, none, none, none, none, none, none, none, none, none, some ([], srR frK L), none, none, none, none, none, none, none, none, some ([], srR frK L), some ([27, 36], srV (.bool true)), none] (by kernel_rfl) (by kernel_rfl) ?_
  simp only [List.take_succ_cons, List.take_zero, List.drop_succ_cons, List.drop_zero]
  (repeat (first | (refine rel_none ?_; intro K_ hK_; go_big_quiet_op; go_big_quiet_on) | simp only [Act.put, List.setIfInBounds_toArray, List.set_cons_zero, List.set_cons_succ]))
  refine rel_some rfl (fun w_ hw_ hk_ K_ hK_ => ?_) (fun v8 f8 => ?_)
  · obtain ⟨X_, rfl⟩ := hw_
    go_simp
    go_at_call 27
    refine (awake18 _).mono ?_
    rintro _ _ ⟨rfl, hX⟩
    exact hK_ _ _ rfl hX
  obtain rfl := f8
  (repeat (first | (refine rel_none ?_; intro K_ hK_; go_big_quiet_op; go_big_quiet_on) | simp only [Act.put, List.setIfInBounds_toArray, List.set_cons_zero, List.set_cons_succ]))
  refine rel_some rfl (fun w_ hw_ hk_ K_ hK_ => ?_) (fun v16 f16 => ?_)
  · obtain ⟨X_, rfl⟩ := hw_
    go_simp
    go_at_call 28
    refine (R1.out _).mono ?_
    rintro _ _ ⟨rfl, hX⟩
    exact hK_ _ _ rfl hX
  obtain rfl := f16
  (repeat (first | (refine rel_none ?_; intro K_ hK_; go_big_quiet_op; go_big_quiet_on) | simp only [Act.put, List.setIfInBounds_toArray, List.set_cons_zero, List.set_cons_succ]))
  refine rel_some rfl (fun w_ hw_ hk_ K_ hK_ => ?_) (fun v23 f23 => ?_)
  · obtain ⟨X_, rfl⟩ := hw_
    go_simp
    go_at_call 29
    refine (R2.out _).mono ?_
    rintro _ _ ⟨rfl, hX⟩
    exact hK_ _ _ rfl hX
  obtain rfl := f23
  (repeat (first | (refine rel_none ?_; intro K_ hK_; go_big_quiet_op; go_big_quiet_on) | simp only [Act.put, List.setIfInBounds_toArray, List.set_cons_zero, List.set_cons_succ]))
  refine rel_some rfl (fun w_ hw_ hk_ K_ hK_ => ?_) (fun v35 f35 => ?_)
  · obtain ⟨X_, rfl⟩ := hw_
    go_simp
    go_at_call 31
    refine (W1.out _).mono ?_
    rintro _ _ ⟨v, rfl, h1, h2⟩
    exact hK_ _ _ h1 h2
  obtain ⟨a35, k35, rfl⟩ := f35
  (repeat (first | (refine rel_none ?_; intro K_ hK_; go_big_quiet_op; go_big_quiet_on) | simp only [Act.put, List.setIfInBounds_toArray, List.set_cons_zero, List.set_cons_succ]))
  refine rel_some rfl (fun w_ hw_ hk_ K_ hK_ => ?_) (fun v44 f44 => ?_)
  · obtain ⟨X_, rfl⟩ := hw_
    go_simp
    go_at_call 32
    refine (W2.out _).mono ?_
    rintro _ _ ⟨v, rfl, h1, h2⟩
    exact hK_ _ _ h1 h2
  obtain ⟨a44, k44, rfl⟩ := f44
  (repeat (first | (refine rel_none ?_; intro K_ hK_; go_big_quiet_op; go_big_quiet_on) | simp only [Act.put, List.setIfInBounds_toArray, List.set_cons_zero, List.set_cons_succ]))
  refine rel_some rfl (fun w_ hw_ hk_ K_ hK_ => ?_) (fun v45 f45 => ?_)
  · obtain ⟨X_, rfl⟩ := hw_
    have h1 := (hk_ (27, _) (by repeat (first | exact List.mem_cons_self | refine List.mem_cons_of_mem _ ?_))) (by simp)
    have h2 := (hk_ (36, _) (by repeat (first | exact List.mem_cons_self | refine List.mem_cons_of_mem _ ?_))) (by simp)
    go_simp
    go_at_call 30
    refine (same_frs h1 h2).mono ?_
    rintro _ _ ⟨rfl, hX⟩
    exact hK_ _ _ rfl hX
  obtain rfl := f45
  (repeat (first | (refine rel_none ?_; intro K_ hK_; go_big_quiet_op; go_big_quiet_on) | simp only [Act.put, List.setIfInBounds_toArray, List.set_cons_zero, List.set_cons_succ]))
  refine rel_nil ?_
  intro w_ hw_ kk
  obtain ⟨X, rfl⟩ := hw_
  clear kk
  go_wp2
  go_ret
  exact Ret.of' rfl (by (repeat (first | exact Below.refl _ _ | with_reducible refine Below.drew ?_ | with_reducible refine Below.ext ?_ (by first | exact Nat.le_refl _ | (simp; done) | (simp; omega)) _ | with_reducible refine Below.alloc ?_ (by first | exact Nat.le_refl _ | (simp; done) | (simp; omega)) _ | with_reducible refine Below.setCell ?_ (by first | exact Nat.le_refl _ | (simp; done) | (simp; omega)) _)))
theorem SmoothTells_all : SmoothTells_stmt := by
  rintro aX aY aZ aC0 aC1 aC2 aC3 bX bY bZ bC0 bC1 bC2 bC3 n x0 y0 x1 y1 w ⟨h1, h2, h3, h4, h5, h6, h7, g1, g2, g3, g4, g5, g6, g7, -⟩
  by_cases h : areaP x0 y0 x1 y1 ≤ 100
  · exact tells18_in ⟨aX, aY, aZ, aC0, aC1, aC2, aC3⟩ ⟨bX, bY, bZ, bC0, bC1, bC2, bC3⟩ n x0 y0 x1 y1 ⟨h1, h2, h3, h4, h5, h6, h7⟩ ⟨g1, g2, g3, g4, g5, g6, g7⟩ h w
  · exact tells18_no ⟨aX, aY, aZ, aC0, aC1, aC2, aC3⟩ ⟨bX, bY, bZ, bC0, bC1, bC2, bC3⟩ n x0 y0 x1 y1 h w
theorem SmoothTells_holds : Rows.SmoothTellsSaid := SmoothTells_end SmoothTells_all
end Go.Proofs.Ytamfjfnceeagiaa
