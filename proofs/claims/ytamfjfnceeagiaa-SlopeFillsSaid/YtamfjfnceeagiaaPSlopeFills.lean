/- SlopeFills: whatever the input, the law returns true and leaves its arguments as they read. No condition. -/
import Derived.Test.YtamfjfnceeagiaaSpanG
import Derived.Test.YtamfjfnceeagiaaSlopeL
import Derived.Test.YtamfjfnceeagiaaESlopeFills
namespace Go.Proofs.Ytamfjfnceeagiaa
set_option linter.unusedVariables false
set_option linter.unusedSimpArgs false
open Go.RowKit
set_option maxHeartbeats 4000000 in
theorem fills21_no (a b c : WinP) (f u o x0 y0 x1 y1 : Int) (h : ¬ mayF a b c f u ∨ o < -33554432 ∨ 33554432 < o ∨ 150 < areaP x0 y0 x1 y1) (w : World) : Calls Try.prog 12 #[faceL a b c f u, .int .i64 o, R4 x0 y0 x1 y1] w (Ret (.bool true) w) := by
  have M := fun w => may21_any a b c f u w
  have A := Lib.hid (fun w => rrect_area x0 y0 x1 y1 w)
  generalize areaP x0 y0 x1 y1 = ar at *
  by_cases hm : mayF a b c f u
  · simp only [hm, decide_true] at M
    have M1 := Lib.hid M
    have h1 : o < -33554432 ∨ 33554432 < o ∨ 150 < ar := h.resolve_left fun k => k hm
    clear M h hm
    by_cases c1 : o < -33554432
    · clear h1
      go_enter Try.func12, Try.ntmps12
      go_wp2_with (first | (go_at_call 19; (with_reducible refine (M1.out _).mono ?_); rintro _ _ ⟨rfl, X_, rfl⟩) | (go_at_call 20; (with_reducible refine (awake21 _).mono ?_); rintro _ _ ⟨rfl, X_, rfl⟩))
      go_ret
      exact Ret.of' rfl (by (repeat (first | exact Below.refl _ _ | with_reducible refine Below.drew ?_ | with_reducible refine Below.ext ?_ (by first | exact Nat.le_refl _ | (simp; done) | (simp; omega)) _ | with_reducible refine Below.alloc ?_ (by first | exact Nat.le_refl _ | (simp; done) | (simp; omega)) _ | with_reducible refine Below.setCell ?_ (by first | exact Nat.le_refl _ | (simp; done) | (simp; omega)) _)))
    · by_cases c2 : 33554432 < o
      · clear h1
        go_enter Try.func12, Try.ntmps12
        go_wp2_with (first | (go_at_call 19; (with_reducible refine (M1.out _).mono ?_); rintro _ _ ⟨rfl, X_, rfl⟩) | (go_at_call 20; (with_reducible refine (awake21 _).mono ?_); rintro _ _ ⟨rfl, X_, rfl⟩))
        go_ret
        exact Ret.of' rfl (by (repeat (first | exact Below.refl _ _ | with_reducible refine Below.drew ?_ | with_reducible refine Below.ext ?_ (by first | exact Nat.le_refl _ | (simp; done) | (simp; omega)) _ | with_reducible refine Below.alloc ?_ (by first | exact Nat.le_refl _ | (simp; done) | (simp; omega)) _ | with_reducible refine Below.setCell ?_ (by first | exact Nat.le_refl _ | (simp; done) | (simp; omega)) _)))
      · have c3 : 150 < ar := by omega
        clear h1
        go_enter Try.func12, Try.ntmps12
        go_wp2_with (first | (go_at_call 19; (with_reducible refine (M1.out _).mono ?_); rintro _ _ ⟨rfl, X_, rfl⟩) | (go_at_call 36; (with_reducible refine (A.out _).mono ?_); rintro _ _ ⟨rfl, X_, rfl⟩) | (go_at_call 20; (with_reducible refine (awake21 _).mono ?_); rintro _ _ ⟨rfl, X_, rfl⟩))
        go_ret
        exact Ret.of' rfl (by (repeat (first | exact Below.refl _ _ | with_reducible refine Below.drew ?_ | with_reducible refine Below.ext ?_ (by first | exact Nat.le_refl _ | (simp; done) | (simp; omega)) _ | with_reducible refine Below.alloc ?_ (by first | exact Nat.le_refl _ | (simp; done) | (simp; omega)) _ | with_reducible refine Below.setCell ?_ (by first | exact Nat.le_refl _ | (simp; done) | (simp; omega)) _)))
  · simp only [hm, decide_false] at M
    have M1 := Lib.hid M
    clear M h hm
    go_enter Try.func12, Try.ntmps12
    go_wp2_with (first | (go_at_call 19; (with_reducible refine (M1.out _).mono ?_); rintro _ _ ⟨rfl, X_, rfl⟩) | (go_at_call 20; (with_reducible refine (awake21 _).mono ?_); rintro _ _ ⟨rfl, X_, rfl⟩))
    go_ret
    exact Ret.of' rfl (by (repeat (first | exact Below.refl _ _ | with_reducible refine Below.drew ?_ | with_reducible refine Below.ext ?_ (by first | exact Nat.le_refl _ | (simp; done) | (simp; omega)) _ | with_reducible refine Below.alloc ?_ (by first | exact Nat.le_refl _ | (simp; done) | (simp; omega)) _ | with_reducible refine Below.setCell ?_ (by first | exact Nat.le_refl _ | (simp; done) | (simp; omega)) _)))
set_option maxRecDepth 100000 in
set_option maxHeartbeats 8000000 in
theorem fills21_in (a b c : WinP) (f u o x0 y0 x1 y1 : Int) (h : mayF a b c f u) (o0 : -33554432 ≤ o) (o1 : o ≤ 33554432) (har : areaP x0 y0 x1 y1 ≤ 150) (w : World) : Calls Try.prog 12 #[faceL a b c f u, .int .i64 o, R4 x0 y0 x1 y1] w (Ret (.bool true) w) := by
  have M := fun w => may21_any a b c f u w
  simp only [h, decide_true] at M
  have M1 := Lib.hid M
  obtain ⟨⟨fa, fb, fc⟩, -⟩ := h.f
  have A := Lib.hid (fun w => rrect_area x0 y0 x1 y1 w)
  have F1 := fun w => fill_any a b c o x0 y0 x1 y1 fa fb fc o0 o1 (by omega) w
  have F2 := fun w => rfill_any a b c o x0 y0 x1 y1 fa fb fc o0 o1 (by omega) w
  generalize areaP x0 y0 x1 y1 = ar at *
  generalize fillL a b c o x0 y0 x1 y1 = L at *
  have W1 := Lib.hid F1
  have W2 := Lib.hid F2
  clear F1 F2 M h fa fb fc
  go_enter Try.func12, Try.ntmps12
  go_upto_region 3 with (first | (go_at_call 19; (with_reducible refine (M1.out _).mono ?_); rintro _ _ ⟨rfl, X_, rfl⟩) | (go_at_call 36; (with_reducible refine (A.out _).mono ?_); rintro _ _ ⟨rfl, X_, rfl⟩))
  refine wp_region_rel 23 [some ([], srV (.bool true)), none, none, none, none, none, none, none, none, none, some ([], srR frK L), none, none, none, none, none, none, none, none, some ([], srR frK L), some ([10, 19], srV (.bool true)), none, none] (by kernel_rfl) (by kernel_rfl) ?_
  simp only [List.take_succ_cons, List.take_zero, List.drop_succ_cons, List.drop_zero]
  (repeat (first | (refine rel_none ?_; intro K_ hK_; go_big_quiet_op; go_big_quiet_on) | simp only [Act.put, List.setIfInBounds_toArray, List.set_cons_zero, List.set_cons_succ]))
  refine rel_some rfl (fun w_ hw_ hk_ K_ hK_ => ?_) (fun v24 f24 => ?_)
  · obtain ⟨X_, rfl⟩ := hw_
    go_simp
    go_at_call 20
    refine (awake21 _).mono ?_
    rintro _ _ ⟨rfl, hX⟩
    exact hK_ _ _ rfl hX
  obtain rfl := f24
  (repeat (first | (refine rel_none ?_; intro K_ hK_; go_big_quiet_op; go_big_quiet_on) | simp only [Act.put, List.setIfInBounds_toArray, List.set_cons_zero, List.set_cons_succ]))
  refine rel_some rfl (fun w_ hw_ hk_ K_ hK_ => ?_) (fun v34 f34 => ?_)
  · obtain ⟨X_, rfl⟩ := hw_
    go_simp
    go_at_call 39
    refine (W1.out _).mono ?_
    rintro _ _ ⟨v, rfl, h1, h2⟩
    exact hK_ _ _ h1 h2
  obtain ⟨a34, k34, rfl⟩ := f34
  (repeat (first | (refine rel_none ?_; intro K_ hK_; go_big_quiet_op; go_big_quiet_on) | simp only [Act.put, List.setIfInBounds_toArray, List.set_cons_zero, List.set_cons_succ]))
  refine rel_some rfl (fun w_ hw_ hk_ K_ hK_ => ?_) (fun v43 f43 => ?_)
  · obtain ⟨X_, rfl⟩ := hw_
    go_simp
    go_at_call 40
    refine (W2.out _).mono ?_
    rintro _ _ ⟨v, rfl, h1, h2⟩
    exact hK_ _ _ h1 h2
  obtain ⟨a43, k43, rfl⟩ := f43
  (repeat (first | (refine rel_none ?_; intro K_ hK_; go_big_quiet_op; go_big_quiet_on) | simp only [Act.put, List.setIfInBounds_toArray, List.set_cons_zero, List.set_cons_succ]))
  refine rel_some rfl (fun w_ hw_ hk_ K_ hK_ => ?_) (fun v44 f44 => ?_)
  · obtain ⟨X_, rfl⟩ := hw_
    have h1 := (hk_ (10, _) (by repeat (first | exact List.mem_cons_self | refine List.mem_cons_of_mem _ ?_))) (by simp)
    have h2 := (hk_ (19, _) (by repeat (first | exact List.mem_cons_self | refine List.mem_cons_of_mem _ ?_))) (by simp)
    go_simp
    go_at_call 30
    refine (same_frs h1 h2).mono ?_
    rintro _ _ ⟨rfl, hX⟩
    exact hK_ _ _ rfl hX
  obtain rfl := f44
  (repeat (first | (refine rel_none ?_; intro K_ hK_; go_big_quiet_op; go_big_quiet_on) | simp only [Act.put, List.setIfInBounds_toArray, List.set_cons_zero, List.set_cons_succ]))
  refine rel_nil ?_
  intro w_ hw_ kk
  obtain ⟨X, rfl⟩ := hw_
  clear kk
  go_wp2
  go_ret
  exact Ret.of' rfl (by (repeat (first | exact Below.refl _ _ | with_reducible refine Below.drew ?_ | with_reducible refine Below.ext ?_ (by first | exact Nat.le_refl _ | (simp; done) | (simp; omega)) _ | with_reducible refine Below.alloc ?_ (by first | exact Nat.le_refl _ | (simp; done) | (simp; omega)) _ | with_reducible refine Below.setCell ?_ (by first | exact Nat.le_refl _ | (simp; done) | (simp; omega)) _)))
theorem SlopeFills_all : SlopeFills_stmt := by
  intro aX aY aZ aC0 aC1 aC2 aC3 bX bY bZ bC0 bC1 bC2 bC3 cX cY cZ cC0 cC1 cC2 cC3 f u o x0 y0 x1 y1 w ha hb hc
  let a : WinP := ⟨aX, aY, aZ, aC0, aC1, aC2, aC3⟩
  let b : WinP := ⟨bX, bY, bZ, bC0, bC1, bC2, bC3⟩
  let c : WinP := ⟨cX, cY, cZ, cC0, cC1, cC2, cC3⟩
  by_cases h : ¬ mayF a b c f u ∨ o < -33554432 ∨ 33554432 < o ∨ 150 < areaP x0 y0 x1 y1
  · exact fills21_no a b c f u o x0 y0 x1 y1 h w
  · have hm : mayF a b c f u := Classical.byContradiction fun k => h (.inl k)
    exact fills21_in a b c f u o x0 y0 x1 y1 hm (by omega) (by omega) (by omega) w
theorem SlopeFills_holds : Rows.SlopeFillsSaid := SlopeFills_end SlopeFills_all
end Go.Proofs.Ytamfjfnceeagiaa
