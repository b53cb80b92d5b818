/- SlopeAts: whatever the input, the law returns true and leaves its arguments as they read. No condition. -/
import Derived.Test.YtamfjfnceeagiaaSlopeO
import Derived.Test.YtamfjfnceeagiaaSlopeP
import Derived.Test.YtamfjfnceeagiaaSlopeL
import Derived.Test.YtamfjfnceeagiaaESlopeAts
namespace Go.Proofs.Ytamfjfnceeagiaa
set_option linter.unusedVariables false
set_option linter.unusedSimpArgs false
open Go.RowKit
theorem ats21_may (a b c : WinP) (f u x y : Int) (h : ¬ mayF a b c f u) (w : World) : Calls Try.prog 3 #[faceL a b c f u, .agg #[.int .i64 x, .int .i64 y]] w (Ret (.bool true) w) := by
  have M := Lib.hid (fun w => may21_any a b c f u w)
  simp only [h, decide_false] at M
  clear h
  go_enter Try.func3, Try.ntmps3
  go_wp2_with (first | (go_at_call 19; (with_reducible refine (M.out _).mono ?_); rintro _ _ ⟨rfl, X_, rfl⟩) | (go_at_call 20; (with_reducible refine (awake21 _).mono ?_); rintro _ _ ⟨rfl, X_, rfl⟩))
  go_ret
  exact Ret.of' rfl (by (repeat (first | exact Below.refl _ _ | with_reducible refine Below.drew ?_ | with_reducible refine Below.ext ?_ (by first | exact Nat.le_refl _ | (simp; done) | (simp; omega)) _ | with_reducible refine Below.alloc ?_ (by first | exact Nat.le_refl _ | (simp; done) | (simp; omega)) _ | with_reducible refine Below.setCell ?_ (by first | exact Nat.le_refl _ | (simp; done) | (simp; omega)) _)))
set_option maxRecDepth 100000 in
set_option maxHeartbeats 8000000 in
theorem ats21_in (a b c : WinP) (f u x y : Int) (h : mayF a b c f u) (w : World) : Calls Try.prog 3 #[faceL a b c f u, .agg #[.int .i64 x, .int .i64 y]] w (Ret (.bool true) w) := by
  have M := Lib.hid (fun w => may21_any a b c f u w)
  simp only [h, decide_true] at M
  obtain ⟨⟨fa, fb, fc⟩, ⟨f0, f1⟩, u0, u1⟩ := h.f
  have H := Lib.hid (fun w => has21_any a b c f u x y fa fb fc w)
  have O1 := fun w => offset21_any a b c f u fa fb fc f0 f1 u0 u1 w
  have O2 := fun w => roffset21_any a b c f u fa fb fc f0 f1 u0 u1 w
  generalize offV a b c f u = n at *
  have P1 := Lib.hid O1
  have P2 := Lib.hid O2
  clear O1 O2
  by_cases h2 : hasF a b c x y
  · simp only [h2, decide_true] at H
    have A1 := (at21_has fa fb fc h2.1.f h2.2).1
    have A2 := fun w => rat21_has fa fb fc h2.1.f h2.2 w
    simp only [atP] at A2
    generalize atV a b c x y (·.z) = z at *
    generalize atV a b c x y (·.c0) = c0 at *
    generalize atV a b c x y (·.c1) = c1 at *
    generalize atV a b c x y (·.c2) = c2 at *
    generalize atV a b c x y (·.c3) = c3 at *
    have B1 := Lib.hid A1
    have B2 := Lib.hid A2
    clear A1 A2 h h2 fa fb fc f0 f1 u0 u1
    go_enter Try.func3, Try.ntmps3
    go_wp2_with (first | (go_at_call 19; (with_reducible refine (M.out _).mono ?_); rintro _ _ ⟨rfl, X_, rfl⟩))
    refine wp_region_ext (by kernel_rfl) (by kernel_rfl) ?_
    repeat (go_big_quiet_step ((first | (go_at_call 21; with_reducible exact Calls.quiet_ret (P1.out _)) | (go_at_call 22; with_reducible exact Calls.quiet_ret (P2.out _)))))
    refine wpQuiet_nil ?_
    intro _ hw_ext
    obtain ⟨X3, hw_ext⟩ := hw_ext
    subst hw_ext
    go_wp2_with (first | (go_at_call 23; (with_reducible refine (H.out _).mono ?_); rintro _ _ ⟨rfl, X_, rfl⟩) | (go_at_call 24; (with_reducible refine (B1.out _).mono ?_); rintro _ _ ⟨rfl, X_, rfl⟩) | (go_at_call 25; (with_reducible refine (B2.out _).mono ?_); rintro _ _ ⟨rfl, X_, rfl⟩) | (go_at_call 20; (with_reducible refine (awake21 _).mono ?_); rintro _ _ ⟨rfl, X_, rfl⟩))
    go_ret
    exact Ret.of' rfl (by (repeat (first | exact Below.refl _ _ | with_reducible refine Below.drew ?_ | with_reducible refine Below.ext ?_ (by first | exact Nat.le_refl _ | (simp; done) | (simp; omega)) _ | with_reducible refine Below.alloc ?_ (by first | exact Nat.le_refl _ | (simp; done) | (simp; omega)) _ | with_reducible refine Below.setCell ?_ (by first | exact Nat.le_refl _ | (simp; done) | (simp; omega)) _)))
  · simp only [h2, decide_false] at H
    clear h h2 fa fb fc f0 f1 u0 u1
    go_enter Try.func3, Try.ntmps3
    go_wp2_with (first | (go_at_call 19; (with_reducible refine (M.out _).mono ?_); rintro _ _ ⟨rfl, X_, rfl⟩))
    refine wp_region_ext (by kernel_rfl) (by kernel_rfl) ?_
    repeat (go_big_quiet_step ((first | (go_at_call 21; with_reducible exact Calls.quiet_ret (P1.out _)) | (go_at_call 22; with_reducible exact Calls.quiet_ret (P2.out _)))))
    refine wpQuiet_nil ?_
    intro _ hw_ext
    obtain ⟨X3, hw_ext⟩ := hw_ext
    subst hw_ext
    go_wp2_with (first | (go_at_call 23; (with_reducible refine (H.out _).mono ?_); rintro _ _ ⟨rfl, X_, rfl⟩) | (go_at_call 20; (with_reducible refine (awake21 _).mono ?_); rintro _ _ ⟨rfl, X_, rfl⟩))
    go_ret
    exact Ret.of' rfl (by (repeat (first | exact Below.refl _ _ | with_reducible refine Below.drew ?_ | with_reducible refine Below.ext ?_ (by first | exact Nat.le_refl _ | (simp; done) | (simp; omega)) _ | with_reducible refine Below.alloc ?_ (by first | exact Nat.le_refl _ | (simp; done) | (simp; omega)) _ | with_reducible refine Below.setCell ?_ (by first | exact Nat.le_refl _ | (simp; done) | (simp; omega)) _)))
theorem SlopeAts_all : SlopeAts_stmt := by
  intro aX aY aZ aC0 aC1 aC2 aC3 bX bY bZ bC0 bC1 bC2 bC3 cX cY cZ cC0 cC1 cC2 cC3 f u x y w ha hb
  let a : WinP := ⟨aX, aY, aZ, aC0, aC1, aC2, aC3⟩
  let b : WinP := ⟨bX, bY, bZ, bC0, bC1, bC2, bC3⟩
  let c : WinP := ⟨cX, cY, cZ, cC0, cC1, cC2, cC3⟩
  by_cases h : mayF a b c f u
  · exact ats21_in a b c f u x y h w
  · exact ats21_may a b c f u x y h w
theorem SlopeAts_holds : Rows.SlopeAtsSaid := SlopeAts_end SlopeAts_all
end Go.Proofs.Ytamfjfnceeagiaa
