/- LerpBetween's walk, ends of unlike Y. Conditions: such as is promised anything. -/
import Derived.Test.YtmlhbbkgfffmcaaLerpE
namespace Go.Proofs.Ytmlhbbkgfffmcaa
set_option linter.unusedVariables false
set_option linter.unusedSimpArgs false
open Go.RowKit
set_option maxRecDepth 100000 in
set_option maxHeartbeats 8000000 in
theorem between_y (a b : WinP) (x y : Int) (ha : a.fitsP) (hb : b.fitsP) (hx : nearP x y) (hxx : a.x = b.x) (h : ¬ a.y = b.y) (w : World) : Calls Try.prog 13 #[a.v, b.v, .agg #[.int .i64 x, .int .i64 y]] w (Ret (.bool true) w) := by
  have F1 := Lib.hid (fun w => fits16_any a w)
  have F2 := Lib.hid (fun w => fits16_any b w)
  have F3 := Lib.hid (fun w => near16_any x y w)
  simp only [ha, hb, hx, decide_true] at F1 F2 F3
  have A1 := Lib.hid (fun w => along_any a b x y ha.f hb.f hx.f w)
  have A2 := Lib.hid (fun w => along_back a b x y ha.f hb.f hx.f (by omega) w)
  have B1 := Lib.hid (fun w => across_any a b x y ha.f hb.f hx.f w)
  have B2 := Lib.hid (fun w => across_back a b x y ha.f hb.f hx.f (by omega) w)
  have k0 := mid_mm a.z b.z (alN a b x y) (alD a b)
  have k1 := mid_mm a.c0 b.c0 (alN a b x y) (alD a b)
  have k2 := mid_mm a.c1 b.c1 (alN a b x y) (alD a b)
  have k3 := mid_mm a.c2 b.c2 (alN a b x y) (alD a b)
  have k4 := mid_mm a.c3 b.c3 (alN a b x y) (alD a b)
  have l0 := mid_mm a.z b.z (acN a b x y) (acD a b)
  have l1 := mid_mm a.c0 b.c0 (acN a b x y) (acD a b)
  have l2 := mid_mm a.c1 b.c1 (acN a b x y) (acD a b)
  have l3 := mid_mm a.c2 b.c2 (acN a b x y) (acD a b)
  have l4 := mid_mm a.c3 b.c3 (acN a b x y) (acD a b)
  unfold mixed at A1 A2 B1 B2
  generalize mid a.z b.z (alN a b x y) (alD a b) = Z at *
  generalize mid a.c0 b.c0 (alN a b x y) (alD a b) = Z0 at *
  generalize mid a.c1 b.c1 (alN a b x y) (alD a b) = Z1 at *
  generalize mid a.c2 b.c2 (alN a b x y) (alD a b) = Z2 at *
  generalize mid a.c3 b.c3 (alN a b x y) (alD a b) = Z3 at *
  generalize mid a.z b.z (acN a b x y) (acD a b) = Y at *
  generalize mid a.c0 b.c0 (acN a b x y) (acD a b) = Y0 at *
  generalize mid a.c1 b.c1 (acN a b x y) (acD a b) = Y1 at *
  generalize mid a.c2 b.c2 (acN a b x y) (acD a b) = Y2 at *
  generalize mid a.c3 b.c3 (acN a b x y) (acD a b) = Y3 at *
  obtain ⟨k0, k0'⟩ := k0
  obtain ⟨k1, k1'⟩ := k1
  obtain ⟨k2, k2'⟩ := k2
  obtain ⟨k3, k3'⟩ := k3
  obtain ⟨k4, k4'⟩ := k4
  obtain ⟨l0, l0'⟩ := l0
  obtain ⟨l1, l1'⟩ := l1
  obtain ⟨l2, l2'⟩ := l2
  obtain ⟨l3, l3'⟩ := l3
  obtain ⟨l4, l4'⟩ := l4
  clear ha hb hx
  have hxb : (a.x == b.x) = true := by simp [hxx]
  have hyy : (a.y == b.y) = false := by simp [h]
  clear h hxx
  go_enter Try.func13, Try.ntmps13
  go_wp2_with (first | (go_at_call 56; (with_reducible refine (F1.out _).mono ?_); rintro _ _ ⟨rfl, X_, rfl⟩) | (go_at_call 56; (with_reducible refine (F2.out _).mono ?_); rintro _ _ ⟨rfl, X_, rfl⟩) | (go_at_call 57; (with_reducible refine (F3.out _).mono ?_); rintro _ _ ⟨rfl, X_, rfl⟩) | (go_at_call 58; (with_reducible refine (A1.out _).mono ?_); rintro _ _ ⟨rfl, X_, rfl⟩) | (go_at_call 58; (with_reducible refine (A2.out _).mono ?_); rintro _ _ ⟨rfl, X_, rfl⟩) | (go_at_call 60; (with_reducible refine (B1.out _).mono ?_); rintro _ _ ⟨rfl, X_, rfl⟩) | (go_at_call 60; (with_reducible refine (B2.out _).mono ?_); rintro _ _ ⟨rfl, X_, rfl⟩))
  refine wp_loop_rounds 5 ?_
  iterate 4
    rw [rounds_succ]
    go_wp2
    refine wp_region_ext (by kernel_rfl) (by kernel_rfl) ?_
    repeat (go_big_quiet_step ((fail)))
    refine wpQuiet_nil ?_
    intro _ hw_ext
    obtain ⟨X, hw_ext⟩ := hw_ext
    subst hw_ext
    go_wp2
  rw [rounds_succ]
  go_wp2
  refine wp_region_ext (by kernel_rfl) (by kernel_rfl) ?_
  repeat (go_big_quiet_step ((fail)))
  refine wpQuiet_nil ?_
  intro _ hw_ext
  obtain ⟨Y, hw_ext⟩ := hw_ext
  subst hw_ext
  go_wp2_with (first | (go_at_call 33; (with_reducible refine (awake16 _).mono ?_); rintro _ _ ⟨rfl, X_, rfl⟩))
  go_ret
  exact Ret.of' (by simp) (by (repeat (first | exact Below.refl _ _ | with_reducible refine Below.drew ?_ | with_reducible refine Below.ext ?_ (by first | exact Nat.le_refl _ | (simp; done) | (simp; omega)) _ | with_reducible refine Below.alloc ?_ (by first | exact Nat.le_refl _ | (simp; done) | (simp; omega)) _ | with_reducible refine Below.setCell ?_ (by first | exact Nat.le_refl _ | (simp; done) | (simp; omega)) _)))
end Go.Proofs.Ytmlhbbkgfffmcaa
