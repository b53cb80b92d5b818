/- The walk of the law SlopeBetween (layer 21). Conditions: 64 bits. -/
import Derived.Test.YtamfjfnceeagiaaSlopeL
import Derived.Test.YtamfjfnceeagiaaSlopeP
namespace Go.Proofs.Ytamfjfnceeagiaa
set_option linter.unusedVariables false
set_option linter.unusedSimpArgs false
open Go.RowKit
theorem lo3' {a b c z : Int} (h : min (min a b) c ≤ z) : min a (min b c) ≤ z := by omega
theorem hi3' {a b c z : Int} (h : z ≤ max (max a b) c) : z ≤ max a (max b c) := by omega
theorem lo3 {a b c z : Int} (h : min (min a b) c ≤ z) : decide (z < min a (min b c)) = false := by have := lo3' h; simp; omega
theorem hi3 {a b c z : Int} (h : z ≤ max (max a b) c) : decide (max a (max b c) < z) = false := by have := hi3' h; simp; omega
theorem between21_may (a b c : WinP) (f u x y : Int) (h : ¬ mayF a b c f u) (w : World) : Calls Try.prog 4 #[faceL a b c f u, .agg #[.int .i64 x, .int .i64 y]] w (Ret (.bool true) w) := by
  have M := Lib.hid (fun w => may21_any a b c f u w)
  simp only [h, decide_false] at M
  clear h
  go_enter Try.func4, Try.ntmps4
  go_wp2_with (first | (go_at_call 19; (with_reducible refine (M.out _).mono ?_); rintro _ _ ⟨rfl, X_, rfl⟩) | (go_at_call 20; (with_reducible refine (awake21 _).mono ?_); rintro _ _ ⟨rfl, X_, rfl⟩))
  go_ret
  exact Ret.of' rfl (by (repeat (first | exact Below.refl _ _ | with_reducible refine Below.drew ?_ | with_reducible refine Below.ext ?_ (by first | exact Nat.le_refl _ | (simp; done) | (simp; omega)) _ | with_reducible refine Below.alloc ?_ (by first | exact Nat.le_refl _ | (simp; done) | (simp; omega)) _ | with_reducible refine Below.setCell ?_ (by first | exact Nat.le_refl _ | (simp; done) | (simp; omega)) _)))
theorem between21_has (a b c : WinP) (f u x y : Int) (h : mayF a b c f u) (h2 : ¬ hasF a b c x y) (w : World) : Calls Try.prog 4 #[faceL a b c f u, .agg #[.int .i64 x, .int .i64 y]] w (Ret (.bool true) w) := by
  have M := Lib.hid (fun w => may21_any a b c f u w)
  have H := Lib.hid (fun w => has21_any a b c f u x y h.f.1.1 h.f.1.2.1 h.f.1.2.2 w)
  simp only [h, decide_true] at M
  simp only [h2, decide_false] at H
  clear h h2
  go_enter Try.func4, Try.ntmps4
  go_wp2_with (first | (go_at_call 19; (with_reducible refine (M.out _).mono ?_); rintro _ _ ⟨rfl, X_, rfl⟩) | (go_at_call 23; (with_reducible refine (H.out _).mono ?_); rintro _ _ ⟨rfl, X_, rfl⟩) | (go_at_call 20; (with_reducible refine (awake21 _).mono ?_); rintro _ _ ⟨rfl, X_, rfl⟩))
  go_ret
  exact Ret.of' rfl (by (repeat (first | exact Below.refl _ _ | with_reducible refine Below.drew ?_ | with_reducible refine Below.ext ?_ (by first | exact Nat.le_refl _ | (simp; done) | (simp; omega)) _ | with_reducible refine Below.alloc ?_ (by first | exact Nat.le_refl _ | (simp; done) | (simp; omega)) _ | with_reducible refine Below.setCell ?_ (by first | exact Nat.le_refl _ | (simp; done) | (simp; omega)) _)))
set_option maxRecDepth 100000 in
set_option maxHeartbeats 8000000 in
theorem between21_in (a b c : WinP) (f u x y : Int) (h : mayF a b c f u) (h2 : hasF a b c x y) (w : World) : Calls Try.prog 4 #[faceL a b c f u, .agg #[.int .i64 x, .int .i64 y]] w (Ret (.bool true) w) := by
  have M := Lib.hid (fun w => may21_any a b c f u w)
  obtain ⟨⟨fa, fb, fc⟩, -⟩ := h.f
  have H := Lib.hid (fun w => has21_any a b c f u x y fa fb fc w)
  simp only [h, decide_true] at M
  simp only [h2, decide_true] at H
  obtain ⟨A1, A2, A3⟩ := at21_has fa fb fc h2.1.f h2.2
  obtain ⟨z0, z1⟩ := atV_among h2.2 (·.z)
  obtain ⟨p0, p1⟩ := atV_among h2.2 (·.c0)
  obtain ⟨q0, q1⟩ := atV_among h2.2 (·.c1)
  obtain ⟨r0, r1⟩ := atV_among h2.2 (·.c2)
  obtain ⟨s0, s1⟩ := atV_among h2.2 (·.c3)
  generalize atV a b c x y (·.z) = z at *
  generalize atV a b c x y (·.c0) = c0 at *
  generalize atV a b c x y (·.c1) = c1 at *
  generalize atV a b c x y (·.c2) = c2 at *
  generalize atV a b c x y (·.c3) = c3 at *
  have B1 := Lib.hid A1
  have B2 := Lib.hid A2
  have B3 := Lib.hid A3
  clear A1 A2 A3 h h2 fa fb fc
  go_enter Try.func4, Try.ntmps4
  go_upto_region 6 with (first
    | (go_at_call 19; (with_reducible refine (M.out _).mono ?_); rintro _ _ ⟨rfl, XM, rfl⟩)
    | (go_at_call 23; (with_reducible refine (H.out _).mono ?_); rintro _ _ ⟨rfl, XH, rfl⟩)
    | (go_at_call 24; (with_reducible refine (B1.out _).mono ?_); rintro _ _ ⟨rfl, XA, rfl⟩)
    | (go_at_call 24; (with_reducible refine (B2.out _).mono ?_); rintro _ _ ⟨rfl, XB, rfl⟩)
    | (go_at_call 24; (with_reducible refine (B3.out _).mono ?_); rintro _ _ ⟨rfl, XC, rfl⟩))
  obtain ⟨p, hp⟩ : ∃ p, w.heap.size + 1 + 1 + XM.sz + XH.sz + XA.sz = p := ⟨_, rfl⟩
  obtain ⟨q, hq⟩ : ∃ q, p + 1 + XB.sz = q := ⟨_, rfl⟩
  obtain ⟨r, hr⟩ : ∃ r, q + 1 + XC.sz = r := ⟨_, rfl⟩
  refine wp_abs (F := fun w1 => Row w1 w.heap.size #[.int .i64 a.x, .int .i64 a.y, .int .i64 a.z, .int .i64 a.c0, .int .i64 a.c1, .int .i64 a.c2, .int .i64 a.c3, .int .i64 b.x, .int .i64 b.y, .int .i64 b.z, .int .i64 b.c0, .int .i64 b.c1, .int .i64 b.c2, .int .i64 b.c3, .int .i64 c.x, .int .i64 c.y, .int .i64 c.z, .int .i64 c.c0, .int .i64 c.c1, .int .i64 c.c2, .int .i64 c.c3, .int .i64 f, .int .i64 u] 27 ∧ Row w1 p #[.int .i64 c0, .int .i64 c1, .int .i64 c2, .int .i64 c3] 23 ∧ Row w1 q #[.int .i64 c0, .int .i64 c1, .int .i64 c2, .int .i64 c3] 23 ∧ Row w1 r #[.int .i64 c0, .int .i64 c1, .int .i64 c2, .int .i64 c3] 23 ∧ ∃ X, w1 = w.ext X) ⟨by (repeat (first | assumption | with_reducible refine Row.ext ?_ _ | with_reducible refine row_drew ?_ | (with_reducible refine row_last ?_; first | rfl | (simp; done)) | with_reducible refine Row.alloc ?_ _)), by rw [← hp]; (repeat (first | assumption | with_reducible refine Row.ext ?_ _ | with_reducible refine row_drew ?_ | (with_reducible refine row_last ?_; first | rfl | (simp; done)) | with_reducible refine Row.alloc ?_ _)), by rw [← hq, ← hp]; (repeat (first | assumption | with_reducible refine Row.ext ?_ _ | with_reducible refine row_drew ?_ | (with_reducible refine row_last ?_; first | rfl | (simp; done)) | with_reducible refine Row.alloc ?_ _)), by rw [← hr, ← hq, ← hp]; (repeat (first | assumption | with_reducible refine Row.ext ?_ _ | with_reducible refine row_drew ?_ | (with_reducible refine row_last ?_; first | rfl | (simp; done)) | with_reducible refine Row.alloc ?_ _)), RowKit.Below.toExt (by (repeat (first | exact Below.refl _ _ | with_reducible refine Below.drew ?_ | with_reducible refine Below.ext ?_ (by first | exact Nat.le_refl _ | (simp; done) | (simp; omega)) _ | with_reducible refine Below.alloc ?_ (by first | exact Nat.le_refl _ | (simp; done) | (simp; omega)) _ | with_reducible refine Below.setCell ?_ (by first | exact Nat.le_refl _ | (simp; done) | (simp; omega)) _)))⟩ ?_
  rintro w1 ⟨rf, rp, rq, rr, hX⟩
  rw [hp, hq, hr]
  have HX := Lib.hid hX
  have f1 := rf.cell
  have f2 := rf.frozen
  have f3 := rf.lt
  have p1' := rp.cell
  have p2' := rp.frozen
  have p3' := rp.lt
  have q1' := rq.cell
  have q2' := rq.frozen
  have q3' := rq.lt
  have r1' := rr.cell
  have r2' := rr.frozen
  have r3' := rr.lt
  clear hp hq hr hX rf rp rq rr M H B1 B2 B3
  go_cut [11] from 12 to 63 (fun t11 wx => t11 = .int .i64 0 ∧ wx = w1)
  case first =>
    go_wp2
    go_meet
    exact ⟨rfl, rfl⟩
  case rest =>
  obtain ⟨rfl, rfl⟩ := hcut
  have t0 := Lib.hid (lo3 p0)
  have t1 := Lib.hid (hi3 p1)
  have t2 := Lib.hid (lo3 q0)
  have t3 := Lib.hid (hi3 q1)
  have t4 := Lib.hid (lo3 r0)
  have t5 := Lib.hid (hi3 r1)
  have t6 := Lib.hid (lo3 s0)
  have t7 := Lib.hid (hi3 s1)
  have z2 := lo3' z0
  have z3 := hi3' z1
  clear p0 q0 r0 s0 p1 q1 r1 s1 z0 z1
  go_wp2
  go_loopw [11] (fun i wr => ∃ (k : Nat) (X : Xt), k ≤ 4 ∧ i = .int .i64 k ∧ wr = wc.ext X) (fun i _ => 4 - (intOf i).toNat)
  case atStart => exact ⟨0, ⟨#[], wc.drawn⟩, by omega, rfl, (ext_none' _).symm⟩
  case round =>
    obtain ⟨k, X, hk, rfl, rfl⟩ := hrel
    obtain rfl | rfl | rfl | rfl | rfl : k = 0 ∨ k = 1 ∨ k = 2 ∨ k = 3 ∨ k = 4 := by omega
    · have h1 := t0.out
      have h2 := t1.out
      go_wp2
      refine wp_region_ext (by kernel_rfl) (by kernel_rfl) ?_
      repeat (go_big_quiet_step ((fail)))
      refine wpQuiet_nil ?_
      intro _ hw_ext
      obtain ⟨X, hw_ext⟩ := hw_ext
      subst hw_ext
      go_wp2
      go_roundw
      case rel => exact ⟨1, _, by omega, rfl, World.ext_ext⟩
      case measure => simp [intOf]
    · have h1 := t2.out
      have h2 := t3.out
      go_wp2
      refine wp_region_ext (by kernel_rfl) (by kernel_rfl) ?_
      repeat (go_big_quiet_step ((fail)))
      refine wpQuiet_nil ?_
      intro _ hw_ext
      obtain ⟨X, hw_ext⟩ := hw_ext
      subst hw_ext
      go_wp2
      go_roundw
      case rel => exact ⟨2, _, by omega, rfl, World.ext_ext⟩
      case measure => simp [intOf]
    · have h1 := t4.out
      have h2 := t5.out
      go_wp2
      refine wp_region_ext (by kernel_rfl) (by kernel_rfl) ?_
      repeat (go_big_quiet_step ((fail)))
      refine wpQuiet_nil ?_
      intro _ hw_ext
      obtain ⟨X, hw_ext⟩ := hw_ext
      subst hw_ext
      go_wp2
      go_roundw
      case rel => exact ⟨3, _, by omega, rfl, World.ext_ext⟩
      case measure => simp [intOf]
    · have h1 := t6.out
      have h2 := t7.out
      go_wp2
      refine wp_region_ext (by kernel_rfl) (by kernel_rfl) ?_
      repeat (go_big_quiet_step ((fail)))
      refine wpQuiet_nil ?_
      intro _ hw_ext
      obtain ⟨X, hw_ext⟩ := hw_ext
      subst hw_ext
      go_wp2
      go_roundw
      case rel => exact ⟨4, _, by omega, rfl, World.ext_ext⟩
      case measure => simp [intOf]
    · go_wp2_with (first | (go_at_call 20; (with_reducible refine (awake21 _).mono ?_); rintro _ _ ⟨rfl, X_, rfl⟩))
      go_ret
      obtain ⟨X0, hX0⟩ := HX.out
      subst hX0
      exact Ret.of' rfl (by (repeat (first | with_reducible assumption | with_reducible exact Below.refl _ _ | with_reducible refine Below.drew ?_ | with_reducible refine Below.ext ?_ (by first | exact Nat.le_refl _ | omega | (simp; done) | (simp; omega)) _ | with_reducible refine Below.alloc ?_ (by first | exact Nat.le_refl _ | omega | (simp; done) | (simp; omega)) _ | with_reducible refine Below.setCell ?_ (by first | exact Nat.le_refl _ | omega | (simp; done) | (simp; omega)) _)))
end Go.Proofs.Ytamfjfnceeagiaa
