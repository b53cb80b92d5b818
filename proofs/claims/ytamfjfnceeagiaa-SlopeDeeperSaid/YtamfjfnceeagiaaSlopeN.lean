/- The walk of the law SlopeDeeper (layer 21). Conditions: 64 bits. -/
import Derived.Test.YtamfjfnceeagiaaSlopeM
namespace Go.Proofs.Ytamfjfnceeagiaa
set_option linter.unusedVariables false
set_option linter.unusedSimpArgs false
open Go.RowKit
theorem at21_some {a b c : WinP} {x y : Int} (ha : a.fits) (hb : b.fits) (hc : c.fits) (hx : Near x y) (h : ar a b c ≠ 0) (z : Int) (hz : atV a b c x y (·.z) = z) (hs : sml z) :
    ∃ m0 m1 m2 m3 : Int, ∀ w, Calls Try.prog 24 #[a.v, b.v, c.v, .int .i64 x, .int .i64 y] w (Ret (.tuple #[.int .i64 z, C4 m0 m1 m2 m3]) w) := by
  refine ⟨smlV (atV a b c x y (·.c0)), smlV (atV a b c x y (·.c1)), smlV (atV a b c x y (·.c2)), smlV (atV a b c x y (·.c3)), fun w => ?_⟩
  have := at21_any a b c x y ha hb hc hx h w
  rw [atT_s a b c x y h] at this
  simp only [atS, hz, smlV_yes hs] at this
  exact this
abbrev flatW (a b : WinP) : WinP := ⟨b.x, b.y, a.z, b.c0, b.c1, b.c2, b.c3⟩
theorem flat_fits {a b : WinP} (ha : a.fits) (hb : b.fits) : (flatW a b).fits := by
  obtain ⟨a0, a1, a2, a3, a4, a5, a6⟩ := ha
  obtain ⟨b0, b1, b2, b3, b4, b5, b6⟩ := hb
  exact ⟨b0, b1, b2, b3, a4, a5, b6⟩
theorem deeper21_may (a b c : WinP) (f u x y k : Int) (h : ¬ mayF a b c f u) (w : World) : Calls Try.prog 5 #[faceL a b c f u, .agg #[.int .i64 x, .int .i64 y], .int .u16 k] w (Ret (.bool true) w) := by
  have M := Lib.hid (fun w => may21_any a b c f u w)
  simp only [h, decide_false] at M
  clear h
  go_enter Try.func5, Try.ntmps5
  go_wp2_with (first | (go_at_call 19; (with_reducible refine (M.out _).mono ?_); rintro _ _ ⟨rfl, X_, rfl⟩) | (go_at_call 20; (with_reducible refine (awake21 _).mono ?_); rintro _ _ ⟨rfl, X_, rfl⟩))
  go_region_held3 (fun w' => w'.cell? ⟨w.heap.size, 2, none⟩ = some (.int .i64 a.z) ∧ w'.cell? ⟨w.heap.size, 9, none⟩ = some (.int .i64 b.z) ∧ w'.cell? ⟨w.heap.size, 16, none⟩ = some (.int .i64 c.z)) (go_simp) (fail)
  go_wp2_with (first | (go_at_call 19; (with_reducible refine (M.out _).mono ?_); rintro _ _ ⟨rfl, X_, rfl⟩) | (go_at_call 20; (with_reducible refine (awake21 _).mono ?_); rintro _ _ ⟨rfl, X_, rfl⟩))
  go_ret
  exact Ret.of' rfl (by (repeat (first | exact Below.refl _ _ | with_reducible refine Below.drew ?_ | with_reducible refine Below.ext ?_ (by first | exact Nat.le_refl _ | (simp; done) | (simp; omega)) _ | with_reducible refine Below.alloc ?_ (by first | exact Nat.le_refl _ | (simp; done) | (simp; omega)) _ | with_reducible refine Below.setCell ?_ (by first | exact Nat.le_refl _ | (simp; done) | (simp; omega)) _)))
set_option maxRecDepth 100000 in
set_option maxHeartbeats 8000000 in
theorem deeper21_may2 (a b c : WinP) (f u x y k : Int) (h : mayF a b c f u) (k0 : 0 ≤ k) (k1 : k ≤ 65535) (h2 : ¬ mayF (deepW a k) (deepW b k) (deepW c k) f u) (w : World) : Calls Try.prog 5 #[faceL a b c f u, .agg #[.int .i64 x, .int .i64 y], .int .u16 k] w (Ret (.bool true) w) := by
  have M := Lib.hid (fun w => may21_any a b c f u w)
  have M2 := Lib.hid (fun w => may21_any (deepW a k) (deepW b k) (deepW c k) f u w)
  simp only [h, decide_true] at M
  simp only [h2, decide_false, deepW] at M2
  obtain ⟨⟨fa, fb, fc⟩, ⟨f0, f1⟩, u0, u1⟩ := h.f
  have az0 := fa.z0
  have az1 := fa.z1
  have bz0 := fb.z0
  have bz1 := fb.z1
  have cz0 := fc.z0
  have cz1 := fc.z1
  clear h h2 fa fb fc
  go_enter Try.func5, Try.ntmps5
  go_wp2_with (first | (go_at_call 19; (with_reducible refine (M.out _).mono ?_); rintro _ _ ⟨rfl, X_, rfl⟩) | (go_at_call 19; (with_reducible refine (M2.out _).mono ?_); rintro _ _ ⟨rfl, X_, rfl⟩) | (go_at_call 20; (with_reducible refine (awake21 _).mono ?_); rintro _ _ ⟨rfl, X_, rfl⟩))
  go_region_held3 (fun w' => w'.cell? ⟨w.heap.size, 2, none⟩ = some (.int .i64 a.z) ∧ w'.cell? ⟨w.heap.size, 9, none⟩ = some (.int .i64 b.z) ∧ w'.cell? ⟨w.heap.size, 16, none⟩ = some (.int .i64 c.z)) (go_simp) (fail)
  go_wp2_with (first | (go_at_call 19; (with_reducible refine (M.out _).mono ?_); rintro _ _ ⟨rfl, X_, rfl⟩) | (go_at_call 19; (with_reducible refine (M2.out _).mono ?_); rintro _ _ ⟨rfl, X_, rfl⟩) | (go_at_call 20; (with_reducible refine (awake21 _).mono ?_); rintro _ _ ⟨rfl, X_, rfl⟩))
  go_ret
  exact Ret.of' rfl (by (repeat (first | exact Below.refl _ _ | with_reducible refine Below.drew ?_ | with_reducible refine Below.ext ?_ (by first | exact Nat.le_refl _ | (simp; done) | (simp; omega)) _ | with_reducible refine Below.alloc ?_ (by first | exact Nat.le_refl _ | (simp; done) | (simp; omega)) _ | with_reducible refine Below.setCell ?_ (by first | exact Nat.le_refl _ | (simp; done) | (simp; omega)) _)))
set_option maxRecDepth 100000 in
set_option maxHeartbeats 8000000 in
theorem deeper21_in (a b c : WinP) (f u x y k : Int) (h : mayF a b c f u) (k0 : 0 ≤ k) (k1 : k ≤ 65535) (h2 : mayF (deepW a k) (deepW b k) (deepW c k) f u) (w : World) : Calls Try.prog 5 #[faceL a b c f u, .agg #[.int .i64 x, .int .i64 y], .int .u16 k] w (Ret (.bool true) w) := by
  have M := Lib.hid (fun w => may21_any a b c f u w)
  have M2 := Lib.hid (fun w => may21_any (deepW a k) (deepW b k) (deepW c k) f u w)
  simp only [h, decide_true] at M
  simp only [h2, decide_true, deepW] at M2
  obtain ⟨⟨fa, fb, fc⟩, ⟨f0, f1⟩, u0, u1⟩ := h.f
  obtain ⟨⟨ga, gb, gc⟩, -⟩ := h2.f
  have az0 := fa.z0
  have az1 := fa.z1
  have bz0 := fb.z0
  have bz1 := fb.z1
  have cz0 := fc.z0
  have cz1 := fc.z1
  have H := Lib.hid (fun w => has21_any a b c f u x y fa fb fc w)
  by_cases h3 : hasF a b c x y
  · simp only [h3, decide_true] at H
    have h0 := h3.2.1
    obtain ⟨z0, z1⟩ := atV_among h3.2 (·.z)
    have eD : atV (deepW a k) (deepW b k) (deepW c k) x y (·.z) = atV a b c x y (·.z) + k := atV_more (a := a) (b := b) (c := c) (a' := deepW a k) (b' := deepW b k) (c' := deepW c k) h0 ⟨rfl, rfl⟩ ⟨rfl, rfl⟩ ⟨rfl, rfl⟩ (·.z) k rfl rfl rfl
    have eF : atV (deepW a k) (flatW (deepW a k) b) (flatW (deepW a k) c) x y (·.z) = a.z + k := atV_flat (a := deepW a k) (b := flatW (deepW a k) b) (c := flatW (deepW a k) c) h0 (·.z) rfl rfl
    have OF := fun w => offset21_any (deepW a k) (flatW (deepW a k) b) (flatW (deepW a k) c) f u ga (flat_fits ga fb) (flat_fits ga fc) f0 f1 u0 u1 w
    rw [offV_flat (a := deepW a k) (b := flatW (deepW a k) b) (c := flatW (deepW a k) c) f u rfl rfl u0 u1] at OF
    obtain ⟨z, hz⟩ : ∃ z, atV a b c x y (·.z) = z := ⟨_, rfl⟩
    rw [hz] at eD
    obtain ⟨m0, m1, m2, m3, A1⟩ := at21_some fa fb fc h3.1.f h0 z hz (by unfold sml; omega)
    obtain ⟨n0, n1, n2, n3, A2⟩ := at21_some ga gb gc h3.1.f h0 (z + k) eD (by unfold sml; omega)
    obtain ⟨o0, o1, o2, o3, A3⟩ := at21_some ga (flat_fits ga fb) (flat_fits ga fc) h3.1.f h0 (a.z + k) eF (by unfold sml; omega)
    simp only [hz] at z0 z1
    simp only [deepW, flatW] at A2 A3 OF
    have B1 := Lib.hid A1
    have B2 := Lib.hid A2
    have B3 := Lib.hid A3
    have B4 := Lib.hid OF
    clear A1 A2 A3 OF eD eF hz h h2 h3 h0 fa fb fc ga gb gc
    go_enter Try.func5, Try.ntmps5
    go_wp2_with (fail)
    go_region_held3 (fun w' => w'.cell? ⟨w.heap.size, 2, none⟩ = some (.int .i64 a.z) ∧ w'.cell? ⟨w.heap.size, 9, none⟩ = some (.int .i64 b.z) ∧ w'.cell? ⟨w.heap.size, 16, none⟩ = some (.int .i64 c.z)) (go_simp) (fail)
    go_wp2_with (first | (go_at_call 19; (with_reducible refine (M.out _).mono ?_); rintro _ _ ⟨rfl, X_, rfl⟩) | (go_at_call 19; (with_reducible refine (M2.out _).mono ?_); rintro _ _ ⟨rfl, X_, rfl⟩) | (go_at_call 23; (with_reducible refine (H.out _).mono ?_); rintro _ _ ⟨rfl, X_, rfl⟩) | (go_at_call 20; (with_reducible refine (awake21 _).mono ?_); rintro _ _ ⟨rfl, X_, rfl⟩) | (go_at_call 24; (with_reducible refine (B1.out _).mono ?_); rintro _ _ ⟨rfl, X_, rfl⟩) | (go_at_call 24; (with_reducible refine (B2.out _).mono ?_); rintro _ _ ⟨rfl, X_, rfl⟩) | (go_at_call 24; (with_reducible refine (B3.out _).mono ?_); rintro _ _ ⟨rfl, X_, rfl⟩))
    refine wp_region_ext (by kernel_rfl) (by kernel_rfl) ?_
    repeat (go_big_quiet_step ((first | (go_at_call 20; with_reducible exact Calls.quiet_ret (awake21 _)) | (go_at_call 21; with_reducible exact Calls.quiet_ret (B4.out _)))))
    refine wpQuiet_nil ?_
    intro _ hw_ext
    obtain ⟨X9, hw_ext⟩ := hw_ext
    subst hw_ext
    go_wp2
    go_ret
    exact Ret.of' rfl (by (repeat (first | exact Below.refl _ _ | with_reducible refine Below.drew ?_ | with_reducible refine Below.ext ?_ (by first | exact Nat.le_refl _ | (simp; done) | (simp; omega)) _ | with_reducible refine Below.alloc ?_ (by first | exact Nat.le_refl _ | (simp; done) | (simp; omega)) _ | with_reducible refine Below.setCell ?_ (by first | exact Nat.le_refl _ | (simp; done) | (simp; omega)) _)))
  · simp only [h3, decide_false] at H
    clear h h2 h3 fa fb fc ga gb gc
    go_enter Try.func5, Try.ntmps5
    go_wp2_with (fail)
    go_region_held3 (fun w' => w'.cell? ⟨w.heap.size, 2, none⟩ = some (.int .i64 a.z) ∧ w'.cell? ⟨w.heap.size, 9, none⟩ = some (.int .i64 b.z) ∧ w'.cell? ⟨w.heap.size, 16, none⟩ = some (.int .i64 c.z)) (go_simp) (fail)
    go_wp2_with (first | (go_at_call 19; (with_reducible refine (M.out _).mono ?_); rintro _ _ ⟨rfl, X_, rfl⟩) | (go_at_call 19; (with_reducible refine (M2.out _).mono ?_); rintro _ _ ⟨rfl, X_, rfl⟩) | (go_at_call 23; (with_reducible refine (H.out _).mono ?_); rintro _ _ ⟨rfl, X_, rfl⟩) | (go_at_call 20; (with_reducible refine (awake21 _).mono ?_); rintro _ _ ⟨rfl, X_, rfl⟩))
    go_ret
    exact Ret.of' rfl (by (repeat (first | exact Below.refl _ _ | with_reducible refine Below.drew ?_ | with_reducible refine Below.ext ?_ (by first | exact Nat.le_refl _ | (simp; done) | (simp; omega)) _ | with_reducible refine Below.alloc ?_ (by first | exact Nat.le_refl _ | (simp; done) | (simp; omega)) _ | with_reducible refine Below.setCell ?_ (by first | exact Nat.le_refl _ | (simp; done) | (simp; omega)) _)))
end Go.Proofs.Ytamfjfnceeagiaa
