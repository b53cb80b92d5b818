/- The walk of the law SlopeSame (layer 21). Conditions: 64 bits. -/
import Derived.Test.YtamfjfnceeagiaaSlopeK
namespace Go.Proofs.Ytamfjfnceeagiaa
set_option linter.unusedVariables false
set_option linter.unusedSimpArgs false
open Go.RowKit
theorem mayF.f {a b c : WinP} {f u : Int} (h : mayF a b c f u) : (a.fits ∧ b.fits ∧ c.fits) ∧ factP f u := ⟨⟨h.1.f, h.2.1.f, h.2.2.1.f⟩, h.2.2.2⟩
theorem same21_no (a b c : WinP) (f u k : Int) (h : ¬ mayF a b c f u) (w : World) : Calls Try.prog 6 #[faceL a b c f u, .int .u16 k] w (Ret (.bool true) w) := by
  have M := Lib.hid (fun w => may21_any a b c f u w)
  simp only [h, decide_false] at M
  clear h
  go_enter Try.func6, Try.ntmps6
  go_wp2_with (first | (go_at_call 19; (with_reducible refine (M.out _).mono ?_); rintro _ _ ⟨rfl, X_, rfl⟩) | (go_at_call 20; (with_reducible refine (awake21 _).mono ?_); rintro _ _ ⟨rfl, X_, rfl⟩))
  go_ret
  exact Ret.of' rfl (by (repeat (first | exact Below.refl _ _ | with_reducible refine Below.drew ?_ | with_reducible refine Below.ext ?_ (by first | exact Nat.le_refl _ | (simp; done) | (simp; omega)) _ | with_reducible refine Below.alloc ?_ (by first | exact Nat.le_refl _ | (simp; done) | (simp; omega)) _ | with_reducible refine Below.setCell ?_ (by first | exact Nat.le_refl _ | (simp; done) | (simp; omega)) _)))
abbrev deepW (a : WinP) (k : Int) : WinP := ⟨a.x, a.y, a.z + k, a.c0, a.c1, a.c2, a.c3⟩
set_option maxRecDepth 100000 in
set_option maxHeartbeats 8000000 in
theorem same21_in (a b c : WinP) (f u k : Int) (h : mayF a b c f u) (k0 : 0 ≤ k) (k1 : k ≤ 65535) (w : World) : Calls Try.prog 6 #[faceL a b c f u, .int .u16 k] w (Ret (.bool true) w) := by
  have M := Lib.hid (fun w => may21_any a b c f u w)
  simp only [h, decide_true] at M
  obtain ⟨⟨fa, fb, fc⟩, ⟨f0, f1⟩, u0, u1⟩ := h.f
  have O1 := Lib.hid (fun w => offset21_any a b c f u fa fb fc f0 f1 u0 u1 w)
  have O2 := fun w => offset21_any c b a f u fc fb fa f0 f1 u0 u1 w
  have O3 := fun w => offset21_any b c a f (max (-16777216) (u - 1)) fb fc fa f0 f1 (by omega) (by omega) w
  simp only [offV_swap a b c] at O2
  simp only [offV_turn a b c] at O3
  have hs := offV_step a b c f u _ rfl u0 u1
  have M2 := Lib.hid (fun w => may21_any (deepW a k) (deepW b k) (deepW c k) f u w)
  have O4 := Lib.hid (fun (h : mayF (deepW a k) (deepW b k) (deepW c k) f u) w => offset21_any (deepW a k) (deepW b k) (deepW c k) f u h.f.1.1 h.f.1.2.1 h.f.1.2.2 f0 f1 u0 u1 w)
  rw [offV_deeper (a := a) (b := b) (c := c) (a' := deepW a k) (b' := deepW b k) (c' := deepW c k) f u k ⟨rfl, rfl, rfl⟩ ⟨rfl, rfl, rfl⟩ ⟨rfl, rfl, rfl⟩] at O4
  obtain ⟨n, hn⟩ : ∃ n, offV a b c f u = n := ⟨_, rfl⟩
  obtain ⟨o, ho⟩ : ∃ n, offV a b c f (max (-16777216) (u - 1)) = n := ⟨_, rfl⟩
  simp only [hn, ho] at O1 O2 O3 O4 hs
  have P2 := Lib.hid O2
  have P3 := Lib.hid O3
  obtain ⟨s0, s1, s2, s3⟩ := hs
  have az0 := fa.z0
  have az1 := fa.z1
  have bz0 := fb.z0
  have bz1 := fb.z1
  have cz0 := fc.z0
  have cz1 := fc.z1
  clear O2 O3 hn ho fa fb fc h
  by_cases hm : mayF (deepW a k) (deepW b k) (deepW c k) f u
  · have P4 := Lib.hid (fun w => O4.out hm w)
    simp only [hm, decide_true] at M2
    simp only [deepW] at M2 P4
    clear O4 hm
    go_enter Try.func6, Try.ntmps6
    go_wp2_with (first | (go_at_call 19; (with_reducible refine (M.out _).mono ?_); rintro _ _ ⟨rfl, X_, rfl⟩) | (go_at_call 21; (with_reducible refine (O1.out _).mono ?_); rintro _ _ ⟨rfl, X_, rfl⟩) | (go_at_call 21; (with_reducible refine (P2.out _).mono ?_); rintro _ _ ⟨rfl, X_, rfl⟩) | (go_at_call 21; (with_reducible refine (P3.out _).mono ?_); rintro _ _ ⟨rfl, X_, rfl⟩))
    go_region_held3 (fun w' => w'.cell? ⟨w.heap.size, 2, none⟩ = some (.int .i64 a.z) ∧ w'.cell? ⟨w.heap.size, 9, none⟩ = some (.int .i64 b.z) ∧ w'.cell? ⟨w.heap.size, 16, none⟩ = some (.int .i64 c.z)) (go_simp) (fail)
    go_wp2_with (first | (go_at_call 19; (with_reducible refine (M2.out _).mono ?_); rintro _ _ ⟨rfl, X_, rfl⟩) | (go_at_call 20; (with_reducible refine (awake21 _).mono ?_); rintro _ _ ⟨rfl, X_, rfl⟩) | (go_at_call 21; (with_reducible refine (P4.out _).mono ?_); rintro _ _ ⟨rfl, X_, rfl⟩))
    all_goals go_ret
    all_goals exact Ret.of' rfl (by (repeat (first | exact Below.refl _ _ | with_reducible refine Below.drew ?_ | with_reducible refine Below.ext ?_ (by first | exact Nat.le_refl _ | (simp; done) | (simp; omega)) _ | with_reducible refine Below.alloc ?_ (by first | exact Nat.le_refl _ | (simp; done) | (simp; omega)) _ | with_reducible refine Below.setCell ?_ (by first | exact Nat.le_refl _ | (simp; done) | (simp; omega)) _)))
  · simp only [hm, decide_false] at M2
    simp only [deepW] at M2
    clear O4 hm
    go_enter Try.func6, Try.ntmps6
    go_wp2_with (first | (go_at_call 19; (with_reducible refine (M.out _).mono ?_); rintro _ _ ⟨rfl, X_, rfl⟩) | (go_at_call 21; (with_reducible refine (O1.out _).mono ?_); rintro _ _ ⟨rfl, X_, rfl⟩) | (go_at_call 21; (with_reducible refine (P2.out _).mono ?_); rintro _ _ ⟨rfl, X_, rfl⟩) | (go_at_call 21; (with_reducible refine (P3.out _).mono ?_); rintro _ _ ⟨rfl, X_, rfl⟩))
    go_region_held3 (fun w' => w'.cell? ⟨w.heap.size, 2, none⟩ = some (.int .i64 a.z) ∧ w'.cell? ⟨w.heap.size, 9, none⟩ = some (.int .i64 b.z) ∧ w'.cell? ⟨w.heap.size, 16, none⟩ = some (.int .i64 c.z)) (go_simp) (fail)
    go_wp2_with (first | (go_at_call 19; (with_reducible refine (M2.out _).mono ?_); rintro _ _ ⟨rfl, X_, rfl⟩) | (go_at_call 20; (with_reducible refine (awake21 _).mono ?_); rintro _ _ ⟨rfl, X_, rfl⟩))
    all_goals go_ret
    all_goals exact Ret.of' rfl (by (repeat (first | exact Below.refl _ _ | with_reducible refine Below.drew ?_ | with_reducible refine Below.ext ?_ (by first | exact Nat.le_refl _ | (simp; done) | (simp; omega)) _ | with_reducible refine Below.alloc ?_ (by first | exact Nat.le_refl _ | (simp; done) | (simp; omega)) _ | with_reducible refine Below.setCell ?_ (by first | exact Nat.le_refl _ | (simp; done) | (simp; omega)) _)))
end Go.Proofs.Ytamfjfnceeagiaa
