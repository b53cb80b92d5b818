/- XintRoots: whatever the input, the law returns true and leaves its arguments as they read. No condition. -/
import Derived.Test.YtmlhbbkgfffmcaaXintM
import Derived.Test.YtmlhbbkgfffmcaaEXintRoots
namespace Go.Proofs.Ytmlhbbkgfffmcaa
set_option linter.unusedVariables false
set_option linter.unusedSimpArgs false
open Go.RowKit
set_option maxHeartbeats 4000000 in
theorem roots_out (a : Int) (ha : inR a) (h : a < 0 ∨ 85070591730234615865843651857942052864 ≤ a) (w : World) : Calls Try.prog 15 #[I2 a] w (Ret (.bool true) w) := by
  obtain ⟨e, l0, l1⟩ := hilo a
  have R := Lib.hid (fun w => root_no a ha h w)
  have SA := Lib.hid (fun w => sign_any a ha w)
  by_cases n : a < 0
  · rw [sgn_neg n] at SA
    clear h e
    go_enter Try.func15, Try.ntmps15
    go_wp2_with (first | (go_at_call 45; (with_reducible refine (R.out _).mono ?_); rintro _ _ ⟨rfl, X_, rfl⟩) | (go_at_call 47; (with_reducible refine (awake02 _).mono ?_); rintro _ _ ⟨rfl, X_, rfl⟩) | (go_at_call 62; (with_reducible refine (SA.out _).mono ?_); rintro _ _ ⟨rfl, X_, rfl⟩))
    go_ret
    exact Ret.of (by (repeat (first | exact Below.refl _ _ | with_reducible refine Below.drew ?_ | with_reducible refine Below.ext ?_ (by first | exact Nat.le_refl _ | (simp; done) | (simp; omega)) _ | with_reducible refine Below.alloc ?_ (by first | exact Nat.le_refl _ | (simp; done) | (simp; omega)) _ | with_reducible refine Below.setCell ?_ (by first | exact Nat.le_refl _ | (simp; done) | (simp; omega)) _)))
  · have h2 : 4611686018427387904 ≤ hiN a := by omega
    obtain ⟨s, hs⟩ : ∃ s, s = sgn a := ⟨_, rfl⟩
    rw [← hs] at SA
    have hs0 : decide (s < 0) = false := by rw [hs, sgn_pos (by omega)]; decide
    clear h e hs
    go_enter Try.func15, Try.ntmps15
    go_wp2_with (first | (go_at_call 45; (with_reducible refine (R.out _).mono ?_); rintro _ _ ⟨rfl, X_, rfl⟩) | (go_at_call 47; (with_reducible refine (awake02 _).mono ?_); rintro _ _ ⟨rfl, X_, rfl⟩) | (go_at_call 62; (with_reducible refine (SA.out _).mono ?_); rintro _ _ ⟨rfl, X_, rfl⟩))
    go_ret
    exact Ret.of (by (repeat (first | exact Below.refl _ _ | with_reducible refine Below.drew ?_ | with_reducible refine Below.ext ?_ (by first | exact Nat.le_refl _ | (simp; done) | (simp; omega)) _ | with_reducible refine Below.alloc ?_ (by first | exact Nat.le_refl _ | (simp; done) | (simp; omega)) _ | with_reducible refine Below.setCell ?_ (by first | exact Nat.le_refl _ | (simp; done) | (simp; omega)) _)))
set_option maxHeartbeats 4000000 in
theorem roots_in (a : Int) (h0 : 0 ≤ a) (h1 : a < 85070591730234615865843651857942052864) (w : World) : Calls Try.prog 15 #[I2 a] w (Ret (.bool true) w) := by
  obtain ⟨n, n0, hn, hn1⟩ := root_ex h0
  have ha : inR a := by unfold inR; omega
  have n1 : n ≤ 9223372036854775807 := sq_le (m := n) (n := 9223372036854775807) (by decide) hn (by omega)
  have hs : sml n := by unfold sml; omega
  have R := Lib.hid (fun w => root_yes a n h0 h1 n0 hn hn1 w)
  have M := Lib.hid (fun w => mul_any n n hs hs w)
  have C := Lib.hid (fun w => cmp_any (n * n) a (mul_in hs hs) ha w)
  obtain ⟨s, hs1⟩ : ∃ s, s = sgn (n * n - a) := ⟨_, rfl⟩
  have d1 : decide (0 < s) = false := by have := sgn_01 (n * n - a); simp; omega
  rw [← hs1] at C
  have d0 : decide (n < 0) = false := by simp; omega
  by_cases hm : n = 9223372036854775807
  · have d2 : (n == 9223372036854775807) = true := by simp [hm]
    clear hm hn hn1 hs1 h0 h1
    go_enter Try.func15, Try.ntmps15
    go_wp2_with (first | (go_at_call 45; (with_reducible refine (R.out _).mono ?_); rintro _ _ ⟨rfl, X_, rfl⟩))
    refine wp_region_ext (by kernel_rfl) (by kernel_rfl) ?_
    repeat (go_big_quiet_step ((first | (go_at_call 48; with_reducible exact Calls.quiet_ret (M.out _)) | (go_at_call 63; with_reducible exact Calls.quiet_ret (C.out _)))))
    refine wpQuiet_nil ?_
    intro _ hw_ext
    obtain ⟨X, hw_ext⟩ := hw_ext
    subst hw_ext
    go_wp2
    refine wp_region_ext (by kernel_rfl) (by kernel_rfl) ?_
    repeat (go_big_quiet_step ((first | (go_at_call 47; with_reducible exact Calls.quiet_ret (awake02 _)))))
    refine wpQuiet_nil ?_
    intro _ hw_ext
    obtain ⟨Y, hw_ext⟩ := hw_ext
    subst hw_ext
    go_wp2
    go_ret
    exact Ret.of (by (repeat (first | exact Below.refl _ _ | with_reducible refine Below.drew ?_ | with_reducible refine Below.ext ?_ (by first | exact Nat.le_refl _ | (simp; done) | (simp; omega)) _ | with_reducible refine Below.alloc ?_ (by first | exact Nat.le_refl _ | (simp; done) | (simp; omega)) _ | with_reducible refine Below.setCell ?_ (by first | exact Nat.le_refl _ | (simp; done) | (simp; omega)) _)))
  · have d2 : (n == 9223372036854775807) = false := by simp [hm]
    have hs2 : sml (n + 1) := by unfold sml; omega
    have e1 : IntKind.i64.wrap (n + 1) = n + 1 := IntWalk.i64_in _ (by omega)
    have M2 := Lib.hid (fun w => mul_any (n + 1) (n + 1) hs2 hs2 w)
    have C2 := Lib.hid (fun w => cmp_any ((n + 1) * (n + 1)) a (mul_in hs2 hs2) ha w)
    rw [sgn_pos (show 0 < (n + 1) * (n + 1) - a by omega)] at C2
    clear hm hn hn1 hs1 h0 h1
    go_enter Try.func15, Try.ntmps15
    go_wp2_with (first | (go_at_call 45; (with_reducible refine (R.out _).mono ?_); rintro _ _ ⟨rfl, X_, rfl⟩))
    refine wp_region_ext (by kernel_rfl) (by kernel_rfl) ?_
    repeat (go_big_quiet_step ((first | (go_at_call 48; with_reducible exact Calls.quiet_ret (M.out _)) | (go_at_call 63; with_reducible exact Calls.quiet_ret (C.out _)))))
    refine wpQuiet_nil ?_
    intro _ hw_ext
    obtain ⟨X, hw_ext⟩ := hw_ext
    subst hw_ext
    go_wp2
    refine wp_region_ext (by kernel_rfl) (by kernel_rfl) ?_
    repeat (go_big_quiet_step ((first | (go_at_call 47; with_reducible exact Calls.quiet_ret (awake02 _)) | (go_at_call 48; with_reducible exact Calls.quiet_ret (M2.out _)) | (go_at_call 63; with_reducible exact Calls.quiet_ret (C2.out _)))))
    refine wpQuiet_nil ?_
    intro _ hw_ext
    obtain ⟨Y, hw_ext⟩ := hw_ext
    subst hw_ext
    go_wp2
    go_ret
    exact Ret.of (by (repeat (first | exact Below.refl _ _ | with_reducible refine Below.drew ?_ | with_reducible refine Below.ext ?_ (by first | exact Nat.le_refl _ | (simp; done) | (simp; omega)) _ | with_reducible refine Below.alloc ?_ (by first | exact Nat.le_refl _ | (simp; done) | (simp; omega)) _ | with_reducible refine Below.setCell ?_ (by first | exact Nat.le_refl _ | (simp; done) | (simp; omega)) _)))
theorem XintRoots_all : XintRoots_stmt := by
  intro a0 a1 w ha
  obtain ⟨⟨h0, h1⟩, l0, l1⟩ := ha
  rw [i2_val a0 a1 l0 l1]
  have hin := i2_inR h0 h1 l0 l1
  by_cases h : 0 ≤ a0 * 18446744073709551616 + a1 ∧ a0 * 18446744073709551616 + a1 < 85070591730234615865843651857942052864
  · exact roots_in _ h.1 h.2 w
  · exact roots_out _ hin (by omega) w
theorem XintRoots_holds : Rows.XintRootsSaid := XintRoots_end XintRoots_all
end Go.Proofs.Ytmlhbbkgfffmcaa
