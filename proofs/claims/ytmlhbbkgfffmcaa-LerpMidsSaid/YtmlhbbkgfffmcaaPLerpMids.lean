/- LerpMids: whatever the input, the law returns true and leaves its arguments as they read. No condition. -/
import Derived.Test.YtmlhbbkgfffmcaaNumN
import Derived.Test.YtmlhbbkgfffmcaaLerpD
import Derived.Test.YtmlhbbkgfffmcaaELerpMids
namespace Go.Proofs.Ytmlhbbkgfffmcaa
set_option linter.unusedVariables false
set_option linter.unusedSimpArgs false
open Go.RowKit
theorem rmid16_any (p q n d : Int) (hp : tame p) (hq : tame q) (hn : sml n) (hd : sml d) (w : World) : Calls Try.prog 35 #[.int .i64 p, .int .i64 q, .int .i64 n, .int .i64 d] w (Ret (.int .i64 (mid p q n d)) w) := by
  obtain ⟨hp0, hp1⟩ := hp
  obtain ⟨hq0, hq1⟩ := hq
  by_cases h : d < 1
  · rw [mid_p (.inl h)]
    go_enter Try.func35, Try.ntmps35
    go_wp2
    go_ret
    exact Ret.of (by (repeat (first | exact Below.refl _ _ | with_reducible refine Below.drew ?_ | with_reducible refine Below.ext ?_ (by first | exact Nat.le_refl _ | (simp; done) | (simp; omega)) _ | with_reducible refine Below.alloc ?_ (by first | exact Nat.le_refl _ | (simp; done) | (simp; omega)) _ | with_reducible refine Below.setCell ?_ (by first | exact Nat.le_refl _ | (simp; done) | (simp; omega)) _)))
  · have hr : p + (q - p) * (max 0 (min n d)) / d = mid p q n d := by
      by_cases h1 : n ≤ 0
      · rw [mid_p (.inr h1), show max 0 (min n d) = 0 by omega]; simp
      · by_cases h2 : d ≤ n
        · rw [mid_q (by omega) h2, show max 0 (min n d) = d by omega, Int.mul_ediv_cancel _ (by omega)]; omega
        · rw [mid_m (by omega) h2, show max 0 (min n d) = n by omega]
    have R := Lib.hid (fun w => rmid08_any p q (max 0 (min n d)) d ⟨hp0, hp1⟩ ⟨hq0, hq1⟩ (by omega) (by omega) (by omega) hd w)
    rw [hr] at R
    clear hr
    go_enter Try.func35, Try.ntmps35
    go_wp2_with (first | (go_at_call 87; (with_reducible refine (R.out _).mono ?_); rintro _ _ ⟨rfl, X_, rfl⟩))
    go_ret
    exact Ret.of (by (repeat (first | exact Below.refl _ _ | with_reducible refine Below.drew ?_ | with_reducible refine Below.ext ?_ (by first | exact Nat.le_refl _ | (simp; done) | (simp; omega)) _ | with_reducible refine Below.alloc ?_ (by first | exact Nat.le_refl _ | (simp; done) | (simp; omega)) _ | with_reducible refine Below.setCell ?_ (by first | exact Nat.le_refl _ | (simp; done) | (simp; omega)) _)))
def farP (n : Int) : Prop := n < -1099511627776 ∨ 1099511627776 < n
instance (n : Int) : Decidable (farP n) := by unfold farP; exact inferInstance
theorem far_any (n : Int) (w : World) : Calls Try.prog 32 #[.int .i64 n] w (Ret (.bool (decide (farP n))) w) := by
  by_cases h1 : n < -1099511627776
  · rw [show decide (farP n) = true from decide_eq_true (.inl h1)]
    go_enter Try.func32, Try.ntmps32
    go_wp2
    go_ret
    exact Ret.of' (by simp) (by (repeat (first | exact Below.refl _ _ | with_reducible refine Below.drew ?_ | with_reducible refine Below.ext ?_ (by first | exact Nat.le_refl _ | (simp; done) | (simp; omega)) _ | with_reducible refine Below.alloc ?_ (by first | exact Nat.le_refl _ | (simp; done) | (simp; omega)) _ | with_reducible refine Below.setCell ?_ (by first | exact Nat.le_refl _ | (simp; done) | (simp; omega)) _)))
  · by_cases h2 : 1099511627776 < n
    · rw [show decide (farP n) = true from decide_eq_true (.inr h2)]
      go_enter Try.func32, Try.ntmps32
      go_wp2
      go_ret
      exact Ret.of' (by simp) (by (repeat (first | exact Below.refl _ _ | with_reducible refine Below.drew ?_ | with_reducible refine Below.ext ?_ (by first | exact Nat.le_refl _ | (simp; done) | (simp; omega)) _ | with_reducible refine Below.alloc ?_ (by first | exact Nat.le_refl _ | (simp; done) | (simp; omega)) _ | with_reducible refine Below.setCell ?_ (by first | exact Nat.le_refl _ | (simp; done) | (simp; omega)) _)))
    · rw [show decide (farP n) = false from decide_eq_false (by unfold farP; omega)]
      go_enter Try.func32, Try.ntmps32
      go_wp2
      go_ret
      exact Ret.of' (by simp) (by (repeat (first | exact Below.refl _ _ | with_reducible refine Below.drew ?_ | with_reducible refine Below.ext ?_ (by first | exact Nat.le_refl _ | (simp; done) | (simp; omega)) _ | with_reducible refine Below.alloc ?_ (by first | exact Nat.le_refl _ | (simp; done) | (simp; omega)) _ | with_reducible refine Below.setCell ?_ (by first | exact Nat.le_refl _ | (simp; done) | (simp; omega)) _)))
set_option maxRecDepth 100000 in
set_option maxHeartbeats 8000000 in
theorem mids_in (p q n d : Int) (hp : ¬ farP p) (hq : ¬ farP q) (hd2 : d ≤ 4611686018427387904) (hn : sml n) (hd : sml d) (w : World) : Calls Try.prog 4 #[.int .i64 p, .int .i64 q, .agg #[.int .i64 n, .int .i64 d]] w (Ret (.bool true) w) := by
  have F1 := Lib.hid (fun w => far_any p w)
  have F2 := Lib.hid (fun w => far_any q w)
  simp only [hp, hq, decide_false] at F1 F2
  have tp : tame p := by unfold farP at hp; unfold tame; omega
  have tq : tame q := by unfold farP at hq; unfold tame; omega
  have A := Lib.hid (fun w => mid_any p q n d tp tq hn hd w)
  have B := Lib.hid (fun w => rmid16_any p q n d tp tq hn hd w)
  generalize mid p q n d = Z at *
  clear hp hq tp tq hn hd
  go_enter Try.func4, Try.ntmps4
  go_wp2_with (first | (go_at_call 32; (with_reducible refine (F1.out _).mono ?_); rintro _ _ ⟨rfl, X_, rfl⟩) | (go_at_call 32; (with_reducible refine (F2.out _).mono ?_); rintro _ _ ⟨rfl, X_, rfl⟩))
  refine wp_region_ext (by kernel_rfl) (by kernel_rfl) ?_
  repeat (go_big_quiet_step ((first | (go_at_call 33; with_reducible exact Calls.quiet_ret (awake16 _)) | (go_at_call 34; with_reducible exact Calls.quiet_ret (A.out _)) | (go_at_call 35; with_reducible exact Calls.quiet_ret (B.out _)))))
  refine wpQuiet_nil ?_
  intro _ hw_ext
  obtain ⟨X, hw_ext⟩ := hw_ext
  subst hw_ext
  go_wp2
  go_ret
  exact Ret.of' (by simp) (by (repeat (first | exact Below.refl _ _ | with_reducible refine Below.drew ?_ | with_reducible refine Below.ext ?_ (by first | exact Nat.le_refl _ | (simp; done) | (simp; omega)) _ | with_reducible refine Below.alloc ?_ (by first | exact Nat.le_refl _ | (simp; done) | (simp; omega)) _ | with_reducible refine Below.setCell ?_ (by first | exact Nat.le_refl _ | (simp; done) | (simp; omega)) _)))
set_option maxRecDepth 100000 in
set_option maxHeartbeats 8000000 in
theorem mids_out (p q n d : Int) (h : farP p ∨ farP q ∨ 4611686018427387904 < d) (w : World) : Calls Try.prog 4 #[.int .i64 p, .int .i64 q, .agg #[.int .i64 n, .int .i64 d]] w (Ret (.bool true) w) := by
  have F1 := Lib.hid (fun w => far_any p w)
  have F2 := Lib.hid (fun w => far_any q w)
  by_cases hp : farP p
  · simp only [hp, decide_true] at F1
    clear h hp
    go_enter Try.func4, Try.ntmps4
    go_wp2_with (first | (go_at_call 32; (with_reducible refine (F1.out _).mono ?_); rintro _ _ ⟨rfl, X_, rfl⟩) | (go_at_call 33; (with_reducible refine (awake16 _).mono ?_); rintro _ _ ⟨rfl, X_, rfl⟩))
    go_ret
    exact Ret.of' (by simp) (by (repeat (first | exact Below.refl _ _ | with_reducible refine Below.drew ?_ | with_reducible refine Below.ext ?_ (by first | exact Nat.le_refl _ | (simp; done) | (simp; omega)) _ | with_reducible refine Below.alloc ?_ (by first | exact Nat.le_refl _ | (simp; done) | (simp; omega)) _ | with_reducible refine Below.setCell ?_ (by first | exact Nat.le_refl _ | (simp; done) | (simp; omega)) _)))
  · by_cases hq : farP q
    · simp only [hp, hq, decide_true, decide_false] at F1 F2
      clear h hp hq
      go_enter Try.func4, Try.ntmps4
      go_wp2_with (first | (go_at_call 32; (with_reducible refine (F1.out _).mono ?_); rintro _ _ ⟨rfl, X_, rfl⟩) | (go_at_call 32; (with_reducible refine (F2.out _).mono ?_); rintro _ _ ⟨rfl, X_, rfl⟩) | (go_at_call 33; (with_reducible refine (awake16 _).mono ?_); rintro _ _ ⟨rfl, X_, rfl⟩))
      go_ret
      exact Ret.of' (by simp) (by (repeat (first | exact Below.refl _ _ | with_reducible refine Below.drew ?_ | with_reducible refine Below.ext ?_ (by first | exact Nat.le_refl _ | (simp; done) | (simp; omega)) _ | with_reducible refine Below.alloc ?_ (by first | exact Nat.le_refl _ | (simp; done) | (simp; omega)) _ | with_reducible refine Below.setCell ?_ (by first | exact Nat.le_refl _ | (simp; done) | (simp; omega)) _)))
    · simp only [hp, hq, decide_false] at F1 F2
      have hd : 4611686018427387904 < d := by
        rcases h with h | h | h
        · exact absurd h hp
        · exact absurd h hq
        · exact h
      clear h hp hq
      go_enter Try.func4, Try.ntmps4
      go_wp2_with (first | (go_at_call 32; (with_reducible refine (F1.out _).mono ?_); rintro _ _ ⟨rfl, X_, rfl⟩) | (go_at_call 32; (with_reducible refine (F2.out _).mono ?_); rintro _ _ ⟨rfl, X_, rfl⟩) | (go_at_call 33; (with_reducible refine (awake16 _).mono ?_); rintro _ _ ⟨rfl, X_, rfl⟩))
      go_ret
      exact Ret.of' (by simp) (by (repeat (first | exact Below.refl _ _ | with_reducible refine Below.drew ?_ | with_reducible refine Below.ext ?_ (by first | exact Nat.le_refl _ | (simp; done) | (simp; omega)) _ | with_reducible refine Below.alloc ?_ (by first | exact Nat.le_refl _ | (simp; done) | (simp; omega)) _ | with_reducible refine Below.setCell ?_ (by first | exact Nat.le_refl _ | (simp; done) | (simp; omega)) _)))
theorem LerpMids_all : LerpMids_stmt := by
  intro p q n d w hp hq hnd
  obtain ⟨hn, hd⟩ := hnd
  by_cases h : farP p ∨ farP q ∨ 4611686018427387904 < d
  · exact mids_out p q n d h w
  · exact mids_in p q n d (fun h1 => h (.inl h1)) (fun h1 => h (.inr (.inl h1))) (by apply Int.not_lt.1; exact fun h1 => h (.inr (.inr h1))) hn hd w
theorem LerpMids_holds : Rows.LerpMidsSaid := LerpMids_end LerpMids_all
end Go.Proofs.Ytmlhbbkgfffmcaa
