/- The walks of xint.Root and xint.Ratio; the examples of layer 2. Conditions: 128 bits, 64 bits. -/
import Derived.Test.YtmlhbbkgfffmcaaXintK
import Derived.Test.YtmlhbbkgfffmcaaXintB
import Derived.Test.YtmlhbbkgfffmcaaXintH
namespace Go.Proofs.Ytmlhbbkgfffmcaa
set_option linter.unusedVariables false
set_option linter.unusedSimpArgs false
open Go.RowKit
theorem ext_none' (w : World) : w.ext ⟨#[], w.drawn⟩ = w := by simp [World.ext]
theorem root_no (a : Int) (ha : inR a) (h : a < 0 ∨ 85070591730234615865843651857942052864 ≤ a) (w : World) : Calls Try.prog 45 #[I2 a] w (Ret (.tuple #[.int .i64 0, .bool false]) w) := by
  obtain ⟨e, l0, l1⟩ := hilo a
  have h2 : hiN a < 0 ∨ 4611686018427387904 ≤ hiN a := by omega
  clear h e
  go_enter Try.func45, Try.ntmps45
  go_wp2
  all_goals first
    | (exfalso; omega)
    | (go_ret2; exact Ret.of (by (repeat (first | exact Below.refl _ _ | with_reducible refine Below.drew ?_ | with_reducible refine Below.ext ?_ (by first | exact Nat.le_refl _ | (simp; done) | (simp; omega)) _ | with_reducible refine Below.alloc ?_ (by first | exact Nat.le_refl _ | (simp; done) | (simp; omega)) _ | with_reducible refine Below.setCell ?_ (by first | exact Nat.le_refl _ | (simp; done) | (simp; omega)) _))))
theorem sq_le {m n a : Int} (h0 : 0 ≤ n) (h1 : m * m ≤ a) (h2 : a < (n + 1) * (n + 1)) : m ≤ n := by
  apply Int.not_lt.1
  intro h
  have := Int.mul_le_mul (show n + 1 ≤ m by omega) (show n + 1 ≤ m by omega) (by omega) (by omega)
  omega
theorem sq_lt {m n a : Int} (h0 : 0 ≤ m) (h1 : n * n ≤ a) (h2 : a < m * m) : n < m := by
  apply Int.not_le.1
  intro h
  have := Int.mul_le_mul h h h0 (by omega)
  omega
set_option maxHeartbeats 4000000 in
theorem root_yes (a n : Int) (h0 : 0 ≤ a) (h1 : a < 85070591730234615865843651857942052864) (n0 : 0 ≤ n) (hn : n * n ≤ a) (hn1 : a < (n + 1) * (n + 1)) (w : World) : Calls Try.prog 45 #[I2 a] w (Ret (.tuple #[.int .i64 n, .bool true]) w) := by
  obtain ⟨e, l0, l1⟩ := hilo a
  have h2 : 0 ≤ hiN a := by omega
  have h3 : hiN a < 4611686018427387904 := by omega
  have ha : inR a := by unfold inR; omega
  have n1 : n ≤ 9223372036854775807 := sq_le (m := n) (n := 9223372036854775807) (by decide) hn (by omega)
  have SL := Lib.hid (fun m (h : m * m ≤ a) => sq_le n0 h hn1)
  have SG := Lib.hid (fun m (h0 : 0 ≤ m) (h : a < m * m) => sq_lt h0 hn h)
  clear hn hn1 e h0 h1
  go_enter Try.func45, Try.ntmps45
  go_wp2
  go_loopw [4, 5] (fun l h wr => ∃ (lo hi : Int) (X : Xt), l = .int .i64 lo ∧ h = .int .i64 hi ∧ 0 ≤ lo ∧ lo ≤ n ∧ n ≤ hi ∧ hi ≤ 9223372036854775807 ∧ wr = (w.alloc (.cells #[.int .i64 (hiN a), .int .u64 (loN a)] 69)).ext X)
    (fun l h _ => (intOf h - intOf l).toNat)
  case atStart => exact ⟨0, 9223372036854775807, _, rfl, rfl, by omega, n0, n1, by omega, (ext_none' _).symm⟩
  case round =>
    obtain ⟨lo, hi, X, rfl, rfl, lo0, lo1, hi0, hi1, rfl⟩ := hrel
    by_cases hlt : lo < hi
    · obtain ⟨m, hm⟩ : ∃ m, lo + (hi - lo) / 2 + (hi - lo) % 2 = m := ⟨_, rfl⟩
      have m0 : lo < m := by omega
      have m1 : m ≤ hi := by omega
      have hs : sml m := by unfold sml; omega
      have C := Lib.hid (fun w => cmp_any (m * m) a (mul_in hs hs) ha w)
      have M := Lib.hid (fun w => mul_any m m hs hs w)
      by_cases hc : m * m ≤ a
      · have d : decide (sgn (m * m - a) ≤ 0) = true := by have := sgn_01 (m * m - a); simp; omega
        have hmn := SL.out m hc
        clear hc
        go_wp2
        refine wp_region_ext (by kernel_rfl) (by kernel_rfl) ?_
        repeat (go_big_quiet_step ((first | (go_at_call 48; with_reducible exact Calls.quiet_ret (M.out _)) | (go_at_call 63; with_reducible exact Calls.quiet_ret (C.out _)))))
        refine wpQuiet_nil ?_
        intro _ hw_ext
        obtain ⟨Y, hw_ext⟩ := hw_ext
        subst hw_ext
        go_wp2
        go_roundw
        case rel => exact ⟨m, hi, _, rfl, rfl, by omega, hmn, hi0, hi1, World.ext_ext⟩
        case measure => simp [intOf]; omega
      · have d : decide (sgn (m * m - a) ≤ 0) = false := by have := sgn_01 (m * m - a); simp; omega
        have hmn := SG.out m (by omega) (by omega)
        clear hc
        go_wp2
        refine wp_region_ext (by kernel_rfl) (by kernel_rfl) ?_
        repeat (go_big_quiet_step ((first | (go_at_call 48; with_reducible exact Calls.quiet_ret (M.out _)) | (go_at_call 63; with_reducible exact Calls.quiet_ret (C.out _)))))
        refine wpQuiet_nil ?_
        intro _ hw_ext
        obtain ⟨Y, hw_ext⟩ := hw_ext
        subst hw_ext
        go_wp2
        go_roundw
        case rel => exact ⟨lo, m - 1, _, rfl, rfl, lo0, lo1, by omega, by omega, World.ext_ext⟩
        case measure => simp [intOf]; omega
    · obtain rfl : lo = n := by omega
      go_wp2
      go_ret2
      exact Ret.of (by (repeat (first | exact Below.refl _ _ | with_reducible refine Below.drew ?_ | with_reducible refine Below.ext ?_ (by first | exact Nat.le_refl _ | (simp; done) | (simp; omega)) _ | with_reducible refine Below.alloc ?_ (by first | exact Nat.le_refl _ | (simp; done) | (simp; omega)) _ | with_reducible refine Below.setCell ?_ (by first | exact Nat.le_refl _ | (simp; done) | (simp; omega)) _)))
/-- Which quotient is greater, crosswise. -/
theorem ratio_sgn {p q r s b d a c : Int} (ha : a = b * p + r) (hc : c = d * q + s) (b1 : 1 ≤ b) (d1 : 1 ≤ d) (r0 : 0 ≤ r) (r1 : r < b) (s0 : 0 ≤ s) (s1 : s < d) :
    (p ≠ q → sgn (p - q) = sgn (a * d - c * b)) ∧ (p = q → sgn (r * d - s * b) = sgn (a * d - c * b)) := by
  have e : a * d - c * b = (p - q) * (b * d) + (r * d - s * b) := by rw [ha, hc]; grind
  have x0 := Int.mul_nonneg r0 (show 0 ≤ d by omega)
  have x1 := Int.mul_nonneg s0 (show 0 ≤ b by omega)
  have x2 : (r + 1) * d ≤ b * d := Int.mul_le_mul_of_nonneg_right (by omega) (by omega)
  have x3 : (s + 1) * b ≤ d * b := Int.mul_le_mul_of_nonneg_right (by omega) (by omega)
  have x4 : (r + 1) * d = r * d + d := by grind
  have x5 : (s + 1) * b = s * b + b := by grind
  have x6 : d * b = b * d := Int.mul_comm _ _
  refine ⟨fun h => ?_, fun h => ?_⟩
  · rw [e]
    rcases Int.lt_or_gt_of_ne h with h | h
    · have x7 : (p - q) * (b * d) ≤ (-1) * (b * d) := Int.mul_le_mul_of_nonneg_right (by omega) (by omega)
      rw [sgn_neg (show p - q < 0 by omega), sgn_neg (by omega)]
    · have x7 : 1 * (b * d) ≤ (p - q) * (b * d) := Int.mul_le_mul_of_nonneg_right (by omega) (by omega)
      rw [sgn_pos (show 0 < p - q by omega), sgn_pos (by omega)]
  · rw [e, h]; simp
set_option maxHeartbeats 4000000 in
theorem ratio_any (a b c d : Int) (ha : inR a) (hc : inR c) (hb : sml b) (hd : sml d) (b1 : 1 ≤ b) (d1 : 1 ≤ d) (w : World) : Calls Try.prog 50 #[I2 a, .int .i64 b, I2 c, .int .i64 d] w (Ret (.tuple #[.int .i64 (sgn (a * d - c * b)), .bool true]) w) := by
  have e1 := Int.emod_add_mul_ediv a b
  have e2 := Int.emod_add_mul_ediv c d
  have r0 := Int.emod_nonneg a (show b ≠ 0 by omega)
  have r1 := Int.emod_lt_of_pos a (show 0 < b by omega)
  have s0 := Int.emod_nonneg c (show d ≠ 0 by omega)
  have s1 := Int.emod_lt_of_pos c (show 0 < d by omega)
  have hr : sml (a % b) := by unfold sml at *; omega
  have hs : sml (c % d) := by unfold sml at *; omega
  obtain ⟨k1, k2⟩ := ratio_sgn (p := a / b) (q := c / d) (a := a) (c := c) (by omega) (by omega) b1 d1 r0 r1 s0 s1
  have A := Lib.hid (fun w => div_any a b ha b1 hb w)
  have B := Lib.hid (fun w => div_any c d hc d1 hd w)
  have C := Lib.hid (fun w => cmp_any (a / b) (c / d) (div_in ha b1) (div_in hc d1) w)
  have M1 := Lib.hid (fun w => mul_any (a % b) d hr hd w)
  have M2 := Lib.hid (fun w => mul_any (c % d) b hs hb w)
  have C2 := Lib.hid (fun w => cmp_any (a % b * d) (c % d * b) (mul_in hr hd) (mul_in hs hb) w)
  by_cases h : a / b = c / d
  · rw [k2 h] at C2
    have z : (sgn (a / b - c / d) != 0) = false := by rw [h]; simp [sgn]
    clear h k1 k2 e1 e2 ha hc hb hd
    go_enter Try.func50, Try.ntmps50
    go_wp2_with (first | (go_at_call 43; (with_reducible refine (A.out _).mono ?_); rintro _ _ ⟨rfl, X_, rfl⟩) | (go_at_call 43; (with_reducible refine (B.out _).mono ?_); rintro _ _ ⟨rfl, X_, rfl⟩) | (go_at_call 63; (with_reducible refine (C.out _).mono ?_); rintro _ _ ⟨rfl, X_, rfl⟩) | (go_at_call 48; (with_reducible refine (M1.out _).mono ?_); rintro _ _ ⟨rfl, X_, rfl⟩) | (go_at_call 48; (with_reducible refine (M2.out _).mono ?_); rintro _ _ ⟨rfl, X_, rfl⟩) | (go_at_call 63; (with_reducible refine (C2.out _).mono ?_); rintro _ _ ⟨rfl, X_, rfl⟩))
    go_ret2
    exact Ret.of (by (repeat (first | exact Below.refl _ _ | with_reducible refine Below.drew ?_ | with_reducible refine Below.ext ?_ (by first | exact Nat.le_refl _ | (simp; done) | (simp; omega)) _ | with_reducible refine Below.alloc ?_ (by first | exact Nat.le_refl _ | (simp; done) | (simp; omega)) _ | with_reducible refine Below.setCell ?_ (by first | exact Nat.le_refl _ | (simp; done) | (simp; omega)) _)))
  · rw [k1 h] at C
    have z : (sgn (a * d - c * b) != 0) = true := by
      rw [← k1 h]; have := sgn_01 (a / b - c / d); simp; omega
    clear h k1 k2 e1 e2 ha hc hb hd
    go_enter Try.func50, Try.ntmps50
    go_wp2_with (first | (go_at_call 43; (with_reducible refine (A.out _).mono ?_); rintro _ _ ⟨rfl, X_, rfl⟩) | (go_at_call 43; (with_reducible refine (B.out _).mono ?_); rintro _ _ ⟨rfl, X_, rfl⟩) | (go_at_call 63; (with_reducible refine (C.out _).mono ?_); rintro _ _ ⟨rfl, X_, rfl⟩))
    go_ret2
    exact Ret.of (by (repeat (first | exact Below.refl _ _ | with_reducible refine Below.drew ?_ | with_reducible refine Below.ext ?_ (by first | exact Nat.le_refl _ | (simp; done) | (simp; omega)) _ | with_reducible refine Below.alloc ?_ (by first | exact Nat.le_refl _ | (simp; done) | (simp; omega)) _ | with_reducible refine Below.setCell ?_ (by first | exact Nat.le_refl _ | (simp; done) | (simp; omega)) _)))
theorem ratio_no (a b c d : Int) (ha : inR a) (hc : inR c) (hb : sml b) (hd : sml d) (h : ¬ (1 ≤ b ∧ 1 ≤ d)) (w : World) : Calls Try.prog 50 #[I2 a, .int .i64 b, I2 c, .int .i64 d] w (Ret (.tuple #[.int .i64 0, .bool false]) w) := by
  by_cases b1 : 1 ≤ b
  · have A := Lib.hid (fun w => div_any a b ha b1 hb w)
    have B := Lib.hid (fun w => div_no c d (by omega) w)
    clear h b1
    go_enter Try.func50, Try.ntmps50
    go_wp2_with (first | (go_at_call 43; (with_reducible refine (A.out _).mono ?_); rintro _ _ ⟨rfl, X_, rfl⟩) | (go_at_call 43; (with_reducible refine (B.out _).mono ?_); rintro _ _ ⟨rfl, X_, rfl⟩))
    go_ret2
    exact Ret.of (by (repeat (first | exact Below.refl _ _ | with_reducible refine Below.drew ?_ | with_reducible refine Below.ext ?_ (by first | exact Nat.le_refl _ | (simp; done) | (simp; omega)) _ | with_reducible refine Below.alloc ?_ (by first | exact Nat.le_refl _ | (simp; done) | (simp; omega)) _ | with_reducible refine Below.setCell ?_ (by first | exact Nat.le_refl _ | (simp; done) | (simp; omega)) _)))
  · have A := Lib.hid (fun w => div_no a b (by omega) w)
    by_cases d1 : 1 ≤ d
    · have B := Lib.hid (fun w => div_any c d hc d1 hd w)
      clear h b1 d1
      go_enter Try.func50, Try.ntmps50
      go_wp2_with (first | (go_at_call 43; (with_reducible refine (A.out _).mono ?_); rintro _ _ ⟨rfl, X_, rfl⟩) | (go_at_call 43; (with_reducible refine (B.out _).mono ?_); rintro _ _ ⟨rfl, X_, rfl⟩))
      go_ret2
      exact Ret.of (by (repeat (first | exact Below.refl _ _ | with_reducible refine Below.drew ?_ | with_reducible refine Below.ext ?_ (by first | exact Nat.le_refl _ | (simp; done) | (simp; omega)) _ | with_reducible refine Below.alloc ?_ (by first | exact Nat.le_refl _ | (simp; done) | (simp; omega)) _ | with_reducible refine Below.setCell ?_ (by first | exact Nat.le_refl _ | (simp; done) | (simp; omega)) _)))
    · have B := Lib.hid (fun w => div_no c d (by omega) w)
      clear h b1 d1
      go_enter Try.func50, Try.ntmps50
      go_wp2_with (first | (go_at_call 43; (with_reducible refine (A.out _).mono ?_); rintro _ _ ⟨rfl, X_, rfl⟩) | (go_at_call 43; (with_reducible refine (B.out _).mono ?_); rintro _ _ ⟨rfl, X_, rfl⟩))
      go_ret2
      exact Ret.of (by (repeat (first | exact Below.refl _ _ | with_reducible refine Below.drew ?_ | with_reducible refine Below.ext ?_ (by first | exact Nat.le_refl _ | (simp; done) | (simp; omega)) _ | with_reducible refine Below.alloc ?_ (by first | exact Nat.le_refl _ | (simp; done) | (simp; omega)) _ | with_reducible refine Below.setCell ?_ (by first | exact Nat.le_refl _ | (simp; done) | (simp; omega)) _)))
theorem rof_any (n : Int) (hn : sml n) (w : World) : Calls Try.prog 75 #[.int .i64 n] w (Ret (I2 n) w) := by
  unfold sml at hn
  by_cases h : n < 0
  · go_enter Try.func75, Try.ntmps75
    go_wp2
    refine bodyPost_ret (v := I2 n) (by simp [results, Try.results75, go_sem, hiN, loN, IntKind.wrap_u64]; omega) rfl (Ret.of (by (repeat (first | exact Below.refl _ _ | with_reducible refine Below.drew ?_ | with_reducible refine Below.ext ?_ (by first | exact Nat.le_refl _ | (simp; done) | (simp; omega)) _ | with_reducible refine Below.alloc ?_ (by first | exact Nat.le_refl _ | (simp; done) | (simp; omega)) _ | with_reducible refine Below.setCell ?_ (by first | exact Nat.le_refl _ | (simp; done) | (simp; omega)) _))))
  · go_enter Try.func75, Try.ntmps75
    go_wp2
    refine bodyPost_ret (v := I2 n) (by simp [results, Try.results75, go_sem, hiN, loN, IntKind.wrap_u64]; omega) rfl (Ret.of (by (repeat (first | exact Below.refl _ _ | with_reducible refine Below.drew ?_ | with_reducible refine Below.ext ?_ (by first | exact Nat.le_refl _ | (simp; done) | (simp; omega)) _ | with_reducible refine Below.alloc ?_ (by first | exact Nat.le_refl _ | (simp; done) | (simp; omega)) _ | with_reducible refine Below.setCell ?_ (by first | exact Nat.le_refl _ | (simp; done) | (simp; omega)) _))))
set_option maxHeartbeats 4000000 in
theorem awake02 (w : World) : Calls Try.prog 47 #[] w (Ret (.bool true) w) := by
  go_enter Try.func47, Try.ntmps47
  go_wp2_with (first | (go_at_call 65; (with_reducible refine (of_any _ (by decide) _).mono ?_); rintro _ _ ⟨rfl, X_, rfl⟩) | (go_at_call 43; (with_reducible refine (div_any (-7) 2 (by decide) (by decide) (by decide) _).mono ?_); rintro _ _ ⟨rfl, X_, rfl⟩) | (go_at_call 45; (with_reducible refine (root_yes 99 9 (by decide) (by decide) (by decide) (by decide) (by decide) _).mono ?_); rintro _ _ ⟨rfl, X_, rfl⟩) | (go_at_call 50; (with_reducible refine (ratio_any 1 3 2 6 (by decide) (by decide) (by decide) (by decide) (by decide) (by decide) _).mono ?_); rintro _ _ ⟨rfl, X_, rfl⟩))
  refine wp_region_ext (by kernel_rfl) (by kernel_rfl) ?_
  repeat (go_big_quiet_step ((first | (go_at_call 75; with_reducible exact Calls.quiet_ret (rof_any (-4) (by decide) _)))))
  refine wpQuiet_nil ?_
  intro _ hw_ext
  obtain ⟨X, hw_ext⟩ := hw_ext
  subst hw_ext
  go_wp2
  go_ret
  exact Ret.of' (by simp [sgn]) (by (repeat (first | exact Below.refl _ _ | with_reducible refine Below.drew ?_ | with_reducible refine Below.ext ?_ (by first | exact Nat.le_refl _ | (simp; done) | (simp; omega)) _ | with_reducible refine Below.alloc ?_ (by first | exact Nat.le_refl _ | (simp; done) | (simp; omega)) _ | with_reducible refine Below.setCell ?_ (by first | exact Nat.le_refl _ | (simp; done) | (simp; omega)) _)))
end Go.Proofs.Ytmlhbbkgfffmcaa
