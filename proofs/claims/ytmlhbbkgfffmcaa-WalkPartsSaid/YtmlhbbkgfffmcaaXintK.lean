/- The walk of xint.Div: the quotient, rounded down, and what is left. Conditions: 128 bits, 64 bits. -/
import Derived.Test.YtmlhbbkgfffmcaaXintJ
import Derived.Test.YtmlhbbkgfffmcaaXintD
import Derived.Outline
namespace Go.Proofs.Ytmlhbbkgfffmcaa
set_option linter.unusedVariables false
set_option linter.unusedSimpArgs false
open Go.RowKit
theorem div64_any (hi lo y : Int) (h0 : 0 ≤ hi) (h1 : hi < y) (l0 : 0 ≤ lo) (l1 : lo < 18446744073709551616) (y1 : y < 18446744073709551616) (w : World) :
    Calls Try.prog 102 #[.int .u64 hi, .int .u64 lo, .int .u64 y] w (Ret (.tuple #[.int .u64 ((hi * 18446744073709551616 + lo) / y), .int .u64 ((hi * 18446744073709551616 + lo) % y)]) w) := by
  by_cases h : 0 < hi
  · exact div64_pos hi lo y h h1 l0 l1 y1 w
  · obtain rfl : hi = 0 := by omega
    have := div64_zero lo y l0 l1 (by omega) y1 w
    simpa using this
/-- A division by halves. -/
theorem halves {A H L m : Int} (e : H * 18446744073709551616 + L = A) (h0 : 0 ≤ H) (l0 : 0 ≤ L) (l1 : L < 18446744073709551616) (hm : 0 < m) :
    A / m = H / m * 18446744073709551616 + (H % m * 18446744073709551616 + L) / m ∧ A % m = (H % m * 18446744073709551616 + L) % m ∧ 0 ≤ (H % m * 18446744073709551616 + L) / m ∧ (H % m * 18446744073709551616 + L) / m < 18446744073709551616 ∧ 0 ≤ H / m ∧ H / m ≤ H ∧ 0 ≤ H % m ∧ H % m < m := by
  have em := Int.emod_add_mul_ediv H m
  have m0 := Int.emod_nonneg H (show m ≠ 0 by omega)
  have m1 := Int.emod_lt_of_pos H hm
  have q0 := Int.ediv_nonneg h0 (show 0 ≤ m by omega)
  have q1 := Int.ediv_le_self m h0
  have e2 : A = (H % m * 18446744073709551616 + L) + m * (H / m * 18446744073709551616) := by
    have : m * (H / m * 18446744073709551616) = m * (H / m) * 18446744073709551616 := by grind
    omega
  refine ⟨?_, ?_, Int.ediv_nonneg (by omega) (by omega), Int.ediv_lt_of_lt_mul hm (by omega), q0, q1, m0, m1⟩
  · rw [e2, Int.add_mul_ediv_left _ _ (by omega)]; omega
  · rw [e2, Int.add_mul_emod_self_left]
set_option maxHeartbeats 4000000 in
theorem div_plus (a d : Int) (ha : inR a) (h0 : 0 ≤ a) (d1 : 1 ≤ d) (hd : sml d) (w : World) : Calls Try.prog 43 #[I2 a, .int .i64 d] w (Ret (.tuple #[I2 (a / d), .int .i64 (a % d), .bool true]) w) := by
  obtain ⟨e, l0, l1⟩ := hilo a
  obtain ⟨-, u1⟩ := hiR ha
  have u0 : 0 ≤ hiN a := by omega
  have d2 : d ≤ 9223372036854775807 := hd.2
  obtain ⟨q1, q2, q3, q4, q5, q6, q7, q8⟩ := halves e u0 l0 l1 (show 0 < d by omega)
  have r0 := Int.emod_nonneg a (show d ≠ 0 by omega)
  have r1 := Int.emod_lt_of_pos a (show 0 < d by omega)
  have D := Lib.hid (fun w => div64_any (hiN a % d) (loN a) d q7 q8 l0 l1 (by omega) w)
  rw [← q2] at D
  have t1 : (hiN a).tdiv d = hiN a / d := Int.tdiv_eq_ediv_of_nonneg u0
  have t2 : (hiN a).tmod d = hiN a % d := Int.tmod_eq_emod_of_nonneg u0
  obtain ⟨v1, v2⟩ := i2_of q1.symm q3 q4
  have V := Lib.hid (show _ ∧ _ from ⟨v1, v2⟩)
  have dz : (d == 0) = false := by simp; omega
  clear q1 q2 v1 v2 e hd ha
  go_enter Try.func43, Try.ntmps43
  go_wp2
  refine wp_region_ext (by kernel_rfl) (by kernel_rfl) ?_
  repeat (go_big_quiet_step ((first | (go_at_call 102; with_reducible exact Calls.quiet_ret (D.out _)))))
  refine wpQuiet_nil ?_
  intro _ hw_ext
  obtain ⟨X, hw_ext⟩ := hw_ext
  subst hw_ext
  go_wp2
  refine bodyPost_ret (v := .tuple #[I2 (a / d), .int .i64 (a % d), .bool true]) ?_ rfl (Ret.of ?_)
  · simp [results, Try.results43, go_sem, V.out]
  · (repeat (first | exact Below.refl _ _ | with_reducible refine Below.drew ?_ | with_reducible refine Below.ext ?_ (by first | exact Nat.le_refl _ | (simp; done) | (simp; omega)) _ | with_reducible refine Below.alloc ?_ (by first | exact Nat.le_refl _ | (simp; done) | (simp; omega)) _ | with_reducible refine Below.setCell ?_ (by first | exact Nat.le_refl _ | (simp; done) | (simp; omega)) _))
theorem div_no (a d : Int) (d1 : d < 1) (w : World) : Calls Try.prog 43 #[I2 a, .int .i64 d] w (Ret (.tuple #[I2 0, .int .i64 0, .bool false]) w) := by
  go_enter Try.func43, Try.ntmps43
  go_wp2
  refine bodyPost_ret (v := .tuple #[I2 0, .int .i64 0, .bool false]) ?_ rfl (Ret.of ?_)
  · simp [results, Try.results43, go_sem, hiN, loN]
  · (repeat (first | exact Below.refl _ _ | with_reducible refine Below.drew ?_ | with_reducible refine Below.ext ?_ (by first | exact Nat.le_refl _ | (simp; done) | (simp; omega)) _ | with_reducible refine Below.alloc ?_ (by first | exact Nat.le_refl _ | (simp; done) | (simp; omega)) _ | with_reducible refine Below.setCell ?_ (by first | exact Nat.le_refl _ | (simp; done) | (simp; omega)) _))
theorem neg_div {A d : Int} (hd : 0 < d) : (A % d = 0 → -A / d = -(A / d) ∧ -A % d = 0) ∧ (A % d ≠ 0 → -A / d = -(A / d) - 1 ∧ -A % d = d - A % d) := by
  have em := Int.emod_add_mul_ediv A d
  have m0 := Int.emod_nonneg A (show d ≠ 0 by omega)
  have m1 := Int.emod_lt_of_pos A hd
  refine ⟨fun h => ?_, fun h => ?_⟩
  · have e : -A = 0 + d * (-(A / d)) := by rw [Int.mul_neg]; omega
    constructor
    · rw [e, Int.add_mul_ediv_left _ _ (by omega)]; simp
    · rw [e, Int.add_mul_emod_self_left]; simp
  · have e : -A = (d - A % d) + d * (-(A / d) - 1) := by
      have : d * (-(A / d) - 1) = -(d * (A / d)) - d := by grind
      omega
    constructor
    · rw [e, Int.add_mul_ediv_left _ _ (by omega), Int.ediv_eq_zero_of_lt (by omega) (by omega)]; omega
    · rw [e, Int.add_mul_emod_self_left, Int.emod_eq_of_lt (by omega) (by omega)]
/-- The quotient without a sign, as a number of 128 bits. -/
def qs (Q : Int) : Int := if Q < 170141183460469231731687303715884105728 then Q else -170141183460469231731687303715884105728
theorem qs_of {Q : Int} (q0 : 0 ≤ Q) (q1 : Q ≤ 170141183460469231731687303715884105728) : inR (qs Q) ∧ trn (qs Q) = -Q := by
  unfold qs inR trn
  split
  · rw [if_neg (by omega)]; omega
  · rw [if_pos rfl]; omega
theorem qs_hilo {Q h l : Int} (e : Q = h * 18446744073709551616 + l) (q0 : 0 ≤ Q) (q1 : Q ≤ 170141183460469231731687303715884105728) (l0 : 0 ≤ l) (l1 : l < 18446744073709551616) : wrap64 h = hiN (qs Q) ∧ l = loN (qs Q) := by
  unfold qs hiN loN wrap64; split <;> omega
theorem sub_one (Q : Int) (q0 : 0 ≤ Q) (q1 : Q < 170141183460469231731687303715884105728) (w : World) : Calls Try.prog 67 #[I2 (-Q), .agg #[.int .i64 0, .int .u64 1]] w (Ret (.tuple #[I2 (-Q - 1), .bool true]) w) := by
  have h := sub_any (-Q) 1 (by unfold inR; omega) (by decide) w
  have hin : inR (-Q - 1) := by unfold inR; omega
  rw [show I2b (-Q - 1) = .tuple #[I2 (-Q - 1), .bool true] by rw [I2b, lim_yes hin]; simp [hin]] at h
  exact h
set_option maxHeartbeats 4000000 in
theorem div_minus (a d : Int) (ha : inR a) (h0 : a < 0) (d1 : 1 ≤ d) (hd : sml d) (w : World) : Calls Try.prog 43 #[I2 a, .int .i64 d] w (Ret (.tuple #[I2 (a / d), .int .i64 (a % d), .bool true]) w) := by
  have e := trn_abs ha h0
  obtain ⟨-, l0, l1⟩ := hilo (trn a)
  have TA := Lib.hid (fun w => turned_any a ha w)
  have hn : hiN a < 0 := by obtain ⟨e, l0, l1⟩ := hilo a; omega
  have d2 : d ≤ 9223372036854775807 := hd.2
  have u0 : 0 ≤ IntKind.u64.wrap (hiN (trn a)) ∧ IntKind.u64.wrap (hiN (trn a)) < 18446744073709551616 := by rw [IntKind.wrap_u64]; omega
  obtain ⟨H, hH⟩ : ∃ H, H = IntKind.u64.wrap (hiN (trn a)) := ⟨_, rfl⟩
  rw [← hH] at e u0
  obtain ⟨q1, q2, q3, q4, q5, q6, q7, q8⟩ := halves e u0.1 l0 l1 (show 0 < d by omega)
  obtain ⟨A, hA⟩ : ∃ A, A = -a := ⟨_, rfl⟩
  rw [← hA] at q1 q2
  have A0 : 0 ≤ A := by omega
  have A1 : A ≤ 170141183460469231731687303715884105728 := by unfold inR at ha; omega
  have Q0 := Int.ediv_nonneg A0 (show 0 ≤ d by omega)
  have Q1 := Int.ediv_le_self d A0
  have r0 := Int.emod_nonneg A (show d ≠ 0 by omega)
  have r1 := Int.emod_lt_of_pos A (show 0 < d by omega)
  have em := Int.emod_add_mul_ediv A d
  have D := Lib.hid (fun w => div64_any (H % d) (loN (trn a)) d q7 q8 l0 l1 (by omega) w)
  rw [← q2] at D
  have t1 : H.tdiv d = H / d := Int.tdiv_eq_ediv_of_nonneg u0.1
  have t2 : H.tmod d = H % d := Int.tmod_eq_emod_of_nonneg u0.1
  obtain ⟨v1, v2⟩ := qs_hilo q1 Q0 (by omega) q3 q4
  obtain ⟨w1, w2⟩ := qs_of Q0 (show A / d ≤ 170141183460469231731687303715884105728 by omega)
  have TQ := Lib.hid (fun w => turned_any (qs (A / d)) w1 w)
  rw [w2] at TQ
  have dz : (d == 0) = false := by simp; omega
  obtain ⟨n1, n2⟩ := neg_div (A := A) (d := d) (by omega)
  rw [show -A = a by omega] at n1 n2
  have hh := hH.symm
  have QL : A % d ≠ 0 → A / d < 170141183460469231731687303715884105728 := fun h => by
    by_cases hd1 : d = 1
    · subst hd1; omega
    · have : A / d * 2 ≤ d * (A / d) := by rw [Int.mul_comm]; exact Int.mul_le_mul_of_nonneg_right (by omega) Q0
      omega
  by_cases z : A % d = 0
  · obtain ⟨n3, n4⟩ := n1 z
    rw [n3, n4]
    have dzz : (A % d == 0) = true := by simp [z]
    clear n1 n2 n3 n4 QL q1 q2 e hd ha hA hH w2 z em
    go_enter Try.func43, Try.ntmps43
    go_wp2_with (first | (go_at_call 101; (with_reducible refine (TA.out _).mono ?_); rintro _ _ ⟨rfl, X_, rfl⟩))
    refine wp_region_ext (by kernel_rfl) (by kernel_rfl) ?_
    repeat (go_big_quiet_step ((first | (go_at_call 102; with_reducible exact Calls.quiet_ret (D.out _)))))
    refine wpQuiet_nil ?_
    intro _ hw_ext
    obtain ⟨X, hw_ext⟩ := hw_ext
    subst hw_ext
    go_wp2_with (first | (go_at_call 101; (with_reducible refine (TQ.out _).mono ?_); rintro _ _ ⟨rfl, X_, rfl⟩))
    refine bodyPost_ret (v := .tuple #[I2 (-(A / d)), .int .i64 0, .bool true]) ?_ rfl (Ret.of ?_)
    · simp [results, Try.results43, go_sem]
    · (repeat (first | exact Below.refl _ _ | with_reducible refine Below.drew ?_ | with_reducible refine Below.ext ?_ (by first | exact Nat.le_refl _ | (simp; done) | (simp; omega)) _ | with_reducible refine Below.alloc ?_ (by first | exact Nat.le_refl _ | (simp; done) | (simp; omega)) _ | with_reducible refine Below.setCell ?_ (by first | exact Nat.le_refl _ | (simp; done) | (simp; omega)) _))
  · obtain ⟨n3, n4⟩ := n2 z
    rw [n3, n4]
    have dzz : (A % d == 0) = false := by simp [z]
    have SO := Lib.hid (fun w => sub_one (A / d) Q0 (QL z) w)
    clear n1 n2 n3 n4 QL q1 q2 e hd ha hA hH w2 z em
    go_enter Try.func43, Try.ntmps43
    go_wp2_with (first | (go_at_call 101; (with_reducible refine (TA.out _).mono ?_); rintro _ _ ⟨rfl, X_, rfl⟩))
    refine wp_region_ext (by kernel_rfl) (by kernel_rfl) ?_
    repeat (go_big_quiet_step ((first | (go_at_call 102; with_reducible exact Calls.quiet_ret (D.out _)))))
    refine wpQuiet_nil ?_
    intro _ hw_ext
    obtain ⟨X, hw_ext⟩ := hw_ext
    subst hw_ext
    go_wp2_with (first | (go_at_call 101; (with_reducible refine (TQ.out _).mono ?_); rintro _ _ ⟨rfl, X_, rfl⟩) | (go_at_call 67; (with_reducible refine (SO.out _).mono ?_); rintro _ _ ⟨rfl, X_, rfl⟩))
    refine bodyPost_ret (v := .tuple #[I2 (-(A / d) - 1), .int .i64 (d - A % d), .bool true]) ?_ rfl (Ret.of ?_)
    · simp [results, Try.results43, go_sem]
    · (repeat (first | exact Below.refl _ _ | with_reducible refine Below.drew ?_ | with_reducible refine Below.ext ?_ (by first | exact Nat.le_refl _ | (simp; done) | (simp; omega)) _ | with_reducible refine Below.alloc ?_ (by first | exact Nat.le_refl _ | (simp; done) | (simp; omega)) _ | with_reducible refine Below.setCell ?_ (by first | exact Nat.le_refl _ | (simp; done) | (simp; omega)) _))
theorem div_any (a d : Int) (ha : inR a) (d1 : 1 ≤ d) (hd : sml d) (w : World) : Calls Try.prog 43 #[I2 a, .int .i64 d] w (Ret (.tuple #[I2 (a / d), .int .i64 (a % d), .bool true]) w) := by
  by_cases h : 0 ≤ a
  · exact div_plus a d ha h d1 hd w
  · exact div_minus a d ha (by omega) d1 hd w
theorem div_in {a d : Int} (ha : inR a) (d1 : 1 ≤ d) : inR (a / d) := by
  unfold inR at *
  by_cases h : 0 ≤ a
  · have := Int.ediv_nonneg h (show 0 ≤ d by omega); have := Int.ediv_le_self d h; omega
  · have h2 := Int.ediv_nonneg (show 0 ≤ -a by omega) (show 0 ≤ d by omega)
    have h3 : (-1 - a) / d ≤ -1 - a := Int.ediv_le_self d (by omega)
    have h4 := Int.ediv_nonneg (show 0 ≤ -1 - a by omega) (show 0 ≤ d by omega)
    have h1 : a / d = -1 - (-1 - a) / d := by
      have em := Int.emod_add_mul_ediv (-1 - a) d
      have m0 := Int.emod_nonneg (-1 - a) (show d ≠ 0 by omega)
      have m1 := Int.emod_lt_of_pos (-1 - a) (show 0 < d by omega)
      have e : a = (d - 1 - (-1 - a) % d) + d * (-1 - (-1 - a) / d) := by
        have : d * (-1 - (-1 - a) / d) = -d - d * ((-1 - a) / d) := by grind
        omega
      have e2 : a / d = ((d - 1 - (-1 - a) % d) + d * (-1 - (-1 - a) / d)) / d := by rw [← e]
      rw [e2, Int.add_mul_ediv_left _ _ (by omega), Int.ediv_eq_zero_of_lt (by omega) (by omega)]; omega
    omega
end Go.Proofs.Ytmlhbbkgfffmcaa
