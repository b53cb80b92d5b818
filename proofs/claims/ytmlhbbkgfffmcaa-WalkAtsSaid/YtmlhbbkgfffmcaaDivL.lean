/- Plain laws of a division by halves (math/bits.Div64), over the integers. No program. -/
import Derived.Test.YtmlhbbkgfffmcaaBase
namespace Go.Proofs.Ytmlhbbkgfffmcaa
set_option linter.unusedVariables false
set_option linter.unusedSimpArgs false
/-- What the guess of a digit keeps. -/
structure Guess (U Y1 Y0 N1 q r : Int) : Prop where
  eq : r = U - q * Y1
  le : (U * 4294967296 + N1) / (Y1 * 4294967296 + Y0) ≤ q
  r0 : 0 ≤ r
  r1 : r < 4294967296
  q1 : q ≤ 4294967297
structure Digit (U Y1 Y0 N1 : Int) : Prop where
  a0 : 2147483648 ≤ Y1
  a1 : Y1 < 4294967296
  b0 : 0 ≤ Y0
  b1 : Y0 < 4294967296
  u0 : 0 ≤ U
  u1 : U < Y1 * 4294967296 + Y0
  n0 : 0 ≤ N1
  n1 : N1 < 4294967296
section
variable {U Y1 Y0 N1 q r : Int}
theorem Digit.quot (h : Digit U Y1 Y0 N1) : 0 ≤ (U * 4294967296 + N1) / (Y1 * 4294967296 + Y0) ∧ (U * 4294967296 + N1) / (Y1 * 4294967296 + Y0) < 4294967296 := by
  obtain ⟨a0, a1, b0, b1, u0, u1, n0, n1⟩ := h
  refine ⟨Int.ediv_nonneg (by omega) (by omega), Int.ediv_lt_of_lt_mul (by omega) ?_⟩
  omega
theorem le_ediv {a b c : Int} (hc : 0 < c) (h : a * c ≤ b) : a ≤ b / c := (Int.le_ediv_iff_mul_le hc).2 h
theorem mul_ge {a b c : Int} (h : a ≤ b) (hc : 0 ≤ c) : a * c ≤ b * c := Int.mul_le_mul_of_nonneg_right h hc
theorem Digit.start (h : Digit U Y1 Y0 N1) : Guess U Y1 Y0 N1 (U / Y1) (U - U / Y1 * Y1) := by
  have hq := h.quot
  obtain ⟨a0, a1, b0, b1, u0, u1, n0, n1⟩ := h
  have e := Int.emod_add_mul_ediv U Y1
  have m0 := Int.emod_nonneg U (show Y1 ≠ 0 by omega)
  have m1 := Int.emod_lt_of_pos U (show 0 < Y1 by omega)
  have c : U / Y1 * Y1 = Y1 * (U / Y1) := Int.mul_comm _ _
  refine ⟨rfl, ?_, by omega, by omega, ?_⟩
  · refine le_ediv (by omega) ?_
    have l := Int.ediv_mul_le (U * 4294967296 + N1) (show Y1 * 4294967296 + Y0 ≠ 0 by omega)
    generalize (U * 4294967296 + N1) / (Y1 * 4294967296 + Y0) = Q at *
    have p : 0 ≤ Q * Y0 := Int.mul_nonneg hq.1 b0
    have e2 : Q * (Y1 * 4294967296 + Y0) = Q * Y1 * 4294967296 + Q * Y0 := by grind
    omega
  · have : U / Y1 < 4294967298 := by
      refine Int.ediv_lt_of_lt_mul (by omega) ?_
      omega
    omega
theorem Guess.q0 (g : Guess U Y1 Y0 N1 q r) (h : Digit U Y1 Y0 N1) : 0 ≤ q := by have := h.quot; have := g.le; omega
theorem Guess.small (g : Guess U Y1 Y0 N1 q r) (h : Digit U Y1 Y0 N1) : 0 ≤ q * Y0 ∧ q * Y0 < 18446744073709551616 ∧ 0 ≤ q * Y1 ∧ q * Y1 ≤ U := by
  have q0 := g.q0 h
  obtain ⟨gr, -, r0, r1, q1⟩ := g
  obtain ⟨a0, a1, b0, b1, u0, u1, n0, n1⟩ := h
  have x1 := Int.mul_nonneg q0 b0
  have x2 := Int.mul_nonneg q0 (show 0 ≤ Y1 by omega)
  have x3 : q * Y0 ≤ 4294967297 * 4294967295 := Int.mul_le_mul q1 (by omega) b0 (by omega)
  omega
theorem Guess.high (g : Guess U Y1 Y0 N1 q r) (h : Digit U Y1 Y0 N1) (t : 4294967296 ≤ q ∨ 4294967296 * r + N1 < q * Y0) : (U * 4294967296 + N1) / (Y1 * 4294967296 + Y0) ≤ q - 1 := by
  have hq := h.quot
  have q0 := g.q0 h
  rcases t with t | t
  · omega
  · obtain ⟨gr, -, r0, r1, q1⟩ := g
    obtain ⟨a0, a1, b0, b1, u0, u1, n0, n1⟩ := h
    have : (U * 4294967296 + N1) / (Y1 * 4294967296 + Y0) < q := by
      refine Int.ediv_lt_of_lt_mul (by omega) ?_
      have e2 : q * (Y1 * 4294967296 + Y0) = q * Y1 * 4294967296 + q * Y0 := by grind
      omega
    omega
theorem Guess.low (g : Guess U Y1 Y0 N1 q r) (h : Digit U Y1 Y0 N1) (t : q * Y0 ≤ 4294967296 * r + N1) : q = (U * 4294967296 + N1) / (Y1 * 4294967296 + Y0) := by
  have hle := g.le
  have q0 := g.q0 h
  obtain ⟨gr, -, r0, r1, q1⟩ := g
  obtain ⟨a0, a1, b0, b1, u0, u1, n0, n1⟩ := h
  have : q ≤ (U * 4294967296 + N1) / (Y1 * 4294967296 + Y0) := by
    refine le_ediv (by omega) ?_
    have e2 : q * (Y1 * 4294967296 + Y0) = q * Y1 * 4294967296 + q * Y0 := by grind
    omega
  omega
theorem Guess.next (g : Guess U Y1 Y0 N1 q r) (h : Digit U Y1 Y0 N1) (t : 4294967296 ≤ q ∨ 4294967296 * r + N1 < q * Y0) (hr : r + Y1 < 4294967296) : Guess U Y1 Y0 N1 (q - 1) (r + Y1) := by
  have := g.high h t
  obtain ⟨gr, -, r0, r1, q1⟩ := g
  have := h.a0
  refine ⟨?_, by assumption, by omega, hr, by omega⟩
  have : (q - 1) * Y1 = q * Y1 - Y1 := by grind
  omega
theorem Guess.stop (g : Guess U Y1 Y0 N1 q r) (h : Digit U Y1 Y0 N1) (t : 4294967296 ≤ q ∨ 4294967296 * r + N1 < q * Y0) (hr : 4294967296 ≤ r + Y1) : q - 1 = (U * 4294967296 + N1) / (Y1 * 4294967296 + Y0) := by
  have hh := g.high h t
  have hq := h.quot
  obtain ⟨gr, -, r0, r1, q1⟩ := g
  obtain ⟨a0, a1, b0, b1, u0, u1, n0, n1⟩ := h
  have : q - 1 ≤ (U * 4294967296 + N1) / (Y1 * 4294967296 + Y0) := by
    refine le_ediv (by omega) ?_
    have e2 : (q - 1) * (Y1 * 4294967296 + Y0) = q * Y1 * 4294967296 - Y1 * 4294967296 + (q - 1) * Y0 := by grind
    have x3 : (q - 1) * Y0 ≤ 4294967296 * 4294967295 := Int.mul_le_mul (by omega) (by omega) b0 (by omega)
    omega
  omega
end
/-- Two digits make the quotient. -/
theorem two_digits {U Y N1 N0 : Int} (hY : 0 < Y) (hN0 : 0 ≤ N0) (hN1 : 0 ≤ N1) (hU : 0 ≤ U) : (U * 18446744073709551616 + (N1 * 4294967296 + N0)) / Y = (U * 4294967296 + N1) / Y * 4294967296 + ((U * 4294967296 + N1) % Y * 4294967296 + N0) / Y ∧
    (U * 18446744073709551616 + (N1 * 4294967296 + N0)) % Y = ((U * 4294967296 + N1) % Y * 4294967296 + N0) % Y := by
  have e := Int.emod_add_mul_ediv (U * 4294967296 + N1) Y
  generalize (U * 4294967296 + N1) / Y = q1 at *
  generalize (U * 4294967296 + N1) % Y = r1 at *
  have e2 : U * 18446744073709551616 + (N1 * 4294967296 + N0) = r1 * 4294967296 + N0 + Y * (q1 * 4294967296) := by grind
  rw [e2, Int.add_mul_ediv_left _ _ (by omega), Int.add_mul_emod_self_left]
  omega
/-- A division whose both sides are shifted. -/
theorem div_shift {V y t : Int} (ht : 0 < t) : V * t / (y * t) = V / y ∧ V * t % (y * t) / t = V % y := by
  refine ⟨Int.mul_ediv_mul_of_pos_left _ _ ht, ?_⟩
  rw [Int.mul_comm V t, Int.mul_comm y t, Int.mul_emod_mul_of_pos _ _ ht]
  exact Int.mul_ediv_cancel_left _ (by omega)
end Go.Proofs.Ytmlhbbkgfffmcaa
