/- The walks of layer 2 (xint): sums, differences and products that are numbers of 128 bits. Conditions: 128 bits, 64 bits. -/
import Derived.Test.YtmlhbbkgfffmcaaXintL
namespace Go.Proofs.Ytmlhbbkgfffmcaa
set_option linter.unusedVariables false
set_option linter.unusedSimpArgs false
open Go.RowKit
theorem i2b_yes {z : Int} (h : inR z) : I2b z = .tuple #[I2 z, .bool true] := by rw [I2b, lim_yes h]; simp [h]
theorem i2b_no {z : Int} (h : ¬ inR z) : I2b z = .tuple #[I2 0, .bool false] := by rw [I2b, lim_no h]; simp [h]
theorem add_in (a b : Int) (ha : inR a) (hb : inR b) (h : inR (a + b)) (w : World) : Calls Try.prog 64 #[I2 a, I2 b] w (Ret (.tuple #[I2 (a + b), .bool true]) w) := by
  have := add_any a b ha hb w; rwa [i2b_yes h] at this
theorem sub_in (a b : Int) (ha : inR a) (hb : inR b) (h : inR (a - b)) (w : World) : Calls Try.prog 67 #[I2 a, I2 b] w (Ret (.tuple #[I2 (a - b), .bool true]) w) := by
  have := sub_any a b ha hb w; rwa [i2b_yes h] at this
theorem times_in (a n : Int) (ha : inR a) (hn : sml n) (h : inR (a * n)) (w : World) : Calls Try.prog 66 #[I2 a, .int .i64 n] w (Ret (.tuple #[I2 (a * n), .bool true]) w) := by
  have := times_any a n ha hn w; rwa [i2b_yes h] at this
theorem times_no (a n : Int) (ha : inR a) (hn : sml n) (h : ¬ inR (a * n)) (w : World) : Calls Try.prog 66 #[I2 a, .int .i64 n] w (Ret (.tuple #[I2 0, .bool false]) w) := by
  have := times_any a n ha hn w; rwa [i2b_no h] at this
theorem i2_val (h l : Int) (l0 : 0 ≤ l) (l1 : l ≤ 18446744073709551615) : (.agg #[.int .i64 h, .int .u64 l] : Value) = I2 (h * 18446744073709551616 + l) := by
  obtain ⟨a, b⟩ := i2_of (z := h * 18446744073709551616 + l) rfl l0 (by omega)
  rw [I2, ← a, ← b]
theorem i2_inR {h l : Int} (h0 : -9223372036854775808 ≤ h) (h1 : h ≤ 9223372036854775807) (l0 : 0 ≤ l) (l1 : l ≤ 18446744073709551615) : inR (h * 18446744073709551616 + l) := by unfold inR; omega
/-- A root there is. -/
theorem root_nat : ∀ a : Nat, ∃ n : Nat, n * n ≤ a ∧ a < (n + 1) * (n + 1)
  | 0 => ⟨0, by decide, by decide⟩
  | a + 1 => by
    obtain ⟨n, h0, h1⟩ := root_nat a
    by_cases h : a + 1 < (n + 1) * (n + 1)
    · exact ⟨n, by omega, h⟩
    · refine ⟨n + 1, by omega, ?_⟩
      have : (n + 1 + 1) * (n + 1 + 1) = (n + 1) * (n + 1) + 2 * n + 3 := by grind
      omega
theorem root_ex {a : Int} (h : 0 ≤ a) : ∃ n : Int, 0 ≤ n ∧ n * n ≤ a ∧ a < (n + 1) * (n + 1) := by
  obtain ⟨a, rfl⟩ := Int.eq_ofNat_of_zero_le h
  obtain ⟨n, h0, h1⟩ := root_nat a
  refine ⟨n, by omega, ?_, ?_⟩
  · rw [← Int.natCast_mul]; omega
  · rw [show ((n : Int) + 1) = ((n + 1 : Nat) : Int) by omega, ← Int.natCast_mul]; omega
end Go.Proofs.Ytmlhbbkgfffmcaa
