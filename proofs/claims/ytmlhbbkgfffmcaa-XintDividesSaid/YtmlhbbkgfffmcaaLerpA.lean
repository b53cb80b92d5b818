/- The walks of layer 16 (lerp): what stands between two numbers; its closure. Conditions: the numbers are small. -/
import Derived.Test.YtmlhbbkgfffmcaaXintM
import Derived.Test.YtmlhbbkgfffmcaaRow
namespace Go.Proofs.Ytmlhbbkgfffmcaa
set_option linter.unusedVariables false
set_option linter.unusedSimpArgs false
open Go.RowKit
/-- What stands n d-ths on the way. -/
def mid (p q n d : Int) : Int := if d < 1 ∨ n ≤ 0 then p else if d ≤ n then q else p + (q - p) * n / d
theorem mid_p {p q n d : Int} (h : d < 1 ∨ n ≤ 0) : mid p q n d = p := if_pos h
theorem mid_q {p q n d : Int} (h : ¬ (d < 1 ∨ n ≤ 0)) (h2 : d ≤ n) : mid p q n d = q := by unfold mid; rw [if_neg h, if_pos h2]
theorem mid_m {p q n d : Int} (h : ¬ (d < 1 ∨ n ≤ 0)) (h2 : ¬ d ≤ n) : mid p q n d = p + (q - p) * n / d := by unfold mid; rw [if_neg h, if_neg h2]
/-- A part of a difference lies between. -/
theorem part_in {x n d : Int} (n0 : 0 < n) (nd : n < d) : (0 ≤ x → 0 ≤ x * n / d ∧ x * n / d ≤ x) ∧ (x ≤ 0 → x ≤ x * n / d ∧ x * n / d ≤ 0) := by
  have dp : 0 < d := by omega
  refine ⟨fun h => ⟨?_, ?_⟩, fun h => ⟨?_, ?_⟩⟩
  · exact Int.ediv_nonneg (Int.mul_nonneg h (by omega)) (by omega)
  · have := Int.mul_le_mul_of_nonneg_left (show n ≤ d by omega) h
    exact Int.le_trans (Int.ediv_le_ediv dp this) (by rw [Int.mul_ediv_cancel _ (by omega)]; exact Int.le_refl _)
  · have : x * d ≤ x * n := Int.mul_le_mul_of_nonpos_left h (show n ≤ d by omega)
    exact (Int.le_ediv_iff_mul_le dp).2 this
  · have : x * n ≤ 0 := Int.mul_nonpos_of_nonpos_of_nonneg h (by omega)
    have := Int.ediv_le_ediv dp this
    simpa using this
theorem mid_between (p q n d : Int) : (p ≤ q → p ≤ mid p q n d ∧ mid p q n d ≤ q) ∧ (q ≤ p → q ≤ mid p q n d ∧ mid p q n d ≤ p) := by
  by_cases h : d < 1 ∨ n ≤ 0
  · rw [mid_p h]; omega
  · by_cases h2 : d ≤ n
    · rw [mid_q h h2]; omega
    · rw [mid_m h h2]
      have := part_in (x := q - p) (n := n) (d := d) (by omega) (by omega)
      omega
/-- A number such as is mixed. -/
def tame (p : Int) : Prop := -4611686018427387904 ≤ p ∧ p ≤ 4611686018427387903
theorem mid_tame {p q : Int} (n d : Int) (hp : tame p) (hq : tame q) : tame (mid p q n d) := by
  have := mid_between p q n d; unfold tame at *; omega
set_option maxHeartbeats 4000000 in
theorem mid_any (p q n d : Int) (hp : tame p) (hq : tame q) (hn : sml n) (hd : sml d) (w : World) : Calls Try.prog 34 #[.int .i64 p, .int .i64 q, .int .i64 n, .int .i64 d] w (Ret (.int .i64 (mid p q n d)) w) := by
  obtain ⟨hd0, hd1⟩ := hd
  obtain ⟨hn0, hn1⟩ := hn
  obtain ⟨hp0, hp1⟩ := hp
  obtain ⟨hq0, hq1⟩ := hq
  by_cases h : d < 1 ∨ n ≤ 0
  · rw [mid_p h]
    go_enter Try.func34, Try.ntmps34
    go_wp2
    all_goals first
      | (exfalso; omega)
      | (go_ret; exact Ret.of (by (repeat (first | exact Below.refl _ _ | with_reducible refine Below.drew ?_ | with_reducible refine Below.ext ?_ (by first | exact Nat.le_refl _ | (simp; done) | (simp; omega)) _ | with_reducible refine Below.alloc ?_ (by first | exact Nat.le_refl _ | (simp; done) | (simp; omega)) _ | with_reducible refine Below.setCell ?_ (by first | exact Nat.le_refl _ | (simp; done) | (simp; omega)) _))))
  · by_cases h2 : d ≤ n
    · rw [mid_q h h2]
      have n0 : 0 < n := by omega
      have d0 : 1 ≤ d := by omega
      clear h
      go_enter Try.func34, Try.ntmps34
      go_wp2
      go_ret; exact Ret.of (by (repeat (first | exact Below.refl _ _ | with_reducible refine Below.drew ?_ | with_reducible refine Below.ext ?_ (by first | exact Nat.le_refl _ | (simp; done) | (simp; omega)) _ | with_reducible refine Below.alloc ?_ (by first | exact Nat.le_refl _ | (simp; done) | (simp; omega)) _ | with_reducible refine Below.setCell ?_ (by first | exact Nat.le_refl _ | (simp; done) | (simp; omega)) _)))
    · rw [mid_m h h2]
      have n0 : 0 < n := by omega
      have d0 : 1 ≤ d := by omega
      have nd : n < d := by omega
      have hs : sml (q - p) := by unfold sml; omega
      have M := Lib.hid (fun w => mul_any (q - p) n hs ⟨hn0, hn1⟩ w)
      have D := Lib.hid (fun w => div_any ((q - p) * n) d (mul_in hs ⟨hn0, hn1⟩) d0 ⟨hd0, hd1⟩ w)
      have pi := part_in (x := q - p) n0 nd
      have hy : sml ((q - p) * n / d) := by unfold sml; omega
      have S := Lib.hid (fun w => small_any ((q - p) * n / d) (sml_in hy) w)
      rw [smlV_yes hy, show decide (sml ((q - p) * n / d)) = true by simp [hy]] at S
      have b0 : -9223372036854775808 ≤ p + (q - p) * n / d ∧ p + (q - p) * n / d ≤ 9223372036854775807 := by omega
      obtain ⟨b0, b1⟩ := b0
      generalize (q - p) * n / d = Y at *
      clear h h2 pi hs hy
      go_enter Try.func34, Try.ntmps34
      go_wp2_with (first | (go_at_call 48; (with_reducible refine (M.out _).mono ?_); rintro _ _ ⟨rfl, X_, rfl⟩) | (go_at_call 43; (with_reducible refine (D.out _).mono ?_); rintro _ _ ⟨rfl, X_, rfl⟩) | (go_at_call 68; (with_reducible refine (S.out _).mono ?_); rintro _ _ ⟨rfl, X_, rfl⟩))
      go_ret; exact Ret.of (by (repeat (first | exact Below.refl _ _ | with_reducible refine Below.drew ?_ | with_reducible refine Below.ext ?_ (by first | exact Nat.le_refl _ | (simp; done) | (simp; omega)) _ | with_reducible refine Below.alloc ?_ (by first | exact Nat.le_refl _ | (simp; done) | (simp; omega)) _ | with_reducible refine Below.setCell ?_ (by first | exact Nat.le_refl _ | (simp; done) | (simp; omega)) _)))
theorem mixfn_any (p q n d : Int) (hp : tame p) (hq : tame q) (hn : sml n) (hd : sml d) (bn bd : Nat) (w : World) (h1 : Row w bn #[.int .i64 n] 3) (h2 : Row w bd #[.int .i64 d] 3) :
    Calls Try.prog 142 #[.int .i64 p, .int .i64 q, .pointer (some ⟨bn, 0, none⟩), .pointer (some ⟨bd, 0, none⟩)] w (Ret (.int .i64 (mid p q n d)) w) := by
  have c1 : w.cell? ⟨bn, 0, none⟩ = some (.int .i64 n) := h1.cell 0
  have c2 : w.cell? ⟨bd, 0, none⟩ = some (.int .i64 d) := h2.cell 0
  have M := Lib.hid (fun w => mid_any p q n d hp hq hn hd w)
  go_enter Try.func142, Try.ntmps142
  go_wp2_with (first | (go_at_call 34; (with_reducible refine (M.out _).mono ?_); rintro _ _ ⟨rfl, X_, rfl⟩))
  go_ret
  exact Ret.of (by (repeat (first | exact Below.refl _ _ | with_reducible refine Below.drew ?_ | with_reducible refine Below.ext ?_ (by first | exact Nat.le_refl _ | (simp; done) | (simp; omega)) _ | with_reducible refine Below.alloc ?_ (by first | exact Nat.le_refl _ | (simp; done) | (simp; omega)) _ | with_reducible refine Below.setCell ?_ (by first | exact Nat.le_refl _ | (simp; done) | (simp; omega)) _)))
/-- The closure that mixes. -/
abbrev mixV (bn bd : Nat) : Value := .func (.func 142) #[] #[.pointer (some ⟨bn, 0, none⟩), .pointer (some ⟨bd, 0, none⟩)]
theorem mixer_any (n d : Int) (w : World) : Calls Try.prog 117 #[.int .i64 n, .int .i64 d] w (fun e w' => e = .returned (mixV w.heap.size (w.heap.size + 1)) ∧ w' = (w.alloc (.cells #[.int .i64 n] 3)).alloc (.cells #[.int .i64 d] 3)) := by
  go_enter Try.func117, Try.ntmps117
  go_wp2
  trace_state
  go_ret
  exact ⟨rfl, rfl⟩
end Go.Proofs.Ytmlhbbkgfffmcaa
