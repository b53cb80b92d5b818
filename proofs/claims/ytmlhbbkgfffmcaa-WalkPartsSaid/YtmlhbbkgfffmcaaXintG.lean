/- The walks of layer 2 (xint): products. Conditions: 64 and 128 bits. -/
import Derived.Test.YtmlhbbkgfffmcaaXintF
namespace Go.Proofs.Ytmlhbbkgfffmcaa
set_option linter.unusedVariables false
set_option linter.unusedSimpArgs false
open Go.RowKit
/-- Are the signs unlike? -/
def unl (m : Bool) (a b : Int) : Prop := m = true ↔ (a < 0 ∧ 0 ≤ b ∨ 0 ≤ a ∧ b < 0)
theorem pmv_mul {a b : Int} {m : Bool} (h : unl m a b) : pmv (abv a * abv b) m = a * b := by
  unfold unl at h; unfold pmv abv
  cases m <;> simp at h ⊢ <;> by_cases a0 : a < 0 <;> by_cases b0 : b < 0 <;> simp [a0, b0] <;> (first | (exfalso; omega) | grind)
theorem abv_mul {a b : Int} (ha : sml a) (hb : sml b) : 0 ≤ abv a * abv b ∧ abv a * abv b ≤ 85070591730234615865843651857942052864 := by
  have ua := abv_01 ha
  have ub := abv_01 hb
  exact ⟨Int.mul_nonneg ua.1 ub.1, Int.le_trans (Int.mul_le_mul ua.2 ub.2 ub.1 (by decide)) (by decide)⟩
theorem mul_in {a b : Int} (ha : sml a) (hb : sml b) : inR (a * b) := by
  have h := abv_mul ha hb
  have : abv a * abv b = a * b ∨ abv a * abv b = -(a * b) := by unfold abv; split <;> split <;> grind
  unfold inR; omega
theorem sgd_mul {a b : Int} {m : Bool} (ha : sml a) (hb : sml b) (h : unl m a b) : sgd (abv a * abv b) m = a * b := by
  have hu := abv_mul ha hb
  have hp := pmv_mul h
  rw [sgd_in hu.1 (by omega) (by rw [hp]; exact mul_in ha hb), hp]
theorem unl_dec (a b : Int) : unl (!decide (a < 0) == decide (b < 0)) a b := by
  unfold unl
  by_cases a0 : a < 0 <;> by_cases b0 : b < 0 <;> simp [a0, b0] <;> omega
theorem hi_neg (a : Int) : decide (hiN a < 0) = decide (a < 0) := decide_eq_decide.2 (by obtain ⟨e, l0, l1⟩ := hilo a; omega)
set_option maxHeartbeats 1000000 in
theorem mul_any (a b : Int) (ha : sml a) (hb : sml b) (w : World) : Calls Try.prog 48 #[.int .i64 a, .int .i64 b] w (Ret (I2 (a * b)) w) := by
  have ua := abv_01 ha
  have ub := abv_01 hb
  have hu := abv_mul ha hb
  have M := Lib.hid (fun w => mul64_any (abv a) (abv b) ua.1 (by omega) ub.1 (by omega) w)
  have S := Lib.hid (fun m w => signed_any (abv a * abv b) m hu.1 (by omega) w)
  have HS := Lib.hid (fun m h => sgd_mul (a := a) (b := b) (m := m) ha hb h)
  generalize abv a * abv b = U at *
  go_enter Try.func48, Try.ntmps48
  go_wp2_with (first
    | (go_at_call 110; (with_reducible refine (bare_any a ha _).mono ?_); rintro _ _ ⟨rfl, X_, rfl⟩)
    | (go_at_call 110; (with_reducible refine (bare_any b hb _).mono ?_); rintro _ _ ⟨rfl, X_, rfl⟩)
    | (go_at_call 109; refine (M.out _).mono ?_; rintro _ _ ⟨rfl, rfl⟩)
    | (go_at_call 111; (with_reducible refine (S.out _ _).mono ?_); rintro _ _ ⟨rfl, X_, rfl⟩))
  refine bodyPost_ret (v := I2 (a * b)) ?_ rfl (Ret.of ?_)
  · simp [results, Try.results48, go_sem, HS.out _ (unl_dec a b)]
  · (repeat (first | exact Below.refl _ _ | with_reducible refine Below.drew ?_ | with_reducible refine Below.ext ?_ (by first | exact Nat.le_refl _ | (simp; done) | (simp; omega)) _ | with_reducible refine Below.alloc ?_ (by first | exact Nat.le_refl _ | (simp; done) | (simp; omega)) _ | with_reducible refine Below.setCell ?_ (by first | exact Nat.le_refl _ | (simp; done) | (simp; omega)) _))
end Go.Proofs.Ytmlhbbkgfffmcaa
