/- The walks of layer 2 (xint): a number with a sign, products. Conditions: 64 and 128 bits. -/
import Derived.Test.YtmlhbbkgfffmcaaXintE
namespace Go.Proofs.Ytmlhbbkgfffmcaa
set_option linter.unusedVariables false
set_option linter.unusedSimpArgs false
open Go.RowKit
set_option maxHeartbeats 4000000 in
theorem signed_plus (s h : Int) (hs : inR s) (hw : wrap64 h = hiN s) (w : World) : Calls Try.prog 111 #[.int .u64 h, .int .u64 (loN s), .bool false] w (Ret (.tuple #[I2 s, .bool (decide (0 ≤ hiN s))]) w) := by
  go_enter Try.func111, Try.ntmps111
  go_wp2_with (first | simp only [hw])
  go_region
  go_wp2
  refine bodyPost_ret (v := .tuple #[I2 s, .bool (decide (0 ≤ hiN s))]) ?_ rfl (Ret.of ?_)
  · simp [results, Try.results111, go_sem]
  · (repeat (first | exact Below.refl _ _ | with_reducible refine Below.drew ?_ | with_reducible refine Below.ext ?_ (by first | exact Nat.le_refl _ | (simp; done) | (simp; omega)) _ | with_reducible refine Below.alloc ?_ (by first | exact Nat.le_refl _ | (simp; done) | (simp; omega)) _ | with_reducible refine Below.setCell ?_ (by first | exact Nat.le_refl _ | (simp; done) | (simp; omega)) _))
set_option maxHeartbeats 4000000 in
theorem signed_minus (s h : Int) (b : Bool) (hs : inR s) (hw : wrap64 h = hiN s) (hb : b = decide (trn s ≤ 0)) (w : World) : Calls Try.prog 111 #[.int .u64 h, .int .u64 (loN s), .bool true] w (Ret (.tuple #[I2 (trn s), .bool b]) w) := by
  obtain ⟨e, l0, l1⟩ := hilo (trn s)
  by_cases c1 : hiN (trn s) < 0
  · have d1 : decide (hiN (trn s) < 0) = true := decide_eq_true c1
    obtain rfl : b = true := by rw [hb]; simp; omega
    clear c1 hb
    go_enter Try.func111, Try.ntmps111
    go_wp2_with (first | simp only [hw] | (go_at_call 101; (with_reducible refine (turned_any s hs _).mono ?_); rintro _ _ ⟨rfl, X_, rfl⟩))
    go_region
    go_wp2
    refine bodyPost_ret (v := .tuple #[I2 (trn s), .bool true]) ?_ rfl (Ret.of ?_)
    · simp [results, Try.results111, go_sem]
    · (repeat (first | exact Below.refl _ _ | with_reducible refine Below.drew ?_ | with_reducible refine Below.ext ?_ (by first | exact Nat.le_refl _ | (simp; done) | (simp; omega)) _ | with_reducible refine Below.alloc ?_ (by first | exact Nat.le_refl _ | (simp; done) | (simp; omega)) _ | with_reducible refine Below.setCell ?_ (by first | exact Nat.le_refl _ | (simp; done) | (simp; omega)) _))
  · have d1 : decide (hiN (trn s) < 0) = false := decide_eq_false c1
    by_cases c2 : hiN (trn s) = 0
    · by_cases c3 : loN (trn s) = 0
      · have d2 : (hiN (trn s) == 0) = true := by simp [c2]
        have d3 : (loN (trn s) == 0) = true := by simp [c3]
        obtain rfl : b = true := by rw [hb]; simp; omega
        clear c1 c2 c3 hb e
        go_enter Try.func111, Try.ntmps111
        go_wp2_with (first | simp only [hw] | (go_at_call 101; (with_reducible refine (turned_any s hs _).mono ?_); rintro _ _ ⟨rfl, X_, rfl⟩))
        go_region
        go_wp2
        refine bodyPost_ret (v := .tuple #[I2 (trn s), .bool true]) ?_ rfl (Ret.of ?_)
        · simp [results, Try.results111, go_sem]
        · (repeat (first | exact Below.refl _ _ | with_reducible refine Below.drew ?_ | with_reducible refine Below.ext ?_ (by first | exact Nat.le_refl _ | (simp; done) | (simp; omega)) _ | with_reducible refine Below.alloc ?_ (by first | exact Nat.le_refl _ | (simp; done) | (simp; omega)) _ | with_reducible refine Below.setCell ?_ (by first | exact Nat.le_refl _ | (simp; done) | (simp; omega)) _))
      · have d2 : (hiN (trn s) == 0) = true := by simp [c2]
        have d3 : (loN (trn s) == 0) = false := by simp [c3]
        obtain rfl : b = false := by rw [hb]; simp; omega
        clear c1 c2 c3 hb e
        go_enter Try.func111, Try.ntmps111
        go_wp2_with (first | simp only [hw] | (go_at_call 101; (with_reducible refine (turned_any s hs _).mono ?_); rintro _ _ ⟨rfl, X_, rfl⟩))
        go_region
        go_wp2
        refine bodyPost_ret (v := .tuple #[I2 (trn s), .bool false]) ?_ rfl (Ret.of ?_)
        · simp [results, Try.results111, go_sem]
        · (repeat (first | exact Below.refl _ _ | with_reducible refine Below.drew ?_ | with_reducible refine Below.ext ?_ (by first | exact Nat.le_refl _ | (simp; done) | (simp; omega)) _ | with_reducible refine Below.alloc ?_ (by first | exact Nat.le_refl _ | (simp; done) | (simp; omega)) _ | with_reducible refine Below.setCell ?_ (by first | exact Nat.le_refl _ | (simp; done) | (simp; omega)) _))
    · have d2 : (hiN (trn s) == 0) = false := by simp [c2]
      obtain rfl : b = false := by rw [hb]; simp; omega
      clear c1 c2 hb e
      go_enter Try.func111, Try.ntmps111
      go_wp2_with (first | simp only [hw] | (go_at_call 101; (with_reducible refine (turned_any s hs _).mono ?_); rintro _ _ ⟨rfl, X_, rfl⟩))
      go_region
      go_wp2
      refine bodyPost_ret (v := .tuple #[I2 (trn s), .bool false]) ?_ rfl (Ret.of ?_)
      · simp [results, Try.results111, go_sem]
      · (repeat (first | exact Below.refl _ _ | with_reducible refine Below.drew ?_ | with_reducible refine Below.ext ?_ (by first | exact Nat.le_refl _ | (simp; done) | (simp; omega)) _ | with_reducible refine Below.alloc ?_ (by first | exact Nat.le_refl _ | (simp; done) | (simp; omega)) _ | with_reducible refine Below.setCell ?_ (by first | exact Nat.le_refl _ | (simp; done) | (simp; omega)) _))
/-- The number with a sign. -/
def sgd (U : Int) (m : Bool) : Int := if m then trn (if U < 170141183460469231731687303715884105728 then U else U - 340282366920938463463374607431768211456) else (if U < 170141183460469231731687303715884105728 then U else U - 340282366920938463463374607431768211456)
def pmv (U : Int) (m : Bool) : Int := if m then -U else U
theorem sgd_in {U : Int} {m : Bool} (h0 : 0 ≤ U) (h1 : U < 340282366920938463463374607431768211456) (h : inR (pmv U m)) : sgd U m = pmv U m := by
  unfold inR at h; unfold sgd trn; unfold pmv at *; cases m <;> simp at * <;> (repeat (split <;> try omega)) <;> omega
theorem signed_any (U : Int) (m : Bool) (h0 : 0 ≤ U) (h1 : U < 340282366920938463463374607431768211456) (w : World) : Calls Try.prog 111 #[.int .u64 (hiN U), .int .u64 (loN U), .bool m] w (Ret (.tuple #[I2 (sgd U m), .bool (decide (inR (pmv U m)))]) w) := by
  obtain ⟨s, hs⟩ : ∃ s, s = if U < 170141183460469231731687303715884105728 then U else U - 340282366920938463463374607431768211456 := ⟨_, rfl⟩
  have hin : inR s := by unfold inR; rw [hs]; split <;> omega
  obtain ⟨e, l0, l1⟩ := hilo U
  obtain ⟨e', l0', l1'⟩ := hilo s
  have hl : loN U = loN s := by rw [hs] at *; split at * <;> omega
  have hh : wrap64 (hiN U) = hiN s := by unfold wrap64; rw [hs] at *; split at * <;> omega
  rw [hl]
  cases m
  · have := signed_plus s (hiN U) hin hh w
    rw [show decide (0 ≤ hiN s) = decide (inR (pmv U false)) from decide_eq_decide.2 (by unfold pmv inR; simp; rw [hs] at *; split at * <;> omega)] at this
    rw [show sgd U false = s by unfold sgd; rw [← hs]; rfl]
    exact this
  · rw [show sgd U true = trn s by unfold sgd; rw [← hs]; rfl]
    refine signed_minus s (hiN U) _ hin hh ?_ w
    refine decide_eq_decide.2 ?_
    unfold pmv trn inR; simp; rw [hs] at *; split at * <;> split <;> omega
end Go.Proofs.Ytmlhbbkgfffmcaa
