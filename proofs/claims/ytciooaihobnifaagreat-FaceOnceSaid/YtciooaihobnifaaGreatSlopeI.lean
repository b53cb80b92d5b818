/- The walks of the references of layers 20 and 21: has a triangle a pixel; what stands there. Conditions: bounds of places. -/
import Derived.Test.YtciooaihobnifaaGreatSlopeH
namespace Go.Proofs.YtciooaihobnifaaGreat
set_option linter.unusedVariables false
set_option linter.unusedSimpArgs false
open Go.RowKit
attribute [local go_sem ↓] Go.wp_at_zero Go.wp_at_succ
theorem rbare_any (n : Int) (h0 : -9223372036854775807 ≤ n) (h1 : n ≤ 9223372036854775807) (w : World) : Calls Tryz.prog 95 #[.int .i64 n] w (Ret (.int .i64 (bareI n)) w) := by
  rw [← bare_max]
  go_enter Tryz.func95, Tryz.ntmps95
  go_wp2
  go_ret
  exact Ret.of' (by congr 1) (by (repeat (first | exact Below.refl _ _ | with_reducible refine Below.drew ?_ | with_reducible refine Below.ext ?_ (by first | exact Nat.le_refl _ | (simp; done) | (simp; omega)) _ | with_reducible refine Below.alloc ?_ (by first | exact Nat.le_refl _ | (simp; done) | (simp; omega)) _ | with_reducible refine Below.setCell ?_ (by first | exact Nat.le_refl _ | (simp; done) | (simp; omega)) _)))
theorem mid_turned (x y : Int) : midP x y = ⟨256 * x + 128, 256 * y + 128, 0, 0, 0, 0, 0⟩ := by simp only [midP, Int.mul_comm]
set_option maxHeartbeats 4000000 in
theorem rleft_any (p q : WinP) (x y : Int) (hp : p.fits) (hq : q.fits) (hx : Near x y) (w : World) : Calls Tryz.prog 74 #[p.v, q.v, .int .i64 x, .int .i64 y] w (Ret (.bool (decide (leftP p q x y))) w) := by
  have A := fun w => rarea_any p q (midP x y) (nigh3m hp hq hx) w
  have L : leftP p q x y ↔ (0 < ar p q (midP x y) ∨ (ar p q (midP x y) = 0 ∧ (q.y < p.y ∨ q.y = p.y ∧ q.x < p.x))) := Iff.rfl
  obtain ⟨n, hn⟩ : ∃ n, ar p q (midP x y) = n := ⟨_, rfl⟩
  simp only [hn] at A L
  simp only [mid_turned] at A
  have hL := Lib.hid L
  have AH := Lib.hid A
  obtain ⟨x0, x1, y0, y1⟩ := hx
  clear A hp hq L hn
  go_enter Tryz.func74, Tryz.ntmps74
  go_wp2_with (first | (go_at_call 72; (with_reducible refine (AH.out _).mono ?_); rintro _ _ ⟨rfl, X_, rfl⟩))
  all_goals go_ret
  all_goals refine Ret.of' ?_ (by (repeat (first | exact Below.refl _ _ | with_reducible refine Below.drew ?_ | with_reducible refine Below.ext ?_ (by first | exact Nat.le_refl _ | (simp; done) | (simp; omega)) _ | with_reducible refine Below.alloc ?_ (by first | exact Nat.le_refl _ | (simp; done) | (simp; omega)) _ | with_reducible refine Below.setCell ?_ (by first | exact Nat.le_refl _ | (simp; done) | (simp; omega)) _)))
  all_goals first
    | (refine bool_t (hL.out.2 ?_); omega)
    | (refine bool_f (fun h => ?_); have h' := hL.out.1 h; omega)
    | (refine bool_d (Iff.trans ?_ hL.out.symm); omega)
    | (refine bool_d (Iff.trans ?_ hL.out.symm); simp; omega)
set_option maxRecDepth 100000 in
set_option maxHeartbeats 8000000 in
theorem rhas20_any (a b c : WinP) (x y : Int) (ha : a.fits) (hb : b.fits) (hc : c.fits) (hx : Near x y) (w : World) : Calls Tryz.prog 32 #[a.v, b.v, c.v, .int .i64 x, .int .i64 y] w (Ret (.bool (decide (triHas a b c x y))) w) := by
  have A := Lib.hid (fun w => rarea_any a b c (nigh3 ha hb hc) w)
  have H : triHas a b c x y ↔ (ar a b c ≠ 0 ∧ leftP a (triB a b c) x y ∧ leftP (triB a b c) (triC a b c) x y ∧ leftP (triC a b c) a x y) := Iff.rfl
  obtain ⟨fb, fc⟩ := triB_fits (a := a) hb hc
  have L1 := Lib.hid (fun w => rleft_any a (triB a b c) x y ha fb hx w)
  have L2 := Lib.hid (fun w => rleft_any (triB a b c) (triC a b c) x y fb fc hx w)
  have L3 := Lib.hid (fun w => rleft_any (triC a b c) a x y fc ha hx w)
  have eB : triB a b c = if ar a b c < 0 then c else b := rfl
  have eC : triC a b c = if ar a b c < 0 then b else c := rfl
  obtain ⟨l1, e1⟩ : ∃ l, decide (leftP a (triB a b c) x y) = l := ⟨_, rfl⟩
  obtain ⟨l2, e2⟩ : ∃ l, decide (leftP (triB a b c) (triC a b c) x y) = l := ⟨_, rfl⟩
  obtain ⟨l3, e3⟩ : ∃ l, decide (leftP (triC a b c) a x y) = l := ⟨_, rfl⟩
  have H2 : decide (triHas a b c x y) = (decide (ar a b c ≠ 0) && (l1 && (l2 && l3))) := by
    rw [← e1, ← e2, ← e3, ← Bool.decide_and, ← Bool.decide_and, ← Bool.decide_and]; exact decide_eq_decide.2 H
  rw [H2]
  rw [e1] at L1
  rw [e2] at L2
  rw [e3] at L3
  clear e1 e2 e3 H2 H fb fc hx
  have ab := (nigh3 ha hb hc).ar
  obtain ⟨n, hn⟩ : ∃ n, ar a b c = n := ⟨_, rfl⟩
  rw [hn] at A eB eC ab ⊢
  clear hn ha hb hc
  by_cases h0 : n < 0
  · rw [if_pos h0] at eB eC
    simp only [eB, eC] at L1 L2 L3
    clear eB eC
    have nz : (n == 0) = false := by simp; omega
    have nz2 : (n != 0) = true := by simp; omega
    rw [show decide (n ≠ 0) = true by simp; omega]
    cases l1 <;> cases l2 <;> cases l3
    all_goals
      go_enter Tryz.func32, Tryz.ntmps32
      go_wp2_with (first | (go_at_call 72; (with_reducible refine (A.out _).mono ?_); rintro _ _ ⟨rfl, X_, rfl⟩) | (go_at_call 74; (with_reducible refine (L1.out _).mono ?_); rintro _ _ ⟨rfl, X_, rfl⟩) | (go_at_call 74; (with_reducible refine (L2.out _).mono ?_); rintro _ _ ⟨rfl, X_, rfl⟩) | (go_at_call 74; (with_reducible refine (L3.out _).mono ?_); rintro _ _ ⟨rfl, X_, rfl⟩))
      go_ret
      exact Ret.of' (by simp) (by (repeat (first | exact Below.refl _ _ | with_reducible refine Below.drew ?_ | with_reducible refine Below.ext ?_ (by first | exact Nat.le_refl _ | (simp; done) | (simp; omega)) _ | with_reducible refine Below.alloc ?_ (by first | exact Nat.le_refl _ | (simp; done) | (simp; omega)) _ | with_reducible refine Below.setCell ?_ (by first | exact Nat.le_refl _ | (simp; done) | (simp; omega)) _)))
  · rw [if_neg h0] at eB eC
    simp only [eB, eC] at L1 L2 L3
    clear eB eC
    by_cases hz : n = 0
    · subst hz
      rw [show decide ((0 : Int) ≠ 0) = false by simp]
      go_enter Tryz.func32, Tryz.ntmps32
      go_wp2_with (first | (go_at_call 72; (with_reducible refine (A.out _).mono ?_); rintro _ _ ⟨rfl, X_, rfl⟩))
      go_ret
      exact Ret.of' (by simp) (by (repeat (first | exact Below.refl _ _ | with_reducible refine Below.drew ?_ | with_reducible refine Below.ext ?_ (by first | exact Nat.le_refl _ | (simp; done) | (simp; omega)) _ | with_reducible refine Below.alloc ?_ (by first | exact Nat.le_refl _ | (simp; done) | (simp; omega)) _ | with_reducible refine Below.setCell ?_ (by first | exact Nat.le_refl _ | (simp; done) | (simp; omega)) _)))
    · have nz : (n == 0) = false := by simp; omega
      have nz2 : (n != 0) = true := by simp; omega
      rw [show decide (n ≠ 0) = true by simp; omega]
      cases l1 <;> cases l2 <;> cases l3
      all_goals
        go_enter Tryz.func32, Tryz.ntmps32
        go_wp2_with (first | (go_at_call 72; (with_reducible refine (A.out _).mono ?_); rintro _ _ ⟨rfl, X_, rfl⟩) | (go_at_call 74; (with_reducible refine (L1.out _).mono ?_); rintro _ _ ⟨rfl, X_, rfl⟩) | (go_at_call 74; (with_reducible refine (L2.out _).mono ?_); rintro _ _ ⟨rfl, X_, rfl⟩) | (go_at_call 74; (with_reducible refine (L3.out _).mono ?_); rintro _ _ ⟨rfl, X_, rfl⟩))
        go_ret
        exact Ret.of' (by simp) (by (repeat (first | exact Below.refl _ _ | with_reducible refine Below.drew ?_ | with_reducible refine Below.ext ?_ (by first | exact Nat.le_refl _ | (simp; done) | (simp; omega)) _ | with_reducible refine Below.alloc ?_ (by first | exact Nat.le_refl _ | (simp; done) | (simp; omega)) _ | with_reducible refine Below.setCell ?_ (by first | exact Nat.le_refl _ | (simp; done) | (simp; omega)) _)))
end Go.Proofs.YtciooaihobnifaaGreat
