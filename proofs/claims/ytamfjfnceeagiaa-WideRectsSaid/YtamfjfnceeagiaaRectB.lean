/- Layer 12, the reference: what two rectangles share. No condition. -/
import Derived.Test.YtamfjfnceeagiaaPRect
namespace Go.Proofs.Ytamfjfnceeagiaa
set_option linter.unusedVariables false
set_option linter.unusedSimpArgs false
open Go.RowKit
structure RcP where
  x0 : Int
  y0 : Int
  x1 : Int
  y1 : Int
abbrev RcP.v (r : RcP) : Value := R4 r.x0 r.y0 r.x1 r.y1
def RcP.ok (r : RcP) : Prop := rightP r.x0 r.y0 r.x1 r.y1
instance (r : RcP) : Decidable r.ok := by unfold RcP.ok; exact inferInstance
def RcP.has (r : RcP) (x y : Int) : Prop := hasP r.x0 r.y0 r.x1 r.y1 x y
instance (r : RcP) (x y : Int) : Decidable (r.has x y) := by unfold RcP.has; exact inferInstance
def RcP.meet (a b : RcP) : RcP := ⟨max a.x0 b.x0, max a.y0 b.y0, min a.x1 b.x1, min a.y1 b.y1⟩
/-- What two rectangles share. -/
def RcP.and (a b : RcP) : RcP := if a.ok ∧ b.ok ∧ (a.meet b).ok then a.meet b else ⟨0, 0, 0, 0⟩
theorem rc_none : ¬ (⟨0, 0, 0, 0⟩ : RcP).ok := by unfold RcP.ok rightP; simp
theorem RcP.and_has (a b : RcP) (x y : Int) : (a.and b).has x y ↔ a.has x y ∧ b.has x y := by
  unfold RcP.and
  split
  · rename_i h
    obtain ⟨h1, h2, h3⟩ := h
    unfold RcP.has hasP
    unfold RcP.ok at h1 h2 h3
    simp only [h1, h2, true_and]
    unfold RcP.meet at h3 ⊢
    simp only at h3 ⊢
    simp only [h3, true_and]
    omega
  · rename_i h
    unfold RcP.has
    constructor
    · intro k; exact absurd k.1 rc_none
    · rintro ⟨k1, k2⟩
      refine absurd ⟨k1.1, k2.1, ?_⟩ h
      unfold RcP.ok RcP.meet rightP
      unfold hasP rightP at k1 k2
      simp only
      omega
set_option maxHeartbeats 4000000 in
theorem rrect_and (a b : RcP) (w : World) : Calls Try.prog 37 #[a.v, b.v] w (Ret (a.and b).v w) := by
  have HA := fun w => rrect_right a.x0 a.y0 a.x1 a.y1 w
  have HB := fun w => rrect_right b.x0 b.y0 b.x1 b.y1 w
  have HM := fun w => rrect_right (max a.x0 b.x0) (max a.y0 b.y0) (min a.x1 b.x1) (min a.y1 b.y1) w
  obtain ⟨m, hm⟩ : ∃ m, a.and b = m := ⟨_, rfl⟩
  rw [hm]
  unfold RcP.and at hm
  obtain ⟨x0, y0, x1, y1⟩ := a
  obtain ⟨u0, v0, u1, v1⟩ := b
  unfold RcP.meet RcP.ok at hm
  simp only at HA HB HM hm ⊢
  by_cases h1 : rightP x0 y0 x1 y1
  · simp only [h1, decide_true, true_and] at HA hm
    by_cases h2 : rightP u0 v0 u1 v1
    · simp only [h2, decide_true, true_and] at HB hm
      by_cases h3 : rightP (max x0 u0) (max y0 v0) (min x1 u1) (min y1 v1)
      · simp only [h3, decide_true, if_true] at HM hm
        have A := Lib.hid HA
        have B := Lib.hid HB
        have M := Lib.hid HM
        subst hm
        clear HA HB HM h1 h2 h3
        go_enter Try.func37, Try.ntmps37
        go_wp2_with (go_at_call 35; (first | (with_reducible refine (A.out _).mono ?_) | (with_reducible refine (B.out _).mono ?_) | (with_reducible refine (M.out _).mono ?_)); rintro _ _ ⟨rfl, X_, rfl⟩)
        refine bodyPost_ret (v := R4 (max x0 u0) (max y0 v0) (min x1 u1) (min y1 v1)) (by simp [results, Try.results37, go_sem]; try rfl) rfl ?_
        exact Ret.of' rfl (by (repeat (first | exact Below.refl _ _ | with_reducible refine Below.drew ?_ | with_reducible refine Below.ext ?_ (by first | exact Nat.le_refl _ | (simp; done) | (simp; omega)) _ | with_reducible refine Below.alloc ?_ (by first | exact Nat.le_refl _ | (simp; done) | (simp; omega)) _ | with_reducible refine Below.setCell ?_ (by first | exact Nat.le_refl _ | (simp; done) | (simp; omega)) _)))
      · simp only [h3, decide_false, if_false] at HM hm
        have A := Lib.hid HA
        have B := Lib.hid HB
        have M := Lib.hid HM
        subst hm
        clear HA HB HM h1 h2 h3
        go_enter Try.func37, Try.ntmps37
        go_wp2_with (go_at_call 35; (first | (with_reducible refine (A.out _).mono ?_) | (with_reducible refine (B.out _).mono ?_) | (with_reducible refine (M.out _).mono ?_)); rintro _ _ ⟨rfl, X_, rfl⟩)
        refine bodyPost_ret (v := R4 0 0 0 0) (by simp [results, Try.results37, go_sem]; try rfl) rfl ?_
        exact Ret.of' rfl (by (repeat (first | exact Below.refl _ _ | with_reducible refine Below.drew ?_ | with_reducible refine Below.ext ?_ (by first | exact Nat.le_refl _ | (simp; done) | (simp; omega)) _ | with_reducible refine Below.alloc ?_ (by first | exact Nat.le_refl _ | (simp; done) | (simp; omega)) _ | with_reducible refine Below.setCell ?_ (by first | exact Nat.le_refl _ | (simp; done) | (simp; omega)) _)))
    · simp only [h2, decide_false, false_and, if_false] at HB hm
      have A := Lib.hid HA
      have B := Lib.hid HB
      subst hm
      clear HA HB HM h1 h2
      go_enter Try.func37, Try.ntmps37
      go_wp2_with (go_at_call 35; (first | (with_reducible refine (A.out _).mono ?_) | (with_reducible refine (B.out _).mono ?_)); rintro _ _ ⟨rfl, X_, rfl⟩)
      refine bodyPost_ret (v := R4 0 0 0 0) (by simp [results, Try.results37, go_sem]; try rfl) rfl ?_
      exact Ret.of' rfl (by (repeat (first | exact Below.refl _ _ | with_reducible refine Below.drew ?_ | with_reducible refine Below.ext ?_ (by first | exact Nat.le_refl _ | (simp; done) | (simp; omega)) _ | with_reducible refine Below.alloc ?_ (by first | exact Nat.le_refl _ | (simp; done) | (simp; omega)) _ | with_reducible refine Below.setCell ?_ (by first | exact Nat.le_refl _ | (simp; done) | (simp; omega)) _)))
  · simp only [h1, decide_false, false_and, if_false] at HA hm
    have A := Lib.hid HA
    subst hm
    clear HA HB HM h1
    go_enter Try.func37, Try.ntmps37
    go_wp2_with (go_at_call 35; (with_reducible refine (A.out _).mono ?_); rintro _ _ ⟨rfl, X_, rfl⟩)
    refine bodyPost_ret (v := R4 0 0 0 0) (by simp [results, Try.results37, go_sem]; try rfl) rfl ?_
    exact Ret.of' rfl (by (repeat (first | exact Below.refl _ _ | with_reducible refine Below.drew ?_ | with_reducible refine Below.ext ?_ (by first | exact Nat.le_refl _ | (simp; done) | (simp; omega)) _ | with_reducible refine Below.alloc ?_ (by first | exact Nat.le_refl _ | (simp; done) | (simp; omega)) _ | with_reducible refine Below.setCell ?_ (by first | exact Nat.le_refl _ | (simp; done) | (simp; omega)) _)))
end Go.Proofs.Ytamfjfnceeagiaa
