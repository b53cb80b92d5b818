/- The program's Clear of layer 23, row by row: any rectangle, whatever is cleared. Conditions: the image may be; the color and the depth may be. -/
import Derived.Test.YthcjfanigfgckaaClrC
import Derived.Test.YthcjfanigfgckaaStoreR
namespace Go.Proofs.Ythcjfanigfgckaa
set_option linter.unusedVariables false
set_option linter.unusedSimpArgs false
open Go.RowKit
set_option maxHeartbeats 4000000 in
theorem rect_andS (a b : RcP) (w : World) : Calls Try.prog 21 #[a.v, b.v] w (Ret (a.and b).v w) := by
  have HA := fun w => rect_right a.x0 a.y0 a.x1 a.y1 w
  have HB := fun w => rect_right b.x0 b.y0 b.x1 b.y1 w
  have HM := fun w => rect_right (max a.x0 b.x0) (max a.y0 b.y0) (min a.x1 b.x1) (min a.y1 b.y1) w
  obtain ⟨m, hm⟩ : ∃ m, a.and b = m := ⟨_, rfl⟩
  rw [hm]
  unfold RcP.and at hm
  obtain ⟨x0, y0, x1, y1⟩ := a
  obtain ⟨u0, v0, u1, v1⟩ := b
  unfold RcP.meet RcP.ok at hm
  simp only at HA HB HM hm ⊢
  by_cases h1 : rightP x0 y0 x1 y1
  · simp only [h1, decide_true, true_and] at HA hm
    by_cases h2 : rightP u0 v0 u1 v1
    · simp only [h2, decide_true, true_and] at HB hm
      by_cases h3 : rightP (max x0 u0) (max y0 v0) (min x1 u1) (min y1 v1)
      · simp only [h3, decide_true, if_true] at HM hm
        have A := Lib.hid HA
        have B := Lib.hid HB
        have M := Lib.hid HM
        subst hm
        clear HA HB HM h1 h2 h3
        go_enter Try.func21, Try.ntmps21
        go_wp2_with (go_at_call 27; (first | (with_reducible refine (A.out _).mono ?_) | (with_reducible refine (B.out _).mono ?_) | (with_reducible refine (M.out _).mono ?_)); rintro _ _ ⟨rfl, X_, rfl⟩)
        refine bodyPost_ret (v := R4 (max x0 u0) (max y0 v0) (min x1 u1) (min y1 v1)) (by simp [results, Try.results21, go_sem]; try rfl) rfl ?_
        exact Ret.of' rfl (by (repeat (first | exact Below.refl _ _ | with_reducible refine Below.drew ?_ | with_reducible refine Below.ext ?_ (by first | exact Nat.le_refl _ | (simp; done) | (simp; omega)) _ | with_reducible refine Below.alloc ?_ (by first | exact Nat.le_refl _ | (simp; done) | (simp; omega)) _ | with_reducible refine Below.setCell ?_ (by first | exact Nat.le_refl _ | (simp; done) | (simp; omega)) _)))
      · simp only [h3, decide_false, if_false] at HM hm
        have A := Lib.hid HA
        have B := Lib.hid HB
        have M := Lib.hid HM
        subst hm
        clear HA HB HM h1 h2 h3
        go_enter Try.func21, Try.ntmps21
        go_wp2_with (go_at_call 27; (first | (with_reducible refine (A.out _).mono ?_) | (with_reducible refine (B.out _).mono ?_) | (with_reducible refine (M.out _).mono ?_)); rintro _ _ ⟨rfl, X_, rfl⟩)
        refine bodyPost_ret (v := R4 0 0 0 0) (by simp [results, Try.results21, go_sem]; try rfl) rfl ?_
        exact Ret.of' rfl (by (repeat (first | exact Below.refl _ _ | with_reducible refine Below.drew ?_ | with_reducible refine Below.ext ?_ (by first | exact Nat.le_refl _ | (simp; done) | (simp; omega)) _ | with_reducible refine Below.alloc ?_ (by first | exact Nat.le_refl _ | (simp; done) | (simp; omega)) _ | with_reducible refine Below.setCell ?_ (by first | exact Nat.le_refl _ | (simp; done) | (simp; omega)) _)))
    · simp only [h2, decide_false, false_and, if_false] at HB hm
      have A := Lib.hid HA
      have B := Lib.hid HB
      subst hm
      clear HA HB HM h1 h2
      go_enter Try.func21, Try.ntmps21
      go_wp2_with (go_at_call 27; (first | (with_reducible refine (A.out _).mono ?_) | (with_reducible refine (B.out _).mono ?_)); rintro _ _ ⟨rfl, X_, rfl⟩)
      refine bodyPost_ret (v := R4 0 0 0 0) (by simp [results, Try.results21, go_sem]; try rfl) rfl ?_
      exact Ret.of' rfl (by (repeat (first | exact Below.refl _ _ | with_reducible refine Below.drew ?_ | with_reducible refine Below.ext ?_ (by first | exact Nat.le_refl _ | (simp; done) | (simp; omega)) _ | with_reducible refine Below.alloc ?_ (by first | exact Nat.le_refl _ | (simp; done) | (simp; omega)) _ | with_reducible refine Below.setCell ?_ (by first | exact Nat.le_refl _ | (simp; done) | (simp; omega)) _)))
  · simp only [h1, decide_false, false_and, if_false] at HA hm
    have A := Lib.hid HA
    subst hm
    clear HA HB HM h1
    go_enter Try.func21, Try.ntmps21
    go_wp2_with (go_at_call 27; (with_reducible refine (A.out _).mono ?_); rintro _ _ ⟨rfl, X_, rfl⟩)
    refine bodyPost_ret (v := R4 0 0 0 0) (by simp [results, Try.results21, go_sem]; try rfl) rfl ?_
    exact Ret.of' rfl (by (repeat (first | exact Below.refl _ _ | with_reducible refine Below.drew ?_ | with_reducible refine Below.ext ?_ (by first | exact Nat.le_refl _ | (simp; done) | (simp; omega)) _ | with_reducible refine Below.alloc ?_ (by first | exact Nat.le_refl _ | (simp; done) | (simp; omega)) _ | with_reducible refine Below.setCell ?_ (by first | exact Nat.le_refl _ | (simp; done) | (simp; omega)) _)))
theorem cbox_is (W H : Int) (c z : Value) (w : World) : Calls Try.prog 15 #[Im W H c z] w (Ret (R4 0 0 W H) w) := by
  go_enter Try.func15, Try.ntmps15
  go_wp2
  first
    | (go_ret; exact Ret.of' rfl (by (repeat (first | exact Below.refl _ _ | with_reducible refine Below.drew ?_ | with_reducible refine Below.ext ?_ (by first | exact Nat.le_refl _ | (simp; done) | (simp; omega)) _ | with_reducible refine Below.alloc ?_ (by first | exact Nat.le_refl _ | (simp; done) | (simp; omega)) _ | with_reducible refine Below.setCell ?_ (by first | exact Nat.le_refl _ | (simp; done) | (simp; omega)) _))))
    | exact bodyPost_ret (v := R4 0 0 W H) (by simp [results, Try.results15, go_sem]) rfl (Ret.of (by (repeat (first | exact Below.refl _ _ | with_reducible refine Below.drew ?_ | with_reducible refine Below.ext ?_ (by first | exact Nat.le_refl _ | (simp; done) | (simp; omega)) _ | with_reducible refine Below.alloc ?_ (by first | exact Nat.le_refl _ | (simp; done) | (simp; omega)) _ | with_reducible refine Below.setCell ?_ (by first | exact Nat.le_refl _ | (simp; done) | (simp; omega)) _))))
theorem cbox_ref (W H : Int) (c z : Value) (w : World) : Calls Try.prog 16 #[Im W H c z] w (Ret (R4 0 0 W H) w) := by
  go_enter Try.func16, Try.ntmps16
  go_wp2
  first
    | (go_ret; exact Ret.of' rfl (by (repeat (first | exact Below.refl _ _ | with_reducible refine Below.drew ?_ | with_reducible refine Below.ext ?_ (by first | exact Nat.le_refl _ | (simp; done) | (simp; omega)) _ | with_reducible refine Below.alloc ?_ (by first | exact Nat.le_refl _ | (simp; done) | (simp; omega)) _ | with_reducible refine Below.setCell ?_ (by first | exact Nat.le_refl _ | (simp; done) | (simp; omega)) _))))
    | exact bodyPost_ret (v := R4 0 0 W H) (by simp [results, Try.results16, go_sem]) rfl (Ret.of (by (repeat (first | exact Below.refl _ _ | with_reducible refine Below.drew ?_ | with_reducible refine Below.ext ?_ (by first | exact Nat.le_refl _ | (simp; done) | (simp; omega)) _ | with_reducible refine Below.alloc ?_ (by first | exact Nat.le_refl _ | (simp; done) | (simp; omega)) _ | with_reducible refine Below.setCell ?_ (by first | exact Nat.le_refl _ | (simp; done) | (simp; omega)) _))))
end Go.Proofs.Ythcjfanigfgckaa
