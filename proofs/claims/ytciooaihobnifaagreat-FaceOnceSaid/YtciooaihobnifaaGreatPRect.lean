/- Parts of the proofs, laid together: Rect. Conditions: at each. -/
import Derived.Test.YtciooaihobnifaaGreatPBase
section
/- The walks of layer 12 (rect) and its reference: may a rectangle be; has it a pixel; its area. No condition besides 64 bits. (Seat r1 has the first of these in FragA.) -/
namespace Go.Proofs.YtciooaihobnifaaGreat
set_option linter.unusedVariables false
set_option linter.unusedSimpArgs false
open Go.RowKit
/-- May a rectangle be? -/
def rightP (x0 y0 x1 y1 : Int) : Prop := (-4194304 ≤ x0 ∧ x0 ≤ 4194304) ∧ (-4194304 ≤ y0 ∧ y0 ≤ 4194304) ∧ (-4194304 ≤ x1 ∧ x1 ≤ 4194304) ∧ (-4194304 ≤ y1 ∧ y1 ≤ 4194304) ∧ x0 < x1 ∧ y0 < y1
instance (x0 y0 x1 y1 : Int) : Decidable (rightP x0 y0 x1 y1) := by unfold rightP; exact inferInstance
def hasP (x0 y0 x1 y1 x y : Int) : Prop := rightP x0 y0 x1 y1 ∧ x0 ≤ x ∧ x < x1 ∧ y0 ≤ y ∧ y < y1
instance (x0 y0 x1 y1 x y : Int) : Decidable (hasP x0 y0 x1 y1 x y) := by unfold hasP; exact inferInstance
abbrev R4 (x0 y0 x1 y1 : Int) : Value := .agg #[.int .i64 x0, .int .i64 y0, .int .i64 x1, .int .i64 y1]
set_option maxHeartbeats 2000000 in
theorem rrect_right (x0 y0 x1 y1 : Int) (w : World) : Calls Tryz.prog 29 #[R4 x0 y0 x1 y1] w (Ret (.bool (decide (rightP x0 y0 x1 y1))) w) := by
  go_enter Tryz.func29, Tryz.ntmps29
  go_wp2
  refine wp_loop_rounds 5 ?_
  iterate 5 try any_goals (rw [rounds_succ]; go_wp2)
  all_goals go_ret
  all_goals refine Ret.of' ?_ (by (repeat (first | exact Below.refl _ _ | with_reducible refine Below.drew ?_ | with_reducible refine Below.ext ?_ (by first | exact Nat.le_refl _ | (simp; done) | (simp; omega)) _ | with_reducible refine Below.alloc ?_ (by first | exact Nat.le_refl _ | (simp; done) | (simp; omega)) _ | with_reducible refine Below.setCell ?_ (by first | exact Nat.le_refl _ | (simp; done) | (simp; omega)) _)))
  all_goals first
    | (refine bool_t ?_; unfold rightP; omega)
    | (refine bool_f ?_; unfold rightP; omega)
    | (refine bool_d ?_; unfold rightP; omega)
set_option maxHeartbeats 2000000 in
theorem rect_right (x0 y0 x1 y1 : Int) (w : World) : Calls Tryz.prog 53 #[R4 x0 y0 x1 y1] w (Ret (.bool (decide (rightP x0 y0 x1 y1))) w) := by
  go_enter Tryz.func53, Tryz.ntmps53
  go_wp2
  refine wp_loop_rounds 5 ?_
  iterate 5 try any_goals (rw [rounds_succ]; go_wp2)
  all_goals go_ret
  all_goals refine Ret.of' ?_ (by (repeat (first | exact Below.refl _ _ | with_reducible refine Below.drew ?_ | with_reducible refine Below.ext ?_ (by first | exact Nat.le_refl _ | (simp; done) | (simp; omega)) _ | with_reducible refine Below.alloc ?_ (by first | exact Nat.le_refl _ | (simp; done) | (simp; omega)) _ | with_reducible refine Below.setCell ?_ (by first | exact Nat.le_refl _ | (simp; done) | (simp; omega)) _)))
  all_goals first
    | (refine bool_t ?_; unfold rightP; omega)
    | (refine bool_f ?_; unfold rightP; omega)
    | (refine bool_d ?_; unfold rightP; omega)
theorem rrect_has (x0 y0 x1 y1 x y : Int) (w : World) : Calls Tryz.prog 33 #[R4 x0 y0 x1 y1, .int .i64 x, .int .i64 y] w (Ret (.bool (decide (hasP x0 y0 x1 y1 x y))) w) := by
  have hR := fun w => rrect_right x0 y0 x1 y1 w
  by_cases hr : rightP x0 y0 x1 y1
  · simp only [hr, decide_true] at hR
    have HR := Lib.hid hR
    have e : hasP x0 y0 x1 y1 x y ↔ (x0 ≤ x ∧ x < x1 ∧ y0 ≤ y ∧ y < y1) := by simp [hasP, hr]
    have HE := Lib.hid e
    clear e hR hr
    go_enter Tryz.func33, Tryz.ntmps33
    go_wp2_with (first | (go_at_call 29; (with_reducible refine (HR.out _).mono ?_); rintro _ _ ⟨rfl, X_, rfl⟩))
    all_goals go_ret
    all_goals refine Ret.of' ?_ (by (repeat (first | exact Below.refl _ _ | with_reducible refine Below.drew ?_ | with_reducible refine Below.ext ?_ (by first | exact Nat.le_refl _ | (simp; done) | (simp; omega)) _ | with_reducible refine Below.alloc ?_ (by first | exact Nat.le_refl _ | (simp; done) | (simp; omega)) _ | with_reducible refine Below.setCell ?_ (by first | exact Nat.le_refl _ | (simp; done) | (simp; omega)) _)))
    all_goals first
      | (refine bool_t (HE.out.2 ?_); omega)
      | (refine bool_f (fun h => ?_); have h' := HE.out.1 h; omega)
      | (refine bool_d (Iff.trans ?_ HE.out.symm); omega)
  · simp only [hr, decide_false] at hR
    have HR := Lib.hid hR
    clear hR
    go_enter Tryz.func33, Tryz.ntmps33
    go_wp2_with (first | (go_at_call 29; (with_reducible refine (HR.out _).mono ?_); rintro _ _ ⟨rfl, X_, rfl⟩))
    go_ret
    exact Ret.of' (by simp [hasP, hr]) (by (repeat (first | exact Below.refl _ _ | with_reducible refine Below.drew ?_ | with_reducible refine Below.ext ?_ (by first | exact Nat.le_refl _ | (simp; done) | (simp; omega)) _ | with_reducible refine Below.alloc ?_ (by first | exact Nat.le_refl _ | (simp; done) | (simp; omega)) _ | with_reducible refine Below.setCell ?_ (by first | exact Nat.le_refl _ | (simp; done) | (simp; omega)) _)))
theorem rect_has (x0 y0 x1 y1 x y : Int) (w : World) : Calls Tryz.prog 115 #[R4 x0 y0 x1 y1, .int .i64 x, .int .i64 y] w (Ret (.bool (decide (hasP x0 y0 x1 y1 x y))) w) := by
  have hR := fun w => rect_right x0 y0 x1 y1 w
  by_cases hr : rightP x0 y0 x1 y1
  · simp only [hr, decide_true] at hR
    have HR := Lib.hid hR
    have e : hasP x0 y0 x1 y1 x y ↔ (x0 ≤ x ∧ x < x1 ∧ y0 ≤ y ∧ y < y1) := by simp [hasP, hr]
    have HE := Lib.hid e
    clear e hR hr
    go_enter Tryz.func115, Tryz.ntmps115
    go_wp2_with (first | (go_at_call 53; (with_reducible refine (HR.out _).mono ?_); rintro _ _ ⟨rfl, X_, rfl⟩))
    all_goals go_ret
    all_goals refine Ret.of' ?_ (by (repeat (first | exact Below.refl _ _ | with_reducible refine Below.drew ?_ | with_reducible refine Below.ext ?_ (by first | exact Nat.le_refl _ | (simp; done) | (simp; omega)) _ | with_reducible refine Below.alloc ?_ (by first | exact Nat.le_refl _ | (simp; done) | (simp; omega)) _ | with_reducible refine Below.setCell ?_ (by first | exact Nat.le_refl _ | (simp; done) | (simp; omega)) _)))
    all_goals first
      | (refine bool_t (HE.out.2 ?_); omega)
      | (refine bool_f (fun h => ?_); have h' := HE.out.1 h; omega)
      | (refine bool_d (Iff.trans ?_ HE.out.symm); omega)
  · simp only [hr, decide_false] at hR
    have HR := Lib.hid hR
    clear hR
    go_enter Tryz.func115, Tryz.ntmps115
    go_wp2_with (first | (go_at_call 53; (with_reducible refine (HR.out _).mono ?_); rintro _ _ ⟨rfl, X_, rfl⟩))
    go_ret
    exact Ret.of' (by simp [hasP, hr]) (by (repeat (first | exact Below.refl _ _ | with_reducible refine Below.drew ?_ | with_reducible refine Below.ext ?_ (by first | exact Nat.le_refl _ | (simp; done) | (simp; omega)) _ | with_reducible refine Below.alloc ?_ (by first | exact Nat.le_refl _ | (simp; done) | (simp; omega)) _ | with_reducible refine Below.setCell ?_ (by first | exact Nat.le_refl _ | (simp; done) | (simp; omega)) _)))
def areaP (x0 y0 x1 y1 : Int) : Int := if rightP x0 y0 x1 y1 then (x1 - x0) * (y1 - y0) else 0
theorem rrect_area (x0 y0 x1 y1 : Int) (w : World) : Calls Tryz.prog 30 #[R4 x0 y0 x1 y1] w (Ret (.int .i64 (areaP x0 y0 x1 y1)) w) := by
  have HR := Lib.hid (fun w => rrect_right x0 y0 x1 y1 w)
  by_cases hr : rightP x0 y0 x1 y1
  · rw [areaP, if_pos hr]
    simp only [hr, decide_true] at HR
    obtain ⟨⟨a0, a1⟩, ⟨b0, b1⟩, ⟨c0, c1⟩, ⟨d0, d1⟩, e0, e1⟩ := hr
    have m : 0 ≤ (x1 - x0) * (y1 - y0) ∧ (x1 - x0) * (y1 - y0) ≤ 8388608 * 8388608 := ⟨Int.mul_nonneg (by omega) (by omega), Int.mul_le_mul (by omega) (by omega) (by omega) (by omega)⟩
    have k : IntKind.i64.wrap ((x1 - x0) * (y1 - y0)) = (x1 - x0) * (y1 - y0) := IntWalk.i64_in _ (by omega)
    clear m
    go_enter Tryz.func30, Tryz.ntmps30
    go_wp2_with (first | (go_at_call 29; (with_reducible refine (HR.out _).mono ?_); rintro _ _ ⟨rfl, X_, rfl⟩))
    go_ret
    exact Ret.of (by (repeat (first | exact Below.refl _ _ | with_reducible refine Below.drew ?_ | with_reducible refine Below.ext ?_ (by first | exact Nat.le_refl _ | (simp; done) | (simp; omega)) _ | with_reducible refine Below.alloc ?_ (by first | exact Nat.le_refl _ | (simp; done) | (simp; omega)) _ | with_reducible refine Below.setCell ?_ (by first | exact Nat.le_refl _ | (simp; done) | (simp; omega)) _)))
  · rw [areaP, if_neg hr]
    simp only [hr, decide_false] at HR
    clear hr
    go_enter Tryz.func30, Tryz.ntmps30
    go_wp2_with (first | (go_at_call 29; (with_reducible refine (HR.out _).mono ?_); rintro _ _ ⟨rfl, X_, rfl⟩))
    go_ret
    exact Ret.of (by (repeat (first | exact Below.refl _ _ | with_reducible refine Below.drew ?_ | with_reducible refine Below.ext ?_ (by first | exact Nat.le_refl _ | (simp; done) | (simp; omega)) _ | with_reducible refine Below.alloc ?_ (by first | exact Nat.le_refl _ | (simp; done) | (simp; omega)) _ | with_reducible refine Below.setCell ?_ (by first | exact Nat.le_refl _ | (simp; done) | (simp; omega)) _)))
end Go.Proofs.YtciooaihobnifaaGreat
end
