/- Parts of the proofs, laid together: Rect. Conditions: at each. -/
import Derived.Test.YthcjfanigfgckaaPBase
section
/- The walks of layer 12 (rect) and its reference: may a rectangle be; has it a pixel; its area. No condition besides 64 bits. (Seat r1 has the first of these in FragA.) -/
namespace Go.Proofs.Ythcjfanigfgckaa
set_option linter.unusedVariables false
set_option linter.unusedSimpArgs false
open Go.RowKit
/-- May a rectangle be? -/
def rightP (x0 y0 x1 y1 : Int) : Prop := (-4194304 ≤ x0 ∧ x0 ≤ 4194304) ∧ (-4194304 ≤ y0 ∧ y0 ≤ 4194304) ∧ (-4194304 ≤ x1 ∧ x1 ≤ 4194304) ∧ (-4194304 ≤ y1 ∧ y1 ≤ 4194304) ∧ x0 < x1 ∧ y0 < y1
instance (x0 y0 x1 y1 : Int) : Decidable (rightP x0 y0 x1 y1) := by unfold rightP; exact inferInstance
def hasP (x0 y0 x1 y1 x y : Int) : Prop := rightP x0 y0 x1 y1 ∧ x0 ≤ x ∧ x < x1 ∧ y0 ≤ y ∧ y < y1
instance (x0 y0 x1 y1 x y : Int) : Decidable (hasP x0 y0 x1 y1 x y) := by unfold hasP; exact inferInstance
abbrev R4 (x0 y0 x1 y1 : Int) : Value := .agg #[.int .i64 x0, .int .i64 y0, .int .i64 x1, .int .i64 y1]
set_option maxHeartbeats 2000000 in
theorem rrect_right (x0 y0 x1 y1 : Int) (w : World) : Calls Try.prog 28 #[R4 x0 y0 x1 y1] w (Ret (.bool (decide (rightP x0 y0 x1 y1))) w) := by
  go_enter Try.func28, Try.ntmps28
  go_wp2
  refine wp_loop_rounds 5 ?_
  iterate 5 try any_goals (rw [rounds_succ]; go_wp2)
  all_goals go_ret
  all_goals refine Ret.of' ?_ (by (repeat (first | exact Below.refl _ _ | with_reducible refine Below.drew ?_ | with_reducible refine Below.ext ?_ (by first | exact Nat.le_refl _ | (simp; done) | (simp; omega)) _ | with_reducible refine Below.alloc ?_ (by first | exact Nat.le_refl _ | (simp; done) | (simp; omega)) _ | with_reducible refine Below.setCell ?_ (by first | exact Nat.le_refl _ | (simp; done) | (simp; omega)) _)))
  all_goals first
    | (refine bool_t ?_; unfold rightP; omega)
    | (refine bool_f ?_; unfold rightP; omega)
    | (refine bool_d ?_; unfold rightP; omega)
set_option maxHeartbeats 2000000 in
theorem rect_right (x0 y0 x1 y1 : Int) (w : World) : Calls Try.prog 27 #[R4 x0 y0 x1 y1] w (Ret (.bool (decide (rightP x0 y0 x1 y1))) w) := by
  go_enter Try.func27, Try.ntmps27
  go_wp2
  refine wp_loop_rounds 5 ?_
  iterate 5 try any_goals (rw [rounds_succ]; go_wp2)
  all_goals go_ret
  all_goals refine Ret.of' ?_ (by (repeat (first | exact Below.refl _ _ | with_reducible refine Below.drew ?_ | with_reducible refine Below.ext ?_ (by first | exact Nat.le_refl _ | (simp; done) | (simp; omega)) _ | with_reducible refine Below.alloc ?_ (by first | exact Nat.le_refl _ | (simp; done) | (simp; omega)) _ | with_reducible refine Below.setCell ?_ (by first | exact Nat.le_refl _ | (simp; done) | (simp; omega)) _)))
  all_goals first
    | (refine bool_t ?_; unfold rightP; omega)
    | (refine bool_f ?_; unfold rightP; omega)
    | (refine bool_d ?_; unfold rightP; omega)
theorem rrect_has (x0 y0 x1 y1 x y : Int) (w : World) : Calls Try.prog 23 #[R4 x0 y0 x1 y1, .int .i64 x, .int .i64 y] w (Ret (.bool (decide (hasP x0 y0 x1 y1 x y))) w) := by
  have hR := fun w => rrect_right x0 y0 x1 y1 w
  by_cases hr : rightP x0 y0 x1 y1
  · simp only [hr, decide_true] at hR
    have HR := Lib.hid hR
    have e : hasP x0 y0 x1 y1 x y ↔ (x0 ≤ x ∧ x < x1 ∧ y0 ≤ y ∧ y < y1) := by simp [hasP, hr]
    have HE := Lib.hid e
    clear e hR hr
    go_enter Try.func23, Try.ntmps23
    go_wp2_with (first | (go_at_call 28; (with_reducible refine (HR.out _).mono ?_); rintro _ _ ⟨rfl, X_, rfl⟩))
    all_goals go_ret
    all_goals refine Ret.of' ?_ (by (repeat (first | exact Below.refl _ _ | with_reducible refine Below.drew ?_ | with_reducible refine Below.ext ?_ (by first | exact Nat.le_refl _ | (simp; done) | (simp; omega)) _ | with_reducible refine Below.alloc ?_ (by first | exact Nat.le_refl _ | (simp; done) | (simp; omega)) _ | with_reducible refine Below.setCell ?_ (by first | exact Nat.le_refl _ | (simp; done) | (simp; omega)) _)))
    all_goals first
      | (refine bool_t (HE.out.2 ?_); omega)
      | (refine bool_f (fun h => ?_); have h' := HE.out.1 h; omega)
      | (refine bool_d (Iff.trans ?_ HE.out.symm); omega)
  · simp only [hr, decide_false] at hR
    have HR := Lib.hid hR
    clear hR
    go_enter Try.func23, Try.ntmps23
    go_wp2_with (first | (go_at_call 28; (with_reducible refine (HR.out _).mono ?_); rintro _ _ ⟨rfl, X_, rfl⟩))
    go_ret
    exact Ret.of' (by simp [hasP, hr]) (by (repeat (first | exact Below.refl _ _ | with_reducible refine Below.drew ?_ | with_reducible refine Below.ext ?_ (by first | exact Nat.le_refl _ | (simp; done) | (simp; omega)) _ | with_reducible refine Below.alloc ?_ (by first | exact Nat.le_refl _ | (simp; done) | (simp; omega)) _ | with_reducible refine Below.setCell ?_ (by first | exact Nat.le_refl _ | (simp; done) | (simp; omega)) _)))
def areaP (x0 y0 x1 y1 : Int) : Int := if rightP x0 y0 x1 y1 then (x1 - x0) * (y1 - y0) else 0
end Go.Proofs.Ythcjfanigfgckaa
end
