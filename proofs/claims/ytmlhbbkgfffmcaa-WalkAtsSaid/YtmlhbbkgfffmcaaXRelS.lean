/- Regions that draw and whose calls return slices of steps; layer 14's laws' guards. No condition. -/
import Derived.Test.YtmlhbbkgfffmcaaWalkQ
import Derived.Test.YtmlhbbkgfffmcaaRel
namespace Go.Proofs.Ytmlhbbkgfffmcaa
set_option linter.unusedVariables false
set_option linter.unusedSimpArgs false
open Go.RowKit
/-- A slice that reads these steps, in whatever block. -/
def srS (L : List St) : SR Grows := ⟨fun v w => Sts w v L, fun v w w' h ⟨X, e⟩ => by subst e; exact h.ext X, fun v => ∃ a cap, v = .slice a L.length cap, .slice none L.length 0, ⟨_, _, rfl⟩, fun v w ⟨_, a, cap, h, _⟩ => ⟨a, cap, h⟩⟩
/-- One value. -/
def srU (c : Value) : SR Grows := ⟨fun v w => v = c, fun v w w' h _ => h, fun v => v = c, c, rfl, fun v w h => h⟩
def mayQ (x y : Int) : Prop := -536870912 ≤ x ∧ x ≤ 536870912 ∧ -536870912 ≤ y ∧ y ≤ 536870912
instance (x y : Int) : Decidable (mayQ x y) := by unfold mayQ; exact inferInstance
def mayB (x y : Int) : Bool := decide (mayQ x y)
theorem mayB_may {x y : Int} (h : mayB x y = true) : MayP x y := by
  have h := of_decide_eq_true h
  obtain ⟨a, b, c, d⟩ := h; exact ⟨a, b, c, d⟩
theorem may14_any (x y : Int) (w : World) : Calls Try.prog 36 #[P2 x y] w (Ret (.bool (mayB x y)) w) := by
  unfold mayB
  go_enter Try.func36, Try.ntmps36
  go_wp2
  all_goals go_ret
  all_goals refine Ret.of' ?_ (by (repeat (first | exact Below.refl _ _ | with_reducible refine Below.drew ?_ | with_reducible refine Below.ext ?_ (by first | exact Nat.le_refl _ | (simp; done) | (simp; omega)) _ | with_reducible refine Below.alloc ?_ (by first | exact Nat.le_refl _ | (simp; done) | (simp; omega)) _ | with_reducible refine Below.setCell ?_ (by first | exact Nat.le_refl _ | (simp; done) | (simp; omega)) _)))
  all_goals first
    | (refine bool_t ?_; unfold mayQ; omega)
    | (refine bool_f ?_; unfold mayQ; omega)
    | (refine bool_d ?_; unfold mayQ; omega)
end Go.Proofs.Ytmlhbbkgfffmcaa
