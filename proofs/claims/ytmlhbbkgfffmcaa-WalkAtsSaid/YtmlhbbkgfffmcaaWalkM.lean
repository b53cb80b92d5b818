/- The walk of layer 14 (walk): Within. Conditions: the points' bounds. -/
import Derived.Test.YtmlhbbkgfffmcaaWalkL
namespace Go.Proofs.Ytmlhbbkgfffmcaa
set_option linter.unusedVariables false
set_option linter.unusedSimpArgs false
open Go.RowKit
theorem withinL_mk (ax ay bx y2 x0 y0 x1 y1 : Int) (c : ¬ (ax = bx ∧ ay = y2)) (r : rightP x0 y0 x1 y1) : withinL ax ay bx y2 x0 y0 x1 y1 =
    (mkWay ax ay bx y2).headL x0 y0 x1 y1 ++ (mkWay ax ay bx y2).loopL x0 y0 x1 y1 ((mkWay ax ay bx y2).hi x0 y0 x1 y1 - (mkWay ax ay bx y2).lo x0 y0 x1 y1 + 1).toNat := by
  unfold withinL
  rw [if_neg (fun q => q.elim c (fun q => q r)), ← mkWay_line ax ay bx y2 c, line_filter]
theorem withinL_no (ax ay bx y2 x0 y0 x1 y1 : Int) (c : (ax = bx ∧ ay = y2) ∨ ¬ rightP x0 y0 x1 y1) : withinL ax ay bx y2 x0 y0 x1 y1 = [] := if_pos c
theorem sts_nil (w : World) : Sts w (.slice none 0 0) [] := ⟨by simp, none, 0, rfl, Nat.le_refl _, .inl rfl⟩
set_option maxRecDepth 100000 in
set_option maxHeartbeats 8000000 in
theorem walk_within_no (ax ay bx y2 x0 y0 x1 y1 : Int) (c : (ax = bx ∧ ay = y2) ∨ ¬ rightP x0 y0 x1 y1) (w : World) : Calls Try.prog 40 #[P2 ax ay, P2 bx y2, R4 x0 y0 x1 y1] w (Lists w []) := by
  refine (callsIn_wide (n := 9)).1 ?_
  refine callsIn_of_wp_marks Try.func40 rfl trivial ?_ rfl
  simp only [Try.ntmps40, List.size_toArray, List.length_cons, List.length_nil, Nat.reduceAdd, Nat.reduceSub, Array.replicate_succ, Array.replicate_zero, List.push_toArray, List.append_toArray, List.nil_append, List.cons_append]
  refine wpIn_wide.2 ?_
  by_cases hc : ax = bx ∧ ay = y2
  · obtain ⟨rfl, rfl⟩ := hc
    have hz1 : (ax == ax) = true := by simp
    have hz2 : (ay == ay) = true := by simp
    go_wp2
    exact ⟨_, results_tmp rfl _ _ _, _, rfl, sts_nil _, RowKit.Below.toExt (by (repeat (first | exact Below.refl _ _ | with_reducible refine Below.drew ?_ | with_reducible refine Below.ext ?_ (by first | exact Nat.le_refl _ | (simp; done) | (simp; omega)) _ | with_reducible refine Below.alloc ?_ (by first | exact Nat.le_refl _ | (simp; done) | (simp; omega)) _ | with_reducible refine Below.setCell ?_ (by first | exact Nat.le_refl _ | (simp; done) | (simp; omega)) _)))⟩
  · have hr : decide (rightP x0 y0 x1 y1) = false := decide_eq_false (c.resolve_left hc)
    have HR := Lib.hid (fun w => hr ▸ rect_right x0 y0 x1 y1 w)
    have hz := ne_bools hc
    clear c hc hr
    rcases hz with hz1 | ⟨hz1, hz2⟩
    all_goals
      go_wp2_with (first | (go_at_call 90; (with_reducible refine (HR.out _).mono ?_); rintro _ _ ⟨rfl, X_, rfl⟩))
      exact ⟨_, results_tmp rfl _ _ _, _, rfl, sts_nil _, RowKit.Below.toExt (by (repeat (first | exact Below.refl _ _ | with_reducible refine Below.drew ?_ | with_reducible refine Below.ext ?_ (by first | exact Nat.le_refl _ | (simp; done) | (simp; omega)) _ | with_reducible refine Below.alloc ?_ (by first | exact Nat.le_refl _ | (simp; done) | (simp; omega)) _ | with_reducible refine Below.setCell ?_ (by first | exact Nat.le_refl _ | (simp; done) | (simp; omega)) _)))⟩
end Go.Proofs.Ytmlhbbkgfffmcaa
