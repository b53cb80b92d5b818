/- The walks of the reference of layer 13: signs of numbers that are nearly others; is a point in a diamond. Conditions: bounds of points and pixels. -/
import Derived.Test.YtmlhbbkgfffmcaaRect
import Derived.Test.YtmlhbbkgfffmcaaMix
namespace Go.Proofs.Ytmlhbbkgfffmcaa
set_option linter.unusedVariables false
set_option linter.unusedSimpArgs false
open Go.RowKit
/-- The sign of a number, and so much less than any. -/
def sgn3 (a b c : Int) : Int := if a < 0 then -1 else if 0 < a then 1 else if b < 0 then -1 else if 0 < b then 1 else if c < 0 then -1 else if 0 < c then 1 else 0
theorem sgn3_m (a c : Int) : (sgn3 a (-1) c < 0 ↔ a ≤ 0) ∧ (0 < sgn3 a (-1) c ↔ 0 < a) := by
  unfold sgn3; repeat' split
  all_goals omega
theorem sign13_any (a b c : Int) (w : World) : Calls Try.prog 140 #[.agg #[.int .i64 a, .int .i64 b, .int .i64 c]] w (Ret (.int .i64 (sgn3 a b c)) w) := by
  go_enter Try.func140, Try.ntmps140
  go_wp2
  refine wp_loop_rounds 4 ?_
  iterate 4 try any_goals (rw [rounds_succ]; go_wp2)
  all_goals go_ret
  all_goals refine Ret.of' (congrArg (Value.int .i64) ?_) (by (repeat (first | exact Below.refl _ _ | with_reducible refine Below.drew ?_ | with_reducible refine Below.ext ?_ (by first | exact Nat.le_refl _ | (simp; done) | (simp; omega)) _ | with_reducible refine Below.alloc ?_ (by first | exact Nat.le_refl _ | (simp; done) | (simp; omega)) _ | with_reducible refine Below.setCell ?_ (by first | exact Nat.le_refl _ | (simp; done) | (simp; omega)) _)))
  all_goals (unfold sgn3; repeat' split)
  all_goals omega
theorem abs13_any (n : Int) (h : -9223372036854775807 ≤ n) (h1 : n ≤ 9223372036854775807) (w : World) : Calls Try.prog 141 #[.int .i64 n] w (Ret (.int .i64 (max n (-n))) w) := by
  go_enter Try.func141, Try.ntmps141
  go_wp2
  go_ret
  exact Ret.of' (by simp) (by (repeat (first | exact Below.refl _ _ | with_reducible refine Below.drew ?_ | with_reducible refine Below.ext ?_ (by first | exact Nat.le_refl _ | (simp; done) | (simp; omega)) _ | with_reducible refine Below.alloc ?_ (by first | exact Nat.le_refl _ | (simp; done) | (simp; omega)) _ | with_reducible refine Below.setCell ?_ (by first | exact Nat.le_refl _ | (simp; done) | (simp; omega)) _)))
theorem mul_bd2 {u v U V : Int} (hU : 0 ≤ U) (hV : 0 ≤ V) (u0 : -U ≤ u) (u1 : u ≤ U) (v0 : -V ≤ v) (v1 : v ≤ V) : -(U * V) ≤ u * v ∧ u * v ≤ U * V := by
  have h1 := Int.mul_nonneg (show 0 ≤ U - u by omega) (show 0 ≤ V - v by omega)
  have h2 := Int.mul_nonneg (show 0 ≤ U + u by omega) (show 0 ≤ V + v by omega)
  have h3 := Int.mul_nonneg (show 0 ≤ U - u by omega) (show 0 ≤ V + v by omega)
  have h4 := Int.mul_nonneg (show 0 ≤ U + u by omega) (show 0 ≤ V - v by omega)
  have e1 : (U - u) * (V - v) = U * V - U * v - u * V + u * v := by grind
  have e2 : (U + u) * (V + v) = U * V + U * v + u * V + u * v := by grind
  have e3 : (U - u) * (V + v) = U * V + U * v - u * V - u * v := by grind
  have e4 : (U + u) * (V - v) = U * V - U * v + u * V - u * v := by grind
  constructor <;> omega
abbrev P2 (x y : Int) : Value := .agg #[.int .i64 x, .int .i64 y]
/-- A point such as is promised anything. -/
structure MayP (x y : Int) : Prop where
  x0 : -536870912 ≤ x
  x1 : x ≤ 536870912
  y0 : -536870912 ≤ y
  y1 : y ≤ 536870912
/-- A pixel not too far away. -/
structure FarP (x y : Int) : Prop where
  x0 : -8388608 ≤ x
  x1 : x ≤ 8388608
  y0 : -8388608 ≤ y
  y1 : y ≤ 8388608
/-- Is a point, seen from the middle of a pixel, in its diamond? -/
def insP (u v : Int) : Prop := -128 < u + v ∧ u + v ≤ 128 ∧ -128 < u - v ∧ u - v ≤ 128
instance (u v : Int) : Decidable (insP u v) := by unfold insP; exact inferInstance
set_option maxHeartbeats 4000000 in
theorem rinside_any (px py x y : Int) (hp : MayP px py) (hx : FarP x y) (w : World) : Calls Try.prog 115 #[P2 px py, .int .i64 x, .int .i64 y] w (Ret (.bool (decide (insP (px - 256 * x - 128) (py - 256 * y - 128)))) w) := by
  obtain ⟨p0, p1, p2, p3⟩ := hp
  obtain ⟨x0, x1, x2, x3⟩ := hx
  obtain ⟨u, hu⟩ : ∃ u, px - 256 * x - 128 = u := ⟨_, rfl⟩
  obtain ⟨v, hv⟩ : ∃ v, py - 256 * y - 128 = v := ⟨_, rfl⟩
  have S1 := Lib.hid (sgn3_m (u + v - 128) (-1))
  have S2 := Lib.hid (sgn3_m (u + v + 128) (-1))
  have S3 := Lib.hid (sgn3_m (u - v - 128) 1)
  have S4 := Lib.hid (sgn3_m (u - v + 128) 1)
  rw [hu, hv]
  have bu : -4294967296 ≤ u ∧ u ≤ 4294967296 := by omega
  have bv : -4294967296 ≤ v ∧ v ≤ 4294967296 := by omega
  obtain ⟨bu0, bu1⟩ := bu
  obtain ⟨bv0, bv1⟩ := bv
  go_enter Try.func115, Try.ntmps115
  go_wp2
  refine wp_region_ext (by kernel_rfl) (by kernel_rfl) ?_
  repeat (go_big_quiet_step ((fail)))
  refine wpQuiet_nil ?_
  intro _ hw_ext
  obtain ⟨X, hw_ext⟩ := hw_ext
  subst hw_ext
  clear hu hv
  go_wp2_with (first | (go_at_call 140; (with_reducible refine (sign13_any _ _ _ _).mono ?_); rintro _ _ ⟨rfl, X_, rfl⟩))
  all_goals go_ret
  all_goals refine Ret.of' ?_ (by (repeat (first | exact Below.refl _ _ | with_reducible refine Below.drew ?_ | with_reducible refine Below.ext ?_ (by first | exact Nat.le_refl _ | (simp; done) | (simp; omega)) _ | with_reducible refine Below.alloc ?_ (by first | exact Nat.le_refl _ | (simp; done) | (simp; omega)) _ | with_reducible refine Below.setCell ?_ (by first | exact Nat.le_refl _ | (simp; done) | (simp; omega)) _)))
  all_goals (have t1 := S1.out; have t2 := S2.out; have t3 := S3.out; have t4 := S4.out)
  all_goals first
    | (refine bool_t ?_; unfold insP; omega)
    | (refine bool_f ?_; unfold insP; omega)
    | (refine bool_d ?_; unfold insP; omega)
end Go.Proofs.Ytmlhbbkgfffmcaa
