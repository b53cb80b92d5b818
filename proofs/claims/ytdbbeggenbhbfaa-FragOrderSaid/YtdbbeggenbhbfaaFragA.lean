/- The walks of layer 25 (frag): may operations be, may a fragment be; has a rectangle a pixel; does a depth pass. No condition besides 64 bits. -/
import Derived.Test.YtdbbeggenbhbfaaBlendW
import Derived.Test.YtdbbeggenbhbfaaImg
namespace Go.Proofs.Ytdbbeggenbhbfaa
set_option linter.unusedVariables false
set_option linter.unusedSimpArgs false
open Go.RowKit
/-- Is it an int of 64 bits? -/
def I64 (x : Int) : Prop := -9223372036854775808 ≤ x ∧ x ≤ 9223372036854775807
structure OpsP where
  cut : Bool
  x0 : Int
  y0 : Int
  x1 : Int
  y1 : Int
  deep : Bool
  fn : Int
  keep : Bool
  mix : Bool
  sf : Int
  df : Int
  m0 : Bool
  m1 : Bool
  m2 : Bool
  m3 : Bool
abbrev OpsP.v (o : OpsP) : Value := .agg #[.bool o.cut, .int .i64 o.x0, .int .i64 o.y0, .int .i64 o.x1, .int .i64 o.y1, .bool o.deep, .int .i64 o.fn, .bool o.keep, .bool o.mix, .int .i64 o.sf, .int .i64 o.df, .bool o.m0, .bool o.m1, .bool o.m2, .bool o.m3]
structure FrP where
  x : Int
  y : Int
  z : Int
  c0 : Int
  c1 : Int
  c2 : Int
  c3 : Int
  cov : Int
abbrev FrP.v (f : FrP) : Value := .agg #[.int .i64 f.x, .int .i64 f.y, .int .i64 f.z, .int .i64 f.c0, .int .i64 f.c1, .int .i64 f.c2, .int .i64 f.c3, .int .i64 f.cov]
def OpsP.right (o : OpsP) : Prop := (0 ≤ o.fn ∧ o.fn ≤ 7) ∧ (0 ≤ o.sf ∧ o.sf ≤ 7) ∧ 0 ≤ o.df ∧ o.df ≤ 7
instance (o : OpsP) : Decidable o.right := by unfold OpsP.right; exact inferInstance
def FrP.fits (f : FrP) : Prop := (0 ≤ f.c0 ∧ f.c0 ≤ 255) ∧ (0 ≤ f.c1 ∧ f.c1 ≤ 255) ∧ (0 ≤ f.c2 ∧ f.c2 ≤ 255) ∧ (0 ≤ f.c3 ∧ f.c3 ≤ 255) ∧ (0 ≤ f.z ∧ f.z ≤ 16777215) ∧ 1 ≤ f.cov ∧ f.cov ≤ 64
instance (f : FrP) : Decidable f.fits := by unfold FrP.fits; exact inferInstance
structure OpsP.ok (o : OpsP) : Prop where
  x0 : I64 o.x0
  y0 : I64 o.y0
  x1 : I64 o.x1
  y1 : I64 o.y1
  fn : I64 o.fn
  sf : I64 o.sf
  df : I64 o.df
structure FrP.ok (f : FrP) : Prop where
  x : I64 f.x
  y : I64 f.y
  z : I64 f.z
  c0 : I64 f.c0
  c1 : I64 f.c1
  c2 : I64 f.c2
  c3 : I64 f.c3
  cov : I64 f.cov
/-- May a rectangle be? -/
def rightP (x0 y0 x1 y1 : Int) : Prop := (-4194304 ≤ x0 ∧ x0 ≤ 4194304) ∧ (-4194304 ≤ y0 ∧ y0 ≤ 4194304) ∧ (-4194304 ≤ x1 ∧ x1 ≤ 4194304) ∧ (-4194304 ≤ y1 ∧ y1 ≤ 4194304) ∧ x0 < x1 ∧ y0 < y1
instance (x0 y0 x1 y1 : Int) : Decidable (rightP x0 y0 x1 y1) := by unfold rightP; exact inferInstance
def hasP (x0 y0 x1 y1 x y : Int) : Prop := rightP x0 y0 x1 y1 ∧ x0 ≤ x ∧ x < x1 ∧ y0 ≤ y ∧ y < y1
instance (x0 y0 x1 y1 x y : Int) : Decidable (hasP x0 y0 x1 y1 x y) := by unfold hasP; exact inferInstance
abbrev R4 (x0 y0 x1 y1 : Int) : Value := .agg #[.int .i64 x0, .int .i64 y0, .int .i64 x1, .int .i64 y1]
theorem bool_t {p : Prop} [Decidable p] (h : p) : Value.bool true = .bool (decide p) := by simp [h]
theorem bool_f {p : Prop} [Decidable p] (h : ¬ p) : Value.bool false = .bool (decide p) := by simp [h]
theorem bool_d {p q : Prop} [Decidable p] [Decidable q] (h : q ↔ p) : Value.bool (decide q) = .bool (decide p) := by simp [h]
set_option maxHeartbeats 2000000 in
theorem rrect_right (x0 y0 x1 y1 : Int) (w : World) : Calls Try.prog 77 #[R4 x0 y0 x1 y1] w (Ret (.bool (decide (rightP x0 y0 x1 y1))) w) := by
  go_enter Try.func77, Try.ntmps77
  go_wp2
  refine wp_loop_rounds 5 ?_
  iterate 5 try any_goals (rw [rounds_succ]; go_wp2)
  all_goals go_ret
  all_goals refine Ret.of' ?_ (by (repeat (first | exact Below.refl _ _ | with_reducible refine Below.drew ?_ | with_reducible refine Below.ext ?_ (by first | exact Nat.le_refl _ | (simp; done) | (simp; omega)) _ | with_reducible refine Below.alloc ?_ (by first | exact Nat.le_refl _ | (simp; done) | (simp; omega)) _ | with_reducible refine Below.setCell ?_ (by first | exact Nat.le_refl _ | (simp; done) | (simp; omega)) _)))
  all_goals first
    | (refine bool_t ?_; unfold rightP; omega)
    | (refine bool_f ?_; unfold rightP; omega)
    | (refine bool_d ?_; unfold rightP; omega)
set_option maxHeartbeats 2000000 in
theorem rect_right (x0 y0 x1 y1 : Int) (w : World) : Calls Try.prog 76 #[R4 x0 y0 x1 y1] w (Ret (.bool (decide (rightP x0 y0 x1 y1))) w) := by
  go_enter Try.func76, Try.ntmps76
  go_wp2
  refine wp_loop_rounds 5 ?_
  iterate 5 try any_goals (rw [rounds_succ]; go_wp2)
  all_goals go_ret
  all_goals refine Ret.of' ?_ (by (repeat (first | exact Below.refl _ _ | with_reducible refine Below.drew ?_ | with_reducible refine Below.ext ?_ (by first | exact Nat.le_refl _ | (simp; done) | (simp; omega)) _ | with_reducible refine Below.alloc ?_ (by first | exact Nat.le_refl _ | (simp; done) | (simp; omega)) _ | with_reducible refine Below.setCell ?_ (by first | exact Nat.le_refl _ | (simp; done) | (simp; omega)) _)))
  all_goals first
    | (refine bool_t ?_; unfold rightP; omega)
    | (refine bool_f ?_; unfold rightP; omega)
    | (refine bool_d ?_; unfold rightP; omega)
theorem rrect_has (x0 y0 x1 y1 x y : Int) (w : World) : Calls Try.prog 66 #[R4 x0 y0 x1 y1, .int .i64 x, .int .i64 y] w (Ret (.bool (decide (hasP x0 y0 x1 y1 x y))) w) := by
  have hR := fun w => rrect_right x0 y0 x1 y1 w
  by_cases hr : rightP x0 y0 x1 y1
  · simp only [hr, decide_true] at hR
    have HR := Lib.hid hR
    have e : hasP x0 y0 x1 y1 x y ↔ (x0 ≤ x ∧ x < x1 ∧ y0 ≤ y ∧ y < y1) := by simp [hasP, hr]
    have HE := Lib.hid e
    clear e hR hr
    go_enter Try.func66, Try.ntmps66
    go_wp2_with (first | (go_at_call 77; (with_reducible refine (HR.out _).mono ?_); rintro _ _ ⟨rfl, X_, rfl⟩))
    all_goals go_ret
    all_goals refine Ret.of' ?_ (by (repeat (first | exact Below.refl _ _ | with_reducible refine Below.drew ?_ | with_reducible refine Below.ext ?_ (by first | exact Nat.le_refl _ | (simp; done) | (simp; omega)) _ | with_reducible refine Below.alloc ?_ (by first | exact Nat.le_refl _ | (simp; done) | (simp; omega)) _ | with_reducible refine Below.setCell ?_ (by first | exact Nat.le_refl _ | (simp; done) | (simp; omega)) _)))
    all_goals first
      | (refine bool_t (HE.out.2 ?_); omega)
      | (refine bool_f (fun h => ?_); have h' := HE.out.1 h; omega)
      | (refine bool_d (Iff.trans ?_ HE.out.symm); omega)
  · simp only [hr, decide_false] at hR
    have HR := Lib.hid hR
    clear hR
    go_enter Try.func66, Try.ntmps66
    go_wp2_with (first | (go_at_call 77; (with_reducible refine (HR.out _).mono ?_); rintro _ _ ⟨rfl, X_, rfl⟩))
    go_ret
    exact Ret.of' (by simp [hasP, hr]) (by (repeat (first | exact Below.refl _ _ | with_reducible refine Below.drew ?_ | with_reducible refine Below.ext ?_ (by first | exact Nat.le_refl _ | (simp; done) | (simp; omega)) _ | with_reducible refine Below.alloc ?_ (by first | exact Nat.le_refl _ | (simp; done) | (simp; omega)) _ | with_reducible refine Below.setCell ?_ (by first | exact Nat.le_refl _ | (simp; done) | (simp; omega)) _)))
theorem rect_has (x0 y0 x1 y1 x y : Int) (w : World) : Calls Try.prog 78 #[R4 x0 y0 x1 y1, .int .i64 x, .int .i64 y] w (Ret (.bool (decide (hasP x0 y0 x1 y1 x y))) w) := by
  have hR := fun w => rect_right x0 y0 x1 y1 w
  by_cases hr : rightP x0 y0 x1 y1
  · simp only [hr, decide_true] at hR
    have HR := Lib.hid hR
    have e : hasP x0 y0 x1 y1 x y ↔ (x0 ≤ x ∧ x < x1 ∧ y0 ≤ y ∧ y < y1) := by simp [hasP, hr]
    have HE := Lib.hid e
    clear e hR hr
    go_enter Try.func78, Try.ntmps78
    go_wp2_with (first | (go_at_call 76; (with_reducible refine (HR.out _).mono ?_); rintro _ _ ⟨rfl, X_, rfl⟩))
    all_goals go_ret
    all_goals refine Ret.of' ?_ (by (repeat (first | exact Below.refl _ _ | with_reducible refine Below.drew ?_ | with_reducible refine Below.ext ?_ (by first | exact Nat.le_refl _ | (simp; done) | (simp; omega)) _ | with_reducible refine Below.alloc ?_ (by first | exact Nat.le_refl _ | (simp; done) | (simp; omega)) _ | with_reducible refine Below.setCell ?_ (by first | exact Nat.le_refl _ | (simp; done) | (simp; omega)) _)))
    all_goals first
      | (refine bool_t (HE.out.2 ?_); omega)
      | (refine bool_f (fun h => ?_); have h' := HE.out.1 h; omega)
      | (refine bool_d (Iff.trans ?_ HE.out.symm); omega)
  · simp only [hr, decide_false] at hR
    have HR := Lib.hid hR
    clear hR
    go_enter Try.func78, Try.ntmps78
    go_wp2_with (first | (go_at_call 76; (with_reducible refine (HR.out _).mono ?_); rintro _ _ ⟨rfl, X_, rfl⟩))
    go_ret
    exact Ret.of' (by simp [hasP, hr]) (by (repeat (first | exact Below.refl _ _ | with_reducible refine Below.drew ?_ | with_reducible refine Below.ext ?_ (by first | exact Nat.le_refl _ | (simp; done) | (simp; omega)) _ | with_reducible refine Below.alloc ?_ (by first | exact Nat.le_refl _ | (simp; done) | (simp; omega)) _ | with_reducible refine Below.setCell ?_ (by first | exact Nat.le_refl _ | (simp; done) | (simp; omega)) _)))
theorem rops_right (o : OpsP) (w : World) : Calls Try.prog 51 #[o.v] w (Ret (.bool (decide o.right)) w) := by
  go_enter Try.func51, Try.ntmps51
  go_wp2
  all_goals go_ret
  all_goals refine Ret.of' ?_ (by (repeat (first | exact Below.refl _ _ | with_reducible refine Below.drew ?_ | with_reducible refine Below.ext ?_ (by first | exact Nat.le_refl _ | (simp; done) | (simp; omega)) _ | with_reducible refine Below.alloc ?_ (by first | exact Nat.le_refl _ | (simp; done) | (simp; omega)) _ | with_reducible refine Below.setCell ?_ (by first | exact Nat.le_refl _ | (simp; done) | (simp; omega)) _)))
  all_goals first
    | (refine bool_t ?_; unfold OpsP.right; omega)
    | (refine bool_f ?_; unfold OpsP.right; omega)
    | (refine bool_d ?_; unfold OpsP.right; omega)
/-- A number below 0 is no small one, unsigned. -/
theorem unsig {x b : Int} (h0 : -9223372036854775808 ≤ x) (h1 : x < 0) (hb : b ≤ 16777216) : decide (IntKind.u64.wrap x < b) = false ∧ decide (b < IntKind.u64.wrap x) = true ∧ decide (IntKind.u64.wrap x ≤ b) = false := by
  rw [decide_eq_false_iff_not, decide_eq_true_eq, decide_eq_false_iff_not, IntKind.wrap_u64]; omega
set_option maxHeartbeats 2000000 in
theorem ops_right (o : OpsP) (ho : o.ok) (w : World) : Calls Try.prog 50 #[o.v] w (Ret (.bool (decide o.right)) w) := by
  obtain ⟨-, -, -, -, ⟨f0, f1⟩, ⟨s0, s1⟩, ⟨d0, d1⟩⟩ := ho
  by_cases a : 0 ≤ o.fn
  case neg =>
    have n := (unsig (b := 8) f0 (by omega) (by decide)).1
    have no : ¬ o.right := by unfold OpsP.right; omega
    rw [show decide o.right = false from by simp [no]]
    clear a no
    go_enter Try.func50, Try.ntmps50
    go_wp2
    go_ret
    exact Ret.of (by (repeat (first | exact Below.refl _ _ | with_reducible refine Below.drew ?_ | with_reducible refine Below.ext ?_ (by first | exact Nat.le_refl _ | (simp; done) | (simp; omega)) _ | with_reducible refine Below.alloc ?_ (by first | exact Nat.le_refl _ | (simp; done) | (simp; omega)) _ | with_reducible refine Below.setCell ?_ (by first | exact Nat.le_refl _ | (simp; done) | (simp; omega)) _)))
  by_cases b : 0 ≤ o.sf
  case neg =>
    have n := (unsig (b := 8) s0 (by omega) (by decide)).1
    have no : ¬ o.right := by unfold OpsP.right; omega
    rw [show decide o.right = false from by simp [no]]
    clear b no
    go_enter Try.func50, Try.ntmps50
    go_wp2
    all_goals go_ret
    all_goals exact Ret.of' (by simp) (by (repeat (first | exact Below.refl _ _ | with_reducible refine Below.drew ?_ | with_reducible refine Below.ext ?_ (by first | exact Nat.le_refl _ | (simp; done) | (simp; omega)) _ | with_reducible refine Below.alloc ?_ (by first | exact Nat.le_refl _ | (simp; done) | (simp; omega)) _ | with_reducible refine Below.setCell ?_ (by first | exact Nat.le_refl _ | (simp; done) | (simp; omega)) _)))
  by_cases c : 0 ≤ o.df
  case neg =>
    have n := (unsig (b := 8) d0 (by omega) (by decide)).1
    have no : ¬ o.right := by unfold OpsP.right; omega
    rw [show decide o.right = false from by simp [no]]
    clear c no
    go_enter Try.func50, Try.ntmps50
    go_wp2
    all_goals go_ret
    all_goals exact Ret.of' (by simp) (by (repeat (first | exact Below.refl _ _ | with_reducible refine Below.drew ?_ | with_reducible refine Below.ext ?_ (by first | exact Nat.le_refl _ | (simp; done) | (simp; omega)) _ | with_reducible refine Below.alloc ?_ (by first | exact Nat.le_refl _ | (simp; done) | (simp; omega)) _ | with_reducible refine Below.setCell ?_ (by first | exact Nat.le_refl _ | (simp; done) | (simp; omega)) _)))
  go_enter Try.func50, Try.ntmps50
  go_wp2
  all_goals go_ret
  all_goals refine Ret.of' ?_ (by (repeat (first | exact Below.refl _ _ | with_reducible refine Below.drew ?_ | with_reducible refine Below.ext ?_ (by first | exact Nat.le_refl _ | (simp; done) | (simp; omega)) _ | with_reducible refine Below.alloc ?_ (by first | exact Nat.le_refl _ | (simp; done) | (simp; omega)) _ | with_reducible refine Below.setCell ?_ (by first | exact Nat.le_refl _ | (simp; done) | (simp; omega)) _)))
  all_goals first
    | (refine bool_t ?_; unfold OpsP.right; omega)
    | (refine bool_f ?_; unfold OpsP.right; omega)
    | (refine bool_d ?_; unfold OpsP.right; omega)
set_option maxHeartbeats 4000000 in
theorem rfr_fits (f : FrP) (w : World) : Calls Try.prog 53 #[f.v] w (Ret (.bool (decide f.fits)) w) := by
  go_enter Try.func53, Try.ntmps53
  go_wp2
  refine wp_loop_rounds 5 ?_
  iterate 5 try any_goals (rw [rounds_succ]; go_wp2)
  all_goals go_ret
  all_goals refine Ret.of' ?_ (by (repeat (first | exact Below.refl _ _ | with_reducible refine Below.drew ?_ | with_reducible refine Below.ext ?_ (by first | exact Nat.le_refl _ | (simp; done) | (simp; omega)) _ | with_reducible refine Below.alloc ?_ (by first | exact Nat.le_refl _ | (simp; done) | (simp; omega)) _ | with_reducible refine Below.setCell ?_ (by first | exact Nat.le_refl _ | (simp; done) | (simp; omega)) _)))
  all_goals first
    | (refine bool_t ?_; unfold FrP.fits; omega)
    | (refine bool_f ?_; unfold FrP.fits; omega)
    | (refine bool_d ?_; unfold FrP.fits; omega)
set_option maxHeartbeats 4000000 in
theorem fr_fits (f : FrP) (hf : f.ok) (w : World) : Calls Try.prog 52 #[f.v] w (Ret (.bool (decide f.fits)) w) := by
  obtain ⟨-, -, ⟨z0, z1⟩, ⟨a0, a1⟩, ⟨b0, b1⟩, ⟨d0, d1⟩, ⟨e0, e1⟩, ⟨k0, k1⟩⟩ := hf
  by_cases p : 0 ≤ f.c0
  case neg =>
    obtain ⟨n1, n2, n3⟩ := unsig (b := 255) a0 (by omega) (by decide)
    have no : ¬ f.fits := by unfold FrP.fits; omega
    rw [show decide f.fits = false from by simp [no]]
    clear p no n1
    go_enter Try.func52, Try.ntmps52
    go_wp2
    refine wp_loop_rounds 5 ?_
    iterate 5 try any_goals (rw [rounds_succ]; go_wp2)
    all_goals go_ret
    all_goals exact Ret.of' (by simp) (by (repeat (first | exact Below.refl _ _ | with_reducible refine Below.drew ?_ | with_reducible refine Below.ext ?_ (by first | exact Nat.le_refl _ | (simp; done) | (simp; omega)) _ | with_reducible refine Below.alloc ?_ (by first | exact Nat.le_refl _ | (simp; done) | (simp; omega)) _ | with_reducible refine Below.setCell ?_ (by first | exact Nat.le_refl _ | (simp; done) | (simp; omega)) _)))
  by_cases q : 0 ≤ f.c1
  case neg =>
    obtain ⟨n1, n2, n3⟩ := unsig (b := 255) b0 (by omega) (by decide)
    have no : ¬ f.fits := by unfold FrP.fits; omega
    rw [show decide f.fits = false from by simp [no]]
    clear q no n1
    go_enter Try.func52, Try.ntmps52
    go_wp2
    refine wp_loop_rounds 5 ?_
    iterate 5 try any_goals (rw [rounds_succ]; go_wp2)
    all_goals go_ret
    all_goals exact Ret.of' (by simp) (by (repeat (first | exact Below.refl _ _ | with_reducible refine Below.drew ?_ | with_reducible refine Below.ext ?_ (by first | exact Nat.le_refl _ | (simp; done) | (simp; omega)) _ | with_reducible refine Below.alloc ?_ (by first | exact Nat.le_refl _ | (simp; done) | (simp; omega)) _ | with_reducible refine Below.setCell ?_ (by first | exact Nat.le_refl _ | (simp; done) | (simp; omega)) _)))
  by_cases r : 0 ≤ f.c2
  case neg =>
    obtain ⟨n1, n2, n3⟩ := unsig (b := 255) d0 (by omega) (by decide)
    have no : ¬ f.fits := by unfold FrP.fits; omega
    rw [show decide f.fits = false from by simp [no]]
    clear r no n1
    go_enter Try.func52, Try.ntmps52
    go_wp2
    refine wp_loop_rounds 5 ?_
    iterate 5 try any_goals (rw [rounds_succ]; go_wp2)
    all_goals go_ret
    all_goals exact Ret.of' (by simp) (by (repeat (first | exact Below.refl _ _ | with_reducible refine Below.drew ?_ | with_reducible refine Below.ext ?_ (by first | exact Nat.le_refl _ | (simp; done) | (simp; omega)) _ | with_reducible refine Below.alloc ?_ (by first | exact Nat.le_refl _ | (simp; done) | (simp; omega)) _ | with_reducible refine Below.setCell ?_ (by first | exact Nat.le_refl _ | (simp; done) | (simp; omega)) _)))
  by_cases s : 0 ≤ f.c3
  case neg =>
    obtain ⟨n1, n2, n3⟩ := unsig (b := 255) e0 (by omega) (by decide)
    have no : ¬ f.fits := by unfold FrP.fits; omega
    rw [show decide f.fits = false from by simp [no]]
    clear s no n1
    go_enter Try.func52, Try.ntmps52
    go_wp2
    refine wp_loop_rounds 5 ?_
    iterate 5 try any_goals (rw [rounds_succ]; go_wp2)
    all_goals go_ret
    all_goals exact Ret.of' (by simp) (by (repeat (first | exact Below.refl _ _ | with_reducible refine Below.drew ?_ | with_reducible refine Below.ext ?_ (by first | exact Nat.le_refl _ | (simp; done) | (simp; omega)) _ | with_reducible refine Below.alloc ?_ (by first | exact Nat.le_refl _ | (simp; done) | (simp; omega)) _ | with_reducible refine Below.setCell ?_ (by first | exact Nat.le_refl _ | (simp; done) | (simp; omega)) _)))
  by_cases t : 0 ≤ f.z
  case neg =>
    obtain ⟨n1, n2, n3⟩ := unsig (b := 16777215) z0 (by omega) (by decide)
    have no : ¬ f.fits := by unfold FrP.fits; omega
    rw [show decide f.fits = false from by simp [no]]
    clear t no n1
    go_enter Try.func52, Try.ntmps52
    go_wp2
    refine wp_loop_rounds 5 ?_
    iterate 5 try any_goals (rw [rounds_succ]; go_wp2)
    all_goals go_ret
    all_goals exact Ret.of' (by simp) (by (repeat (first | exact Below.refl _ _ | with_reducible refine Below.drew ?_ | with_reducible refine Below.ext ?_ (by first | exact Nat.le_refl _ | (simp; done) | (simp; omega)) _ | with_reducible refine Below.alloc ?_ (by first | exact Nat.le_refl _ | (simp; done) | (simp; omega)) _ | with_reducible refine Below.setCell ?_ (by first | exact Nat.le_refl _ | (simp; done) | (simp; omega)) _)))
  go_enter Try.func52, Try.ntmps52
  go_wp2
  refine wp_loop_rounds 5 ?_
  iterate 5 try any_goals (rw [rounds_succ]; go_wp2)
  all_goals go_ret
  all_goals refine Ret.of' ?_ (by (repeat (first | exact Below.refl _ _ | with_reducible refine Below.drew ?_ | with_reducible refine Below.ext ?_ (by first | exact Nat.le_refl _ | (simp; done) | (simp; omega)) _ | with_reducible refine Below.alloc ?_ (by first | exact Nat.le_refl _ | (simp; done) | (simp; omega)) _ | with_reducible refine Below.setCell ?_ (by first | exact Nat.le_refl _ | (simp; done) | (simp; omega)) _)))
  all_goals first
    | (refine bool_t ?_; unfold FrP.fits; omega)
    | (refine bool_f ?_; unfold FrP.fits; omega)
    | (refine bool_d ?_; unfold FrP.fits; omega)
/-- Does a depth pass another one? -/
def passP (by' z old : Int) : Prop := by' = 1 ∧ z < old ∨ by' = 2 ∧ z = old ∨ by' = 3 ∧ z ≤ old ∨ by' = 4 ∧ z > old ∨ by' = 5 ∧ z ≠ old ∨ by' = 6 ∧ z ≥ old ∨ by' = 7
instance (by' z old : Int) : Decidable (passP by' z old) := by unfold passP; exact inferInstance
end Go.Proofs.Ytdbbeggenbhbfaa
