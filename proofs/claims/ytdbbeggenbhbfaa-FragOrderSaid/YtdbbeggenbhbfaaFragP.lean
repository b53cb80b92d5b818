/- The walks of layer 25 (frag): does a depth pass. No condition besides 64 bits. -/
import Derived.Test.YtdbbeggenbhbfaaFragA
namespace Go.Proofs.Ytdbbeggenbhbfaa
set_option linter.unusedVariables false
set_option linter.unusedSimpArgs false
open Go.RowKit
theorem bool_b {b : Bool} {p : Prop} [Decidable p] (h : b = true ↔ p) : Value.bool b = .bool (decide p) := by
  cases b
  · exact bool_f fun hp => by cases h.2 hp
  · exact bool_t (h.1 rfl)
set_option maxHeartbeats 2000000 in
theorem rpass_any (b z old : Int) (w : World) : Calls Try.prog 55 #[.int .i64 b, .int .i64 z, .int .i64 old] w (Ret (.bool (decide (passP b z old))) w) := by
  go_enter Try.func55, Try.ntmps55
  go_wp2
  all_goals go_ret
  all_goals refine Ret.of' ?_ (by (repeat (first | exact Below.refl _ _ | with_reducible refine Below.drew ?_ | with_reducible refine Below.ext ?_ (by first | exact Nat.le_refl _ | (simp; done) | (simp; omega)) _ | with_reducible refine Below.alloc ?_ (by first | exact Nat.le_refl _ | (simp; done) | (simp; omega)) _ | with_reducible refine Below.setCell ?_ (by first | exact Nat.le_refl _ | (simp; done) | (simp; omega)) _)))
  all_goals (refine bool_b ?_; unfold passP; simp only [beq_iff_eq, bne_iff_ne, decide_eq_true_eq, beq_eq_false_iff_ne, ne_eq] at *; omega)
theorem pair_never (z old : Int) (w : World) : Calls Try.prog 67 #[.agg #[.int .i64 z, .int .i64 old]] w (Ret (.bool (decide (False))) w) := by
  go_enter Try.func67, Try.ntmps67
  go_wp2
  go_ret
  exact Ret.of' (bool_b (by simp)) (by (repeat (first | exact Below.refl _ _ | with_reducible refine Below.drew ?_ | with_reducible refine Below.ext ?_ (by first | exact Nat.le_refl _ | (simp; done) | (simp; omega)) _ | with_reducible refine Below.alloc ?_ (by first | exact Nat.le_refl _ | (simp; done) | (simp; omega)) _ | with_reducible refine Below.setCell ?_ (by first | exact Nat.le_refl _ | (simp; done) | (simp; omega)) _)))
theorem pair_less (z old : Int) (w : World) : Calls Try.prog 68 #[.agg #[.int .i64 z, .int .i64 old]] w (Ret (.bool (decide (z < old))) w) := by
  go_enter Try.func68, Try.ntmps68
  go_wp2
  go_ret
  exact Ret.of' (bool_b (by simp)) (by (repeat (first | exact Below.refl _ _ | with_reducible refine Below.drew ?_ | with_reducible refine Below.ext ?_ (by first | exact Nat.le_refl _ | (simp; done) | (simp; omega)) _ | with_reducible refine Below.alloc ?_ (by first | exact Nat.le_refl _ | (simp; done) | (simp; omega)) _ | with_reducible refine Below.setCell ?_ (by first | exact Nat.le_refl _ | (simp; done) | (simp; omega)) _)))
theorem pair_same (z old : Int) (w : World) : Calls Try.prog 69 #[.agg #[.int .i64 z, .int .i64 old]] w (Ret (.bool (decide (z = old))) w) := by
  go_enter Try.func69, Try.ntmps69
  go_wp2
  go_ret
  exact Ret.of' (bool_b (by simp)) (by (repeat (first | exact Below.refl _ _ | with_reducible refine Below.drew ?_ | with_reducible refine Below.ext ?_ (by first | exact Nat.le_refl _ | (simp; done) | (simp; omega)) _ | with_reducible refine Below.alloc ?_ (by first | exact Nat.le_refl _ | (simp; done) | (simp; omega)) _ | with_reducible refine Below.setCell ?_ (by first | exact Nat.le_refl _ | (simp; done) | (simp; omega)) _)))
theorem pair_most (z old : Int) (w : World) : Calls Try.prog 70 #[.agg #[.int .i64 z, .int .i64 old]] w (Ret (.bool (decide (z ≤ old))) w) := by
  go_enter Try.func70, Try.ntmps70
  go_wp2
  go_ret
  exact Ret.of' (bool_b (by simp)) (by (repeat (first | exact Below.refl _ _ | with_reducible refine Below.drew ?_ | with_reducible refine Below.ext ?_ (by first | exact Nat.le_refl _ | (simp; done) | (simp; omega)) _ | with_reducible refine Below.alloc ?_ (by first | exact Nat.le_refl _ | (simp; done) | (simp; omega)) _ | with_reducible refine Below.setCell ?_ (by first | exact Nat.le_refl _ | (simp; done) | (simp; omega)) _)))
theorem pair_greater (z old : Int) (w : World) : Calls Try.prog 71 #[.agg #[.int .i64 z, .int .i64 old]] w (Ret (.bool (decide (z > old))) w) := by
  go_enter Try.func71, Try.ntmps71
  go_wp2
  go_ret
  exact Ret.of' (bool_b (by simp)) (by (repeat (first | exact Below.refl _ _ | with_reducible refine Below.drew ?_ | with_reducible refine Below.ext ?_ (by first | exact Nat.le_refl _ | (simp; done) | (simp; omega)) _ | with_reducible refine Below.alloc ?_ (by first | exact Nat.le_refl _ | (simp; done) | (simp; omega)) _ | with_reducible refine Below.setCell ?_ (by first | exact Nat.le_refl _ | (simp; done) | (simp; omega)) _)))
theorem pair_other (z old : Int) (w : World) : Calls Try.prog 72 #[.agg #[.int .i64 z, .int .i64 old]] w (Ret (.bool (decide (z ≠ old))) w) := by
  go_enter Try.func72, Try.ntmps72
  go_wp2
  go_ret
  exact Ret.of' (bool_b (by simp)) (by (repeat (first | exact Below.refl _ _ | with_reducible refine Below.drew ?_ | with_reducible refine Below.ext ?_ (by first | exact Nat.le_refl _ | (simp; done) | (simp; omega)) _ | with_reducible refine Below.alloc ?_ (by first | exact Nat.le_refl _ | (simp; done) | (simp; omega)) _ | with_reducible refine Below.setCell ?_ (by first | exact Nat.le_refl _ | (simp; done) | (simp; omega)) _)))
theorem pair_least (z old : Int) (w : World) : Calls Try.prog 73 #[.agg #[.int .i64 z, .int .i64 old]] w (Ret (.bool (decide (z ≥ old))) w) := by
  go_enter Try.func73, Try.ntmps73
  go_wp2
  go_ret
  exact Ret.of' (bool_b (by simp)) (by (repeat (first | exact Below.refl _ _ | with_reducible refine Below.drew ?_ | with_reducible refine Below.ext ?_ (by first | exact Nat.le_refl _ | (simp; done) | (simp; omega)) _ | with_reducible refine Below.alloc ?_ (by first | exact Nat.le_refl _ | (simp; done) | (simp; omega)) _ | with_reducible refine Below.setCell ?_ (by first | exact Nat.le_refl _ | (simp; done) | (simp; omega)) _)))
theorem pair_always (z old : Int) (w : World) : Calls Try.prog 74 #[.agg #[.int .i64 z, .int .i64 old]] w (Ret (.bool (decide (True))) w) := by
  go_enter Try.func74, Try.ntmps74
  go_wp2
  go_ret
  exact Ret.of' (bool_b (by simp)) (by (repeat (first | exact Below.refl _ _ | with_reducible refine Below.drew ?_ | with_reducible refine Below.ext ?_ (by first | exact Nat.le_refl _ | (simp; done) | (simp; omega)) _ | with_reducible refine Below.alloc ?_ (by first | exact Nat.le_refl _ | (simp; done) | (simp; omega)) _ | with_reducible refine Below.setCell ?_ (by first | exact Nat.le_refl _ | (simp; done) | (simp; omega)) _)))
@[go_sem] theorem index8_0 (p0 p1 p2 p3 p4 p5 p6 p7 : Value) (w : World) : (Instr.index 88 (.agg #[(.func (Fn.func 67) #[p0] #[]), (.func (Fn.func 68) #[p1] #[]), (.func (Fn.func 69) #[p2] #[]), (.func (Fn.func 70) #[p3] #[]), (.func (Fn.func 71) #[p4] #[]), (.func (Fn.func 72) #[p5] #[]), (.func (Fn.func 73) #[p6] #[]), (.func (Fn.func 74) #[p7] #[])]) (.int .i64 0)).run Try.prog w = .ok (.func (Fn.func 67) #[p0] #[]) w := by kernel_rfl
@[go_sem] theorem index8_1 (p0 p1 p2 p3 p4 p5 p6 p7 : Value) (w : World) : (Instr.index 88 (.agg #[(.func (Fn.func 67) #[p0] #[]), (.func (Fn.func 68) #[p1] #[]), (.func (Fn.func 69) #[p2] #[]), (.func (Fn.func 70) #[p3] #[]), (.func (Fn.func 71) #[p4] #[]), (.func (Fn.func 72) #[p5] #[]), (.func (Fn.func 73) #[p6] #[]), (.func (Fn.func 74) #[p7] #[])]) (.int .i64 1)).run Try.prog w = .ok (.func (Fn.func 68) #[p1] #[]) w := by kernel_rfl
@[go_sem] theorem index8_2 (p0 p1 p2 p3 p4 p5 p6 p7 : Value) (w : World) : (Instr.index 88 (.agg #[(.func (Fn.func 67) #[p0] #[]), (.func (Fn.func 68) #[p1] #[]), (.func (Fn.func 69) #[p2] #[]), (.func (Fn.func 70) #[p3] #[]), (.func (Fn.func 71) #[p4] #[]), (.func (Fn.func 72) #[p5] #[]), (.func (Fn.func 73) #[p6] #[]), (.func (Fn.func 74) #[p7] #[])]) (.int .i64 2)).run Try.prog w = .ok (.func (Fn.func 69) #[p2] #[]) w := by kernel_rfl
@[go_sem] theorem index8_3 (p0 p1 p2 p3 p4 p5 p6 p7 : Value) (w : World) : (Instr.index 88 (.agg #[(.func (Fn.func 67) #[p0] #[]), (.func (Fn.func 68) #[p1] #[]), (.func (Fn.func 69) #[p2] #[]), (.func (Fn.func 70) #[p3] #[]), (.func (Fn.func 71) #[p4] #[]), (.func (Fn.func 72) #[p5] #[]), (.func (Fn.func 73) #[p6] #[]), (.func (Fn.func 74) #[p7] #[])]) (.int .i64 3)).run Try.prog w = .ok (.func (Fn.func 70) #[p3] #[]) w := by kernel_rfl
@[go_sem] theorem index8_4 (p0 p1 p2 p3 p4 p5 p6 p7 : Value) (w : World) : (Instr.index 88 (.agg #[(.func (Fn.func 67) #[p0] #[]), (.func (Fn.func 68) #[p1] #[]), (.func (Fn.func 69) #[p2] #[]), (.func (Fn.func 70) #[p3] #[]), (.func (Fn.func 71) #[p4] #[]), (.func (Fn.func 72) #[p5] #[]), (.func (Fn.func 73) #[p6] #[]), (.func (Fn.func 74) #[p7] #[])]) (.int .i64 4)).run Try.prog w = .ok (.func (Fn.func 71) #[p4] #[]) w := by kernel_rfl
@[go_sem] theorem index8_5 (p0 p1 p2 p3 p4 p5 p6 p7 : Value) (w : World) : (Instr.index 88 (.agg #[(.func (Fn.func 67) #[p0] #[]), (.func (Fn.func 68) #[p1] #[]), (.func (Fn.func 69) #[p2] #[]), (.func (Fn.func 70) #[p3] #[]), (.func (Fn.func 71) #[p4] #[]), (.func (Fn.func 72) #[p5] #[]), (.func (Fn.func 73) #[p6] #[]), (.func (Fn.func 74) #[p7] #[])]) (.int .i64 5)).run Try.prog w = .ok (.func (Fn.func 72) #[p5] #[]) w := by kernel_rfl
@[go_sem] theorem index8_6 (p0 p1 p2 p3 p4 p5 p6 p7 : Value) (w : World) : (Instr.index 88 (.agg #[(.func (Fn.func 67) #[p0] #[]), (.func (Fn.func 68) #[p1] #[]), (.func (Fn.func 69) #[p2] #[]), (.func (Fn.func 70) #[p3] #[]), (.func (Fn.func 71) #[p4] #[]), (.func (Fn.func 72) #[p5] #[]), (.func (Fn.func 73) #[p6] #[]), (.func (Fn.func 74) #[p7] #[])]) (.int .i64 6)).run Try.prog w = .ok (.func (Fn.func 73) #[p6] #[]) w := by kernel_rfl
@[go_sem] theorem index8_7 (p0 p1 p2 p3 p4 p5 p6 p7 : Value) (w : World) : (Instr.index 88 (.agg #[(.func (Fn.func 67) #[p0] #[]), (.func (Fn.func 68) #[p1] #[]), (.func (Fn.func 69) #[p2] #[]), (.func (Fn.func 70) #[p3] #[]), (.func (Fn.func 71) #[p4] #[]), (.func (Fn.func 72) #[p5] #[]), (.func (Fn.func 73) #[p6] #[]), (.func (Fn.func 74) #[p7] #[])]) (.int .i64 7)).run Try.prog w = .ok (.func (Fn.func 74) #[p7] #[]) w := by kernel_rfl
set_option maxHeartbeats 2000000 in
theorem pass_any (b z old : Int) (b0 : -9223372036854775808 ≤ b) (b1 : b ≤ 9223372036854775807) (w : World) : Calls Try.prog 54 #[.int .i64 b, .int .i64 z, .int .i64 old] w (Ret (.bool (decide (passP b z old))) w) := by
  by_cases h0 : 0 ≤ b
  case neg =>
    obtain ⟨n1, n2, n3⟩ := unsig (b := 7) b0 (by omega) (by decide)
    have no : ¬ passP b z old := by unfold passP; omega
    rw [show decide (passP b z old) = false from by simp [no]]
    clear h0 no n1
    go_enter Try.func54, Try.ntmps54
    go_wp2
    go_ret
    exact Ret.of (by (repeat (first | exact Below.refl _ _ | with_reducible refine Below.drew ?_ | with_reducible refine Below.ext ?_ (by first | exact Nat.le_refl _ | (simp; done) | (simp; omega)) _ | with_reducible refine Below.alloc ?_ (by first | exact Nat.le_refl _ | (simp; done) | (simp; omega)) _ | with_reducible refine Below.setCell ?_ (by first | exact Nat.le_refl _ | (simp; done) | (simp; omega)) _)))
  by_cases h7 : b ≤ 7
  case neg =>
    have no : ¬ passP b z old := by unfold passP; omega
    rw [show decide (passP b z old) = false from by simp [no]]
    clear no
    go_enter Try.func54, Try.ntmps54
    go_wp2
    go_ret
    exact Ret.of (by (repeat (first | exact Below.refl _ _ | with_reducible refine Below.drew ?_ | with_reducible refine Below.ext ?_ (by first | exact Nat.le_refl _ | (simp; done) | (simp; omega)) _ | with_reducible refine Below.alloc ?_ (by first | exact Nat.le_refl _ | (simp; done) | (simp; omega)) _ | with_reducible refine Below.setCell ?_ (by first | exact Nat.le_refl _ | (simp; done) | (simp; omega)) _)))
  rcases cases8 h0 h7 with rfl | rfl | rfl | rfl | rfl | rfl | rfl | rfl
  · go_enter Try.func54, Try.ntmps54
    go_wp2_with (first | (go_at_call 67; (with_reducible refine (pair_never _ _ _).mono ?_); rintro _ _ ⟨rfl, X_, rfl⟩))
    go_ret
    refine Ret.of' (bool_b ?_) (by (repeat (first | exact Below.refl _ _ | with_reducible refine Below.drew ?_ | with_reducible refine Below.ext ?_ (by first | exact Nat.le_refl _ | (simp; done) | (simp; omega)) _ | with_reducible refine Below.alloc ?_ (by first | exact Nat.le_refl _ | (simp; done) | (simp; omega)) _ | with_reducible refine Below.setCell ?_ (by first | exact Nat.le_refl _ | (simp; done) | (simp; omega)) _)))
    simp [passP] <;> omega
  · go_enter Try.func54, Try.ntmps54
    go_wp2_with (first | (go_at_call 68; (with_reducible refine (pair_less _ _ _).mono ?_); rintro _ _ ⟨rfl, X_, rfl⟩))
    go_ret
    refine Ret.of' (bool_b ?_) (by (repeat (first | exact Below.refl _ _ | with_reducible refine Below.drew ?_ | with_reducible refine Below.ext ?_ (by first | exact Nat.le_refl _ | (simp; done) | (simp; omega)) _ | with_reducible refine Below.alloc ?_ (by first | exact Nat.le_refl _ | (simp; done) | (simp; omega)) _ | with_reducible refine Below.setCell ?_ (by first | exact Nat.le_refl _ | (simp; done) | (simp; omega)) _)))
    simp [passP] <;> omega
  · go_enter Try.func54, Try.ntmps54
    go_wp2_with (first | (go_at_call 69; (with_reducible refine (pair_same _ _ _).mono ?_); rintro _ _ ⟨rfl, X_, rfl⟩))
    go_ret
    refine Ret.of' (bool_b ?_) (by (repeat (first | exact Below.refl _ _ | with_reducible refine Below.drew ?_ | with_reducible refine Below.ext ?_ (by first | exact Nat.le_refl _ | (simp; done) | (simp; omega)) _ | with_reducible refine Below.alloc ?_ (by first | exact Nat.le_refl _ | (simp; done) | (simp; omega)) _ | with_reducible refine Below.setCell ?_ (by first | exact Nat.le_refl _ | (simp; done) | (simp; omega)) _)))
    simp [passP] <;> omega
  · go_enter Try.func54, Try.ntmps54
    go_wp2_with (first | (go_at_call 70; (with_reducible refine (pair_most _ _ _).mono ?_); rintro _ _ ⟨rfl, X_, rfl⟩))
    go_ret
    refine Ret.of' (bool_b ?_) (by (repeat (first | exact Below.refl _ _ | with_reducible refine Below.drew ?_ | with_reducible refine Below.ext ?_ (by first | exact Nat.le_refl _ | (simp; done) | (simp; omega)) _ | with_reducible refine Below.alloc ?_ (by first | exact Nat.le_refl _ | (simp; done) | (simp; omega)) _ | with_reducible refine Below.setCell ?_ (by first | exact Nat.le_refl _ | (simp; done) | (simp; omega)) _)))
    simp [passP] <;> omega
  · go_enter Try.func54, Try.ntmps54
    go_wp2_with (first | (go_at_call 71; (with_reducible refine (pair_greater _ _ _).mono ?_); rintro _ _ ⟨rfl, X_, rfl⟩))
    go_ret
    refine Ret.of' (bool_b ?_) (by (repeat (first | exact Below.refl _ _ | with_reducible refine Below.drew ?_ | with_reducible refine Below.ext ?_ (by first | exact Nat.le_refl _ | (simp; done) | (simp; omega)) _ | with_reducible refine Below.alloc ?_ (by first | exact Nat.le_refl _ | (simp; done) | (simp; omega)) _ | with_reducible refine Below.setCell ?_ (by first | exact Nat.le_refl _ | (simp; done) | (simp; omega)) _)))
    simp [passP] <;> omega
  · go_enter Try.func54, Try.ntmps54
    go_wp2_with (first | (go_at_call 72; (with_reducible refine (pair_other _ _ _).mono ?_); rintro _ _ ⟨rfl, X_, rfl⟩))
    go_ret
    refine Ret.of' (bool_b ?_) (by (repeat (first | exact Below.refl _ _ | with_reducible refine Below.drew ?_ | with_reducible refine Below.ext ?_ (by first | exact Nat.le_refl _ | (simp; done) | (simp; omega)) _ | with_reducible refine Below.alloc ?_ (by first | exact Nat.le_refl _ | (simp; done) | (simp; omega)) _ | with_reducible refine Below.setCell ?_ (by first | exact Nat.le_refl _ | (simp; done) | (simp; omega)) _)))
    simp [passP] <;> omega
  · go_enter Try.func54, Try.ntmps54
    go_wp2_with (first | (go_at_call 73; (with_reducible refine (pair_least _ _ _).mono ?_); rintro _ _ ⟨rfl, X_, rfl⟩))
    go_ret
    refine Ret.of' (bool_b ?_) (by (repeat (first | exact Below.refl _ _ | with_reducible refine Below.drew ?_ | with_reducible refine Below.ext ?_ (by first | exact Nat.le_refl _ | (simp; done) | (simp; omega)) _ | with_reducible refine Below.alloc ?_ (by first | exact Nat.le_refl _ | (simp; done) | (simp; omega)) _ | with_reducible refine Below.setCell ?_ (by first | exact Nat.le_refl _ | (simp; done) | (simp; omega)) _)))
    simp [passP] <;> omega
  · go_enter Try.func54, Try.ntmps54
    go_wp2_with (first | (go_at_call 74; (with_reducible refine (pair_always _ _ _).mono ?_); rintro _ _ ⟨rfl, X_, rfl⟩))
    go_ret
    refine Ret.of' (bool_b ?_) (by (repeat (first | exact Below.refl _ _ | with_reducible refine Below.drew ?_ | with_reducible refine Below.ext ?_ (by first | exact Nat.le_refl _ | (simp; done) | (simp; omega)) _ | with_reducible refine Below.alloc ?_ (by first | exact Nat.le_refl _ | (simp; done) | (simp; omega)) _ | with_reducible refine Below.setCell ?_ (by first | exact Nat.le_refl _ | (simp; done) | (simp; omega)) _)))
    simp [passP] <;> omega
end Go.Proofs.Ytdbbeggenbhbfaa
