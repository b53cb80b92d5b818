/- The walks of layer 23 (store): a mask's bits, mixed colors. No condition. -/
import Derived.Test.YtdbbeggenbhbfaaStoreA
namespace Go.Proofs.Ytdbbeggenbhbfaa
set_option linter.unusedVariables false
set_option linter.unusedSimpArgs false
open Go.RowKit
/-- A mask's value. -/
abbrev M4 (a b c d : Bool) : Value := .agg #[.bool a, .bool b, .bool c, .bool d]
@[go_sem] theorem indexM_0 (a b c d : Bool) (w : World) : (Instr.index 46 (M4 a b c d) (.int .i64 0)).run Try.prog w = .ok (.bool a) w := by kernel_rfl
@[go_sem] theorem indexM_1 (a b c d : Bool) (w : World) : (Instr.index 46 (M4 a b c d) (.int .i64 1)).run Try.prog w = .ok (.bool b) w := by kernel_rfl
@[go_sem] theorem indexM_2 (a b c d : Bool) (w : World) : (Instr.index 46 (M4 a b c d) (.int .i64 2)).run Try.prog w = .ok (.bool c) w := by kernel_rfl
@[go_sem] theorem indexM_3 (a b c d : Bool) (w : World) : (Instr.index 46 (M4 a b c d) (.int .i64 3)).run Try.prog w = .ok (.bool d) w := by kernel_rfl
set_option maxHeartbeats 4000000 in
theorem bits_any (m0 m1 m2 m3 : Bool) (w : World) : Calls Try.prog 63 #[M4 m0 m1 m2 m3] w (Ret (.int .i64 (mk m0 m1 m2 m3)) w) := by
  cases m0 <;> cases m1 <;> cases m2 <;> cases m3
  all_goals
    go_enter Try.func63, Try.ntmps63
    go_wp2
    refine wp_loop_rounds 5 ?_
    rw [rounds_succ]
    go_wp2
    rw [rounds_succ]
    go_wp2
    rw [rounds_succ]
    go_wp2
    rw [rounds_succ]
    go_wp2
    rw [rounds_succ]
    go_wp2
    go_ret
    exact Ret.of' (by kernel_rfl) (by (repeat (first | exact Below.refl _ _ | with_reducible refine Below.drew ?_ | with_reducible refine Below.ext ?_ (by first | exact Nat.le_refl _ | (simp; done) | (simp; omega)) _ | with_reducible refine Below.alloc ?_ (by first | exact Nat.le_refl _ | (simp; done) | (simp; omega)) _ | with_reducible refine Below.setCell ?_ (by first | exact Nat.le_refl _ | (simp; done) | (simp; omega)) _)))
set_option maxHeartbeats 4000000 in
theorem mixed_any (a b c d x y z t : Int) (m0 m1 m2 m3 : Bool) (w : World) :
    Calls Try.prog 64 #[C4 a b c d, C4 x y z t, M4 m0 m1 m2 m3] w (Ret (C4 (if m0 then x else a) (if m1 then y else b) (if m2 then z else c) (if m3 then t else d)) w) := by
  cases m0 <;> cases m1 <;> cases m2 <;> cases m3
  all_goals
    go_enter Try.func64, Try.ntmps64
    go_wp2
    refine wp_loop_rounds 5 ?_
    rw [rounds_succ]
    go_wp2
    rw [rounds_succ]
    go_wp2
    rw [rounds_succ]
    go_wp2
    rw [rounds_succ]
    go_wp2
    rw [rounds_succ]
    go_wp2
    refine bodyPost_ret (v := C4 _ _ _ _) (by simp [results, Try.results64, go_sem]; exact ⟨rfl, rfl, rfl, rfl⟩) rfl (Ret.of' (by simp) (by (repeat (first | exact Below.refl _ _ | with_reducible refine Below.drew ?_ | with_reducible refine Below.ext ?_ (by first | exact Nat.le_refl _ | (simp; done) | (simp; omega)) _ | with_reducible refine Below.alloc ?_ (by first | exact Nat.le_refl _ | (simp; done) | (simp; omega)) _ | with_reducible refine Below.setCell ?_ (by first | exact Nat.le_refl _ | (simp; done) | (simp; omega)) _))))
end Go.Proofs.Ytdbbeggenbhbfaa
