/- The walks of layer 2 (xint): which of two numbers is greater. Condition: 128 bits. -/
import Derived.Test.YtmlhbbkgfffmcaaXintA
namespace Go.Proofs.Ytmlhbbkgfffmcaa
set_option linter.unusedVariables false
set_option linter.unusedSimpArgs false
open Go.RowKit
set_option maxHeartbeats 2000000 in
theorem cmp_any (a b : Int) (ha : inR a) (hb : inR b) (w : World) : Calls Try.prog 63 #[I2 a, I2 b] w (Ret (.int .i64 (sgn (a - b))) w) := by
  obtain ⟨e, l0, l1⟩ := hilo a
  obtain ⟨e', l0', l1'⟩ := hilo b
  have hs := sgn_01 (a - b)
  go_enter Try.func63, Try.ntmps63
  go_wp2
  all_goals go_ret
  all_goals refine Ret.of' (congrArg (Value.int .i64) ?_) (by (repeat (first | exact Below.refl _ _ | with_reducible refine Below.drew ?_ | with_reducible refine Below.ext ?_ (by first | exact Nat.le_refl _ | (simp; done) | (simp; omega)) _ | with_reducible refine Below.alloc ?_ (by first | exact Nat.le_refl _ | (simp; done) | (simp; omega)) _ | with_reducible refine Below.setCell ?_ (by first | exact Nat.le_refl _ | (simp; done) | (simp; omega)) _)))
  all_goals omega
end Go.Proofs.Ytmlhbbkgfffmcaa
