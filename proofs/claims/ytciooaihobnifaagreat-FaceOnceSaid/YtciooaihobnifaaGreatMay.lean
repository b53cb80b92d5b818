/- The walk of the reference's May (layer 17): may a vertex be. No condition. -/
import Derived.Test.YtciooaihobnifaaGreatPLerpA
namespace Go.Proofs.YtciooaihobnifaaGreat
set_option linter.unusedVariables false
set_option linter.unusedSimpArgs false
open Go.RowKit
set_option maxHeartbeats 2000000 in
theorem rmay17_any (a : WinP) (w : World) : Calls Tryz.prog 64 #[a.v] w (Ret (.bool (decide a.fitsP)) w) := by
  go_enter Tryz.func64, Tryz.ntmps64
  go_wp2
  refine wp_loop_rounds 5 ?_
  iterate 5 try any_goals (rw [rounds_succ]; go_wp2)
  all_goals go_ret
  all_goals refine Ret.of' ?_ (by (repeat (first | exact Below.refl _ _ | with_reducible refine Below.drew ?_ | with_reducible refine Below.ext ?_ (by first | exact Nat.le_refl _ | (simp; done) | (simp; omega)) _ | with_reducible refine Below.alloc ?_ (by first | exact Nat.le_refl _ | (simp; done) | (simp; omega)) _ | with_reducible refine Below.setCell ?_ (by first | exact Nat.le_refl _ | (simp; done) | (simp; omega)) _)))
  all_goals first
    | (refine bool_t ?_; unfold WinP.fitsP; omega)
    | (refine bool_f ?_; unfold WinP.fitsP; omega)
    | (refine bool_d ?_; unfold WinP.fitsP; omega)
end Go.Proofs.YtciooaihobnifaaGreat
