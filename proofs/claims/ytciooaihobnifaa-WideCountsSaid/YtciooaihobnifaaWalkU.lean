/- The walk of the reference's Within (layer 14). Conditions: the points' bounds. -/
import Derived.Test.YtciooaihobnifaaPWalkD
import Derived.Deep.CutBlock
import Derived.Deep.RegionLawGrows
namespace Go.Proofs.Ytciooaihobnifaa
set_option linter.unusedVariables false
set_option linter.unusedSimpArgs false
open Go.RowKit
theorem numL_at (ax ay bx y2 x y : Int) (c : ¬ (ax = bx ∧ ay = y2)) (h : exP ax ay bx y2 x y) : numL (ofL ax ay bx y2) x y (uC (decide (turnP ax ay bx y2)) x y) = idxP ax ay bx y2 x y := num_idx ax ay bx y2 x y c h
end Go.Proofs.Ytciooaihobnifaa
