/- Regions that draw and whose calls return slices of steps. No condition. -/
import Derived.Test.YtmlhbbkgfffmcaaWalkQ
import Derived.Test.YtmlhbbkgfffmcaaNumE
namespace Go.Proofs.Ytmlhbbkgfffmcaa
set_option linter.unusedVariables false
set_option linter.unusedSimpArgs false
open Go.RowKit
/-- A slice that reads these steps, in whatever block. -/
def srS (L : List St) : SR Grows := ⟨fun v w => Sts w v L, fun v w w' h ⟨X, e⟩ => by subst e; exact h.ext X, fun v => ∃ a cap, v = .slice a L.length cap, .slice none L.length 0, ⟨_, _, rfl⟩, fun v w ⟨_, a, cap, h, _⟩ => ⟨a, cap, h⟩⟩
end Go.Proofs.Ytmlhbbkgfffmcaa
