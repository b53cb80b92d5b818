/- Parts of the proofs, laid together: LerpE, LerpBX, LerpBY, LerpF. Conditions: at each. -/
import Derived.Test.YtciooaihobnifaaPLerpA
import Derived.Test.YtciooaihobnifaaPNumC
section
/- LerpBetween's parts: a line from its other end. Conditions: such as is promised anything. -/
namespace Go.Proofs.Ytciooaihobnifaa
set_option linter.unusedVariables false
set_option linter.unusedSimpArgs false
open Go.RowKit
theorem mid_mm (p q n d : Int) : min p q ≤ mid p q n d ∧ mid p q n d ≤ max p q := by
  have := mid_between p q n d; omega
theorem along_back (a b : WinP) (x y : Int) (ha : a.fits) (hb : b.fits) (hx : Near x y) (h : ¬ (a.x = b.x ∧ a.y = b.y)) (w : World) : Calls Try.prog 47 #[b.v, a.v, .int .i64 x, .int .i64 y] w (Ret (mixed a b (alN a b x y) (alD a b)) w) := by
  have k := along_any b a x y hb ha hx w
  obtain ⟨h1, h2, h3⟩ := al_turn x y h
  rw [h2, h3] at k
  unfold mixed
  simp only [mid_turn (n := alN a b x y) h1]
  exact k
end Go.Proofs.Ytciooaihobnifaa
end
section
/- LerpBetween's walk, ends of unlike X. Conditions: such as is promised anything. -/
namespace Go.Proofs.Ytciooaihobnifaa
set_option linter.unusedVariables false
set_option linter.unusedSimpArgs false
open Go.RowKit
end Go.Proofs.Ytciooaihobnifaa
end
section
/- LerpBetween's walk, ends of unlike Y. Conditions: such as is promised anything. -/
namespace Go.Proofs.Ytciooaihobnifaa
set_option linter.unusedVariables false
set_option linter.unusedSimpArgs false
open Go.RowKit
end Go.Proofs.Ytciooaihobnifaa
end
section
/- The walks of the reference of layer 16: depth and color of a line. Conditions: such vertices and pixels as are promised anything. -/
namespace Go.Proofs.Ytciooaihobnifaa
set_option linter.unusedVariables false
set_option linter.unusedSimpArgs false
open Go.RowKit
attribute [local go_sem ↓] Go.wp_at_zero Go.wp_at_succ
theorem mixed_congr {a b : WinP} {n d n' d' : Int} (h1 : n = n') (h2 : d = d') : mixed a b n d = mixed a b n' d' := by rw [h1, h2]
end Go.Proofs.Ytciooaihobnifaa
end
