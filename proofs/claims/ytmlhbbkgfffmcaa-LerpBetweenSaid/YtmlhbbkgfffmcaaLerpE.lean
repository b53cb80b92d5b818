/- LerpBetween's parts: a line from its other end. Conditions: such as is promised anything. -/
import Derived.Test.YtmlhbbkgfffmcaaLerpD
namespace Go.Proofs.Ytmlhbbkgfffmcaa
set_option linter.unusedVariables false
set_option linter.unusedSimpArgs false
open Go.RowKit
theorem mid_mm (p q n d : Int) : min p q ≤ mid p q n d ∧ mid p q n d ≤ max p q := by
  have := mid_between p q n d; omega
theorem along_back (a b : WinP) (x y : Int) (ha : a.fits) (hb : b.fits) (hx : Near x y) (h : ¬ (a.x = b.x ∧ a.y = b.y)) (w : World) : Calls Try.prog 58 #[b.v, a.v, .int .i64 x, .int .i64 y] w (Ret (mixed a b (alN a b x y) (alD a b)) w) := by
  have k := along_any b a x y hb ha hx w
  obtain ⟨h1, h2, h3⟩ := al_turn x y h
  rw [h2, h3] at k
  unfold mixed
  simp only [mid_turn (n := alN a b x y) h1]
  exact k
theorem across_back (a b : WinP) (x y : Int) (ha : a.fits) (hb : b.fits) (hx : Near x y) (h : ¬ (a.x = b.x ∧ a.y = b.y)) (w : World) : Calls Try.prog 60 #[b.v, a.v, .int .i64 x, .int .i64 y] w (Ret (mixed a b (acN a b x y) (acD a b)) w) := by
  have k := across_any b a x y hb ha hx w
  obtain ⟨h1, h2, h3⟩ := ac_turn x y h
  rw [h2, h3] at k
  unfold mixed
  simp only [mid_turn (n := acN a b x y) h1]
  exact k
end Go.Proofs.Ytmlhbbkgfffmcaa
