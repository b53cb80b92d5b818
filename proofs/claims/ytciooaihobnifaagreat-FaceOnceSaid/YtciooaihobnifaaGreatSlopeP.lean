/- What stands at a triangle's pixels, by its corners' own order (layer 21). Conditions: bounds of places. -/
import Derived.Test.YtciooaihobnifaaGreatSlopeJ
import Derived.Test.YtciooaihobnifaaGreatSlopeI
namespace Go.Proofs.YtciooaihobnifaaGreat
set_option linter.unusedVariables false
set_option linter.unusedSimpArgs false
open Go.RowKit
/-- What stands at a pixel, by the corners' own order. -/
abbrev atS (a b c : WinP) (x y : Int) : Value := .tuple #[.int .i64 (smlV (atV a b c x y (·.z))), C4 (smlV (atV a b c x y (·.c0))) (smlV (atV a b c x y (·.c1))) (smlV (atV a b c x y (·.c2))) (smlV (atV a b c x y (·.c3)))]
theorem atT_s (a b c : WinP) (x y : Int) (h : ar a b c ≠ 0) : atT a (triB a b c) (triC a b c) (triN a b c) x y = atS a b c x y := by
  simp only [atT, atS, atV_face a b c x y _ h]
/-- What a corner's numbers keep in. -/
theorem among_sml {a b c : WinP} {x y : Int} (h : triHas a b c x y) (v : WinP → Int) (ha : sml25 (v a)) (hb : sml25 (v b)) (hc : sml25 (v c)) : smlV (atV a b c x y v) = atV a b c x y v := by
  obtain ⟨h1, h2⟩ := atV_among h v
  apply smlV_yes
  unfold sml25 at ha hb hc
  unfold sml
  omega
/-- What stands at a pixel, and its color. -/
abbrev atP (a b c : WinP) (x y : Int) : Value := .tuple #[.int .i64 (atV a b c x y (·.z)), C4 (atV a b c x y (·.c0)) (atV a b c x y (·.c1)) (atV a b c x y (·.c2)) (atV a b c x y (·.c3))]
theorem rat21_has {a b c : WinP} {x y : Int} (ha : a.fits) (hb : b.fits) (hc : c.fits) (hx : Near x y) (h : triHas a b c x y) (w : World) : Calls Tryz.prog 100 #[a.v, b.v, c.v, .int .i64 x, .int .i64 y] w (Ret (atP a b c x y) w) := by
  have h0 := h.1
  obtain ⟨a0, a1, a2, a3⟩ := fits_c ha
  obtain ⟨b0, b1, b2, b3⟩ := fits_c hb
  obtain ⟨c0, c1, c2, c3⟩ := fits_c hc
  have ez := among_sml h (·.z) (fits_z ha) (fits_z hb) (fits_z hc)
  have e0 := among_sml h (·.c0) a0 b0 c0
  have e1 := among_sml h (·.c1) a1 b1 c1
  have e2 := among_sml h (·.c2) a2 b2 c2
  have e3 := among_sml h (·.c3) a3 b3 c3
  have := rat21_any a b c x y ha hb hc hx h0 w
  rw [atT_s a b c x y h0] at this
  simp only [atS, ez, e0, e1, e2, e3] at this
  exact this
theorem atV_z {a b c : WinP} {x y : Int} (ha : a.fits) (hb : b.fits) (hc : c.fits) (h : triHas a b c x y) : 0 ≤ atV a b c x y (·.z) ∧ atV a b c x y (·.z) ≤ 16777215 := by
  obtain ⟨h1, h2⟩ := atV_among h (·.z)
  have := ha.z0; have := ha.z1; have := hb.z0; have := hb.z1; have := hc.z0; have := hc.z1
  omega
end Go.Proofs.YtciooaihobnifaaGreat
