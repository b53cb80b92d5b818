/- Layer 12, the reference: what two rectangles share. No condition. -/
import Derived.Test.YthcjfanigfgckaaPRect
namespace Go.Proofs.Ythcjfanigfgckaa
set_option linter.unusedVariables false
set_option linter.unusedSimpArgs false
open Go.RowKit
structure RcP where
  x0 : Int
  y0 : Int
  x1 : Int
  y1 : Int
abbrev RcP.v (r : RcP) : Value := R4 r.x0 r.y0 r.x1 r.y1
def RcP.ok (r : RcP) : Prop := rightP r.x0 r.y0 r.x1 r.y1
instance rcDec (r : RcP) : Decidable r.ok := by unfold RcP.ok; exact inferInstance
def RcP.has (r : RcP) (x y : Int) : Prop := hasP r.x0 r.y0 r.x1 r.y1 x y
instance rcHasDec (r : RcP) (x y : Int) : Decidable (r.has x y) := by unfold RcP.has; exact inferInstance
def RcP.meet (a b : RcP) : RcP := ⟨max a.x0 b.x0, max a.y0 b.y0, min a.x1 b.x1, min a.y1 b.y1⟩
/-- What two rectangles share. -/
def RcP.and (a b : RcP) : RcP := if a.ok ∧ b.ok ∧ (a.meet b).ok then a.meet b else ⟨0, 0, 0, 0⟩
theorem rc_none : ¬ (⟨0, 0, 0, 0⟩ : RcP).ok := by unfold RcP.ok rightP; simp
theorem RcP.and_has (a b : RcP) (x y : Int) : (a.and b).has x y ↔ a.has x y ∧ b.has x y := by
  unfold RcP.and
  split
  · rename_i h
    obtain ⟨h1, h2, h3⟩ := h
    unfold RcP.has hasP
    unfold RcP.ok at h1 h2 h3
    simp only [h1, h2, true_and]
    unfold RcP.meet at h3 ⊢
    simp only at h3 ⊢
    simp only [h3, true_and]
    omega
  · rename_i h
    unfold RcP.has
    constructor
    · intro k; exact absurd k.1 rc_none
    · rintro ⟨k1, k2⟩
      refine absurd ⟨k1.1, k2.1, ?_⟩ h
      unfold RcP.ok RcP.meet rightP
      unfold hasP rightP at k1 k2
      simp only
      omega
end Go.Proofs.Ythcjfanigfgckaa
