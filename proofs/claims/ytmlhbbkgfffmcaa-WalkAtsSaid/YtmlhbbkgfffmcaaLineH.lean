/- The plain law of a line's columns (layer 14), with no program in sight. No condition. -/
import Derived.Test.YtmlhbbkgfffmcaaLineG
namespace Go.Proofs.Ytmlhbbkgfffmcaa
set_option linter.unusedVariables false
set_option linter.unusedSimpArgs false
theorem tdiv_bd (n d : Int) (hd : 0 < d) : n - d < n.tdiv d * d ∧ n.tdiv d * d < n + d := by
  have h1 := Int.tdiv_mul_add_tmod n d
  have h2 := Int.tmod_lt_of_pos n hd
  have h3 := Int.tmod_lt_of_pos (-n) hd
  rw [Int.neg_tmod] at h3
  omega
/-- Where a line is, about, at a middle. -/
theorem col_near {M h w av D E back k num : Int} (hw : w ≠ 0) (hD : D = if w < 0 then -w else w) (hE : E = if w < 0 then -h else h) (hn : av * D + E * M - back = num) (hb : back = 0 ∨ back = 1) (h0 : k * (256 * D) ≤ num) (h1 : num < (k + 1) * (256 * D)) :
    k - 2 ≤ (av + (M * h).tdiv w).tdiv 256 ∧ (av + (M * h).tdiv w).tdiv 256 ≤ k + 2 := by
  have hD0 : 0 < D := by rw [hD]; split <;> omega
  have e : (M * h).tdiv w = (E * M).tdiv D := by
    by_cases c : w < 0
    · rw [if_pos c] at hD hE
      rw [hD, hE, Int.tdiv_neg, show -h * M = -(M * h) from by grind, Int.neg_tdiv, Int.neg_neg]
    · rw [if_neg c] at hD hE
      rw [hD, hE, Int.mul_comm]
  rw [e]
  obtain ⟨r0, r1⟩ := tdiv_bd (E * M) D hD0
  obtain ⟨r, hr⟩ : ∃ r, (E * M).tdiv D = r := ⟨_, rfl⟩
  rw [hr] at r0 r1 ⊢
  have t := tdiv_near (av + r)
  have g1 : D * (256 * k) < D * (av + r + 2) := by
    have a1 : D * (256 * k) = k * (256 * D) := by grind
    have a2 : D * (av + r + 2) = av * D + r * D + 2 * D := by grind
    rw [a1, a2]; omega
  have g2 : D * (av + r) < D * (256 * k + 256 + 2) := by
    have a1 : D * (av + r) = av * D + r * D := by grind
    have a2 : D * (256 * k + 256 + 2) = (k + 1) * (256 * D) + 2 * D := by grind
    rw [a1, a2]; omega
  have g1 := mul_pos_lt hD0 g1
  have g2 := mul_pos_lt hD0 g2
  omega
/-- The quotient along a line is not greater than the line. -/
theorem col_bd {M h w : Int} (hw : w ≠ 0) (h0 : min 0 w ≤ M) (h1 : M ≤ max 0 w) : -(max h (-h)) ≤ (M * h).tdiv w ∧ (M * h).tdiv w ≤ max h (-h) := by
  have key : (M * h).tdiv w * w = M * h - (M * h).tmod w := by have := Int.tdiv_mul_add_tmod (M * h) w; omega
  have b : ((M * h).tdiv w).natAbs * w.natAbs ≤ h.natAbs * w.natAbs := by
    rw [← Int.natAbs_mul]
    have e1 : ((M * h).tdiv w * w).natAbs ≤ (M * h).natAbs := by
      rw [Int.natAbs_mul, Int.natAbs_tdiv]
      exact Nat.div_mul_le_self _ _
    refine Nat.le_trans e1 ?_
    rw [Int.natAbs_mul, Nat.mul_comm]
    exact Nat.mul_le_mul_left _ (by omega)
  have := Nat.le_of_mul_le_mul_right b (by omega)
  omega
/-- What a column has of a line. -/
def colX (ax ay bx y2 u : Int) : Int := (mkWay0 ax ay bx y2).px u ((mkWay0 ax ay bx y2).across u)
def colY (ax ay bx y2 u : Int) : Int := (mkWay0 ax ay bx y2).py u ((mkWay0 ax ay bx y2).across u)
theorem col_uv (ax ay bx y2 u : Int) : uC (decide (turnP ax ay bx y2)) (colX ax ay bx y2 u) (colY ax ay bx y2 u) = u ∧ vC (decide (turnP ax ay bx y2)) (colX ax ay bx y2 u) (colY ax ay bx y2 u) = (mkWay0 ax ay bx y2).across u := cell_uv (mkWay0 ax ay bx y2) 0 u
/-- A line exits from one pixel of a column at most. -/
theorem col_only {ax ay bx y2 x y : Int} (c : ¬ (ax = bx ∧ ay = y2)) (h : exP ax ay bx y2 x y) : x = colX ax ay bx y2 (uC (decide (turnP ax ay bx y2)) x y) ∧ y = colY ax ay bx y2 (uC (decide (turnP ax ay bx y2)) x y) := by
  rw [exits_at _ _ _ _ _ _ c] at h
  rw [uv_ext (decide (turnP ax ay bx y2))]
  obtain ⟨h1, h2⟩ := col_uv ax ay bx y2 (uC (decide (turnP ax ay bx y2)) x y)
  rw [h1, h2]
  exact ⟨rfl, h.1.symm⟩
end Go.Proofs.Ytmlhbbkgfffmcaa
