/- The plain law of FaceOnce: two faces side by side, and the other triangles. No condition. -/
import Derived.Test.YtciooaihobnifaaGreatPTriA
namespace Go.Proofs.YtciooaihobnifaaGreat
set_option linter.unusedVariables false
set_option linter.unusedSimpArgs false
/-- On which side of a way a middle lies, none on it. -/
def vl (p q : WinP) (x y : Int) : Int := 1099511627776 * ar p q (midP x y) - ((q.y - p.y) * 1048576 + (q.x - p.x))
def NearP (p q : WinP) : Prop := (-131072 ≤ q.x - p.x ∧ q.x - p.x ≤ 131072) ∧ -131072 ≤ q.y - p.y ∧ q.y - p.y ≤ 131072
theorem left_vl {p q : WinP} (h : NearP p q) (x y : Int) : leftP p q x y ↔ 0 < vl p q x y := by
  unfold NearP at h
  unfold leftP vl
  generalize ar p q (midP x y) = A
  omega
theorem vl_ne {p q : WinP} (h : NearP p q) (x y : Int) (hne : ¬ (q.x = p.x ∧ q.y = p.y)) : vl p q x y ≠ 0 := by
  unfold NearP at h
  unfold vl
  generalize ar p q (midP x y) = A
  omega
theorem vl_swap (p q : WinP) (x y : Int) : vl q p x y = - vl p q x y := by
  have : ar q p (midP x y) = - ar p q (midP x y) := by unfold ar; grind
  unfold vl
  rw [this]
  omega
theorem NearP.swap {p q : WinP} (h : NearP p q) : NearP q p := by unfold NearP at *; omega
theorem tri_vl {a b c : WinP} (h1 : NearP a b) (h2 : NearP b c) (h3 : NearP c a) (x y : Int) :
    triHas a b c x y ↔ (0 < ar a b c ∧ 0 < vl a b x y ∧ 0 < vl b c x y ∧ 0 < vl c a x y) ∨ (ar a b c < 0 ∧ vl a b x y < 0 ∧ vl b c x y < 0 ∧ vl c a x y < 0) := by
  unfold triHas triB triC
  by_cases h : ar a b c < 0
  · simp only [if_pos h]
    rw [left_vl h3.swap, left_vl h2.swap, left_vl h1.swap, vl_swap c a, vl_swap b c, vl_swap a b]
    omega
  · simp only [if_neg h]
    rw [left_vl h1, left_vl h2, left_vl h3]
    omega
theorem once_pos (U V E : Int) (g : 0 < E) (z1 : U ≠ 0) (z2 : V ≠ 0) (z3 : U + V ≠ 0) (z4 : U ≠ E) (z5 : U - E + V ≠ 0) (z6 : U ≠ 2 * E) (z7 : V + E ≠ 0) (z8 : V - U + 2 * E ≠ 0) (z9 : 2 * V + 2 * E - U ≠ 0) :
    (((0 < U ∧ 0 < V + E ∧ U + V < 0) ∨ (0 < U + V ∧ U < E ∧ V < 0) ∨ (E < U ∧ 0 < V + E ∧ U - E + V < 0) ∨ (0 < U - E + V ∧ U < 2 * E ∧ V < 0)) ↔ ((0 < V + E ∧ 0 < V - U + 2 * E ∧ 2 * V + 2 * E - U < 0) ∨ (0 < U ∧ 0 < 2 * V + 2 * E - U ∧ V < 0) ∨ (0 < V + E ∧ U < 2 * E ∧ V - U + 2 * E < 0))) := by
  constructor
  · rintro (h | h | h | h) <;> omega
  · rintro (h | h | h) <;> omega
theorem once_cases (U V D : Int) (hz : ¬ D = 0) (z1 : U ≠ 0) (z2 : -V ≠ 0) (z3 : -(U + V) ≠ 0) (z4 : U - 1099511627776 * D ≠ 0) (z5 : -(U - 1099511627776 * D + V) ≠ 0) (z6 : -(U - 2199023255552 * D) ≠ 0) (z7 : V + 1099511627776 * D ≠ 0) (z8 : V - U + 2199023255552 * D ≠ 0) (z9 : -(2 * V + 2199023255552 * D - U) ≠ 0) : ((((0 < D ∧ 0 < U ∧ 0 < V + 1099511627776 * D ∧ 0 < -(U + V)) ∨ (D < 0 ∧ U < 0 ∧ V + 1099511627776 * D < 0 ∧ -(U + V) < 0)) ∨ ((0 < D ∧ 0 < U + V ∧ 0 < -(U - 1099511627776 * D) ∧ 0 < -V) ∨ (D < 0 ∧ U + V < 0 ∧ -(U - 1099511627776 * D) < 0 ∧ -V < 0)) ∨ ((0 < D ∧ 0 < U - 1099511627776 * D ∧ 0 < V + 1099511627776 * D ∧ 0 < -(U - 1099511627776 * D + V)) ∨ (D < 0 ∧ U - 1099511627776 * D < 0 ∧ V + 1099511627776 * D < 0 ∧ -(U - 1099511627776 * D + V) < 0)) ∨ ((0 < D ∧ 0 < U - 1099511627776 * D + V ∧ 0 < -(U - 2199023255552 * D) ∧ 0 < -V) ∨ (D < 0 ∧ U - 1099511627776 * D + V < 0 ∧ -(U - 2199023255552 * D) < 0 ∧ -V < 0))) ↔ (((0 < D ∧ 0 < V + 1099511627776 * D ∧ 0 < V - U + 2199023255552 * D ∧ 0 < -(2 * V + 2199023255552 * D - U)) ∨ (D < 0 ∧ V + 1099511627776 * D < 0 ∧ V - U + 2199023255552 * D < 0 ∧ -(2 * V + 2199023255552 * D - U) < 0)) ∨ ((0 < 2 * D ∧ 0 < U ∧ 0 < 2 * V + 2199023255552 * D - U ∧ 0 < -(2 * V)) ∨ (2 * D < 0 ∧ U < 0 ∧ 2 * V + 2199023255552 * D - U < 0 ∧ -(2 * V) < 0)) ∨ ((0 < D ∧ 0 < V + 1099511627776 * D ∧ 0 < -(U - 2199023255552 * D) ∧ 0 < -(V - U + 2199023255552 * D)) ∨ (D < 0 ∧ V + 1099511627776 * D < 0 ∧ -(U - 2199023255552 * D) < 0 ∧ -(V - U + 2199023255552 * D) < 0)))) ∧ ¬ (((0 < D ∧ 0 < U ∧ 0 < V + 1099511627776 * D ∧ 0 < -(U + V)) ∨ (D < 0 ∧ U < 0 ∧ V + 1099511627776 * D < 0 ∧ -(U + V) < 0)) ∧ ((0 < D ∧ 0 < U + V ∧ 0 < -(U - 1099511627776 * D) ∧ 0 < -V) ∨ (D < 0 ∧ U + V < 0 ∧ -(U - 1099511627776 * D) < 0 ∧ -V < 0))) ∧ ¬ (((0 < D ∧ 0 < U ∧ 0 < V + 1099511627776 * D ∧ 0 < -(U + V)) ∨ (D < 0 ∧ U < 0 ∧ V + 1099511627776 * D < 0 ∧ -(U + V) < 0)) ∧ ((0 < D ∧ 0 < U - 1099511627776 * D ∧ 0 < V + 1099511627776 * D ∧ 0 < -(U - 1099511627776 * D + V)) ∨ (D < 0 ∧ U - 1099511627776 * D < 0 ∧ V + 1099511627776 * D < 0 ∧ -(U - 1099511627776 * D + V) < 0))) ∧ ¬ (((0 < D ∧ 0 < U ∧ 0 < V + 1099511627776 * D ∧ 0 < -(U + V)) ∨ (D < 0 ∧ U < 0 ∧ V + 1099511627776 * D < 0 ∧ -(U + V) < 0)) ∧ ((0 < D ∧ 0 < U - 1099511627776 * D + V ∧ 0 < -(U - 2199023255552 * D) ∧ 0 < -V) ∨ (D < 0 ∧ U - 1099511627776 * D + V < 0 ∧ -(U - 2199023255552 * D) < 0 ∧ -V < 0))) ∧ ¬ (((0 < D ∧ 0 < U + V ∧ 0 < -(U - 1099511627776 * D) ∧ 0 < -V) ∨ (D < 0 ∧ U + V < 0 ∧ -(U - 1099511627776 * D) < 0 ∧ -V < 0)) ∧ ((0 < D ∧ 0 < U - 1099511627776 * D ∧ 0 < V + 1099511627776 * D ∧ 0 < -(U - 1099511627776 * D + V)) ∨ (D < 0 ∧ U - 1099511627776 * D < 0 ∧ V + 1099511627776 * D < 0 ∧ -(U - 1099511627776 * D + V) < 0))) ∧ ¬ (((0 < D ∧ 0 < U + V ∧ 0 < -(U - 1099511627776 * D) ∧ 0 < -V) ∨ (D < 0 ∧ U + V < 0 ∧ -(U - 1099511627776 * D) < 0 ∧ -V < 0)) ∧ ((0 < D ∧ 0 < U - 1099511627776 * D + V ∧ 0 < -(U - 2199023255552 * D) ∧ 0 < -V) ∨ (D < 0 ∧ U - 1099511627776 * D + V < 0 ∧ -(U - 2199023255552 * D) < 0 ∧ -V < 0))) ∧ ¬ (((0 < D ∧ 0 < U - 1099511627776 * D ∧ 0 < V + 1099511627776 * D ∧ 0 < -(U - 1099511627776 * D + V)) ∨ (D < 0 ∧ U - 1099511627776 * D < 0 ∧ V + 1099511627776 * D < 0 ∧ -(U - 1099511627776 * D + V) < 0)) ∧ ((0 < D ∧ 0 < U - 1099511627776 * D + V ∧ 0 < -(U - 2199023255552 * D) ∧ 0 < -V) ∨ (D < 0 ∧ U - 1099511627776 * D + V < 0 ∧ -(U - 2199023255552 * D) < 0 ∧ -V < 0))) := by
  obtain ⟨E, hE⟩ : ∃ E, 1099511627776 * D = E := ⟨_, rfl⟩
  have hE2 : 2199023255552 * D = 2 * E := by omega
  rw [hE] at z4 z5 z7
  rw [hE2] at z6 z8 z9
  simp only [hE, hE2]
  rcases Int.lt_or_gt_of_ne hz with g | g
  · have hg : 0 < -E := by omega
    have k1 : (0 < D) = False := by simp; omega
    have k2 : (0 < 2 * D) = False := by simp; omega
    have k3 : (D < 0) = True := by simp; omega
    have k4 : (2 * D < 0) = True := by simp; omega
    simp only [k1, k2, k3, k4, false_and, true_and, false_or]
    have := once_pos (-U) (-V) (-E) hg (by omega) (by omega) (by omega) (by omega) (by omega) (by omega) (by omega) (by omega) (by omega)
    clear k1 k2 k3 k4 hE hE2 hz g
    refine ⟨⟨fun h => ?_, fun h => ?_⟩, ?_⟩
    · have := this.1 (by rcases h with h | h | h | h; exact .inl (by omega); exact .inr (.inl (by omega)); exact .inr (.inr (.inl (by omega))); exact .inr (.inr (.inr (by omega))))
      rcases this with h | h | h
      · exact .inl (by omega)
      · exact .inr (.inl (by omega))
      · exact .inr (.inr (by omega))
    · have := this.2 (by rcases h with h | h | h; exact .inl (by omega); exact .inr (.inl (by omega)); exact .inr (.inr (by omega)))
      rcases this with h | h | h | h
      · exact .inl (by omega)
      · exact .inr (.inl (by omega))
      · exact .inr (.inr (.inl (by omega)))
      · exact .inr (.inr (.inr (by omega)))
    · clear this
      refine ⟨?_, ?_, ?_, ?_, ?_, ?_⟩ <;> (rintro ⟨h1, h2⟩; omega)
  · have hg : 0 < E := by omega
    have k1 : (0 < D) = True := by simp; omega
    have k2 : (0 < 2 * D) = True := by simp; omega
    have k3 : (D < 0) = False := by simp; omega
    have k4 : (2 * D < 0) = False := by simp; omega
    simp only [k1, k2, k3, k4, false_and, true_and, or_false]
    have := once_pos U V E hg (by omega) (by omega) (by omega) (by omega) (by omega) (by omega) (by omega) (by omega) (by omega)
    clear k1 k2 k3 k4 hE hE2 hz g
    refine ⟨⟨fun h => ?_, fun h => ?_⟩, ?_⟩
    · have := this.1 (by rcases h with h | h | h | h; exact .inl (by omega); exact .inr (.inl (by omega)); exact .inr (.inr (.inl (by omega))); exact .inr (.inr (.inr (by omega))))
      rcases this with h | h | h
      · exact .inl (by omega)
      · exact .inr (.inl (by omega))
      · exact .inr (.inr (by omega))
    · have := this.2 (by rcases h with h | h | h; exact .inl (by omega); exact .inr (.inl (by omega)); exact .inr (.inr (by omega)))
      rcases this with h | h | h | h
      · exact .inl (by omega)
      · exact .inr (.inl (by omega))
      · exact .inr (.inr (.inl (by omega)))
      · exact .inr (.inr (.inr (by omega)))
    · clear this
      refine ⟨?_, ?_, ?_, ?_, ?_, ?_⟩ <;> (rintro ⟨h1, h2⟩; omega)
theorem once_plain (a b c d e f : WinP) (ux uy vx vy : Int) (hu : -32768 ≤ ux ∧ ux ≤ 32767) (hu' : -32768 ≤ uy ∧ uy ≤ 32767) (hv : -32768 ≤ vx ∧ vx ≤ 32767) (hv' : -32768 ≤ vy ∧ vy ≤ 32767)
    (bx : b.x = a.x + ux) (b_y : b.y = a.y + uy) (cx : c.x = b.x + vx) (cy : c.y = b.y + vy) (dx : d.x = a.x + vx) (dy : d.y = a.y + vy) (ex : e.x = c.x + vx) (ey : e.y = c.y + vy) (fx : f.x = d.x + vx) (fy : f.y = d.y + vy) (x y : Int) :
    ((triHas a b c x y ∨ triHas a c d x y ∨ triHas d c e x y ∨ triHas d e f x y) ↔ (triHas b c f x y ∨ triHas a b f x y ∨ triHas c e f x y)) ∧
    ¬ (triHas a b c x y ∧ triHas a c d x y) ∧ ¬ (triHas a b c x y ∧ triHas d c e x y) ∧ ¬ (triHas a b c x y ∧ triHas d e f x y) ∧ ¬ (triHas a c d x y ∧ triHas d c e x y) ∧ ¬ (triHas a c d x y ∧ triHas d e f x y) ∧ ¬ (triHas d c e x y ∧ triHas d e f x y) := by
  obtain ⟨D, hD⟩ : ∃ D, ux * vy - uy * vx = D := ⟨_, rfl⟩
  have n1 : NearP a b := by unfold NearP; omega
  have n2 : NearP b c := by unfold NearP; omega
  have n3 : NearP c a := by unfold NearP; omega
  have n4 : NearP c d := by unfold NearP; omega
  have n5 : NearP d a := by unfold NearP; omega
  have n6 : NearP d c := by unfold NearP; omega
  have n7 : NearP c e := by unfold NearP; omega
  have n8 : NearP e d := by unfold NearP; omega
  have n9 : NearP e f := by unfold NearP; omega
  have n10 : NearP f d := by unfold NearP; omega
  have n11 : NearP c f := by unfold NearP; omega
  have n12 : NearP f b := by unfold NearP; omega
  have n13 : NearP b f := by unfold NearP; omega
  have n14 : NearP f a := by unfold NearP; omega
  have n15 : NearP f c := by unfold NearP; omega
  have Z : ¬ D = 0 → vl a b x y ≠ 0 ∧ vl d a x y ≠ 0 ∧ vl c a x y ≠ 0 ∧ vl d c x y ≠ 0 ∧ vl e d x y ≠ 0 ∧ vl e f x y ≠ 0 ∧ vl b c x y ≠ 0 ∧ vl c f x y ≠ 0 ∧ vl f b x y ≠ 0 := fun hz => by
    refine ⟨?_, ?_, ?_, ?_, ?_, ?_, ?_, ?_, ?_⟩
    · refine vl_ne n1 x y fun k => hz ?_
      have e1 : ux = 0 := by omega
      have e2 : uy = 0 := by omega
      rw [← hD, e1, e2]; omega
    · refine vl_ne n5 x y fun k => hz ?_
      have e1 : vx = 0 := by omega
      have e2 : vy = 0 := by omega
      rw [← hD, e1, e2]; omega
    · refine vl_ne n3 x y fun k => hz ?_
      have e1 : vx = -ux := by omega
      have e2 : vy = -uy := by omega
      rw [← hD, e1, e2]; grind
    · refine vl_ne n6 x y fun k => hz ?_
      have e1 : ux = 0 := by omega
      have e2 : uy = 0 := by omega
      rw [← hD, e1, e2]; omega
    · refine vl_ne n8 x y fun k => hz ?_
      have e1 : vx = -ux := by omega
      have e2 : vy = -uy := by omega
      rw [← hD, e1, e2]; grind
    · refine vl_ne n9 x y fun k => hz ?_
      have e1 : ux = 0 := by omega
      have e2 : uy = 0 := by omega
      rw [← hD, e1, e2]; omega
    · refine vl_ne n2 x y fun k => hz ?_
      have e1 : vx = 0 := by omega
      have e2 : vy = 0 := by omega
      rw [← hD, e1, e2]; omega
    · refine vl_ne n11 x y fun k => hz ?_
      have e1 : vx = ux := by omega
      have e2 : vy = uy := by omega
      rw [← hD, e1, e2]; grind
    · refine vl_ne n12 x y fun k => hz ?_
      have e1 : ux = 2 * vx := by omega
      have e2 : uy = 2 * vy := by omega
      rw [← hD, e1, e2]; grind
  obtain ⟨U, hU⟩ : ∃ U, vl a b x y = U := ⟨_, rfl⟩
  obtain ⟨V, hV⟩ : ∃ V, vl a d x y = V := ⟨_, rfl⟩
  have A1 : ar a b c = D := by rw [← hD]; unfold ar; rw [cx, cy, bx, b_y]; grind
  have A2 : ar a c d = D := by rw [← hD]; unfold ar; rw [dx, dy, cx, cy, bx, b_y]; grind
  have A3 : ar d c e = D := by rw [← hD]; unfold ar; rw [ex, ey, dx, dy, cx, cy, bx, b_y]; grind
  have A4 : ar d e f = D := by rw [← hD]; unfold ar; rw [fx, fy, ex, ey, dx, dy, cx, cy, bx, b_y]; grind
  have A5 : ar b c f = D := by rw [← hD]; unfold ar; rw [fx, fy, dx, dy, cx, cy, bx, b_y]; grind
  have A6 : ar a b f = 2 * D := by rw [← hD]; unfold ar; rw [fx, fy, dx, dy, bx, b_y]; grind
  have A7 : ar c e f = D := by rw [← hD]; unfold ar; rw [fx, fy, ex, ey, dx, dy, cx, cy, bx, b_y]; grind
  have V1 : vl b c x y = V + 1099511627776 * D := by rw [← hD, ← hV]; unfold vl ar; rw [cx, cy, dx, dy, bx, b_y]; grind
  have V2 : vl c a x y = -(U + V) := by rw [← hU, ← hV]; unfold vl ar; rw [cx, cy, dx, dy, bx, b_y]; grind
  have V3 : vl c d x y = -(U - 1099511627776 * D) := by rw [← hU, ← hD]; unfold vl ar; rw [cx, cy, dx, dy, bx, b_y]; grind
  have V4 : vl d c x y = U - 1099511627776 * D := by rw [vl_swap c d, V3]; omega
  have V5 : vl c e x y = V + 1099511627776 * D := by rw [← hD, ← hV]; unfold vl ar; rw [ex, ey, cx, cy, dx, dy, bx, b_y]; grind
  have V6 : vl e d x y = -(U - 1099511627776 * D + V) := by rw [← hD, ← hU, ← hV]; unfold vl ar; rw [ex, ey, cx, cy, dx, dy, bx, b_y]; grind
  have V7 : vl e f x y = -(U - 2199023255552 * D) := by rw [← hU, ← hD]; unfold vl ar; rw [fx, fy, ex, ey, cx, cy, dx, dy, bx, b_y]; grind
  have V8 : vl f d x y = -V := by rw [← hV]; unfold vl ar; rw [fx, fy, dx, dy]; grind
  have V9 : vl c f x y = V - U + 2199023255552 * D := by rw [← hV, ← hU, ← hD]; unfold vl ar; rw [fx, fy, cx, cy, dx, dy, bx, b_y]; grind
  have V10 : vl f b x y = -(2 * V + 2199023255552 * D - U) := by rw [← hV, ← hU, ← hD]; unfold vl ar; rw [fx, fy, dx, dy, bx, b_y]; grind
  have V11 : vl f a x y = -(2 * V) := by rw [← hV]; unfold vl ar; rw [fx, fy, dx, dy]; grind
  have V12 : vl d a x y = -V := by rw [vl_swap a d, hV]
  have V13 : vl d e x y = U - 1099511627776 * D + V := by rw [vl_swap e d, V6]; omega
  have V14 : vl a c x y = U + V := by rw [vl_swap c a, V2]; omega
  have V15 : vl b f x y = 2 * V + 2199023255552 * D - U := by rw [vl_swap f b, V10]; omega
  have V16 : vl f c x y = -(V - U + 2199023255552 * D) := by rw [vl_swap c f, V9]
  rw [tri_vl n1 n2 n3, tri_vl n3.swap n4 n5, tri_vl n6 n7 n8, tri_vl n8.swap n9 n10, tri_vl n2 n11 n12, tri_vl n1 n13 n14, tri_vl n7 n9 n15, A1, A2, A3, A4, A5, A6, A7, hU, V1, V2, V3, V4, V5, V6, V7, V8, V9, V10, V11, V12, V13, V14, V15, V16]
  rw [hU, V12, V2, V4, V6, V7, V1, V9, V10] at Z
  by_cases hz : D = 0
  · clear Z V1 V2 V3 V4 V5 V6 V7 V8 V9 V10 V11 V12 V13 V14 V15 V16 A1 A2 A3 A4 A5 A6 A7 hD
    subst hz; simp
  · obtain ⟨z1, z2, z3, z4, z5, z6, z7, z8, z9⟩ := Z hz
    exact once_cases U V D hz z1 z2 z3 z4 z5 z6 z7 z8 z9
end Go.Proofs.YtciooaihobnifaaGreat
