/- The walk of the reference of layer 20: a triangle's spans. Conditions: bounds of places. -/
import Derived.Test.YtciooaihobnifaaGreatSpanB
import Derived.Test.YtciooaihobnifaaGreatSlopeI
namespace Go.Proofs.YtciooaihobnifaaGreat
set_option linter.unusedVariables false
set_option linter.unusedSimpArgs false
open Go.RowKit
/-- What the reference has of a row ahead of a column. -/
def SpS (F T x0 x n s0 s1 : Int) : Prop := (n = 0 ∧ s0 = 0 ∧ s1 = 0 ∧ (x ≤ F ∨ T ≤ F)) ∨ (0 < n ∧ n ≤ x - x0 ∧ s0 = F ∧ s1 = min x T ∧ F < x ∧ F < T)
theorem SpS.no {F T x0 x n s0 s1 : Int} (h : SpS F T x0 x n s0 s1) (hn : ¬ (F ≤ x ∧ x < T)) : SpS F T x0 (x + 1) n s0 s1 := by unfold SpS at *; omega
theorem SpS.first {F T x0 x n s0 s1 : Int} (h : SpS F T x0 x n s0 s1) (hn : F ≤ x ∧ x < T) (h0 : x0 ≤ x) (hz : n = 0) : SpS F T x0 (x + 1) (n + 1) x (x + 1) := by unfold SpS at *; omega
theorem SpS.more {F T x0 x n s0 s1 : Int} (h : SpS F T x0 x n s0 s1) (hn : F ≤ x ∧ x < T) (h0 : x0 ≤ x) (hz : ¬ n = 0) : SpS F T x0 (x + 1) (n + 1) s0 (x + 1) := by unfold SpS at *; omega
/-- What a loop over a triangle's pixels has in memory. -/
abbrev BxH {α : Type} (K : RecK α) (E : TypeId) (w : World) (a b c : WinP) (x0 y0 x1 y1 : Int) (v : Value) (L : List α) (wr : World) : Prop := Hold K w wr E [(w.heap.size, #[.int .i64 a.x, .int .i64 a.y, .int .i64 a.z, .int .i64 a.c0, .int .i64 a.c1, .int .i64 a.c2, .int .i64 a.c3], 41), (w.heap.size + 1, #[.int .i64 b.x, .int .i64 b.y, .int .i64 b.z, .int .i64 b.c0, .int .i64 b.c1, .int .i64 b.c2, .int .i64 b.c3], 41), (w.heap.size + 1 + 1, #[.int .i64 c.x, .int .i64 c.y, .int .i64 c.z, .int .i64 c.c0, .int .i64 c.c1, .int .i64 c.c2, .int .i64 c.c3], 41), (w.heap.size + 1 + 1 + 1, #[.int .i64 x0, .int .i64 y0, .int .i64 x1, .int .i64 y1], 29)] v L
theorem spansL_any (a b c : WinP) (x0 y0 x1 y1 : Int) (hr : rightP x0 y0 x1 y1) : spansL a b c x0 y0 x1 y1 = (if ar a b c = 0 then [] else spansTo a b c x0 x1 y0 y1) := by
  unfold spansL
  by_cases h : ar a b c = 0
  · rw [if_pos (.inl h), if_pos h]
  · rw [if_neg (fun k => k.elim h (fun k => k hr)), if_neg h]
/-- The spans up to a row, also of no area. -/
def spTo (a b c : WinP) (x0 x1 y0 y : Int) : List SpP := if ar a b c = 0 then [] else spansTo a b c x0 x1 y0 y
def rowAt (a b c : WinP) (x0 x1 y : Int) : Int × Int := if ar a b c = 0 then (0, 0) else (spF a b c x0 y, spT a b c x0 x1 y)
theorem spTo_snoc (a b c : WinP) (x0 x1 y0 y : Int) (h : y0 ≤ y) : spTo a b c x0 x1 y0 (y + 1) = spTo a b c x0 x1 y0 y ++ (if (rowAt a b c x0 x1 y).1 < (rowAt a b c x0 x1 y).2 then [⟨y, (rowAt a b c x0 x1 y).1, (rowAt a b c x0 x1 y).2⟩] else []) := by
  unfold spTo rowAt
  by_cases h0 : ar a b c = 0
  · simp [h0]
  · simp only [if_neg h0]; rw [spansTo_snoc _ _ _ _ _ _ _ h]; rfl
theorem spTo_start (a b c : WinP) (x0 x1 y0 : Int) : spTo a b c x0 x1 y0 y0 = [] := by
  unfold spTo spansTo; rw [rng_nil (Int.le_refl _)]; simp
theorem spTo_len (a b c : WinP) (x0 x1 y0 y : Int) : (spTo a b c x0 x1 y0 y).length ≤ (y - y0).toNat := by
  unfold spTo; split
  · simp
  · exact spansTo_len a b c x0 x1 y0 y
theorem rowAt_iff (a b c : WinP) {x0 x1 y x : Int} (h0 : x0 ≤ x) (h1 : x < x1) : triHas a b c x y ↔ ((rowAt a b c x0 x1 y).1 ≤ x ∧ x < (rowAt a b c x0 x1 y).2) := by
  unfold rowAt
  by_cases h : ar a b c = 0
  · rw [if_pos h]; exact ⟨fun k => absurd h k.1, fun k => by simp only at k; omega⟩
  · rw [if_neg h]; exact has_row h h0 h1
theorem rowAt_in (a b c : WinP) (x0 x1 y : Int) (hl : (rowAt a b c x0 x1 y).1 < (rowAt a b c x0 x1 y).2) : x0 ≤ (rowAt a b c x0 x1 y).1 ∧ (rowAt a b c x0 x1 y).2 ≤ x1 := by
  unfold rowAt at *
  by_cases h : ar a b c = 0
  · rw [if_pos h] at hl; simp at hl
  · rw [if_neg h] at hl ⊢
    simp only at *
    have k1 := (span_iff h x0 x1 (spF a b c x0 y) y).1 ⟨Int.le_refl _, hl⟩
    have k2 := (span_iff h x0 x1 (spT a b c x0 x1 y - 1) y).1 ⟨by omega, by omega⟩
    omega
end Go.Proofs.YtciooaihobnifaaGreat
