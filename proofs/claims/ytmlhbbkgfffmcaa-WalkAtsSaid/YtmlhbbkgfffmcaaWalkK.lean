/- The law of 'for u, v := range w.from(..)' for a body that never leaves. Conditions: the way's bounds; the caller's invariant. -/
import Derived.Test.YtmlhbbkgfffmcaaWalkJ
import Derived.RangeFuncFrom
namespace Go.Proofs.Ytmlhbbkgfffmcaa
set_option linter.unusedVariables false
set_option linter.unusedSimpArgs false
open Go.RowKit
theorem cell_putObj {w : World} {j b i : Nat} {o : Obj} (h : b ≠ j) : (w.putObj j o).cell? ⟨b, i, none⟩ = w.cell? ⟨b, i, none⟩ := by
  unfold World.cell?; rw [World.putObj_heap_other h]
theorem Row.putObj {w : World} {j b : Nat} {o : Obj} {c : Array Value} {T : TypeId} (h : Row w b c T) (hj : b ≠ j) : Row (w.putObj j o) b c T := by
  have hc : Chg (fun k => k = j) w (w.putObj j o) := ⟨rfl, rfl, rfl, by simp, fun k hk hp => World.putObj_heap_other hp⟩
  exact hc.row h hj
set_option maxHeartbeats 1000000 in
theorem wpIn_range_from {W : Way} (ok : W.Ok) (hdu : 0 < W.du) (hσ : W.dv * W.step = W.bv - W.av) {p B1 B2 B3 N n : Nat} (u0 m : Int) (m0 : 0 ≤ m) (m1 : m ≤ 8388608)
    (ub : ∀ k : Int, 0 ≤ k → k ≤ m → -8388600 ≤ u0 + k * W.step ∧ u0 + k * W.step ≤ 8388600)
    (n1 : B2 ≠ p) (n2 : B2 ≠ B1) (n3 : B2 ≠ B3)
    {g : Operand} {ps : Array Tmp} {assign body : Code} {Q : Exit → Act → World → Prop} {a : Act} {w : World}
    (hg : a.eval g = .func (.func 130) #[] #[.pointer (some ⟨B1, 0, none⟩), .pointer (some ⟨B2, 0, none⟩), .pointer (some ⟨B3, 0, none⟩)])
    (hps : ps.size = 2) (hB : p < w.heap.size ∧ B1 < w.heap.size ∧ B2 < w.heap.size ∧ B3 < w.heap.size)
    (I : Nat → World → Prop) (hI : Bears W p B1 B2 B3 m I)
    (hput : ∀ k W' j o o', w.heap.size ≤ j → W'.heap[j]? = some o → o.isCells = false → I k W' → I k (W'.putObj j o'))
    (h0 : I 0 w) (hu : w.cell? ⟨B2, 0, none⟩ = some (.int .i64 u0))
    (a₁ : Nat → Act)
    (hassign : ∀ (l : Nat) (k : Nat) (W' : World) (K : Act → World → Prop), K (a₁ k) W' →
      assign.wpIn (Fence.wide.inRound l) N Try.prog (Exit.then K (fun _ _ _ => False)) { tmps := (ps.zip #[.int .i64 (u0 + (k : Int) * W.step), .int .i64 (W.across (u0 + (k : Int) * W.step))]).foldl (fun t (p, v) => t.setIfInBounds p v) a.tmps, defers := [] } W')
    (hbody : ∀ (l : Nat) (k : Nat) (W' : World), I k W' → (k : Int) < m → body.wpIn (Fence.wide.inRound l) N Try.prog (fun e _ W2 => e = .normal ∧ KeepsOthers W' W2 ∧ I (k + 1) W2 ∧ W2.cell? ⟨B2, 0, none⟩ = W'.cell? ⟨B2, 0, none⟩) (a₁ k) W')
    (hdone : ∀ (D : Nat) (W' : World), w.heap.size ≤ D → I m.toNat W' → W'.heap[D]? = some (.deferred (some [])) → Q .normal { a with defers := { target := .collected D, args := #[] } :: a.defers } W') :
    (Code.rangeFunc g ps assign body).wpIn Fence.wide n Try.prog Q a w := by
  refine wpIn_rangeFunc ?_
  intro fn hfn
  rw [show Fence.wide.round = none from rfl]
  obtain ⟨rec, hrec⟩ : ∃ rec : LoopState → Loop, rec = fun st => { state := st, pending := none, fn, tmps := a.tmps, params := ps, assign, body, defers := w.heap.size } := ⟨_, rfl⟩
  obtain ⟨W1, hW1⟩ : ∃ W1, (w.alloc (.deferred (some []))).alloc (.loop (rec .ready)) = W1 := ⟨_, rfl⟩
  have hL1 : W1.heap[w.heap.size + 1]? = some (.loop (rec .ready)) := by
    rw [← hW1]; have := World.alloc_heap_new (w.alloc (.deferred (some []))) (.loop (rec .ready)); rwa [World.size_alloc] at this
  have hK1 : W1.heap[w.heap.size]? = some (.deferred (some [])) := by
    rw [← hW1]; exact (Below.heap_alloc _ _ _ (by simp)).trans (World.alloc_heap_new w _)
  have hX1 : ∃ X, W1 = w.ext X := by
    rw [← hW1]; exact RowKit.Below.toExt (((Below.refl _ w).alloc (Nat.le_refl _) _).alloc (by simp) _)
  have hI1 : I 0 W1 := by obtain ⟨X, rfl⟩ := hX1; exact hI.ext _ _ _ h0
  have hu1 : W1.cell? ⟨B2, 0, none⟩ = some (.int .i64 u0) := by obtain ⟨X, rfl⟩ := hX1; rw [World.cell?_ext hB.2.2.1]; exact hu
  refine ⟨w.heap.size + 1, [{ target := .collected w.heap.size, args := #[] }], W1, { target := .fn (.func 130) #[.pointer (some ⟨B1, 0, none⟩), .pointer (some ⟨B2, 0, none⟩), .pointer (some ⟨B3, 0, none⟩)], args := #[.func (.yield (w.heap.size + 1)) #[] #[]] }, W1, 130,
    #[.func (.yield (w.heap.size + 1)) #[] #[], .pointer (some ⟨B1, 0, none⟩), .pointer (some ⟨B2, 0, none⟩), .pointer (some ⟨B3, 0, none⟩)], W1, ?_, ?_, ?_, ?_, fun h => (by cases h), ?_⟩
  · rw [← hW1, hrec]; exact run_enterLoop_outer _ _ _ _ _
  · simp only [resolve, hg]
    simp [go_sem]
  · intro f' hf'; trivial
  · have eg := enters_of Try.func130 (by kernel_rfl) rfl
    simp [invoke, go_sem, eg]
  · refine callsIn_wide.2 ?_
    have hJ : Bears W p B1 B2 B3 m (fun k W' => I k W' ∧ W'.heap[w.heap.size + 1]? = some (.loop (rec .ready)) ∧ W'.heap[w.heap.size]? = some (.deferred (some []))) := by
      refine ⟨?_, ?_, fun k w' h => hI.way k w' h.1, fun k w' h => hI.box1 k w' h.1, fun k w' h => hI.box2 k w' h.1, fun k w' h => hI.box3 k w' h.1⟩
      · rintro k w' v ⟨h1, h2, h3⟩
        exact ⟨hI.put _ _ _ h1, (KeepsOthers.setCell _ _ _).same _ _ h2 rfl, (KeepsOthers.setCell _ _ _).same _ _ h3 rfl⟩
      · rintro k w' X ⟨h1, h2, h3⟩
        exact ⟨hI.ext _ _ _ h1, (World.heap_ext (Array.getElem?_eq_some_iff.1 h2).1).trans h2, (World.heap_ext (Array.getElem?_eq_some_iff.1 h3).1).trans h3⟩
    refine (way_from1 ok hdu hσ (N := N) u0 m m0 m1 ub _ hJ n1 n2 n3 ?_ W1 ⟨hI1, hL1, hK1⟩ hu1).mono ?_
    · rintro k W' ⟨hi, hl, hk⟩ hkm huW
      have hlt : w.heap.size + 1 < W'.heap.size := (Array.getElem?_eq_some_iff.1 hl).1
      have hy := run_yield (P := Try.prog) (args := #[.int .i64 (u0 + (k : Int) * W.step), .int .i64 (W.across (u0 + (k : Int) * W.step))]) hl (by rw [hrec]; simp [hps])
      rw [hrec] at hy
      refine ⟨fn, _, assign, body, hy, roundIn_of_wpIn trivial (hassign _ k W' _ ⟨_, run_beginRound hl (by rw [hrec]), ?_⟩)⟩
      have hl2 : (W'.putObj (w.heap.size + 1) (.loop { rec .ready with state := .busy })).heap[w.heap.size + 1]? = some (.loop { rec .ready with state := .busy }) := World.putObj_heap_same hlt
      have hk2 : (W'.putObj (w.heap.size + 1) (.loop { rec .ready with state := .busy })).heap[w.heap.size]? = some (.deferred (some [])) := (World.putObj_heap_other (by omega)).trans hk
      refine wpIn_mono (hbody _ k _ (hput _ _ _ _ _ (by omega) hl rfl hi) hkm) ?_
      rintro e a3 W3 ⟨rfl, hk3, hi3, hc3⟩
      have hl3 := hk3.same _ _ hl2 rfl
      have hr := run_endRound (P := Try.prog) none hl3
      refine ⟨_, _, hr, rfl, ⟨hput _ _ _ _ _ (by omega) hl3 rfl hi3, ?_, (World.putObj_heap_other (by omega)).trans (hk3.same _ _ hk2 rfl)⟩, ?_⟩
      · rw [World.putObj_heap_same (Array.getElem?_eq_some_iff.1 hl3).1, hrec]; rfl
      · rw [cell_putObj (by omega), hc3, cell_putObj (by omega)]
    · rintro e W2 ⟨⟨v, rfl⟩, hi, hl, hk⟩
      exact ⟨none, _, by have := run_endLoop (P := Try.prog) hl (by rw [hrec]; simp); rw [hrec] at this; exact this,
        hdone _ _ (Nat.le_refl _) (hput _ _ _ _ _ (by omega) hl rfl hi) ((World.putObj_heap_other (by omega)).trans hk)⟩
end Go.Proofs.Ytmlhbbkgfffmcaa
