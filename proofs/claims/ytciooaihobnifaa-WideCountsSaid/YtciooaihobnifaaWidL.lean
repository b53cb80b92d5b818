/- The contract of the reference's Line (layer 17), where it is nothing; printed by gen_rwide.py. Conditions: the rectangle is small. -/
import Derived.Test.YtciooaihobnifaaPWidC
import Derived.Test.YtciooaihobnifaaPWidD
import Derived.Test.YtciooaihobnifaaPWalkE
import Derived.Test.YtciooaihobnifaaPLerpB
namespace Go.Proofs.Ytciooaihobnifaa
set_option linter.unusedVariables false
set_option linter.unusedSimpArgs false
open Go.RowKit
theorem own_marks {w : World} {base : Nat} {T : TypeId} {a : Option Addr} {cap : Nat} {L : List MkP} (h : w.ownsRow base T 10 (.slice a L.length cap) L.length (L.flatMap MkP.cells)) (j : Nat) (s : MkP) (hs : L[j]? = some s) :
    ∃ b, a = some ⟨b, 0, none⟩ ∧ b < w.heap.size ∧ (w.cell? ⟨b, j * 10 + 2, none⟩ = some (.int .i64 s.f.x) ∧ w.cell? ⟨b, j * 10 + 3, none⟩ = some (.int .i64 s.f.y) ∧ w.cell? ⟨b, j * 10 + 4, none⟩ = some (.int .i64 s.f.z) ∧ w.cell? ⟨b, j * 10 + 5, none⟩ = some (.int .i64 s.f.c0) ∧ w.cell? ⟨b, j * 10 + 6, none⟩ = some (.int .i64 s.f.c1) ∧ w.cell? ⟨b, j * 10 + 7, none⟩ = some (.int .i64 s.f.c2) ∧ w.cell? ⟨b, j * 10 + 8, none⟩ = some (.int .i64 s.f.c3) ∧ w.cell? ⟨b, j * 10 + 9, none⟩ = some (.int .i64 s.f.cov)) := by
  rcases h.2 with ⟨e, e'⟩ | ⟨g, cap', cur, e, hb, hg, -⟩
  · have : L = [] := List.length_eq_zero_iff.1 e'
    subst this; simp at hs
  · injection e with e1 _ e2
    subst e1 e2
    have k : ∀ i u, (MkP.cells s)[i]? = some u → w.cell? ⟨g, j * 10 + i, none⟩ = some u := fun i u hu => by
      have := h.cells (g := g) rfl (j * 10 + i) u (mkK.flat_at L j s i u hs hu)
      rw [addr_addR, Nat.zero_add] at this
      exact this
    exact ⟨g, rfl, (Array.getElem?_eq_some_iff.1 hg).1, k 2 _ rfl, k 3 _ rfl, k 4 _ rfl, k 5 _ rfl, k 6 _ rfl, k 7 _ rfl, k 8 _ rfl, k 9 _ rfl⟩
end Go.Proofs.Ytciooaihobnifaa
