/- A slice of fragments that grows by append. No condition. -/
import Derived.Test.YtdbbeggenbhbfaaFragF
import Derived.Test.YtdbbeggenbhbfaaStoreJ
namespace Go.Proofs.Ytdbbeggenbhbfaa
set_option linter.unusedVariables false
set_option linter.unusedSimpArgs false
open Go.RowKit
theorem info_frag : (Try.prog.info? 66).map (fun i => (i.zero, i.size, i.bytes)) = some (some (.agg #[.int .i64 0, .int .i64 0, .int .i64 0, .int .i64 0, .int .i64 0, .int .i64 0, .int .i64 0, .int .i64 0]), 8, 64) := by kernel_rfl
theorem own_ext {w : World} {base n size : Nat} {e : TypeId} {v : Value} {xs : List Value} (h : w.ownsRow base e size v n xs) (X : Xt) : (w.ext X).ownsRow base e size v n xs :=
  h.kept (row := none) ⟨rfl, rfl, rfl, by simp, fun k hk _ => World.heap_ext hk⟩ (by cases v.ownBlock <;> simp)
theorem flat_at : ∀ (L : List FrP) (i : Nat) (f : FrP) (j : Nat) (u : Value), L[i]? = some f → f.cells[j]? = some u → (L.flatMap FrP.cells)[i * 8 + j]? = some u
  | [], _, _, _, _, h, _ => by simp at h
  | g :: L, 0, f, j, u, h, h' => by
    obtain rfl : g = f := by simpa using h
    have hj : j < (FrP.cells g).length := by rw [List.getElem?_eq_some_iff] at h'; exact h'.1
    rw [List.flatMap_cons, List.getElem?_append_left (by simpa using hj)]
    simpa using h'
  | g :: L, i + 1, f, j, u, h, h' => by
    have e8 : (FrP.cells g).length = 8 := rfl
    rw [List.flatMap_cons, List.getElem?_append_right (by rw [e8]; omega), e8, show (i + 1) * 8 + j - 8 = i * 8 + j by omega]
    exact flat_at L i f j u (by simpa using h) h'
structure GrowF (w0 wr : World) (vb : Value) (L : List FrP) : Prop where
  bel : Below w0.heap.size w0 wr
  own : wr.ownsRow w0.heap.size 66 8 vb L.length (L.flatMap FrP.cells)
theorem GrowF.nil (w0 : World) : GrowF w0 w0 (.slice none 0 0) [] := ⟨Below.refl _ _, World.ownsRow_nil _ _ _ _⟩
theorem GrowF.ext {w0 wr : World} {vb : Value} {L : List FrP} (h : GrowF w0 wr vb L) (X : Xt) : GrowF w0 (wr.ext X) vb L := ⟨h.bel.ext h.bel.size X, own_ext h.own X⟩
theorem GrowF.step {w0 wr w1 : World} {vb : Value} {L : List FrP} {f : FrP} {g cap : Nat} {o : Obj} (h : GrowF w0 wr vb L)
    (hown : w1.ownsRow w0.heap.size 66 8 (sl g (L.length + 1) cap) (L.length + 1) (L.flatMap FrP.cells ++ f.cells)) (hg : (wr.alloc o).grownBy w1 vb.ownBlock) : GrowF w0 w1 (sl g (L.length + 1) cap) (L ++ [f]) := by
  have hs : (wr.alloc o).heap.size = wr.heap.size + 1 := by rw [World.hp_alloc, Array.size_push]
  refine ⟨?_, by simpa using hown⟩
  refine Below.grown (h.bel.alloc h.bel.size o) hg (by have := h.bel.size; omega) fun k hk => ?_
  exact (h.own.lt k hk).1
theorem GrowF.frs {w0 wr : World} {vb : Value} {L : List FrP} (h : GrowF w0 wr vb L) (hok : ∀ f ∈ L, f.ok) (hl : L.length ≤ 1048576) : Frs wr vb L := by
  obtain ⟨-, hle, h1⟩ := h
  rcases h1 with ⟨rfl, h0⟩ | ⟨g, cap, cur, rfl, hb, hg, h1, h2, h3, h4⟩
  · obtain rfl : L = [] := List.length_eq_zero_iff.1 h0
    exact ⟨hok, hl, none, 0, rfl, Nat.le_refl _, .inl rfl⟩
  · refine ⟨hok, hl, _, cap, rfl, h1, .inr ⟨g, 0, rfl, (Array.getElem?_eq_some_iff.1 hg).1, fun i f hi j u hj => ?_⟩⟩
    have e := flat_at L i f j u hi hj
    rw [← h4, List.getElem?_take] at e
    rw [Nat.zero_add, World.cell?]
    simp only [hg]
    split at e
    · rw [← Array.getElem?_toList]; exact e
    · exact absurd e (by simp)
theorem cells_new {w : World} {n : Nat} (h : w.heap.size = n) (c : Array Value) (t : TypeId) : ∀ j u, c.toList[j]? = some u → (w.alloc (.cells c t)).cell? ((⟨n, 0, none⟩ : Addr).add j) = some u := by
  subst h
  intro j u hj
  rw [addr_add, Nat.zero_add, World.cell?]
  simp only [World.hp_alloc, Array.getElem?_push, if_true]
  rw [← Array.getElem?_toList]; exact hj
end Go.Proofs.Ytdbbeggenbhbfaa
