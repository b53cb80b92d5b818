/- A slice of steps that grows by append, beside a way and its boxes (layer 14). No condition. -/
import Derived.Test.YtmlhbbkgfffmcaaWalkK
import Derived.Test.YtmlhbbkgfffmcaaWalkG
namespace Go.Proofs.Ytmlhbbkgfffmcaa
set_option linter.unusedVariables false
set_option linter.unusedSimpArgs false
open Go.RowKit
abbrev St.cells (s : St) : List Value := [.int .i64 s.K, .int .i64 s.X, .int .i64 s.Y]
theorem info_step : (Try.prog.info? 62).map (fun i => (i.zero, i.size, i.bytes)) = some (some (.agg #[.int .i64 0, .int .i64 0, .int .i64 0]), 3, 24) := by kernel_rfl
/-- A slice that reads these steps. -/
def Sts (w : World) (v : Value) (L : List St) : Prop :=
  L.length ≤ 8388608 ∧ ∃ a cap, v = .slice a L.length cap ∧ L.length ≤ cap ∧
    (L = [] ∨ ∃ b off, a = some ⟨b, off, none⟩ ∧ b < w.heap.size ∧ ∀ i s, L[i]? = some s → ∀ j u, s.cells[j]? = some u → w.cell? ⟨b, off + i * 3 + j, none⟩ = some u)
theorem Sts.chg {p : Nat → Prop} {w w1 : World} {v : Value} {L : List St} (h : Sts w v L) (hc : Chg p w w1) (hb : ∀ b, v.ownBlock = some b → L ≠ [] → b < w.heap.size → ¬ p b) : Sts w1 v L := by
  obtain ⟨h1, a, cap, rfl, h2, h3⟩ := h
  refine ⟨h1, a, cap, rfl, h2, ?_⟩
  by_cases hne : L = []
  · exact .inl hne
  rcases h3 with h3 | ⟨b, off, rfl, hb', hcl⟩
  · exact .inl h3
  · exact .inr ⟨b, off, rfl, Nat.lt_of_lt_of_le hb' hc.size, fun i f hi j u hj => by rw [hc.cell hb' (hb b rfl hne hb')]; exact hcl i f hi j u hj⟩
theorem Sts.ext {w : World} {v : Value} {L : List St} (h : Sts w v L) (X : Xt) : Sts (w.ext X) v L := h.chg (p := fun _ => False) (Chg.of_ext X) (fun _ _ _ _ h => h)
theorem own_extS {w : World} {base n size : Nat} {e : TypeId} {v : Value} {xs : List Value} (h : w.ownsRow base e size v n xs) (X : Xt) : (w.ext X).ownsRow base e size v n xs :=
  h.kept (row := none) ⟨rfl, rfl, rfl, by simp, fun k hk _ => World.heap_ext hk⟩ (by cases v.ownBlock <;> simp)
theorem flat_atS : ∀ (L : List St) (i : Nat) (f : St) (j : Nat) (u : Value), L[i]? = some f → f.cells[j]? = some u → (L.flatMap St.cells)[i * 3 + j]? = some u
  | [], _, _, _, _, h, _ => by simp at h
  | g :: L, 0, f, j, u, h, h' => by
    obtain rfl : g = f := by simpa using h
    have hj : j < (St.cells g).length := by rw [List.getElem?_eq_some_iff] at h'; exact h'.1
    rw [List.flatMap_cons, List.getElem?_append_left (by simpa using hj)]
    simpa using h'
  | g :: L, i + 1, f, j, u, h, h' => by
    have e8 : (St.cells g).length = 3 := rfl
    rw [List.flatMap_cons, List.getElem?_append_right (by rw [e8]; omega), e8, show (i + 1) * 3 + j - 3 = i * 3 + j by omega]
    exact flat_atS L i f j u (by simpa using h) h'
theorem own_sts {wr : World} {base : Nat} {vb : Value} {L : List St} (h : wr.ownsRow base 62 3 vb L.length (L.flatMap St.cells)) (hl : L.length ≤ 8388608) : Sts wr vb L := by
  obtain ⟨hle, h1⟩ := h
  rcases h1 with ⟨rfl, h0⟩ | ⟨g, cap, cur, rfl, hb, hg, h1, h2, h3, h4⟩
  · obtain rfl : L = [] := List.length_eq_zero_iff.1 h0
    exact ⟨hl, none, 0, rfl, Nat.le_refl _, .inl rfl⟩
  · refine ⟨hl, _, cap, rfl, h1, .inr ⟨g, 0, rfl, (Array.getElem?_eq_some_iff.1 hg).1, fun i f hi j u hj => ?_⟩⟩
    have e := flat_atS L i f j u hi hj
    rw [← h4, List.getElem?_take] at e
    rw [Nat.zero_add, World.cell?]
    simp only [hg]
    split at e
    · rw [← Array.getElem?_toList]; exact e
    · exact absurd e (by simp)
theorem addr_addS (b o j : Nat) : (⟨b, o, none⟩ : Addr).add j = ⟨b, o + j, none⟩ := by simp [Addr.add]
theorem cells_newS {w : World} {n : Nat} (h : w.heap.size = n) (c : Array Value) (t : TypeId) : ∀ j u, c.toList[j]? = some u → (w.alloc (.cells c t)).cell? ((⟨n, 0, none⟩ : Addr).add j) = some u := by
  subst h
  intro j u hj
  rw [addr_addS, Nat.zero_add, World.cell?]
  simp only [World.hp_alloc, Array.getElem?_push, if_true]
  rw [← Array.getElem?_toList]; exact hj
/-- A call that returns these steps. -/
def Lists (w : World) (L : List St) (e : Ending) (w' : World) : Prop := ∃ v, e = .returned v ∧ Sts w' v L ∧ ∃ X, w' = w.ext X
/-- What Within has in memory: the way, its variable, the rectangle's, the list's. -/
structure Wi (w wr : World) (W : Way) (p Bw Bo : Nat) (x0 y0 x1 y1 : Int) (v : Value) (L : List St) : Prop where
  hp : w.heap.size + 3 ≤ p
  hw : w.heap.size + 3 ≤ Bw
  ho : w.heap.size + 3 ≤ Bo
  n1 : p ≠ Bw
  n2 : p ≠ Bo
  n3 : Bw ≠ Bo
  way : WayAt wr p W
  bw : Row wr Bw #[.pointer (some ⟨p, 0, none⟩)] 118
  bo : Row wr Bo #[v] 54
  br : Row wr (w.heap.size + 1 + 1) #[.int .i64 x0, .int .i64 y0, .int .i64 x1, .int .i64 y1] 26
  own : wr.ownsRow w.heap.size 62 3 v L.length (L.flatMap St.cells)
  ext : ∃ X, wr = w.ext X
section
variable {w wr : World} {W : Way} {p Bw Bo : Nat} {x0 y0 x1 y1 : Int} {v : Value} {L : List St}
theorem Wi.grow (h : Wi w wr W p Bw Bo x0 y0 x1 y1 v L) (X : Xt) : Wi w (wr.ext X) W p Bw Bo x0 y0 x1 y1 v L :=
  ⟨h.hp, h.hw, h.ho, h.n1, h.n2, h.n3, h.way.ext X, h.bw.ext X, h.bo.ext X, h.br.ext X, own_extS h.own X, by obtain ⟨Y, rfl⟩ := h.ext; exact ⟨_, World.ext_ext⟩⟩
theorem Wi.size (h : Wi w wr W p Bw Bo x0 y0 x1 y1 v L) : w.heap.size ≤ wr.heap.size := by obtain ⟨X, rfl⟩ := h.ext; simp
theorem Wi.below (h : Wi w wr W p Bw Bo x0 y0 x1 y1 v L) : Below w.heap.size w wr := by obtain ⟨X, rfl⟩ := h.ext; exact (Below.refl _ _).ext (Nat.le_refl _) X
/-- A block of another type is not the list's. -/
theorem row_not_own {c : Array Value} {T : TypeId} {b : Nat} (h : Row wr b c T) (hT : T ≠ 62) {base k : Nat} {xs : List Value} (hr : wr.ownsRow base 62 3 v k xs) : some b ≠ v.ownBlock := by
  rcases hr.2 with ⟨rfl, _⟩ | ⟨g, cap, cur, rfl, _, hgb, _⟩
  · simp [Value.ownBlock]
  · intro e'
    obtain rfl : b = g := by simpa [Value.ownBlock] using e'
    have := (show wr.heap[b]? = _ from h).symm.trans hgb
    simp at this
    exact hT this.2
theorem Row.kept {wr w1 : World} {b : Nat} {c : Array Value} {T : TypeId} {row : Option Nat} (h : Row wr b c T) (hg : wr.grownBy w1 row) (hn : some b ≠ row) : Row w1 b c T := by
  unfold Row; rw [hg.block b h.lt hn]; exact h
/-- One more step: behind the append's law. -/
theorem Wi.snoc {w1 : World} {s : St} {v' : Value} {o : Obj} (h : Wi w wr W p Bw Bo x0 y0 x1 y1 v L) (hown : w1.ownsRow w.heap.size 62 3 v' (L.length + 1) (L.flatMap St.cells ++ s.cells)) (hg : (wr.alloc o).grownBy w1 v.ownBlock) :
    Row w1 Bo #[v] 54 ∧ Wi w (w1.setCell ⟨Bo, 0, none⟩ v') W p Bw Bo x0 y0 x1 y1 v' (L ++ [s]) := by
  have r1 := (h.bo.alloc o).kept hg (row_not_own h.bo (by decide) h.own)
  have r2 := (h.bw.alloc o).kept hg (row_not_own h.bw (by decide) h.own)
  have r3 := (Row.alloc h.way o).kept hg (row_not_own h.way (by decide) h.own)
  have r4 := (h.br.alloc o).kept hg (row_not_own h.br (by decide) h.own)
  have hb1 : Below w.heap.size w w1 := Below.grown (h.below.alloc h.size o) hg (by have := h.size; rw [World.hp_alloc, Array.size_push]; omega) fun k hk => (h.own.lt k hk).1
  refine ⟨r1, h.hp, h.hw, h.ho, h.n1, h.n2, h.n3, r3.other h.n2 _ _, r2.other h.n3 _ _, ?_, r4.other (by have := h.ho; omega) _ _, ?_, ?_⟩
  · have := r1.set 0 v'; simpa using this
  · have e : (L ++ [s]).length = L.length + 1 := by simp
    rw [e, List.flatMap_append]
    refine World.ownsRow.kept (row := some Bo) (by simpa using hown) (grownBy_setCell' w1 Bo v') (.inr ?_)
    exact (row_not_own (v := v') r1 (by decide) hown).symm
  · exact RowKit.Below.toExt (hb1.setCell (p := ⟨Bo, 0, none⟩) (by have := h.ho; show w.heap.size ≤ Bo; omega) _)
end
end Go.Proofs.Ytmlhbbkgfffmcaa
