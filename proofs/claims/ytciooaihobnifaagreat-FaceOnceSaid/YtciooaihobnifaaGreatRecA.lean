/- A list of records is appended to a list that a call owns; a loop that builds a list out of such lists. No condition. -/
import Derived.Test.YtciooaihobnifaaGreatRecs
import Derived.Deep.AppendLies
import Derived.Laws.AppendOwnNone
namespace Go.Proofs.YtciooaihobnifaaGreat
set_option linter.unusedVariables false
set_option linter.unusedSimpArgs false
open Go.RowKit
section
variable {α : Type} {K : RecK α} {P : Program} {w : World}
theorem run_append_recs (base : Nat) (t ty e : TypeId) (i : TypeInfo) (z : Value) (bytes : Nat) (ht : P.underlying t = some (.slice e)) (hi : P.info? e = some i) (hz : i.zero = some z)
    (hsize : i.size = K.k) (hby : i.bytes = bytes) (hzs : z.cells.size = K.k) (v : Value) (L : List α) (hown : w.ownsRow base e K.k v L.length (L.flatMap K.cells)) (x : Value) (M : List α) (hM : Recs K w x M)
    (h63 : L.length + M.length ≤ maxLen) (hbytes : (L.length + M.length) * bytes ≤ 140737488355328) (hbase : base ≤ w.heap.size) :
    ∃ v' w', (Builtin.append_ #[t, t] ty #[v, x]).run P w = .ok v' w' ∧ w'.ownsRow base e K.k v' (L ++ M).length ((L ++ M).flatMap K.cells) ∧ w.grownBy w' v.ownBlock := by
  obtain ⟨h1, a, cap, rfl, h2, h3⟩ := hM
  rw [List.length_append, List.flatMap_append]
  by_cases hne : M = []
  · subst hne
    cases a with
    | some a =>
      obtain ⟨v', w', hr, q1, q2, -⟩ := run_append_own (P := P) w base t ty e i z K.k bytes ht hi hz hsize hby hzs K.pos v L.length _ hown a 0 cap [] (by simp) (fun j u hj => by simp at hj) (fun u hu => by cases hu) h63 hbytes hbase
      exact ⟨v', w', hr, by simpa using q1, q2⟩
    | none =>
      refine ⟨v, w, ?_, by simpa using hown, World.grownBy.refl _ _⟩
      rcases hown.2 with ⟨rfl, h0⟩ | ⟨g, cap', cur, rfl, _, _, hnc, _⟩
      · simp [Builtin.append_, run_underlying ht, sizeOf, typeInfo, hi, Builtin.lenOf, Builtin.firstCells]
      · simp [Builtin.append_, run_underlying ht, sizeOf, typeInfo, hi, Builtin.lenOf, Builtin.firstCells, hnc, storeCells]
  · rcases h3 with h3 | ⟨b, off, rfl, hb, hcl⟩
    · exact absurd h3 hne
    · obtain ⟨v', w', hr, q1, q2, -⟩ := run_append_own (P := P) w base t ty e i z K.k bytes ht hi hz hsize hby hzs K.pos v L.length _ hown ⟨b, off, none⟩ M.length cap (M.flatMap K.cells) (K.flat_len M) (fun j u hj => by
        have hjl : j < M.length * K.k := by rw [← K.flat_len M]; exact (List.getElem?_eq_some_iff.1 hj).1
        have hq : j / K.k < M.length := (Nat.div_lt_iff_lt_mul K.pos).2 hjl
        have hr : j % K.k < (K.cells (M[j / K.k]'hq)).length := by rw [K.len]; exact Nat.mod_lt _ K.pos
        have e1 := K.flat_at M (j / K.k) _ (j % K.k) _ (List.getElem?_eq_getElem hq) (List.getElem?_eq_getElem hr)
        have e2 : j / K.k * K.k + j % K.k = j := by rw [Nat.mul_comm]; exact Nat.div_add_mod _ _
        rw [e2, hj] at e1
        have := hcl (j / K.k) _ (List.getElem?_eq_getElem hq) (j % K.k) u (by rw [List.getElem?_eq_getElem hr, ← e1])
        rw [addr_addR, ← this, Nat.add_assoc, e2]) (K.flat_one M) h63 hbytes hbase
      exact ⟨v', w', hr, q1, q2⟩
theorem wp_append_recs {o : Oper} {a : Act} {C : Act → World → Prop} {Q : Exit → Act → World → Prop} (s x : Operand) (t : TypeId)
    (ho : o.op = .call { callee := .builtin .append, args := #[s, x], argTypes := #[t, t] })
    (base : Nat) (e : TypeId) (i : TypeInfo) (z : Value) (bytes : Nat) (ht : P.underlying t = some (.slice e)) (hi : P.info? e = some i) (hz : i.zero = some z)
    (hsize : i.size = K.k) (hby : i.bytes = bytes) (hzs : z.cells.size = K.k) (v : Value) (L : List α) (hs : a.eval s = v) (hown : w.ownsRow base e K.k v L.length (L.flatMap K.cells)) (xv : Value) (M : List α) (hx : a.eval x = xv) (hM : Recs K w xv M)
    (h63 : L.length + M.length ≤ maxLen) (hbytes : (L.length + M.length) * bytes ≤ 140737488355328) (hbase : base ≤ w.heap.size)
    (h : ∀ v' w', w'.ownsRow base e K.k v' (L ++ M).length ((L ++ M).flatMap K.cells) → w.grownBy w' v.ownBlock → C (a.put o.dst v') w') : o.wp P a w C Q := by
  obtain ⟨v', w', hr, h2, h3⟩ := run_append_recs (P := P) base t o.type e i z bytes ht hi hz hsize hby hzs v L hown xv M hM h63 hbytes hbase
  unfold Oper.wp execOp
  simp only [ho, resolve, invoke, builtin, Sem.run_bind, Sem.run_pure, Result.andThen_ok, List.map_toArray, List.map_cons, List.map_nil, hs, hx, hr]
  exact h v' w' h2 h3
theorem wpList_append_recs {ops : Array Oper} {rest : List Oper} {o : Oper} {a : Act} {Q : Exit → Act → World → Prop} (hgd : o.guard = none) (s x : Operand) (t : TypeId)
    (ho : o.op = .call { callee := .builtin .append, args := #[s, x], argTypes := #[t, t] })
    (base : Nat) (e : TypeId) (i : TypeInfo) (z : Value) (bytes : Nat) (ht : P.underlying t = some (.slice e)) (hi : P.info? e = some i) (hz : i.zero = some z)
    (hsize : i.size = K.k) (hby : i.bytes = bytes) (hzs : z.cells.size = K.k) (v : Value) (L : List α) (hs : a.eval s = v) (hown : w.ownsRow base e K.k v L.length (L.flatMap K.cells)) (xv : Value) (M : List α) (hx : a.eval x = xv) (hM : Recs K w xv M)
    (h63 : L.length + M.length ≤ maxLen) (hbytes : (L.length + M.length) * bytes ≤ 140737488355328) (hbase : base ≤ w.heap.size)
    (h : ∀ v' w', w'.ownsRow base e K.k v' (L ++ M).length ((L ++ M).flatMap K.cells) → w.grownBy w' v.ownBlock → wpList P ops Q rest (a.put o.dst v') w') : wpList P ops Q (o :: rest) a w :=
  wpList_plain hgd fun _ hK => wp_append_recs s x t ho base e i z bytes ht hi hz hsize hby hzs v L hs hown xv M hx hM h63 hbytes hbase fun v' w' h2 h3 => hK _ _ (h v' w' h2 h3)
theorem step_append_recs {ops : Array Oper} {o : Oper} {a : Act} {C : Act → World → Prop} {Q : Exit → Act → World → Prop} {E : Prop} (hgd : o.guard = none) (s x : Operand) (t : TypeId)
    (ho : o.op = .call { callee := .builtin .append, args := #[s, x], argTypes := #[t, t] })
    (base : Nat) (e : TypeId) (i : TypeInfo) (z : Value) (bytes : Nat) (ht : P.underlying t = some (.slice e)) (hi : P.info? e = some i) (hz : i.zero = some z)
    (hsize : i.size = K.k) (hby : i.bytes = bytes) (hzs : z.cells.size = K.k) (v : Value) (L : List α) (hs : a.eval s = v) (hown : w.ownsRow base e K.k v L.length (L.flatMap K.cells)) (xv : Value) (M : List α) (hx : a.eval x = xv) (hM : Recs K w xv M)
    (h63 : L.length + M.length ≤ maxLen) (hbytes : (L.length + M.length) * bytes ≤ 140737488355328) (hbase : base ≤ w.heap.size)
    (h : ∀ v' w', w'.ownsRow base e K.k v' (L ++ M).length ((L ++ M).flatMap K.cells) → w.grownBy w' v.ownBlock → C (a.put o.dst v') w') :
    if Region.wanted o (yielded ops a.tmps) = true then Oper.wp P o a w C Q else E := by
  have hw : Region.wanted o (yielded ops a.tmps) = true := by simp [Region.wanted, hgd]
  rw [if_pos hw]
  exact wp_append_recs s x t ho base e i z bytes ht hi hz hsize hby hzs v L hs hown xv M hx hM h63 hbytes hbase h
/-- More records, behind the append's law. -/
theorem Hold.more {w wr w1 : World} {E : TypeId} {R : List (Nat × Array Value × TypeId)} {v v' : Value} {L M : List α} (h : Hold K w wr E R v L)
    (hown : w1.ownsRow w.heap.size E K.k v' (L ++ M).length ((L ++ M).flatMap K.cells)) (hg : wr.grownBy w1 v.ownBlock) : Hold K w w1 E R v' (L ++ M) :=
  ⟨fun r hr => (h.rows r hr).keptR hg (row_apart (h.rows r hr) (h.far r hr) h.own), h.far, hown, RowKit.Below.toExt (Below.grown h.below hg h.size fun k hk => (h.own.lt k hk).1)⟩
/-- A list that is not the one that grows. -/
theorem Recs.apart {w wr w1 : World} {E : TypeId} {v x : Value} {L : List α} {β : Type} {J : RecK β} {M : List β} (h : Recs J wr x M) (hown : wr.ownsRow w.heap.size E K.k v L.length (L.flatMap K.cells)) (hx : ∀ b, x.ownBlock = some b → M ≠ [] → b < w.heap.size) (hg : wr.grownBy w1 v.ownBlock) : Recs J w1 x M :=
  h.keptR hg fun b hb hne e => by have := hx b hb hne; have := (hown.lt b e.symm).1; omega
theorem Recs.elder {w : World} {x : Value} {M : List α} (h : Recs K w x M) : ∀ b, x.ownBlock = some b → M ≠ [] → b < w.heap.size := by
  obtain ⟨-, a, cap, rfl, -, h3⟩ := h
  intro b hb hne
  rcases h3 with h3 | ⟨b', off, rfl, hb', -⟩
  · exact absurd h3 hne
  · obtain rfl : b' = b := by simpa [Value.ownBlock] using hb
    exact hb'
end
end Go.Proofs.YtciooaihobnifaaGreat
