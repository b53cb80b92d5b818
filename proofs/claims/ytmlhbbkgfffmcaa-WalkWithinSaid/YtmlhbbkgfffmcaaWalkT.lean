/- What the reference's Within (layer 14) has in memory. No condition. -/
import Derived.Test.YtmlhbbkgfffmcaaWalkS
import Derived.Deep.AppendLies
import Derived.Laws.AppendOwnNone
namespace Go
section
variable {P : Program} (w : World)
theorem step_append_any {ops : Array Oper} {o : Oper} {a : Act} {K : Act → World → Prop} {Q : Exit → Act → World → Prop} {E : Prop} (hgd : o.guard = none) (s x : Operand) (t : TypeId)
    (ho : o.op = .call { callee := .builtin .append, args := #[s, x], argTypes := #[t, t] })
    (base : Nat) (e : TypeId) (i : TypeInfo) (z : Value) (size bytes : Nat) (ht : P.underlying t = some (.slice e)) (hi : P.info? e = some i) (hz : i.zero = some z)
    (hsize : i.size = size) (hby : i.bytes = bytes) (hzs : z.cells.size = size) (hsz : 0 < size)
    (v : Value) (n : Nat) (xs : List Value) (hs : a.eval s = v) (hown : w.ownsRow base e size v n xs)
    (ad : Addr) (m c : Nat) (news : List Value) (hx : a.eval x = .slice (some ad) m c) (hl : news.length = m * size) (hnews : ∀ j u, news[j]? = some u → w.cell? (ad.add j) = some u) (h1 : ∀ u ∈ news, u.oneCell' = true)
    (h63 : n + m ≤ maxLen) (hbytes : (n + m) * bytes ≤ 140737488355328) (hbase : base ≤ w.heap.size)
    (h : ∀ v' w', w'.ownsRow base e size v' (n + m) (xs ++ news) → w.grownBy w' v.ownBlock → K (a.put o.dst v') w') :
    if Region.wanted o (yielded ops a.tmps) = true then Oper.wp P o a w K Q else E := by
  have hw : Region.wanted o (yielded ops a.tmps) = true := by simp [Region.wanted, hgd]
  rw [if_pos hw]
  exact wp_append_own w s x t ho base e i z size bytes ht hi hz hsize hby hzs hsz v n xs hs hown ad m c news hx hl hnews h1 h63 hbytes hbase fun v' w' h2 h3 _ => h v' w' h2 h3
end
end Go
namespace Go.Proofs.Ytmlhbbkgfffmcaa
set_option linter.unusedVariables false
set_option linter.unusedSimpArgs false
open Go.RowKit
/-- What the reference's Within has in memory: the points, the rectangle, the line, the list. -/
structure Rin (w wr : World) (ax ay bx y2 x0 y0 x1 y1 : Int) (l : Ln) (p : Nat) (v : Value) (L : List St) : Prop where
  ra : Row wr w.heap.size #[.int .i64 ax, .int .i64 ay] 50
  rb : Row wr (w.heap.size + 1) #[.int .i64 bx, .int .i64 y2] 50
  rr : Row wr (w.heap.size + 1 + 1) #[.int .i64 x0, .int .i64 y0, .int .i64 x1, .int .i64 y1] 26
  rl : Row wr p #[.int .i64 l.From, .int .i64 l.To, .int .i64 l.X, .int .i64 l.Y, .bool l.Extra] 129
  hp : w.heap.size + 3 ≤ p
  own : wr.ownsRow w.heap.size 62 3 v L.length (L.flatMap St.cells)
  ext : ∃ X, wr = w.ext X
section
variable {w wr : World} {ax ay bx y2 x0 y0 x1 y1 : Int} {l : Ln} {p : Nat} {v : Value} {L : List St}
theorem Rin.grow (h : Rin w wr ax ay bx y2 x0 y0 x1 y1 l p v L) (X : Xt) : Rin w (wr.ext X) ax ay bx y2 x0 y0 x1 y1 l p v L :=
  ⟨h.ra.ext X, h.rb.ext X, h.rr.ext X, h.rl.ext X, h.hp, own_extS h.own X, by obtain ⟨Y, rfl⟩ := h.ext; exact ⟨_, World.ext_ext⟩⟩
theorem Rin.grown {w' : World} (h : Rin w wr ax ay bx y2 x0 y0 x1 y1 l p v L) (hb : Below wr.heap.size wr w') : Rin w w' ax ay bx y2 x0 y0 x1 y1 l p v L := by
  obtain ⟨X, rfl⟩ := hb.toExt; exact h.grow X
theorem Rin.size (h : Rin w wr ax ay bx y2 x0 y0 x1 y1 l p v L) : w.heap.size ≤ wr.heap.size := by obtain ⟨X, rfl⟩ := h.ext; simp
theorem Rin.below (h : Rin w wr ax ay bx y2 x0 y0 x1 y1 l p v L) : Below w.heap.size w wr := by obtain ⟨X, rfl⟩ := h.ext; exact (Below.refl _ _).ext (Nat.le_refl _) X
/-- A part of what is owned, from its beginning on. -/
theorem own_take {w : World} {base n cap g j : Nat} {e : TypeId} {xs : List Value} (h : w.ownsRow base e 3 (.slice (some ⟨g, 0, none⟩) n cap) n xs) (hj : j ≤ n) : w.ownsRow base e 3 (.slice (some ⟨g, 0, none⟩) j cap) j (xs.take (j * 3)) := by
  obtain ⟨h1, h2⟩ := h
  rcases h2 with ⟨h2, _⟩ | ⟨g', cap', cur, e1, hb, hg, h3, h4, h5, h6⟩
  · cases h2
  · injection e1 with e1 _ e2
    injection e1 with e1
    injection e1 with e1 _ _
    subst e1 e2
    refine ⟨by rw [List.length_take, h1]; omega, .inr ⟨g, cap, cur, rfl, hb, hg, by omega, h4, h5, ?_⟩⟩
    rw [← h6, List.take_take, Nat.min_eq_left (by omega)]
theorem own_empty {w : World} {n base : Nat} {T : TypeId} (h : w.heap.size = n) (hb : base ≤ n) : (w.alloc (.cells #[] T)).ownsRow base T 3 (.slice (some ⟨n, 0, none⟩) 0 0) 0 [] :=
  ⟨rfl, .inr ⟨n, 0, #[], rfl, hb, by subst h; rw [World.hp_alloc, Array.getElem?_push, if_pos rfl], Nat.le_refl _, by simp [maxLen], rfl, rfl⟩⟩
theorem own_news {w : World} {base n g cap j : Nat} {T : TypeId} {L : List St} (h : w.ownsRow base T 3 (.slice (some ⟨g, 0, none⟩) n cap) n (L.flatMap St.cells)) :
    ∀ i u, ((L.drop j).flatMap St.cells)[i]? = some u → w.cell? ((⟨g, j * 3, none⟩ : Addr).add i) = some u := by
  intro i u hu
  rw [← drop_flat, List.getElem?_drop] at hu
  have := h.cells (g := g) rfl (j * 3 + i) u hu
  rw [addr_addS, Nat.zero_add] at this
  rw [addr_addS]; exact this
theorem cells_one (L : List St) : ∀ u ∈ L.flatMap St.cells, u.oneCell' = true := by
  intro u hu
  obtain ⟨s, -, hs⟩ := List.mem_flatMap.1 hu
  simp at hs
  rcases hs with rfl | rfl | rfl <;> rfl
theorem cells_len (L : List St) : (L.flatMap St.cells).length = L.length * 3 := by
  induction L with
  | nil => rfl
  | cons s L ih => rw [List.flatMap_cons, List.length_append, ih]; simp; omega
/-- Behind both appends. -/
theorem Rin.both {w0 w1 w2 : World} {v0 v1 v2 : Value} {L' : List St} {k1 : Nat} {xs1 : List Value} (h : Rin w wr ax ay bx y2 x0 y0 x1 y1 l p v L) (hB : Below wr.heap.size wr w0)
    (h0 : v0.ownBlock = v.ownBlock ∨ v0.ownBlock = none) (hg1 : w0.grownBy w1 v0.ownBlock) (hown1 : w1.ownsRow w.heap.size 62 3 v1 k1 xs1) (hg2 : w1.grownBy w2 v1.ownBlock)
    (hown : w2.ownsRow w.heap.size 62 3 v2 L'.length (L'.flatMap St.cells)) : Rin w w2 ax ay bx y2 x0 y0 x1 y1 l p v2 L' := by
  have h' := h.grown hB
  have nn : ∀ {b : Nat} {c : Array Value} {T : TypeId}, Row w0 b c T → T ≠ 62 → some b ≠ v0.ownBlock := fun hr hT => by
    rcases h0 with e | e
    · rw [e]; exact row_not_own hr hT h'.own
    · rw [e]; simp
  have k : ∀ {b : Nat} {c : Array Value} {T : TypeId}, Row w0 b c T → T ≠ 62 → Row w2 b c T := fun hr hT => by
    have r1 := hr.kept hg1 (nn hr hT)
    exact r1.kept hg2 (row_not_own r1 hT hown1)
  refine ⟨k h'.ra (by decide), k h'.rb (by decide), k h'.rr (by decide), k h'.rl (by decide), h.hp, hown, ?_⟩
  have b1 : Below w.heap.size w w1 := Below.grown h'.below hg1 h'.size fun b hb => by
    rcases h0 with e | e
    · rw [e] at hb; exact (h'.own.lt b hb).1
    · rw [e] at hb; cases hb
  exact RowKit.Below.toExt (Below.grown b1 hg2 b1.size fun b hb => (hown1.lt b hb).1)
theorem Rin.put {w0 w1 w2 : World} {v0 v1 v2 : Value} {j : Nat} {s : St} (h : Rin w wr ax ay bx y2 x0 y0 x1 y1 l p v L) (hj : j ≤ L.length) (hB : Below wr.heap.size wr w0)
    (h0 : v0.ownBlock = v.ownBlock ∨ v0.ownBlock = none) (hg1 : w0.grownBy w1 v0.ownBlock) (hown1 : w1.ownsRow w.heap.size 62 3 v1 (j + 1) ((L.take j).flatMap St.cells ++ St.cells s)) (hg2 : w1.grownBy w2 v1.ownBlock)
    (hown : w2.ownsRow w.heap.size 62 3 v2 (j + 1 + (L.length - j)) ((L.take j).flatMap St.cells ++ St.cells s ++ (L.drop j).flatMap St.cells)) : Rin w w2 ax ay bx y2 x0 y0 x1 y1 l p v2 (putAt L j s) := by
  refine h.both hB h0 hg1 hown1 hg2 ?_
  have e1 : (putAt L j s).length = j + 1 + (L.length - j) := by
    unfold putAt; rw [List.length_append, List.length_take, List.length_cons, List.length_drop]; omega
  have e2 : (putAt L j s).flatMap St.cells = (L.take j).flatMap St.cells ++ St.cells s ++ (L.drop j).flatMap St.cells := by
    unfold putAt; rw [List.flatMap_append, List.flatMap_cons, List.append_assoc]
  rw [e1, e2]; exact hown
/-- The cells that are appended last stay where they are. -/
theorem news_kept {w0 w1 : World} {X : Xt} {d : Nat} {o : Obj} {gb : Nat} {row : Option Nat} {news : List Value} (hc : ∀ i u, news[i]? = some u → (w0.ext X).cell? ((⟨gb, 0, none⟩ : Addr).add i) = some u) (hb : gb < (w0.ext X).heap.size) (hg : ((w0.ext ⟨X.objs, d⟩).alloc o).grownBy w1 row) (hr : some gb ≠ row) :
    ∀ i u, news[i]? = some u → w1.cell? ((⟨gb, 0, none⟩ : Addr).add i) = some u := by
  intro i u hu
  have c := hc i u hu
  have hb : gb < (w0.ext ⟨X.objs, d⟩).heap.size := hb
  have c : (w0.ext ⟨X.objs, d⟩).cell? ((⟨gb, 0, none⟩ : Addr).add i) = some u := c
  rw [addr_addS] at c ⊢
  rw [hg.cell_far _ (by rw [World.hp_alloc, Array.size_push]; exact Nat.lt_succ_of_lt hb) hr, (Chg.refl (p := fun _ => False) |>.alloc o).cell hb (fun h => h)]
  exact c
end
end Go.Proofs.Ytmlhbbkgfffmcaa
