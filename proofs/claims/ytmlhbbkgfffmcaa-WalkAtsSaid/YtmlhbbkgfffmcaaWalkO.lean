/- What Within has in memory, beside the iterator's boxes; the range law at its slots (layer 14). No condition. -/
import Derived.Test.YtmlhbbkgfffmcaaWalkM
namespace Go.Proofs.Ytmlhbbkgfffmcaa
set_option linter.unusedVariables false
set_option linter.unusedSimpArgs false
open Go.RowKit
section
variable {w wr : World} {W : Way} {p Bw Bo : Nat} {x0 y0 x1 y1 : Int} {v : Value} {L : List St}
theorem Wi.grown {w' : World} (h : Wi w wr W p Bw Bo x0 y0 x1 y1 v L) (hb : Below wr.heap.size wr w') : Wi w w' W p Bw Bo x0 y0 x1 y1 v L := by
  obtain ⟨X, rfl⟩ := hb.toExt; exact h.grow X
/-- Another block is written. -/
theorem Wi.put (h : Wi w wr W p Bw Bo x0 y0 x1 y1 v L) {b : Nat} {c : Array Value} {T : TypeId} (hr : Row wr b c T) (hT : T ≠ 62) (hb : w.heap.size + 3 ≤ b) (h1 : b ≠ p) (h2 : b ≠ Bw) (h3 : b ≠ Bo) (k : Nat) (u : Value) :
    Wi w (wr.setCell ⟨b, k, none⟩ u) W p Bw Bo x0 y0 x1 y1 v L := by
  refine ⟨h.hp, h.hw, h.ho, h.n1, h.n2, h.n3, h.way.other (Ne.symm h1) _ _, h.bw.other (Ne.symm h2) _ _, h.bo.other (Ne.symm h3) _ _, h.br.other (by omega) _ _, ?_, World.setCell_new h.ext (by omega)⟩
  exact h.own.kept (row := some b) ⟨rfl, rfl, rfl, by simp [World.setCell], fun k' _ hk => Below.heap_setCell _ _ _ k' (fun e => hk (by rw [e]))⟩ (.inr (row_not_own hr hT h.own).symm)
theorem row_ne {b j : Nat} {c : Array Value} {T : TypeId} {o : Obj} (hr : Row wr b c T) (hl : wr.heap[j]? = some o) (ho : o.isCells = false) : b ≠ j := by
  intro e; subst e
  rw [show wr.heap[b]? = _ from hr] at hl; cases hl; cases ho
theorem Row.put2 {wr : World} {j b : Nat} {o o' : Obj} {c : Array Value} {T : TypeId} (h : Row wr b c T) (hl : wr.heap[j]? = some o) (ho : o.isCells = false) : Row (wr.putObj j o') b c T := h.putObj (row_ne h hl ho)
/-- A block that is no cells turns. -/
theorem Wi.putObj (h : Wi w wr W p Bw Bo x0 y0 x1 y1 v L) {j : Nat} {o : Obj} (o' : Obj) (hj : w.heap.size ≤ j) (hl : wr.heap[j]? = some o) (ho : o.isCells = false) : Wi w (wr.putObj j o') W p Bw Bo x0 y0 x1 y1 v L := by
  refine ⟨h.hp, h.hw, h.ho, h.n1, h.n2, h.n3, Row.put2 h.way hl ho, Row.put2 h.bw hl ho, Row.put2 h.bo hl ho, Row.put2 h.br hl ho, ownsRow_putObj h.own o' hl ho, ?_⟩
  have hc : Chg (fun k => k = j) wr (wr.putObj j o') := ⟨rfl, rfl, rfl, by simp, fun k hk hp => World.putObj_heap_other hp⟩
  exact RowKit.Below.toExt (h.below.trans (hc.below (fun k hk => by omega) h.size))
end
theorem keeps_ext (w : World) (X : Xt) : KeepsOthers w (w.ext X) := ⟨by simp, fun k o h _ => (World.heap_ext (Array.getElem?_eq_some_iff.1 h).1).trans h⟩
section
variable {w wr w1 : World} {W : Way} {p Bw Bo Bk B1 B2 B3 : Nat} {x0 y0 x1 y1 : Int} {v v' : Value} {L : List St}
theorem Wi.keeps (h : Wi w wr W p Bw Bo x0 y0 x1 y1 v L) {o : Obj} (hg : (wr.alloc o).grownBy w1 v.ownBlock) : KeepsOthers wr w1 := by
  refine (KeepsOthers.alloc wr o).trans (KeepsOthers.of_grownBy hg fun j o' ej hj => ?_)
  rcases (h.own.alloc o).2 with ⟨rfl, _⟩ | ⟨g, cap, cur, rfl, _, hgb, _⟩
  · simp [Value.ownBlock] at ej
  · obtain rfl : g = j := by simpa [Value.ownBlock] using ej
    rw [hgb] at hj; cases hj; rfl
/-- All that lies behind the append of a step. -/
theorem Wi.more (h : Wi w wr W p Bw Bo x0 y0 x1 y1 v L) {kv m u : Int} {s : St} {o : Obj} (q1 : Row wr Bk #[.int .i64 kv] 3) (q2 : Row wr B1 #[.pointer (some ⟨p, 0, none⟩)] 118) (q3 : Row wr B2 #[.int .i64 u] 3) (q4 : Row wr B3 #[.int .i64 m] 3)
    (n1 : Bk ≠ Bo) (n2 : B1 ≠ Bo) (n3 : B2 ≠ Bo) (n4 : B3 ≠ Bo)
    (hown : w1.ownsRow w.heap.size 62 3 v' (L.length + 1) (L.flatMap St.cells ++ s.cells)) (hg : (wr.alloc o).grownBy w1 v.ownBlock) :
    (Row w1 Bo #[v] 54 ∧ Row w1 Bk #[.int .i64 kv] 3 ∧ Row w1 B2 #[.int .i64 u] 3) ∧ (Wi w (w1.setCell ⟨Bo, 0, none⟩ v') W p Bw Bo x0 y0 x1 y1 v' (L ++ [s]) ∧ Row (w1.setCell ⟨Bo, 0, none⟩ v') Bk #[.int .i64 kv] 3 ∧ Row (w1.setCell ⟨Bo, 0, none⟩ v') B1 #[.pointer (some ⟨p, 0, none⟩)] 118 ∧ Row (w1.setCell ⟨Bo, 0, none⟩ v') B2 #[.int .i64 u] 3 ∧ Row (w1.setCell ⟨Bo, 0, none⟩ v') B3 #[.int .i64 m] 3) ∧ KeepsOthers wr (w1.setCell ⟨Bo, 0, none⟩ v') := by
  obtain ⟨a1, a2⟩ := h.snoc hown hg
  have r1 := (q1.alloc o).kept hg (row_not_own q1 (by decide) h.own)
  have r2 := (q2.alloc o).kept hg (row_not_own q2 (by decide) h.own)
  have r3 := (q3.alloc o).kept hg (row_not_own q3 (by decide) h.own)
  have r4 := (q4.alloc o).kept hg (row_not_own q4 (by decide) h.own)
  exact ⟨⟨a1, r1, r3⟩, ⟨a2, r1.other n1 _ _, r2.other n2 _ _, r3.other n3 _ _, r4.other n4 _ _⟩, (h.keeps hg).trans (KeepsOthers.setCell _ _ _)⟩
end
/-- What Within's loop keeps. -/
def WiL (w : World) (W : Way) (p Bw Bo Bk B1 B2 B3 : Nat) (x0 y0 x1 y1 m e lo : Int) (k : Nat) (wr : World) : Prop :=
  ∃ v, Wi w wr W p Bw Bo x0 y0 x1 y1 v (W.headL x0 y0 x1 y1 ++ W.loopL x0 y0 x1 y1 k) ∧ Row wr Bk #[.int .i64 (e + lo + (k : Int))] 3 ∧ Row wr B1 #[.pointer (some ⟨p, 0, none⟩)] 118 ∧ (∃ u : Int, Row wr B2 #[.int .i64 u] 3) ∧ Row wr B3 #[.int .i64 m] 3
theorem WiL.bears {w : World} {W : Way} {p Bw Bo Bk B1 B2 B3 : Nat} {x0 y0 x1 y1 m e lo : Int} (hb : w.heap.size + 3 ≤ B2) (h1 : B2 ≠ p) (h2 : B2 ≠ Bw) (h3 : B2 ≠ Bo) (h4 : B2 ≠ Bk) (h5 : B2 ≠ B1) (h6 : B2 ≠ B3) :
    Bears W p B1 B2 B3 m (WiL w W p Bw Bo Bk B1 B2 B3 x0 y0 x1 y1 m e lo) := by
  refine ⟨?_, ?_, fun k w' h => ?_, fun k w' h => ?_, fun k w' h => ?_, fun k w' h => ?_⟩
  · rintro k w' v ⟨v0, hW, hk, r1, ⟨u, r2⟩, r3⟩
    refine ⟨v0, hW.put r2 (by decide) hb h1 h2 h3 _ _, hk.other (Ne.symm h4) _ _, r1.other (Ne.symm h5) _ _, ⟨v, ?_⟩, r3.other (Ne.symm h6) _ _⟩
    have := r2.set 0 (.int .i64 v); simpa using this
  · rintro k w' X ⟨v0, hW, hk, r1, ⟨u, r2⟩, r3⟩
    exact ⟨v0, hW.grow X, hk.ext X, r1.ext X, ⟨u, r2.ext X⟩, r3.ext X⟩
  · obtain ⟨v0, hW, hk, r1, ⟨u, r2⟩, r3⟩ := h; exact hW.way
  · obtain ⟨v0, hW, hk, r1, ⟨u, r2⟩, r3⟩ := h; exact r1
  · obtain ⟨v0, hW, hk, r1, ⟨u, r2⟩, r3⟩ := h; exact ⟨u, r2⟩
  · obtain ⟨v0, hW, hk, r1, ⟨u, r2⟩, r3⟩ := h; exact r3
/-- The end of a round: the number is one more. -/
theorem WiL.next {w wr w2 : World} {W : Way} {p Bw Bo Bk B1 B2 B3 : Nat} {x0 y0 x1 y1 m e lo u : Int} {k : Nat} {v : Value} {L : List St} (hL : L = W.headL x0 y0 x1 y1 ++ W.loopL x0 y0 x1 y1 (k + 1))
    (hW : Wi w wr W p Bw Bo x0 y0 x1 y1 v L) (q1 : Row wr Bk #[.int .i64 (e + lo + (k : Int))] 3) (q2 : Row wr B1 #[.pointer (some ⟨p, 0, none⟩)] 118) (q3 : Row wr B2 #[.int .i64 u] 3) (q4 : Row wr B3 #[.int .i64 m] 3)
    (hb : w.heap.size + 3 ≤ Bk) (h1 : Bk ≠ p) (h2 : Bk ≠ Bw) (h3 : Bk ≠ Bo) (h5 : B1 ≠ Bk) (h6 : B2 ≠ Bk) (h7 : B3 ≠ Bk) (X : Xt) (hw : w2 = (wr.setCell ⟨Bk, 0, none⟩ (.int .i64 (e + lo + (k : Int) + 1))).ext X) :
    WiL w W p Bw Bo Bk B1 B2 B3 x0 y0 x1 y1 m e lo (k + 1) w2 ∧ w2.cell? ⟨B2, 0, none⟩ = some (.int .i64 u) ∧ KeepsOthers wr w2 := by
  subst hw hL
  have r2 := (q3.other h6 0 (.int .i64 (e + lo + (k : Int) + 1))).ext X
  refine ⟨⟨v, (hW.put q1 (by decide) hb h1 h2 h3 _ _).grow X, ?_, (q2.other h5 _ _).ext X, ⟨u, r2⟩, (q4.other h7 _ _).ext X⟩, r2.cell 0, (KeepsOthers.setCell _ _ _).trans (keeps_ext _ _)⟩
  have := (q1.set 0 (.int .i64 (e + lo + (k : Int) + 1))).ext X
  rw [show e + lo + ((k + 1 : Nat) : Int) = e + lo + (k : Int) + 1 from by omega]
  simpa using this
theorem ext_self (w : World) : w = w.ext ⟨#[], w.drawn⟩ := by simp [World.ext]
theorem WiL.next0 {w wr w2 : World} {W : Way} {p Bw Bo Bk B1 B2 B3 : Nat} {x0 y0 x1 y1 m e lo u : Int} {k : Nat} {v : Value} {L : List St} (hL : L = W.headL x0 y0 x1 y1 ++ W.loopL x0 y0 x1 y1 (k + 1))
    (hW : Wi w wr W p Bw Bo x0 y0 x1 y1 v L) (q1 : Row wr Bk #[.int .i64 (e + lo + (k : Int))] 3) (q2 : Row wr B1 #[.pointer (some ⟨p, 0, none⟩)] 118) (q3 : Row wr B2 #[.int .i64 u] 3) (q4 : Row wr B3 #[.int .i64 m] 3)
    (hb : w.heap.size + 3 ≤ Bk) (h1 : Bk ≠ p) (h2 : Bk ≠ Bw) (h3 : Bk ≠ Bo) (h5 : B1 ≠ Bk) (h6 : B2 ≠ Bk) (h7 : B3 ≠ Bk) (hw : w2 = wr.setCell ⟨Bk, 0, none⟩ (.int .i64 (e + lo + (k : Int) + 1))) :
    WiL w W p Bw Bo Bk B1 B2 B3 x0 y0 x1 y1 m e lo (k + 1) w2 ∧ w2.cell? ⟨B2, 0, none⟩ = some (.int .i64 u) ∧ KeepsOthers wr w2 :=
  WiL.next hL hW q1 q2 q3 q4 hb h1 h2 h3 h5 h6 h7 _ (hw.trans (ext_self _))
theorem WiL.putObj {w : World} {W : Way} {p Bw Bo Bk B1 B2 B3 : Nat} {x0 y0 x1 y1 m e lo : Int} {k : Nat} {wr : World} (h : WiL w W p Bw Bo Bk B1 B2 B3 x0 y0 x1 y1 m e lo k wr) {j : Nat} {o : Obj} (o' : Obj) (hj : w.heap.size ≤ j) (hl : wr.heap[j]? = some o) (ho : o.isCells = false) :
    WiL w W p Bw Bo Bk B1 B2 B3 x0 y0 x1 y1 m e lo k (wr.putObj j o') := by
  obtain ⟨v0, hW, hk, r1, ⟨u, r2⟩, r3⟩ := h
  exact ⟨v0, hW.putObj o' hj hl ho, Row.put2 hk hl ho, Row.put2 r1 hl ho, ⟨u, Row.put2 r2 hl ho⟩, Row.put2 r3 hl ho⟩
theorem zip_fold {t : Array Value} {p1 p2 : Nat} {x y : Value} : (#[p1, p2].zip #[x, y]).foldl (fun t (p, v) => t.setIfInBounds p v) t = (t.setIfInBounds p1 x).setIfInBounds p2 y := by simp
/-- The range law, at two loop variables in slots s, t. -/
theorem wpIn_range_from2 {W : Way} (ok : W.Ok) (hdu : 0 < W.du) (hσ : W.dv * W.step = W.bv - W.av) {p B1 B2 B3 n : Nat} (N : Nat) (u0 m : Int) (m0 : 0 ≤ m) (m1 : m ≤ 8388608)
    (ub : ∀ k : Int, 0 ≤ k → k ≤ m → -8388600 ≤ u0 + k * W.step ∧ u0 + k * W.step ≤ 8388600)
    (n1 : B2 ≠ p) (n2 : B2 ≠ B1) (n3 : B2 ≠ B3)
    {g : Operand} {p1 p2 : Tmp} {assign body : Code} {Q : Exit → Act → World → Prop} {a : Act} {w : World}
    (hg : a.eval g = .func (.func 130) #[] #[.pointer (some ⟨B1, 0, none⟩), .pointer (some ⟨B2, 0, none⟩), .pointer (some ⟨B3, 0, none⟩)])
    (hB : p < w.heap.size ∧ B1 < w.heap.size ∧ B2 < w.heap.size ∧ B3 < w.heap.size)
    (I : Nat → World → Prop) (hI : Bears W p B1 B2 B3 m I)
    (hput : ∀ k W' j o o', w.heap.size ≤ j → W'.heap[j]? = some o → o.isCells = false → I k W' → I k (W'.putObj j o'))
    (h0 : I 0 w) (hu : w.cell? ⟨B2, 0, none⟩ = some (.int .i64 u0)) (s t : Nat)
    (hassign : ∀ (l : Nat) (u v : Int) (W' : World) (K : Act → World → Prop), K { tmps := ((((a.tmps.setIfInBounds p1 (.int .i64 u)).setIfInBounds p2 (.int .i64 v)).setIfInBounds s (.int .i64 u)).setIfInBounds t (.int .i64 v)), defers := [] } W' →
      assign.wpIn (Fence.wide.inRound l) N Try.prog (Exit.then K (fun _ _ _ => False)) { tmps := (a.tmps.setIfInBounds p1 (.int .i64 u)).setIfInBounds p2 (.int .i64 v), defers := [] } W')
    (hbody : ∀ (l : Nat) (k : Nat) (W' : World) (u v : Int), u = u0 + (k : Int) * W.step → v = W.across u → I k W' → (k : Int) < m → body.wpIn (Fence.wide.inRound l) N Try.prog (fun e _ W2 => e = .normal ∧ KeepsOthers W' W2 ∧ I (k + 1) W2 ∧ W2.cell? ⟨B2, 0, none⟩ = W'.cell? ⟨B2, 0, none⟩)
      { tmps := ((((a.tmps.setIfInBounds p1 (.int .i64 u)).setIfInBounds p2 (.int .i64 v)).setIfInBounds s (.int .i64 u)).setIfInBounds t (.int .i64 v)), defers := [] } W')
    (hdone : ∀ (D : Nat) (W' : World), w.heap.size ≤ D → I m.toNat W' → W'.heap[D]? = some (.deferred (some [])) → Q .normal { a with defers := { target := .collected D, args := #[] } :: a.defers } W') :
    (Code.rangeFunc g #[p1, p2] assign body).wpIn Fence.wide n Try.prog Q a w :=
  wpIn_range_from ok hdu hσ (N := N) u0 m m0 m1 ub n1 n2 n3 hg rfl hB I hI hput h0 hu (fun k => { tmps := ((((a.tmps.setIfInBounds p1 (.int .i64 (u0 + (k : Int) * W.step))).setIfInBounds p2 (.int .i64 (W.across (u0 + (k : Int) * W.step)))).setIfInBounds s (.int .i64 (u0 + (k : Int) * W.step))).setIfInBounds t (.int .i64 (W.across (u0 + (k : Int) * W.step)))), defers := [] }) (fun l k W' K hK => by rw [zip_fold]; exact hassign l _ _ W' K hK) (fun l k W' hi hk => hbody l k W' _ _ rfl rfl hi hk) hdone
/-- The line's height rises with the way. -/
theorem dv_step (W : Way) (ax ay bx y2 : Int) (hW : W = mkWay ax ay bx y2) (hl : 0 < W.size) : W.dv * W.step = W.bv - W.av := by
  have e : W = (mkWay0 ax ay bx y2).ended ax ay bx y2 := hW
  rw [ended_eq _ rfl rfl] at e
  have e1 : W.au = uC (decide (turnP ax ay bx y2)) ax ay := by rw [e]; rfl
  have e2 : W.bu = uC (decide (turnP ax ay bx y2)) bx y2 := by rw [e]; rfl
  obtain ⟨z, hz⟩ : ∃ z : Int, z = (if leastC (uC (decide (turnP ax ay bx y2)) bx y2) < leastC (uC (decide (turnP ax ay bx y2)) ax ay) then 1 else 0) := ⟨_, rfl⟩
  have e3 : W.first = leastC W.au - z := by rw [e, hz]; rfl
  have e4 : W.last = leastC W.bu - z := by rw [e, hz]; rfl
  clear e hz
  unfold Way.size at hl
  unfold Way.dv Way.step
  by_cases c : W.bu - W.au < 0
  · have := leastC_mono (show W.bu ≤ W.au by omega)
    rw [if_pos c, if_pos (by omega)]; omega
  · have := leastC_mono (show W.au ≤ W.bu by omega)
    rw [if_neg c, if_neg (by omega)]; omega
end Go.Proofs.Ytmlhbbkgfffmcaa
