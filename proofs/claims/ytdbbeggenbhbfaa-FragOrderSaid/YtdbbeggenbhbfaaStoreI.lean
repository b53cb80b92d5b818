/- The walks of layer 23 (store): the reference's new image, grown by append. Conditions: the sides' bounds. -/
import Derived.Test.YtdbbeggenbhbfaaStoreH
import Derived.Deep.AppendLies
import Derived.OwnWalk
namespace Go.Proofs.Ytdbbeggenbhbfaa
set_option linter.unusedVariables false
set_option linter.unusedSimpArgs false
open Go.RowKit
/-- An image whose slices read so is returned; what was there stays. -/
def Makes (W H : Int) (C Z : List Int) (t : Value → Value) (w : World) (e : Ending) (w' : World) : Prop :=
  ∃ vc vz, e = .returned (t (Im W H vc vz)) ∧ (∃ X, w' = w.ext X) ∧ Rd w' vc C ∧ Rd w' vz Z
theorem grown_set (w : World) (p k : Nat) (v : Value) : w.grownBy (w.setCell ⟨p, k, none⟩ v) (some p) :=
  ⟨rfl, rfl, rfl, by simp [World.setCell], fun j hj hne => by
    have : ¬ p = j := fun e => hne (by rw [e])
    simp only [World.setCell, Array.getElem?_modify, if_neg this]⟩
theorem grown_swap {w : World} {o o' : Obj} {X : Xt} : ((w.alloc o).ext X).grownBy ((w.alloc o').ext X) (some w.heap.size) :=
  ⟨rfl, rfl, rfl, by simp [World.ext, World.hp_alloc], fun k hk hne => by
    have : ¬ k = w.heap.size := fun e => hne (by rw [e])
    simp only [World.ext, World.hp_alloc, Array.getElem?_append, Array.size_push, Array.getElem?_push, if_neg this]⟩
/-- A new slice's value. -/
abbrev sl (g n cap : Nat) : Value := .slice (some ⟨g, 0, none⟩) n cap
/-- An image that grows. -/
structure Grow (w0 wr : World) (pm : Nat) (W H : Int) (vc vz : Value) (kc kz : Nat) : Prop where
  bel : Below w0.heap.size w0 wr
  pml : w0.heap.size ≤ pm
  row : Row wr pm #[.int .i64 W, .int .i64 H, vc, vz] 39
  oc : wr.ownsRow (pm + 1) 3 1 vc kc (List.replicate kc (.int .i64 0))
  oz : wr.ownsRow (pm + 1) 3 1 vz kz (List.replicate kz (.int .i64 16777215))
  ne : ∀ g, vc.ownBlock = some g → vz.ownBlock ≠ some g
theorem Grow.c {w0 wr w1 : World} {pm : Nat} {W H : Int} {vc vz : Value} {kc kz g cap : Nat} {o : Obj} (h : Grow w0 wr pm W H vc vz kc kz)
    (hown : w1.ownsRow (pm + 1) 3 1 (sl g (kc + 1) cap) (kc + 1) (List.replicate kc (.int .i64 0) ++ [.int .i64 0])) (hg : (wr.alloc o).grownBy w1 vc.ownBlock) (hat : vc.ownBlock = some g ∨ g = wr.heap.size + 1) :
    Row w1 pm #[.int .i64 W, .int .i64 H, vc, vz] 39 ∧ Grow w0 (w1.setCell ⟨pm, 2, none⟩ (sl g (kc + 1) cap)) pm W H (sl g (kc + 1) cap) vz (kc + 1) kz := by
  have hs : (wr.alloc o).heap.size = wr.heap.size + 1 := by rw [World.hp_alloc, Array.size_push]
  have r1 : Row w1 pm #[.int .i64 W, .int .i64 H, vc, vz] 39 := by
    unfold Row
    rw [hg.block pm (by have := h.row.lt; omega) (fun e => by have := (h.oc.lt pm e.symm).1; omega)]
    exact h.row.alloc o
  have hz : w1.ownsRow (pm + 1) 3 1 vz kz (List.replicate kz (.int .i64 16777215)) := (h.oz.alloc o).kept hg (by
    cases e : vz.ownBlock with
    | none => exact .inl rfl
    | some q => exact .inr fun e' => h.ne q e'.symm e)
  refine ⟨r1, ?_, h.pml, ?_, ?_, ?_, ?_⟩
  · refine Below.setCell (Below.grown (h.bel.alloc h.bel.size o) hg (by have := h.bel.size; omega) fun k hk => ?_) h.pml _
    have := (h.oc.lt k hk).1; have := h.pml; omega
  · have := r1.set 2 (sl g (kc + 1) cap)
    simpa using this
  · rw [List.replicate_succ']
    exact hown.kept (grown_set _ _ _ _) (.inr fun e => by have := (hown.lt pm e).1; omega)
  · exact hz.kept (grown_set _ _ _ _) (.inr fun e => by have := (hz.lt pm e).1; omega)
  · intro g' e e'
    obtain rfl : g = g' := by simpa [Value.ownBlock] using e
    rcases hat with hat | hat
    · exact h.ne g hat e'
    · have := (h.oz.lt g e').2; omega
theorem Grow.z {w0 wr w1 : World} {pm : Nat} {W H : Int} {vc vz : Value} {kc kz g cap : Nat} {o : Obj} (h : Grow w0 wr pm W H vc vz kc kz)
    (hown : w1.ownsRow (pm + 1) 3 1 (sl g (kz + 1) cap) (kz + 1) (List.replicate kz (.int .i64 16777215) ++ [.int .i64 16777215])) (hg : (wr.alloc o).grownBy w1 vz.ownBlock) (hat : vz.ownBlock = some g ∨ g = wr.heap.size + 1) :
    Row w1 pm #[.int .i64 W, .int .i64 H, vc, vz] 39 ∧ Grow w0 (w1.setCell ⟨pm, 3, none⟩ (sl g (kz + 1) cap)) pm W H vc (sl g (kz + 1) cap) kc (kz + 1) := by
  have hs : (wr.alloc o).heap.size = wr.heap.size + 1 := by rw [World.hp_alloc, Array.size_push]
  have r1 : Row w1 pm #[.int .i64 W, .int .i64 H, vc, vz] 39 := by
    unfold Row
    rw [hg.block pm (by have := h.row.lt; omega) (fun e => by have := (h.oz.lt pm e.symm).1; omega)]
    exact h.row.alloc o
  have hz : w1.ownsRow (pm + 1) 3 1 vc kc (List.replicate kc (.int .i64 0)) := (h.oc.alloc o).kept hg (by
    cases e : vc.ownBlock with
    | none => exact .inl rfl
    | some q => exact .inr fun e' => h.ne q e e'.symm)
  refine ⟨r1, ?_, h.pml, ?_, ?_, ?_, ?_⟩
  · refine Below.setCell (Below.grown (h.bel.alloc h.bel.size o) hg (by have := h.bel.size; omega) fun k hk => ?_) h.pml _
    have := (h.oz.lt k hk).1; have := h.pml; omega
  · have := r1.set 3 (sl g (kz + 1) cap)
    simpa using this
  · exact hz.kept (grown_set _ _ _ _) (.inr fun e => by have := (hz.lt pm e).1; omega)
  · rw [List.replicate_succ']
    exact hown.kept (grown_set _ _ _ _) (.inr fun e => by have := (hown.lt pm e).1; omega)
  · intro g' e e'
    obtain rfl : g = g' := by simpa [Value.ownBlock] using e'
    rcases hat with hat | hat
    · exact h.ne g e hat
    · have := (h.oc.lt g e).2; omega
theorem rd_own {w : World} {base n : Nat} {v : Value} {l : List Int} (h : w.ownsRow base 3 1 v n (l.map (Value.int .i64))) (hb : ∀ z ∈ l, -9223372036854775808 ≤ z ∧ z ≤ 9223372036854775807) : Rd w v l := by
  obtain ⟨hl, h⟩ := h
  obtain rfl : n = l.length := by simpa using hl.symm
  rcases h with ⟨rfl, h0⟩ | ⟨g, cap, cur, rfl, -, hg, h1, h2, h3, h4⟩
  · obtain rfl : l = [] := List.length_eq_zero_iff.1 h0
    exact ⟨hb, by simp, none, 0, rfl, Nat.le_refl _, .inl rfl⟩
  · refine ⟨hb, by simp only [maxLen] at h2; omega, _, cap, rfl, h1, .inr ⟨g, 0, rfl, (Array.getElem?_eq_some_iff.1 hg).1, fun i hi => ?_⟩⟩
    have e : cur.toList[i]? = (cur.toList.take (l.length * 1))[i]? := by rw [List.getElem?_take, if_pos (by omega)]
    rw [Nat.zero_add, World.cell?]
    simp only [hg]
    rw [← Array.getElem?_toList, e, h4]
    simp [elt, hi]
end Go.Proofs.Ytdbbeggenbhbfaa
