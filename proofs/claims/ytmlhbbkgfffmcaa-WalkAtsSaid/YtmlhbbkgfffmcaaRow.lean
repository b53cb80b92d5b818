/- Blocks that hold cells, and what has changed since: for worlds that grow or are written to. No condition. -/
import Derived.Test.YtmlhbbkgfffmcaaRegion
import Derived.Deep.OwnRows
namespace Go.Proofs.Ytmlhbbkgfffmcaa
set_option linter.unusedVariables false
set_option linter.unusedSimpArgs false
open Go.RowKit
theorem bool_t {p : Prop} [Decidable p] (h : p) : Value.bool true = .bool (decide p) := by simp [h]
theorem bool_f {p : Prop} [Decidable p] (h : ¬ p) : Value.bool false = .bool (decide p) := by simp [h]
theorem bool_d {p q : Prop} [Decidable p] [Decidable q] (h : q ↔ p) : Value.bool (decide q) = .bool (decide p) := by simp [h]
theorem bool_b {b : Bool} {p : Prop} [Decidable p] (h : b = true ↔ p) : Value.bool b = .bool (decide p) := by
  cases b
  · exact bool_f fun hp => by cases h.2 hp
  · exact bool_t (h.1 rfl)
/-- A block that holds these cells. -/
def Row (w : World) (p : Nat) (c : Array Value) (T : TypeId) : Prop := w.heap[p]? = some (.cells c T (0, 0))
section
variable {w : World} {p q : Nat} {c d : Array Value} {T U : TypeId}
theorem Row.lt (h : Row w p c T) : p < w.heap.size := (Array.getElem?_eq_some_iff.1 h).1
theorem Row.cell (h : Row w p c T) (k : Nat) : w.cell? ⟨p, k, none⟩ = c[k]? := by
  unfold Row at h; simp [World.cell?, h]
theorem Row.frozen (h : Row w p c T) (k : Nat) : w.frozen? ⟨p, k, none⟩ = false := by
  unfold Row at h; simp [World.frozen?, h]
theorem Row.ext (h : Row w p c T) (X : Xt) : Row (w.ext X) p c T := by
  unfold Row; rw [World.heap_ext h.lt]; exact h
theorem Row.set (h : Row w p c T) (k : Nat) (v : Value) : Row (w.setCell ⟨p, k, none⟩ v) p (c.setIfInBounds k v) T := by
  rw [setCell_eq_setRow w p k c T (0, 0) v h]; exact setRow_heap w p c _ T (0, 0) h
theorem Row.other (h : Row w q d U) (hne : q ≠ p) (k : Nat) (v : Value) : Row (w.setCell ⟨p, k, none⟩ v) q d U := by
  unfold Row at h ⊢; simp [World.setCell, Array.getElem?_modify, Ne.symm hne, h]
theorem World.ext_of {w' : World} (h : RowKit.Below w.heap.size w w') : ∃ X, w' = w.ext X := h.toExt
theorem World.setCell_new {w0 w : World} {k : Nat} {v : Value} (hw : ∃ X, w = w0.ext X) (hp : w0.heap.size ≤ p) : ∃ X, w.setCell ⟨p, k, none⟩ v = w0.ext X := by
  obtain ⟨X, rfl⟩ := hw
  refine RowKit.Below.toExt ⟨rfl, rfl, rfl, by simp [World.setCell, World.ext], fun j hj => ?_⟩
  have hne : ¬ p = j := by omega
  simp only [World.setCell, Array.getElem?_modify, if_neg hne]
  exact World.heap_ext hj
theorem Row.swap {o o' : Obj} {X : Xt} (h : Row ((w.alloc o).ext X) p c T) (hp : w.heap.size < p) : Row ((w.alloc o').ext X) p c T := by
  unfold Row at h ⊢
  simp only [World.ext, World.alloc, Array.getElem?_append, Array.size_push] at h ⊢
  rw [if_neg (by omega)] at h ⊢
  exact h
end
theorem World.hp_alloc {w : World} {o : Obj} : (w.alloc o).heap = w.heap.push o := rfl
theorem World.hp_drew {w : World} : w.drew.heap = w.heap := rfl
theorem Row.alloc {w : World} {p : Nat} {c : Array Value} {T : TypeId} (h : Row w p c T) (o : Obj) : Row (w.alloc o) p c T := by
  unfold Row; rw [World.hp_alloc, Array.getElem?_push, if_neg (by have := h.lt; omega)]; exact h
theorem row_drew {w : World} {p : Nat} {c : Array Value} {T : TypeId} (h : Row w p c T) : Row w.drew p c T := h
theorem row_last {w : World} {c : Array Value} {T : TypeId} {n : Nat} (h : w.heap.size = n) : Row (w.alloc (.cells c T)) n c T := by
  subst h; unfold Row; rw [World.hp_alloc, Array.getElem?_push, if_pos rfl]
/-- What was there stays, but for the blocks of p. -/
structure Chg (p : Nat → Prop) (w w' : World) : Prop where
  os : w'.os = w.os
  tape : w'.tape = w.tape
  output : w'.output = w.output
  size : w.heap.size ≤ w'.heap.size
  block : ∀ k, k < w.heap.size → ¬ p k → w'.heap[k]? = w.heap[k]?
section
variable {p q : Nat → Prop} {w w1 w2 : World}
theorem Chg.refl : Chg p w w := ⟨rfl, rfl, rfl, Nat.le_refl _, fun _ _ _ => rfl⟩
theorem Chg.trans (h : Chg p w w1) (k : Chg p w1 w2) : Chg p w w2 :=
  ⟨k.os.trans h.os, k.tape.trans h.tape, k.output.trans h.output, Nat.le_trans h.size k.size, fun j hj hp => (k.block j (Nat.lt_of_lt_of_le hj h.size) hp).trans (h.block j hj hp)⟩
theorem Chg.mono (h : Chg p w w1) (hp : ∀ k, k < w.heap.size → p k → q k) : Chg q w w1 := ⟨h.os, h.tape, h.output, h.size, fun k hk hq => h.block k hk fun hk' => hq (hp k hk hk')⟩
theorem Chg.ext (h : Chg p w w1) (X : Xt) : Chg p w (w1.ext X) := h.trans ⟨rfl, rfl, rfl, by simp, fun k hk _ => World.heap_ext hk⟩
theorem Chg.alloc (h : Chg p w w1) (o : Obj) : Chg p w (w1.alloc o) := h.trans ⟨rfl, rfl, rfl, by rw [World.hp_alloc, Array.size_push]; omega, fun k hk _ => Below.heap_alloc _ _ _ hk⟩
theorem Chg.drew (h : Chg p w w1) : Chg p w w1.drew := ⟨h.os, h.tape, h.output, h.size, h.block⟩
theorem Chg.setCell (h : Chg p w w1) {b k : Nat} (hb : b < w.heap.size → p b) (v : Value) : Chg p w (w1.setCell ⟨b, k, none⟩ v) :=
  ⟨h.os, h.tape, h.output, by rw [show (w1.setCell ⟨b, k, none⟩ v).heap.size = w1.heap.size by simp [World.setCell]]; exact h.size, fun j hj hp => by
    rw [Below.heap_setCell _ _ _ _ (fun e => hp (by have e' : j = b := e; subst e'; exact hb hj))]; exact h.block j hj hp⟩
theorem Chg.one (w : World) (b k : Nat) (v : Value) : Chg (fun j => j = b) w (w.setCell ⟨b, k, none⟩ v) := Chg.setCell (p := fun j => j = b) Chg.refl (fun _ => rfl) v
theorem Chg.of_ext (X : Xt) : Chg p w (w.ext X) := Chg.refl.ext X
theorem Chg.below {B : Nat} (h : Chg p w w1) (hp : ∀ k, k < B → ¬ p k) (hB : B ≤ w.heap.size) : Below B w w1 := ⟨h.os, h.tape, h.output, h.size, fun k hk => h.block k (by omega) (hp k hk)⟩
theorem Chg.row (h : Chg p w w1) {b : Nat} {c : Array Value} {T : TypeId} (hr : Row w b c T) (hb : ¬ p b) : Row w1 b c T := by
  unfold Row; rw [h.block b hr.lt hb]; exact hr
theorem Chg.cell (h : Chg p w w1) {b o : Nat} (hb : b < w.heap.size) (hp : ¬ p b) : w1.cell? ⟨b, o, none⟩ = w.cell? ⟨b, o, none⟩ := by
  unfold World.cell?; simp only [h.block b hb hp]
theorem Chg.frozen (h : Chg p w w1) {b o : Nat} (hb : b < w.heap.size) (hp : ¬ p b) : w1.frozen? ⟨b, o, none⟩ = w.frozen? ⟨b, o, none⟩ := by
  unfold World.frozen?; simp only [h.block b hb hp]
end
theorem wp_abs {code : Code} {Q : Exit → Act → World → Prop} {a : Act} {w : World} (F : World → Prop) (hF : F w) (h : ∀ wx, F wx → code.wp Try.prog Q a wx) : code.wp Try.prog Q a w := h _ hF
end Go.Proofs.Ytmlhbbkgfffmcaa
