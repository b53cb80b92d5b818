/- The walks of the reference of layer 2: bits of a number. Conditions: the slices read as bits. -/
import Derived.Test.YtmlhbbkgfffmcaaNumL
import Derived.Test.YtmlhbbkgfffmcaaRel
import Derived.Deep.AppendLies
import Derived.OwnWalk
namespace Go.Proofs.Ytmlhbbkgfffmcaa
set_option linter.unusedVariables false
set_option linter.unusedSimpArgs false
open Go.RowKit
/-- A slice that reads these bits. -/
structure Rb (w : World) (v : Value) (l : List Int) : Prop where
  bin : Bin l
  len : l.length ≤ 1048576
  form : ∃ a cap, v = .slice a l.length cap ∧ l.length ≤ cap ∧ cap ≤ maxLen ∧ (l = [] ∨ ∃ b off, a = some ⟨b, off, none⟩ ∧ b < w.heap.size ∧ ∀ i, i < l.length → w.cell? ⟨b, off + i, none⟩ = some (.int .u8 (bt l i)))
theorem Rb.ext {w : World} {v : Value} {l : List Int} (h : Rb w v l) (X : Xt) : Rb (w.ext X) v l := by
  obtain ⟨h0, h1, a, cap, rfl, h2, h3, h4⟩ := h
  refine ⟨h0, h1, a, cap, rfl, h2, h3, ?_⟩
  rcases h4 with h4 | ⟨b, off, rfl, hb, hc⟩
  · exact .inl h4
  · exact .inr ⟨b, off, rfl, by simp; omega, fun i hi => by rw [World.cell?_ext hb]; exact hc i hi⟩
theorem Rb.drew {w : World} {v : Value} {l : List Int} (h : Rb w v l) : Rb w.drew v l := ⟨h.1, h.2, h.3⟩
theorem Rb.alloc {w : World} {v : Value} {l : List Int} (h : Rb w v l) (o : Obj) : Rb (w.alloc o) v l := by
  obtain ⟨h0, h1, a, cap, rfl, h2, h3, h4⟩ := h
  refine ⟨h0, h1, a, cap, rfl, h2, h3, ?_⟩
  rcases h4 with h4 | ⟨b, off, rfl, hb, hc⟩
  · exact .inl h4
  · refine .inr ⟨b, off, rfl, by rw [World.hp_alloc, Array.size_push]; omega, fun i hi => ?_⟩
    rw [← hc i hi]
    unfold World.cell?; rw [World.hp_alloc, Array.getElem?_push, if_neg (by simp; omega)]
theorem Rb.chg {w w1 : World} {p : Nat → Prop} {v : Value} {l : List Int} (h : Rb w v l) (hc : Chg p w w1) (hp : ∀ b, v.ownBlock = some b → ¬ p b) : Rb w1 v l := by
  obtain ⟨h0, h1, a, cap, rfl, h2, h3, h4⟩ := h
  refine ⟨h0, h1, a, cap, rfl, h2, h3, ?_⟩
  rcases h4 with h4 | ⟨b, off, rfl, hb, hcell⟩
  · exact .inl h4
  · exact .inr ⟨b, off, rfl, Nat.lt_of_lt_of_le hb hc.size, fun i hi => by rw [hc.cell hb (hp b rfl)]; exact hcell i hi⟩
theorem Rb.nil {w : World} : Rb w (.slice none 0 0) [] := ⟨Bin.nil, by simp, Option.none, 0, rfl, Nat.le_refl _, by simp [maxLen], .inl rfl⟩
/-- It returns a slice of such bits; what was there stays. -/
def MkB (P : List Int → Prop) : World → Ending → World → Prop := RetR fun v w' => ∃ l, Rb w' v l ∧ P l
/-- A slice. -/
def isSl (v : Value) : Prop := ∃ a k cap, v = .slice a k cap
theorem Rb.isSl {w : World} {v : Value} {l : List Int} (h : Rb w v l) : isSl v := by
  obtain ⟨a, cap, rfl, -⟩ := h.form; exact ⟨_, _, _, rfl⟩
def srQ (P : List Int → Prop) : SR Grows := ⟨fun v w => ∃ l, Rb w v l ∧ P l, fun v w w' ⟨l, h1, h2⟩ ⟨X, e⟩ => by subst e; exact ⟨l, h1.ext X, h2⟩, isSl, .slice none 0 0, ⟨_, _, _, rfl⟩, fun v w ⟨l, h1, h2⟩ => h1.isSl⟩
def srB (l : List Int) : SR Grows := ⟨fun v w => Rb w v l, fun v w w' h ⟨X, e⟩ => by subst e; exact h.ext X, isSl, .slice none 0 0, ⟨_, _, _, rfl⟩, fun v w h1 => h1.isSl⟩
/-- A new row of bits is a slice that reads them. -/
theorem rb_own {w : World} {base n : Nat} {v : Value} {l : List Int} (hb : Bin l) (hl : l.length ≤ 1048576) (h : w.ownsRow base 5 1 v n (l.map (Value.int .u8))) : Rb w v l := by
  obtain ⟨hl', h⟩ := h
  obtain rfl : n = l.length := by simpa using hl'.symm
  rcases h with ⟨rfl, h0⟩ | ⟨g, cap, cur, rfl, -, hg, h1, h2, h3, h4⟩
  · obtain rfl : l = [] := List.length_eq_zero_iff.1 h0
    exact Rb.nil
  · refine ⟨hb, hl, _, cap, rfl, h1, by simp only [maxLen] at h2 ⊢; omega, .inr ⟨g, 0, rfl, (Array.getElem?_eq_some_iff.1 hg).1, fun i hi => ?_⟩⟩
    have e : cur.toList[i]? = (cur.toList.take (l.length * 1))[i]? := by rw [List.getElem?_take, if_pos (by omega)]
    rw [Nat.zero_add, World.cell?]
    simp only [hg]
    rw [← Array.getElem?_toList, e, h4]
    simp [bt, hi]
theorem Rb.below {w w1 : World} {v : Value} {l : List Int} (h : Rb w v l) (hb : Below w.heap.size w w1) : Rb w1 v l := by
  obtain ⟨X, rfl⟩ := hb.toExt
  exact h.ext X
theorem grown_ext (w : World) (X : Xt) : w.grownBy (w.ext X) none := ⟨rfl, rfl, rfl, by simp, fun k hk _ => World.heap_ext hk⟩
/-- A row of bits that grows. -/
structure GB (w wr : World) (v : Value) (l : List Int) : Prop where
  bel : Below w.heap.size w wr
  own : wr.ownsRow w.heap.size 5 1 v l.length (l.map (Value.int .u8))
theorem GB.nil (w : World) : GB w w (.slice none 0 0) [] := ⟨Below.refl _ _, World.ownsRow_nil _ _ _ _⟩
theorem GB.ext {w wr : World} {v : Value} {l : List Int} (h : GB w wr v l) (X : Xt) : GB w (wr.ext X) v l :=
  ⟨h.bel.ext h.bel.size X, h.own.kept (grown_ext _ _) (by cases e : v.ownBlock with
    | none => exact .inl rfl
    | some q => exact .inr (by simp))⟩
theorem GB.snoc {w wr w1 : World} {v : Value} {l : List Int} {d : Int} {g cap : Nat} {o : Obj} (h : GB w wr v l)
    (hown : w1.ownsRow w.heap.size 5 1 (.slice (some ⟨g, 0, none⟩) (l.length + 1) cap) (l.length + 1) (l.map (Value.int .u8) ++ [.int .u8 d])) (hg : (wr.alloc o).grownBy w1 v.ownBlock) : GB w w1 (.slice (some ⟨g, 0, none⟩) (l.length + 1) cap) (l ++ [d]) := by
  refine ⟨?_, by simpa using hown⟩
  refine Below.grown (h.bel.alloc h.bel.size o) hg (by rw [World.hp_alloc, Array.size_push]; have := h.bel.size; omega) fun k hk => ?_
  have := (h.own.lt k hk).1; omega
theorem GB.rb {w wr : World} {v : Value} {l : List Int} (h : GB w wr v l) (hb : Bin l) (hl : l.length ≤ 1048576) : Rb wr v l := rb_own hb hl h.own
theorem GB.mk' {w wr : World} {v : Value} {l : List Int} {P : List Int → Prop} (h : GB w wr v l) (hb : Bin l) (hl : l.length ≤ 1048576) (hP : P l) : MkB P w (.returned v) wr := ⟨v, rfl, ⟨l, h.rb hb hl, hP⟩, h.bel.toExt⟩
theorem bit_any (v : Value) (l : List Int) (i : Int) (w : World) (hv : Rb w v l) (h0 : 0 ≤ i) : Calls Try.prog 138 #[v, .int .i64 i] w (fun e w' => e = .returned (.int .u8 (bt l i.toNat)) ∧ w' = w) := by
  obtain ⟨-, hl, a, cap, rfl, hc, hm, h4⟩ := hv
  by_cases hi : i < l.length
  · rcases h4 with rfl | ⟨b, off, rfl, hb, hcell⟩
    · simp at hi; omega
    have c := hcell i.toNat (by omega)
    clear hcell
    go_enter Try.func138, Try.ntmps138
    go_wp2
    go_ret
    exact ⟨rfl, rfl⟩
  · rw [bt_out (show l.length ≤ i.toNat by omega)]
    clear h4
    go_enter Try.func138, Try.ntmps138
    go_wp2
    go_ret
    exact ⟨rfl, rfl⟩
theorem bit_nat (v : Value) (l : List Int) (i : Nat) (w : World) (hv : Rb w v l) : Calls Try.prog 138 #[v, .int .i64 i] w (fun e w' => e = .returned (.int .u8 (bt l i)) ∧ w' = w) := by
  have := bit_any v l i w hv (by omega)
  simpa using this
theorem bit_ret (v : Value) (l : List Int) (i : Nat) (w : World) (hv : Rb w v l) : Calls Try.prog 138 #[v, .int .i64 i] w (Ret (.int .u8 (bt l i)) w) :=
  (bit_nat v l i w hv).mono fun _ _ ⟨he, hw⟩ => ⟨he, ⟨#[], w.drawn⟩, by rw [hw]; simp [World.ext]⟩
theorem info_u8 : (Try.prog.info? 5).map (fun i => (i.zero, i.size, i.bytes)) = some (some (.int .u8 0), 1, 1) := by kernel_rfl
theorem cell_one_here {w : World} {n : Nat} (h : w.heap.size = n) (x : Value) (t : TypeId) : ∀ j u, [x][j]? = some u → (w.alloc (.cells #[x] t)).cell? ((⟨n, 0, none⟩ : Addr).add j) = some u := by
  subst h; exact cell_one_new _ _ _
end Go.Proofs.Ytmlhbbkgfffmcaa
