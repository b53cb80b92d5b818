/- Images that are written to: blocks that hold ints, what has changed since, and what a pixel's color and depth become. No condition. -/
import Derived.Test.YtdbbeggenbhbfaaStoreM
import Derived.Test.YtdbbeggenbhbfaaStoreJ
import Derived.Test.YtdbbeggenbhbfaaStoreN
namespace Go.Proofs.Ytdbbeggenbhbfaa
set_option linter.unusedVariables false
set_option linter.unusedSimpArgs false
open Go.RowKit
/-- What was there stays, but for the blocks of p. -/
structure Chg (p : Nat → Prop) (w w' : World) : Prop where
  os : w'.os = w.os
  tape : w'.tape = w.tape
  output : w'.output = w.output
  size : w.heap.size ≤ w'.heap.size
  block : ∀ k, k < w.heap.size → ¬ p k → w'.heap[k]? = w.heap[k]?
section
variable {p q : Nat → Prop} {w w1 w2 : World}
theorem Chg.refl : Chg p w w := ⟨rfl, rfl, rfl, Nat.le_refl _, fun _ _ _ => rfl⟩
theorem Chg.trans (h : Chg p w w1) (k : Chg p w1 w2) : Chg p w w2 :=
  ⟨k.os.trans h.os, k.tape.trans h.tape, k.output.trans h.output, Nat.le_trans h.size k.size, fun j hj hp => (k.block j (Nat.lt_of_lt_of_le hj h.size) hp).trans (h.block j hj hp)⟩
theorem Chg.mono (h : Chg p w w1) (hp : ∀ k, k < w.heap.size → p k → q k) : Chg q w w1 := ⟨h.os, h.tape, h.output, h.size, fun k hk hq => h.block k hk fun hk' => hq (hp k hk hk')⟩
theorem Chg.ext (h : Chg p w w1) (X : Xt) : Chg p w (w1.ext X) := h.trans ⟨rfl, rfl, rfl, by simp, fun k hk _ => World.heap_ext hk⟩
theorem Chg.alloc (h : Chg p w w1) (o : Obj) : Chg p w (w1.alloc o) := h.trans ⟨rfl, rfl, rfl, by rw [World.hp_alloc, Array.size_push]; omega, fun k hk _ => Below.heap_alloc _ _ _ hk⟩
theorem Chg.drew (h : Chg p w w1) : Chg p w w1.drew := ⟨h.os, h.tape, h.output, h.size, h.block⟩
theorem Chg.setCell (h : Chg p w w1) {b k : Nat} (hb : b < w.heap.size → p b) (v : Value) : Chg p w (w1.setCell ⟨b, k, none⟩ v) :=
  ⟨h.os, h.tape, h.output, by rw [show (w1.setCell ⟨b, k, none⟩ v).heap.size = w1.heap.size by simp [World.setCell]]; exact h.size, fun j hj hp => by
    rw [Below.heap_setCell _ _ _ _ (fun e => hp (by have e' : j = b := e; subst e'; exact hb hj))]; exact h.block j hj hp⟩
theorem Chg.one (w : World) (b k : Nat) (v : Value) : Chg (fun j => j = b) w (w.setCell ⟨b, k, none⟩ v) := Chg.setCell (p := fun j => j = b) Chg.refl (fun _ => rfl) v
theorem Chg.of_ext (X : Xt) : Chg p w (w.ext X) := Chg.refl.ext X
theorem Chg.below {B : Nat} (h : Chg p w w1) (hp : ∀ k, k < B → ¬ p k) (hB : B ≤ w.heap.size) : Below B w w1 := ⟨h.os, h.tape, h.output, h.size, fun k hk => h.block k (by omega) (hp k hk)⟩
theorem Chg.row (h : Chg p w w1) {b : Nat} {c : Array Value} {T : TypeId} (hr : Row w b c T) (hb : ¬ p b) : Row w1 b c T := by
  unfold Row; rw [h.block b hr.lt hb]; exact hr
theorem Chg.cell (h : Chg p w w1) {b o : Nat} (hb : b < w.heap.size) (hp : ¬ p b) : w1.cell? ⟨b, o, none⟩ = w.cell? ⟨b, o, none⟩ := by
  unfold World.cell?; simp only [h.block b hb hp]
theorem Chg.frozen (h : Chg p w w1) {b o : Nat} (hb : b < w.heap.size) (hp : ¬ p b) : w1.frozen? ⟨b, o, none⟩ = w.frozen? ⟨b, o, none⟩ := by
  unfold World.frozen?; simp only [h.block b hb hp]
theorem Chg.rd (h : Chg p w w1) {v : Value} {zs : List Int} (hr : Rd w v zs) (hb : ∀ b, v.ownBlock = some b → b < w.heap.size → ¬ p b) : Rd w1 v zs := by
  obtain ⟨h0, h1, a, cap, rfl, h2, h3⟩ := hr
  refine ⟨h0, h1, a, cap, rfl, h2, ?_⟩
  rcases h3 with h3 | ⟨b, off, rfl, hb', hc⟩
  · exact .inl h3
  · exact .inr ⟨b, off, rfl, Nat.lt_of_lt_of_le hb' h.size, fun i hi => by rw [h.cell hb' (hb b rfl hb')]; exact hc i hi⟩
end
/-- A block that holds these ints, and maybe more behind them. -/
def Arr (w : World) (g cap : Nat) (xs : List Int) : Prop :=
  xs.length ≤ cap ∧ ∃ cur, Row w g cur 3 ∧ ∀ i, i < xs.length → cur[i]? = some (.int .i64 (elt xs i))
section
variable {w w1 : World} {g cap : Nat} {xs : List Int}
theorem Arr.lt (h : Arr w g cap xs) : g < w.heap.size := by obtain ⟨-, cur, hr, -⟩ := h; exact hr.lt
theorem Arr.cell (h : Arr w g cap xs) {i : Nat} (hi : i < xs.length) : w.cell? ⟨g, i, none⟩ = some (.int .i64 (elt xs i)) := by
  obtain ⟨-, cur, hr, hc⟩ := h; rw [hr.cell]; exact hc i hi
theorem Arr.frozen (h : Arr w g cap xs) (i : Nat) : w.frozen? ⟨g, i, none⟩ = false := by obtain ⟨-, cur, hr, -⟩ := h; exact hr.frozen i
theorem Arr.chg {p : Nat → Prop} (h : Arr w g cap xs) (hc : Chg p w w1) (hp : ¬ p g) : Arr w1 g cap xs := by
  obtain ⟨h1, cur, hr, h2⟩ := h; exact ⟨h1, cur, hc.row hr hp, h2⟩
theorem elt_set (l : List Int) (i j : Nat) (v : Int) (hi : i < l.length) : elt (l.set i v) j = if i = j then v else elt l j := by
  unfold elt
  simp only [List.getD, List.getElem?_set]
  by_cases h : i = j
  · subst h; simp [hi]
  · simp [h]
theorem Arr.set (h : Arr w g cap xs) {i : Nat} (hi : i < xs.length) (v : Int) : Arr (w.setCell ⟨g, i, none⟩ (.int .i64 v)) g cap (xs.set i v) := by
  obtain ⟨h1, cur, hr, h2⟩ := h
  refine ⟨by simpa using h1, _, hr.set i _, fun j hj => ?_⟩
  rw [List.length_set] at hj
  rw [Array.getElem?_setIfInBounds, elt_set _ _ _ _ hi]
  have hin : i < cur.size := by
    have := h2 i hi
    exact (Array.getElem?_eq_some_iff.1 this).1
  by_cases e : i = j
  · subst e; simp [hin]
  · simp [e]; exact h2 j hj
theorem Arr.rd (h : Arr w g cap xs) (hb : ∀ z ∈ xs, -9223372036854775808 ≤ z ∧ z ≤ 9223372036854775807) (hl : xs.length ≤ 1048576) : Rd w (sl g xs.length cap) xs :=
  ⟨hb, by omega, some ⟨g, 0, none⟩, cap, rfl, h.1, .inr ⟨g, 0, rfl, h.lt, fun i hi => by rw [Nat.zero_add]; exact h.cell hi⟩⟩
theorem Arr.of_own {base n k : Nat} (h : w.ownsRow base 3 1 (sl g n k) n (xs.map (Value.int .i64))) : Arr w g k xs := by
  obtain ⟨hl, h2⟩ := h
  rw [Nat.mul_one, List.length_map] at hl
  rcases h2 with ⟨h2, h3⟩ | ⟨g', c', cur, e', h4, h5, h6, h7, h8, h9⟩
  · cases h2
  · obtain ⟨rfl, rfl⟩ : g = g' ∧ k = c' := by simpa using e'
    refine ⟨by omega, cur, h5, fun i hi => ?_⟩
    have : (cur.toList.take (n * 1))[i]? = (xs.map (Value.int .i64))[i]? := by rw [h9]
    rw [List.getElem?_take, if_pos (by omega)] at this
    simp [hi] at this
    rw [this]; simp [elt, hi]
end
/-- An image in memory. -/
structure Img (w : World) (bm g1 k1 g2 k2 : Nat) (W H : Int) (C Z : List Int) : Prop where
  ok : ImOk W H C Z
  row : Row w bm #[.int .i64 W, .int .i64 H, sl g1 C.length k1, sl g2 C.length k2] 39
  c : Arr w g1 k1 C
  z : Arr w g2 k2 Z
  n1 : g1 ≠ bm
  n2 : g2 ≠ bm
  n3 : g1 ≠ g2
section
variable {w w1 : World} {bm g1 k1 g2 k2 : Nat} {W H : Int} {C Z : List Int}
theorem ImOk.same (h : ImOk W H C Z) : Z.length = C.length := by have := h.c; have := h.z; omega
theorem ImOk.bd (h : ImOk W H C Z) : 1 ≤ C.length ∧ C.length ≤ 1048576 := by
  have := area_01 h.w0 h.w1 h.h0 h.h1; have := h.c; omega
theorem Img.chg {p : Nat → Prop} (h : Img w bm g1 k1 g2 k2 W H C Z) (hc : Chg p w w1) (h0 : ¬ p bm) (h1 : ¬ p g1) (h2 : ¬ p g2) : Img w1 bm g1 k1 g2 k2 W H C Z :=
  ⟨h.ok, hc.row h.row h0, h.c.chg hc h1, h.z.chg hc h2, h.n1, h.n2, h.n3⟩
theorem Img.ext (h : Img w bm g1 k1 g2 k2 W H C Z) (X : Xt) : Img (w.ext X) bm g1 k1 g2 k2 W H C Z := h.chg (p := fun _ => False) (Chg.of_ext X) id id id
theorem Img.wr (h : Img w bm g1 k1 g2 k2 W H C Z) : Wr w bm g1 g2 0 0 k1 k2 C.length W H 0 0 := by
  refine ⟨h.ok.w0, h.ok.w1, h.ok.h0, h.ok.h1, ?_, ?_, ?_, ?_, h.ok.c, h.row.lt, h.c.lt, h.z.lt⟩
  · exact h.row.cell 0
  · exact h.row.cell 1
  · exact h.row.cell 2
  · exact h.row.cell 3
theorem Wr.at' {pc pz oc oz cc cz n : Nat} {x y x' y' : Int} (h : Wr w bm pc pz oc oz cc cz n W H x y) : Wr w bm pc pz oc oz cc cz n W H x' y' := ⟨h.w0, h.w1, h.h0, h.h1, h.c0, h.c1, h.c2, h.c3, h.n0, h.bm, h.pc, h.pz⟩
theorem ix_lt (h : ImOk W H C Z) {x y : Int} (hi : inB W H x y) : (y * W + x).toNat < C.length ∧ (y * W + x).toNat < Z.length := by
  obtain ⟨x0, x1, y0, y1⟩ := hi
  have := ix_in x0 x1 y0 y1
  have := h.c; have := h.z
  omega
theorem ImOk.setC (h : ImOk W H C Z) (i : Nat) {v : Int} (hi : i < C.length) (hv : 0 ≤ v ∧ v ≤ 4294967295) : ImOk W H (C.set i v) Z :=
  ⟨h.w0, h.w1, h.h0, h.h1, by rw [List.length_set]; exact h.c, h.z, fun j hj => by
    rw [elt_set _ _ _ _ hi]; split
    · exact hv
    · exact h.cs j (by simpa using hj), fun j hj => h.zs j (by simpa using hj)⟩
theorem ImOk.setZ (h : ImOk W H C Z) (i : Nat) {v : Int} (hi : i < Z.length) (hv : 0 ≤ v ∧ v ≤ 16777215) : ImOk W H C (Z.set i v) :=
  ⟨h.w0, h.w1, h.h0, h.h1, h.c, by rw [List.length_set]; exact h.z, h.cs, fun j hj => by
    rw [elt_set _ _ _ _ hi]; split
    · exact hv
    · exact h.zs j hj⟩
theorem Arr.bd {w : World} {g cap : Nat} {xs : List Int} (b : Int) (h1 : ∀ i, i < xs.length → 0 ≤ elt xs i ∧ elt xs i ≤ b) (hb : b ≤ 9223372036854775807) : ∀ z ∈ xs, -9223372036854775808 ≤ z ∧ z ≤ 9223372036854775807 := by
  intro z hz
  obtain ⟨i, hi, rfl⟩ := List.mem_iff_getElem.1 hz
  have := h1 i hi
  simp only [elt, List.getD, List.getElem?_eq_getElem hi, Option.getD_some] at this
  omega
theorem ImOk.bz (h : ImOk W H C Z) : Z.length ≤ 1048576 := by have := h.bd; have := h.same; omega
theorem Img.rds (h : Img w bm g1 k1 g2 k2 W H C Z) : Rd w (sl g1 C.length k1) C ∧ Rd w (sl g2 C.length k2) Z := by
  have e := h.ok.same
  refine ⟨h.c.rd (Arr.bd (w := w) (g := g1) (cap := k1) 4294967295 h.ok.cs (by decide)) h.ok.bd.2, ?_⟩
  have := h.z.rd (Arr.bd (w := w) (g := g1) (cap := k1) 16777215 (fun i hi => h.ok.zs i (by omega)) (by decide)) h.ok.bz
  rwa [e] at this
theorem Img.setC (h : Img w bm g1 k1 g2 k2 W H C Z) {i : Nat} {v : Int} (hi : i < C.length) (hv : 0 ≤ v ∧ v ≤ 4294967295) : Img (w.setCell ⟨g1, i, none⟩ (.int .i64 v)) bm g1 k1 g2 k2 W H (C.set i v) Z := by
  have hc : Chg (fun k => k = g1) w (w.setCell ⟨g1, i, none⟩ (.int .i64 v)) := Chg.one _ _ _ _
  refine ⟨h.ok.setC i hi hv, ?_, h.c.set hi v, h.z.chg hc (Ne.symm h.n3), h.n1, h.n2, h.n3⟩
  rw [List.length_set]; exact hc.row h.row (Ne.symm h.n1)
theorem Img.setZ (h : Img w bm g1 k1 g2 k2 W H C Z) {i : Nat} {v : Int} (hi : i < Z.length) (hv : 0 ≤ v ∧ v ≤ 16777215) : Img (w.setCell ⟨g2, i, none⟩ (.int .i64 v)) bm g1 k1 g2 k2 W H C (Z.set i v) := by
  have hc : Chg (fun k => k = g2) w (w.setCell ⟨g2, i, none⟩ (.int .i64 v)) := Chg.one _ _ _ _
  exact ⟨h.ok.setZ i hi hv, hc.row h.row (Ne.symm h.n2), h.c.chg hc h.n3, h.z.set hi v, h.n1, h.n2, h.n3⟩
end
/-- A mask: which numbers are written. -/
theorem mixN_01 (v x y z t : Int) (m0 m1 m2 m3 : Bool) (k : May x y z t) : 0 ≤ mixN v x y z t m0 m1 m2 m3 ∧ mixN v x y z t m0 m1 m2 m3 ≤ 4294967295 := by
  obtain ⟨a0, a1, b0, b1, c0, c1, d0, d1⟩ := mix_may v x y z t m0 m1 m2 m3 k
  unfold mixN pk
  omega
/-- Colors behind a color that is put. -/
def putC (W H : Int) (C : List Int) (x y a b c d : Int) (m0 m1 m2 m3 : Bool) : List Int :=
  if inB W H x y then C.set (y * W + x).toNat (mixN (elt C (y * W + x).toNat) a b c d m0 m1 m2 m3) else C
/-- Depths behind a depth that is put. -/
def putZ (W H : Int) (Z : List Int) (x y u : Int) : List Int :=
  if inB W H x y then Z.set (y * W + x).toNat u else Z
/-- An image was written to. -/
def Puts (bm g1 k1 g2 k2 : Nat) (W H : Int) (C Z : List Int) (p : Nat → Prop) (v : Value) (w : World) (e : Ending) (w' : World) : Prop :=
  e = .returned v ∧ Img w' bm g1 k1 g2 k2 W H C Z ∧ Chg p w w'
section
variable {w : World} {bm g1 k1 g2 k2 : Nat} {W H : Int} {C Z : List Int}
theorem put_img (h : Img w bm g1 k1 g2 k2 W H C Z) (x y a b c d : Int) (m0 m1 m2 m3 : Bool) (bx0 : -9223372036854775808 ≤ x) (bx1 : x ≤ 9223372036854775807) (by0 : -9223372036854775808 ≤ y) (by1 : y ≤ 9223372036854775807) (k : May a b c d) :
    Calls Try.prog 40 #[.pointer (some ⟨bm, 0, none⟩), .int .i64 x, .int .i64 y, C4 a b c d, M4 m0 m1 m2 m3] w (Puts bm g1 k1 g2 k2 W H (putC W H C x y a b c d m0 m1 m2 m3) Z (fun k => k = g1) (.bool (decide (inB W H x y))) w) := by
  by_cases hi : inB W H x y
  · obtain ⟨l1, l2⟩ := ix_lt h.ok hi
    obtain ⟨v0, v1⟩ := h.ok.cs _ l1
    refine (put_in bm g1 g2 0 0 k1 k2 C.length W H x y a b c d (elt C (y * W + x).toNat) m0 m1 m2 m3 w h.wr.at' hi k v0 v1 (by rw [Nat.zero_add]; exact h.c.cell l1) (h.c.frozen _)).mono ?_
    rintro _ _ ⟨rfl, X, rfl⟩
    rw [Nat.zero_add]
    refine ⟨by simp [hi], ?_, (Chg.one _ _ _ _).ext X⟩
    unfold putC; rw [if_pos hi]
    exact (h.setC l1 (mixN_01 _ _ _ _ _ _ _ _ _ k)).ext X
  · refine (put_no bm g1 g2 0 0 k1 k2 C.length W H x y a b c d m0 m1 m2 m3 w h.wr.at' bx0 bx1 by0 by1 hi).mono ?_
    rintro _ _ ⟨rfl, X, rfl⟩
    refine ⟨by simp [hi], ?_, Chg.of_ext X⟩
    unfold putC; rw [if_neg hi]; exact h.ext X
theorem rput_img (h : Img w bm g1 k1 g2 k2 W H C Z) (x y a b c d : Int) (m0 m1 m2 m3 : Bool) (bx0 : -9223372036854775808 ≤ x) (bx1 : x ≤ 9223372036854775807) (by0 : -9223372036854775808 ≤ y) (by1 : y ≤ 9223372036854775807) (k : May a b c d) :
    Calls Try.prog 42 #[.pointer (some ⟨bm, 0, none⟩), .int .i64 x, .int .i64 y, C4 a b c d, M4 m0 m1 m2 m3] w (Puts bm g1 k1 g2 k2 W H (putC W H C x y a b c d m0 m1 m2 m3) Z (fun k => k = g1) (.bool (decide (inB W H x y))) w) := by
  by_cases hi : inB W H x y
  · obtain ⟨l1, l2⟩ := ix_lt h.ok hi
    obtain ⟨v0, v1⟩ := h.ok.cs _ l1
    refine (rput_in bm g1 g2 0 0 k1 k2 C.length W H x y a b c d (elt C (y * W + x).toNat) m0 m1 m2 m3 w h.wr.at' hi k v0 v1 (by rw [Nat.zero_add]; exact h.c.cell l1) (h.c.frozen _)).mono ?_
    rintro _ _ ⟨rfl, X, rfl⟩
    rw [Nat.zero_add]
    refine ⟨by simp [hi], ?_, (Chg.one _ _ _ _).ext X⟩
    unfold putC; rw [if_pos hi]
    exact (h.setC l1 (mixN_01 _ _ _ _ _ _ _ _ _ k)).ext X
  · refine (rput_no bm g1 g2 0 0 k1 k2 C.length W H x y a b c d m0 m1 m2 m3 w h.wr.at' bx0 bx1 by0 by1 hi).mono ?_
    rintro _ _ ⟨rfl, X, rfl⟩
    refine ⟨by simp [hi], ?_, Chg.of_ext X⟩
    unfold putC; rw [if_neg hi]; exact h.ext X
theorem deep_img (h : Img w bm g1 k1 g2 k2 W H C Z) (x y u : Int) (bx0 : -9223372036854775808 ≤ x) (bx1 : x ≤ 9223372036854775807) (by0 : -9223372036854775808 ≤ y) (by1 : y ≤ 9223372036854775807) (hu : 0 ≤ u ∧ u ≤ 16777215) :
    Calls Try.prog 41 #[.pointer (some ⟨bm, 0, none⟩), .int .i64 x, .int .i64 y, .int .i64 u] w (Puts bm g1 k1 g2 k2 W H C (putZ W H Z x y u) (fun k => k = g2) (.bool (decide (inB W H x y))) w) := by
  by_cases hi : inB W H x y
  · obtain ⟨l1, l2⟩ := ix_lt h.ok hi
    refine (deep_in bm g1 g2 0 0 k1 k2 C.length W H x y u (elt Z (y * W + x).toNat) w h.wr.at' hi (by rw [Nat.zero_add]; exact h.z.cell l2) (h.z.frozen _)).mono ?_
    rintro _ _ ⟨rfl, X, rfl⟩
    rw [Nat.zero_add]
    refine ⟨by simp [hi], ?_, (Chg.one _ _ _ _).ext X⟩
    unfold putZ; rw [if_pos hi]
    exact (h.setZ l2 hu).ext X
  · refine (deep_no bm g1 g2 0 0 k1 k2 C.length W H x y u w h.wr.at' bx0 bx1 by0 by1 hi).mono ?_
    rintro _ _ ⟨rfl, X, rfl⟩
    refine ⟨by simp [hi], ?_, Chg.of_ext X⟩
    unfold putZ; rw [if_neg hi]; exact h.ext X
theorem rdeep_img (h : Img w bm g1 k1 g2 k2 W H C Z) (x y u : Int) (bx0 : -9223372036854775808 ≤ x) (bx1 : x ≤ 9223372036854775807) (by0 : -9223372036854775808 ≤ y) (by1 : y ≤ 9223372036854775807) (hu : 0 ≤ u ∧ u ≤ 16777215) :
    Calls Try.prog 43 #[.pointer (some ⟨bm, 0, none⟩), .int .i64 x, .int .i64 y, .int .i64 u] w (Puts bm g1 k1 g2 k2 W H C (putZ W H Z x y u) (fun k => k = g2) (.bool (decide (inB W H x y))) w) := by
  by_cases hi : inB W H x y
  · obtain ⟨l1, l2⟩ := ix_lt h.ok hi
    refine (rdeep_in bm g1 g2 0 0 k1 k2 C.length W H x y u (elt Z (y * W + x).toNat) w h.wr.at' hi (by rw [Nat.zero_add]; exact h.z.cell l2) (h.z.frozen _)).mono ?_
    rintro _ _ ⟨rfl, X, rfl⟩
    rw [Nat.zero_add]
    refine ⟨by simp [hi], ?_, (Chg.one _ _ _ _).ext X⟩
    unfold putZ; rw [if_pos hi]
    exact (h.setZ l2 hu).ext X
  · refine (rdeep_no bm g1 g2 0 0 k1 k2 C.length W H x y u w h.wr.at' bx0 bx1 by0 by1 hi).mono ?_
    rintro _ _ ⟨rfl, X, rfl⟩
    refine ⟨by simp [hi], ?_, Chg.of_ext X⟩
    unfold putZ; rw [if_neg hi]; exact h.ext X
end
/-- The reference's copy of an image that may be, in a form to lean on. -/
theorem rd_some {w : World} {v : Value} {xs : List Int} (h : Rd w v xs) (h0 : 1 ≤ xs.length) : ∃ b off cap, v = .slice (some ⟨b, off, none⟩) xs.length cap ∧ b < w.heap.size ∧ ∀ i, i < xs.length → w.cell? ⟨b, off + i, none⟩ = some (.int .i64 (elt xs i)) := by
  obtain ⟨-, -, a, cap, rfl, -, h3⟩ := h
  rcases h3 with rfl | ⟨b, off, rfl, hb, hc⟩
  · simp at h0
  · exact ⟨b, off, cap, rfl, hb, hc⟩
/-- A copy of its own is returned. -/
def Copies (W H : Int) (C Z : List Int) (w : World) (e : Ending) (w' : World) : Prop :=
  ∃ g1 k1 g2 k2 : Nat, e = .returned (Im W H (sl g1 C.length k1) (sl g2 C.length k2)) ∧ (∃ X, w' = w.ext X) ∧ Arr w' g1 k1 C ∧ Arr w' g2 k2 Z ∧ w.heap.size ≤ g1 ∧ w.heap.size ≤ g2 ∧ g1 ≠ g2
theorem addr_add (b off j : Nat) : (⟨b, off, none⟩ : Addr).add j = ⟨b, off + j, none⟩ := by
  unfold Addr.add; split
  · subst_vars; rfl
  · rfl
theorem rcopy_is (W H : Int) (c z : Value) (C Z : List Int) (w : World) (hc : Rd w c C) (hz : Rd w z Z) (h : ImOk W H C Z) :
    Calls Try.prog 39 #[Im W H c z] w (Copies W H C Z w) := by
  obtain ⟨n0, n1⟩ := h.bd
  have e := h.same
  obtain ⟨b, off, cap, rfl, hb, hcell⟩ := rd_some hc n0
  obtain ⟨b', off', cap', rfl, hb', hcell'⟩ := rd_some hz (by omega)
  rw [e]
  refine (rcopy_any W H b off cap b' off' cap' C.length (C.map (Value.int .i64)) (Z.map (Value.int .i64)) w n0 n1 hb hb' (by simp) (by simp [e]) ?_ ?_ ?_ ?_).mono ?_
  · intro u hu; obtain ⟨x, -, rfl⟩ := List.mem_map.1 hu; rfl
  · intro u hu; obtain ⟨x, -, rfl⟩ := List.mem_map.1 hu; rfl
  · intro W' hW j u hj
    have hl : j < C.length := by have := (List.getElem?_eq_some_iff.1 hj).1; simpa using this
    rw [addr_add, hW.cell (p := ⟨b, off + j, none⟩) hb, hcell j hl]
    simp [hl] at hj; rw [← hj]; simp [elt, hl]
  · intro W' hW j u hj
    have hl : j < Z.length := by have := (List.getElem?_eq_some_iff.1 hj).1; simpa using this
    rw [addr_add, hW.cell (p := ⟨b', off' + j, none⟩) hb', hcell' j hl]
    simp [hl] at hj; rw [← hj]; simp [elt, hl]
  · rintro _ w' ⟨g1, k1, g2, k2, rfl, hX, o1, o2, ne⟩
    have b1 := o1.lt g1 rfl
    have b2 := o2.lt g2 rfl
    exact ⟨g1, k1, g2, k2, rfl, hX, Arr.of_own o1, Arr.of_own o2, by omega, by omega, ne⟩
end Go.Proofs.Ytdbbeggenbhbfaa
