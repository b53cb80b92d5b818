/- Parts of the proofs, laid together: Img, Two, Get, Put. Conditions: at each. -/
import Derived.Test.YthcjfanigfgckaaPStoreB
import Derived.Test.YthcjfanigfgckaaPBase
import Derived.Test.YthcjfanigfgckaaPMix
section
/- Images that are written to: blocks that hold ints, what has changed since, and what a pixel's color and depth become. No condition. -/
namespace Go.Proofs.Ythcjfanigfgckaa
set_option linter.unusedVariables false
set_option linter.unusedSimpArgs false
set_option maxRecDepth 10000
open Go.RowKit
section
variable {p q : Nat → Prop} {w w1 w2 : World}
theorem Chg.rd (h : Chg p w w1) {v : Value} {zs : List Int} (hr : Rd w v zs) (hb : ∀ b, v.ownBlock = some b → b < w.heap.size → ¬ p b) : Rd w1 v zs := by
  obtain ⟨h0, h1, a, cap, rfl, h2, h3⟩ := hr
  refine ⟨h0, h1, a, cap, rfl, h2, ?_⟩
  rcases h3 with h3 | ⟨b, off, rfl, hb', hc⟩
  · exact .inl h3
  · exact .inr ⟨b, off, rfl, Nat.lt_of_lt_of_le hb' h.size, fun i hi => by rw [h.cell hb' (hb b rfl hb')]; exact hc i hi⟩
end
/-- A block that holds these ints, and maybe more behind them. -/
def Arr (w : World) (g cap : Nat) (xs : List Int) : Prop :=
  xs.length ≤ cap ∧ ∃ cur, Row w g cur 3 ∧ ∀ i, i < xs.length → cur[i]? = some (.int .i64 (elt xs i))
section
variable {w w1 : World} {g cap : Nat} {xs : List Int}
theorem Arr.lt (h : Arr w g cap xs) : g < w.heap.size := by obtain ⟨-, cur, hr, -⟩ := h; exact hr.lt
theorem Arr.cell (h : Arr w g cap xs) {i : Nat} (hi : i < xs.length) : w.cell? ⟨g, i, none⟩ = some (.int .i64 (elt xs i)) := by
  obtain ⟨-, cur, hr, hc⟩ := h; rw [hr.cell]; exact hc i hi
theorem Arr.frozen (h : Arr w g cap xs) (i : Nat) : w.frozen? ⟨g, i, none⟩ = false := by obtain ⟨-, cur, hr, -⟩ := h; exact hr.frozen i
theorem Arr.chg {p : Nat → Prop} (h : Arr w g cap xs) (hc : Chg p w w1) (hp : ¬ p g) : Arr w1 g cap xs := by
  obtain ⟨h1, cur, hr, h2⟩ := h; exact ⟨h1, cur, hc.row hr hp, h2⟩
theorem elt_set (l : List Int) (i j : Nat) (v : Int) (hi : i < l.length) : elt (l.set i v) j = if i = j then v else elt l j := by
  unfold elt
  simp only [List.getD, List.getElem?_set]
  by_cases h : i = j
  · subst h; simp [hi]
  · simp [h]
theorem Arr.set (h : Arr w g cap xs) {i : Nat} (hi : i < xs.length) (v : Int) : Arr (w.setCell ⟨g, i, none⟩ (.int .i64 v)) g cap (xs.set i v) := by
  obtain ⟨h1, cur, hr, h2⟩ := h
  refine ⟨by simpa using h1, _, hr.set i _, fun j hj => ?_⟩
  rw [List.length_set] at hj
  rw [Array.getElem?_setIfInBounds, elt_set _ _ _ _ hi]
  have hin : i < cur.size := by
    have := h2 i hi
    exact (Array.getElem?_eq_some_iff.1 this).1
  by_cases e : i = j
  · subst e; simp [hin]
  · simp [e]; exact h2 j hj
theorem Arr.rd (h : Arr w g cap xs) (hb : ∀ z ∈ xs, -9223372036854775808 ≤ z ∧ z ≤ 9223372036854775807) (hl : xs.length ≤ 1048576) : Rd w (sl g xs.length cap) xs :=
  ⟨hb, by omega, some ⟨g, 0, none⟩, cap, rfl, h.1, .inr ⟨g, 0, rfl, h.lt, fun i hi => by rw [Nat.zero_add]; exact h.cell hi⟩⟩
theorem Arr.of_own {base n k : Nat} (h : w.ownsRow base 3 1 (sl g n k) n (xs.map (Value.int .i64))) : Arr w g k xs := by
  obtain ⟨hl, h2⟩ := h
  rw [Nat.mul_one, List.length_map] at hl
  rcases h2 with ⟨h2, h3⟩ | ⟨g', c', cur, e', h4, h5, h6, h7, h8, h9⟩
  · cases h2
  · obtain ⟨rfl, rfl⟩ : g = g' ∧ k = c' := by simpa using e'
    refine ⟨by omega, cur, h5, fun i hi => ?_⟩
    have : (cur.toList.take (n * 1))[i]? = (xs.map (Value.int .i64))[i]? := by rw [h9]
    rw [List.getElem?_take, if_pos (by omega)] at this
    simp [hi] at this
    rw [this]; simp [elt, hi]
end
/-- An image in memory. -/
structure Img (w : World) (bm g1 k1 g2 k2 : Nat) (W H : Int) (C Z : List Int) : Prop where
  ok : ImOk W H C Z
  row : Row w bm #[.int .i64 W, .int .i64 H, sl g1 C.length k1, sl g2 C.length k2] 24
  c : Arr w g1 k1 C
  z : Arr w g2 k2 Z
  n1 : g1 ≠ bm
  n2 : g2 ≠ bm
  n3 : g1 ≠ g2
section
variable {w w1 : World} {bm g1 k1 g2 k2 : Nat} {W H : Int} {C Z : List Int}
theorem ImOk.same (h : ImOk W H C Z) : Z.length = C.length := by have := h.c; have := h.z; omega
theorem ImOk.bd (h : ImOk W H C Z) : 1 ≤ C.length ∧ C.length ≤ 1048576 := by
  have := area_01 h.w0 h.w1 h.h0 h.h1; have := h.c; omega
theorem Img.chg {p : Nat → Prop} (h : Img w bm g1 k1 g2 k2 W H C Z) (hc : Chg p w w1) (h0 : ¬ p bm) (h1 : ¬ p g1) (h2 : ¬ p g2) : Img w1 bm g1 k1 g2 k2 W H C Z :=
  ⟨h.ok, hc.row h.row h0, h.c.chg hc h1, h.z.chg hc h2, h.n1, h.n2, h.n3⟩
theorem Img.ext (h : Img w bm g1 k1 g2 k2 W H C Z) (X : Xt) : Img (w.ext X) bm g1 k1 g2 k2 W H C Z := h.chg (p := fun _ => False) (Chg.of_ext X) id id id
theorem Img.wr (h : Img w bm g1 k1 g2 k2 W H C Z) : Wr w bm g1 g2 0 0 k1 k2 C.length W H 0 0 := by
  refine ⟨h.ok.w0, h.ok.w1, h.ok.h0, h.ok.h1, ?_, ?_, ?_, ?_, h.ok.c, h.row.lt, h.c.lt, h.z.lt⟩
  · exact h.row.cell 0
  · exact h.row.cell 1
  · exact h.row.cell 2
  · exact h.row.cell 3
theorem Wr.at' {pc pz oc oz cc cz n : Nat} {x y x' y' : Int} (h : Wr w bm pc pz oc oz cc cz n W H x y) : Wr w bm pc pz oc oz cc cz n W H x' y' := ⟨h.w0, h.w1, h.h0, h.h1, h.c0, h.c1, h.c2, h.c3, h.n0, h.bm, h.pc, h.pz⟩
theorem ix_lt (h : ImOk W H C Z) {x y : Int} (hi : inB W H x y) : (y * W + x).toNat < C.length ∧ (y * W + x).toNat < Z.length := by
  obtain ⟨x0, x1, y0, y1⟩ := hi
  have := ix_in x0 x1 y0 y1
  have := h.c; have := h.z
  omega
theorem ImOk.setC (h : ImOk W H C Z) (i : Nat) {v : Int} (hi : i < C.length) (hv : 0 ≤ v ∧ v ≤ 4294967295) : ImOk W H (C.set i v) Z :=
  ⟨h.w0, h.w1, h.h0, h.h1, by rw [List.length_set]; exact h.c, h.z, fun j hj => by
    rw [elt_set _ _ _ _ hi]; split
    · exact hv
    · exact h.cs j (by simpa using hj), fun j hj => h.zs j (by simpa using hj)⟩
theorem ImOk.setZ (h : ImOk W H C Z) (i : Nat) {v : Int} (hi : i < Z.length) (hv : 0 ≤ v ∧ v ≤ 16777215) : ImOk W H C (Z.set i v) :=
  ⟨h.w0, h.w1, h.h0, h.h1, h.c, by rw [List.length_set]; exact h.z, h.cs, fun j hj => by
    rw [elt_set _ _ _ _ hi]; split
    · exact hv
    · exact h.zs j hj⟩
theorem Arr.bd {w : World} {g cap : Nat} {xs : List Int} (b : Int) (h1 : ∀ i, i < xs.length → 0 ≤ elt xs i ∧ elt xs i ≤ b) (hb : b ≤ 9223372036854775807) : ∀ z ∈ xs, -9223372036854775808 ≤ z ∧ z ≤ 9223372036854775807 := by
  intro z hz
  obtain ⟨i, hi, rfl⟩ := List.mem_iff_getElem.1 hz
  have := h1 i hi
  simp only [elt, List.getD, List.getElem?_eq_getElem hi, Option.getD_some] at this
  omega
theorem ImOk.bz (h : ImOk W H C Z) : Z.length ≤ 1048576 := by have := h.bd; have := h.same; omega
theorem Img.rds (h : Img w bm g1 k1 g2 k2 W H C Z) : Rd w (sl g1 C.length k1) C ∧ Rd w (sl g2 C.length k2) Z := by
  have e := h.ok.same
  refine ⟨h.c.rd (Arr.bd (w := w) (g := g1) (cap := k1) 4294967295 h.ok.cs (by decide)) h.ok.bd.2, ?_⟩
  have := h.z.rd (Arr.bd (w := w) (g := g1) (cap := k1) 16777215 (fun i hi => h.ok.zs i (by omega)) (by decide)) h.ok.bz
  rwa [e] at this
theorem Img.setC (h : Img w bm g1 k1 g2 k2 W H C Z) {i : Nat} {v : Int} (hi : i < C.length) (hv : 0 ≤ v ∧ v ≤ 4294967295) : Img (w.setCell ⟨g1, i, none⟩ (.int .i64 v)) bm g1 k1 g2 k2 W H (C.set i v) Z := by
  have hc : Chg (fun k => k = g1) w (w.setCell ⟨g1, i, none⟩ (.int .i64 v)) := Chg.one _ _ _ _
  refine ⟨h.ok.setC i hi hv, ?_, h.c.set hi v, h.z.chg hc (Ne.symm h.n3), h.n1, h.n2, h.n3⟩
  rw [List.length_set]; exact hc.row h.row (Ne.symm h.n1)
theorem Img.setZ (h : Img w bm g1 k1 g2 k2 W H C Z) {i : Nat} {v : Int} (hi : i < Z.length) (hv : 0 ≤ v ∧ v ≤ 16777215) : Img (w.setCell ⟨g2, i, none⟩ (.int .i64 v)) bm g1 k1 g2 k2 W H C (Z.set i v) := by
  have hc : Chg (fun k => k = g2) w (w.setCell ⟨g2, i, none⟩ (.int .i64 v)) := Chg.one _ _ _ _
  exact ⟨h.ok.setZ i hi hv, hc.row h.row (Ne.symm h.n2), h.c.chg hc h.n3, h.z.set hi v, h.n1, h.n2, h.n3⟩
end
/-- A mask: which numbers are written. -/
theorem mixN_01 (v x y z t : Int) (m0 m1 m2 m3 : Bool) (k : May x y z t) : 0 ≤ mixN v x y z t m0 m1 m2 m3 ∧ mixN v x y z t m0 m1 m2 m3 ≤ 4294967295 := by
  obtain ⟨a0, a1, b0, b1, c0, c1, d0, d1⟩ := mix_may v x y z t m0 m1 m2 m3 k
  unfold mixN pk
  omega
/-- Colors behind a color that is put. -/
def putC (W H : Int) (C : List Int) (x y a b c d : Int) (m0 m1 m2 m3 : Bool) : List Int :=
  if inB W H x y then C.set (y * W + x).toNat (mixN (elt C (y * W + x).toNat) a b c d m0 m1 m2 m3) else C
/-- Depths behind a depth that is put. -/
def putZ (W H : Int) (Z : List Int) (x y u : Int) : List Int :=
  if inB W H x y then Z.set (y * W + x).toNat u else Z
/-- An image was written to. -/
def Puts (bm g1 k1 g2 k2 : Nat) (W H : Int) (C Z : List Int) (p : Nat → Prop) (v : Value) (w : World) (e : Ending) (w' : World) : Prop :=
  e = .returned v ∧ Img w' bm g1 k1 g2 k2 W H C Z ∧ Chg p w w'
section
variable {w : World} {bm g1 k1 g2 k2 : Nat} {W H : Int} {C Z : List Int}
theorem put_img (h : Img w bm g1 k1 g2 k2 W H C Z) (x y a b c d : Int) (m0 m1 m2 m3 : Bool) (bx0 : -9223372036854775808 ≤ x) (bx1 : x ≤ 9223372036854775807) (by0 : -9223372036854775808 ≤ y) (by1 : y ≤ 9223372036854775807) (k : May a b c d) :
    Calls Try.prog 14 #[.pointer (some ⟨bm, 0, none⟩), .int .i64 x, .int .i64 y, C4 a b c d, M4 m0 m1 m2 m3] w (Puts bm g1 k1 g2 k2 W H (putC W H C x y a b c d m0 m1 m2 m3) Z (fun k => k = g1) (.bool (decide (inB W H x y))) w) := by
  by_cases hi : inB W H x y
  · obtain ⟨l1, l2⟩ := ix_lt h.ok hi
    obtain ⟨v0, v1⟩ := h.ok.cs _ l1
    refine (put_in bm g1 g2 0 0 k1 k2 C.length W H x y a b c d (elt C (y * W + x).toNat) m0 m1 m2 m3 w h.wr.at' hi k v0 v1 (by rw [Nat.zero_add]; exact h.c.cell l1) (h.c.frozen _)).mono ?_
    rintro _ _ ⟨rfl, X, rfl⟩
    rw [Nat.zero_add]
    refine ⟨by simp [hi], ?_, (Chg.one _ _ _ _).ext X⟩
    unfold putC; rw [if_pos hi]
    exact (h.setC l1 (mixN_01 _ _ _ _ _ _ _ _ _ k)).ext X
  · refine (put_no bm g1 g2 0 0 k1 k2 C.length W H x y a b c d m0 m1 m2 m3 w h.wr.at' bx0 bx1 by0 by1 hi).mono ?_
    rintro _ _ ⟨rfl, X, rfl⟩
    refine ⟨by simp [hi], ?_, Chg.of_ext X⟩
    unfold putC; rw [if_neg hi]; exact h.ext X
theorem rput_img (h : Img w bm g1 k1 g2 k2 W H C Z) (x y a b c d : Int) (m0 m1 m2 m3 : Bool) (bx0 : -9223372036854775808 ≤ x) (bx1 : x ≤ 9223372036854775807) (by0 : -9223372036854775808 ≤ y) (by1 : y ≤ 9223372036854775807) (k : May a b c d) :
    Calls Try.prog 24 #[.pointer (some ⟨bm, 0, none⟩), .int .i64 x, .int .i64 y, C4 a b c d, M4 m0 m1 m2 m3] w (Puts bm g1 k1 g2 k2 W H (putC W H C x y a b c d m0 m1 m2 m3) Z (fun k => k = g1) (.bool (decide (inB W H x y))) w) := by
  by_cases hi : inB W H x y
  · obtain ⟨l1, l2⟩ := ix_lt h.ok hi
    obtain ⟨v0, v1⟩ := h.ok.cs _ l1
    refine (rput_in bm g1 g2 0 0 k1 k2 C.length W H x y a b c d (elt C (y * W + x).toNat) m0 m1 m2 m3 w h.wr.at' hi k v0 v1 (by rw [Nat.zero_add]; exact h.c.cell l1) (h.c.frozen _)).mono ?_
    rintro _ _ ⟨rfl, X, rfl⟩
    rw [Nat.zero_add]
    refine ⟨by simp [hi], ?_, (Chg.one _ _ _ _).ext X⟩
    unfold putC; rw [if_pos hi]
    exact (h.setC l1 (mixN_01 _ _ _ _ _ _ _ _ _ k)).ext X
  · refine (rput_no bm g1 g2 0 0 k1 k2 C.length W H x y a b c d m0 m1 m2 m3 w h.wr.at' bx0 bx1 by0 by1 hi).mono ?_
    rintro _ _ ⟨rfl, X, rfl⟩
    refine ⟨by simp [hi], ?_, Chg.of_ext X⟩
    unfold putC; rw [if_neg hi]; exact h.ext X
theorem deep_img (h : Img w bm g1 k1 g2 k2 W H C Z) (x y u : Int) (bx0 : -9223372036854775808 ≤ x) (bx1 : x ≤ 9223372036854775807) (by0 : -9223372036854775808 ≤ y) (by1 : y ≤ 9223372036854775807) (hu : 0 ≤ u ∧ u ≤ 16777215) :
    Calls Try.prog 13 #[.pointer (some ⟨bm, 0, none⟩), .int .i64 x, .int .i64 y, .int .i64 u] w (Puts bm g1 k1 g2 k2 W H C (putZ W H Z x y u) (fun k => k = g2) (.bool (decide (inB W H x y))) w) := by
  by_cases hi : inB W H x y
  · obtain ⟨l1, l2⟩ := ix_lt h.ok hi
    refine (deep_in bm g1 g2 0 0 k1 k2 C.length W H x y u (elt Z (y * W + x).toNat) w h.wr.at' hi (by rw [Nat.zero_add]; exact h.z.cell l2) (h.z.frozen _)).mono ?_
    rintro _ _ ⟨rfl, X, rfl⟩
    rw [Nat.zero_add]
    refine ⟨by simp [hi], ?_, (Chg.one _ _ _ _).ext X⟩
    unfold putZ; rw [if_pos hi]
    exact (h.setZ l2 hu).ext X
  · refine (deep_no bm g1 g2 0 0 k1 k2 C.length W H x y u w h.wr.at' bx0 bx1 by0 by1 hi).mono ?_
    rintro _ _ ⟨rfl, X, rfl⟩
    refine ⟨by simp [hi], ?_, Chg.of_ext X⟩
    unfold putZ; rw [if_neg hi]; exact h.ext X
end
/-- The reference's copy of an image that may be, in a form to lean on. -/
theorem rd_some {w : World} {v : Value} {xs : List Int} (h : Rd w v xs) (h0 : 1 ≤ xs.length) : ∃ b off cap, v = .slice (some ⟨b, off, none⟩) xs.length cap ∧ b < w.heap.size ∧ ∀ i, i < xs.length → w.cell? ⟨b, off + i, none⟩ = some (.int .i64 (elt xs i)) := by
  obtain ⟨-, -, a, cap, rfl, -, h3⟩ := h
  rcases h3 with rfl | ⟨b, off, rfl, hb, hc⟩
  · simp at h0
  · exact ⟨b, off, cap, rfl, hb, hc⟩
/-- A copy of its own is returned. -/
def Copies (W H : Int) (C Z : List Int) (w : World) (e : Ending) (w' : World) : Prop :=
  ∃ g1 k1 g2 k2 : Nat, e = .returned (Im W H (sl g1 C.length k1) (sl g2 C.length k2)) ∧ (∃ X, w' = w.ext X) ∧ Arr w' g1 k1 C ∧ Arr w' g2 k2 Z ∧ w.heap.size ≤ g1 ∧ w.heap.size ≤ g2 ∧ g1 ≠ g2
theorem addr_add (b off j : Nat) : (⟨b, off, none⟩ : Addr).add j = ⟨b, off + j, none⟩ := by
  unfold Addr.add; split
  · subst_vars; rfl
  · rfl
theorem rcopy_is (W H : Int) (c z : Value) (C Z : List Int) (w : World) (hc : Rd w c C) (hz : Rd w z Z) (h : ImOk W H C Z) :
    Calls Try.prog 8 #[Im W H c z] w (Copies W H C Z w) := by
  obtain ⟨n0, n1⟩ := h.bd
  have e := h.same
  obtain ⟨b, off, cap, rfl, hb, hcell⟩ := rd_some hc n0
  obtain ⟨b', off', cap', rfl, hb', hcell'⟩ := rd_some hz (by omega)
  rw [e]
  refine (rcopy_any W H b off cap b' off' cap' C.length (C.map (Value.int .i64)) (Z.map (Value.int .i64)) w n0 n1 hb hb' (by simp) (by simp [e]) ?_ ?_ ?_ ?_).mono ?_
  · intro u hu; obtain ⟨x, -, rfl⟩ := List.mem_map.1 hu; rfl
  · intro u hu; obtain ⟨x, -, rfl⟩ := List.mem_map.1 hu; rfl
  · intro W' hW j u hj
    have hl : j < C.length := by have := (List.getElem?_eq_some_iff.1 hj).1; simpa using this
    rw [addr_add, hW.cell (p := ⟨b, off + j, none⟩) hb, hcell j hl]
    simp [hl] at hj; rw [← hj]; simp [elt, hl]
  · intro W' hW j u hj
    have hl : j < Z.length := by have := (List.getElem?_eq_some_iff.1 hj).1; simpa using this
    rw [addr_add, hW.cell (p := ⟨b', off' + j, none⟩) hb', hcell' j hl]
    simp [hl] at hj; rw [← hj]; simp [elt, hl]
  · rintro _ w' ⟨g1, k1, g2, k2, rfl, hX, o1, o2, ne⟩
    have b1 := o1.lt g1 rfl
    have b2 := o2.lt g2 rfl
    exact ⟨g1, k1, g2, k2, rfl, hX, Arr.of_own o1, Arr.of_own o2, by omega, by omega, ne⟩
end Go.Proofs.Ythcjfanigfgckaa
end
section
/- A region that draws its order and makes two images of their own by two calls ('a, b := Copy(m), Copy(m)'): whatever the order, both are there, apart. Condition: the call's contract. -/
namespace Go.Proofs.Ythcjfanigfgckaa
set_option linter.unusedVariables false
set_option linter.unusedSimpArgs false
set_option maxRecDepth 10000
open Go.RowKit
/-- An image's cells. -/
abbrev IC (W H : Int) (n g1 k1 g2 k2 : Nat) : Array Value := #[.int .i64 W, .int .i64 H, sl g1 n k1, sl g2 n k2]
abbrev c0I : Array Value := #[.int .i64 0, .int .i64 0, .slice none 0 0, .slice none 0 0]
def ow (j : Nat) : Nat := if j < 2 then 1 else if j < 4 then 3 else j
def vv (W H : Int) (n : Nat) (V : Value) (e k : Nat → Nat) (i : Nat) : Value :=
  if i = 0 then V else if i = 1 then .agg (IC W H n (e 0) (k 0) (e 1) (k 1)) else if i = 2 then V else if i = 3 then .agg (IC W H n (e 2) (k 2) (e 3) (k 3)) else ptr (e i)
structure CI (w : World) (a : Act) (W H : Int) (C Z : List Int) (V : Value) (σ : Nat → Tmp) (e k : Nat → Nat) (d : Nat → Bool) (a' : Act) (w' : World) : Prop where
  size : a'.tmps.size = a.tmps.size
  defers : a'.defers = a.defers
  off : ∀ s, (∀ i, i < 6 → σ i ≠ s) → a'.tmps[s]? = a.tmps[s]?
  on : ∀ i, i < 6 → d i = true → a'.tmps[σ i]? = some (vv W H C.length V e k i)
  world : ∃ X, w' = w.ext X
  lo : ∀ j, j < 6 → d (ow j) = true → w.heap.size ≤ e j ∧ e j < w'.heap.size
  ne : ∀ i j, i < 6 → j < 6 → d (ow i) = true → d (ow j) = true → i ≠ j → e i ≠ e j
  c0 : d 1 = true → Arr w' (e 0) (k 0) C ∧ Arr w' (e 1) (k 1) Z
  c1 : d 3 = true → Arr w' (e 2) (k 2) C ∧ Arr w' (e 3) (k 3) Z
  r4 : d 4 = true → Row w' (e 4) (if d 6 then IC W H C.length (e 0) (k 0) (e 1) (k 1) else c0I) 24
  r5 : d 5 = true → Row w' (e 5) (if d 7 then IC W H C.length (e 2) (k 2) (e 3) (k 3) else c0I) 24
theorem upd_eq (d : Nat → Bool) (i j : Nat) : upd d i j = true ↔ j = i ∨ d j = true := by
  unfold upd; by_cases h : j = i <;> simp [h]
theorem upd_ne (d : Nat → Bool) {i j : Nat} (h : j ≠ i) : upd d i j = d j := by unfold upd; rw [if_neg h]
section
variable {w : World} {a : Act} {W H : Int} {C Z : List Int} {V : Value} {σ : Nat → Tmp} {e k : Nat → Nat} {d : Nat → Bool} {a' : Act} {w' : World}
/-- The frame behind an operation that yields. -/
theorem CI.put (h : CI w a W H C Z V σ e k d a' w') (hinj : ∀ i j, i < 6 → j < 6 → σ i = σ j → i = j) (hlt : ∀ i, i < 6 → σ i < a.tmps.size) (e' k' : Nat → Nat) (i : Nat) (hi : i < 6) (v : Value) (hv : v = vv W H C.length V e' k' i)
    (hk : ∀ j, j < 6 → j ≠ i → d j = true → vv W H C.length V e' k' j = vv W H C.length V e k j) :
    (a'.put (some (σ i)) v).tmps.size = a.tmps.size ∧ (a'.put (some (σ i)) v).defers = a.defers ∧ (∀ s, (∀ i, i < 6 → σ i ≠ s) → (a'.put (some (σ i)) v).tmps[s]? = a.tmps[s]?) ∧
      (∀ j, j < 6 → upd d i j = true → (a'.put (some (σ i)) v).tmps[σ j]? = some (vv W H C.length V e' k' j)) := by
  refine ⟨by rw [← h.size]; simp [Act.put], by rw [← h.defers]; rfl, fun s hs => ?_, fun j hj hd => ?_⟩
  · rw [Act.put_at rfl, if_neg (hs i hi)]; exact h.off s hs
  · by_cases hji : j = i
    · subst hji
      rw [Act.put_at rfl, if_pos rfl]
      have : σ j < a'.tmps.size := by rw [h.size]; exact hlt j hj
      simp [this, hv]
    · rw [Act.put_at rfl, if_neg fun he => hji (hinj _ _ hi hj he).symm]
      rw [upd_ne _ hji] at hd
      rw [h.on j hj hd, hk j hj hji hd]
theorem CI.load (h : CI w a W H C Z V σ e k d a' w') (hinj : ∀ i j, i < 6 → j < 6 → σ i = σ j → i = j) (hlt : ∀ i, i < 6 → σ i < a.tmps.size) (i : Nat) (hi : i = 0 ∨ i = 2) : CI w a W H C Z V σ e k (upd d i) (a'.put (some (σ i)) V) w' := by
  obtain ⟨f1, f2, f3, f4⟩ := h.put hinj hlt e k i (by omega) V (by rcases hi with rfl | rfl <;> rfl) fun j _ _ _ => rfl
  have hu : ∀ j, j ≠ 0 → j ≠ 2 → upd d i j = d j := fun j h0 h2 => upd_ne _ (by omega)
  have how : ∀ j, upd d i (ow j) = d (ow j) := fun j => hu _ (by unfold ow; split <;> (try split) <;> omega) (by unfold ow; split <;> (try split) <;> omega)
  refine ⟨f1, f2, f3, f4, h.world, fun j hj hd => h.lo j hj (by rwa [how] at hd), fun x y hx hy h1 h2 => h.ne x y hx hy (by rwa [how] at h1) (by rwa [how] at h2), ?_, ?_, ?_, ?_⟩
  · rw [hu 1 (by decide) (by decide)]; exact h.c0
  · rw [hu 3 (by decide) (by decide)]; exact h.c1
  · rw [hu 4 (by decide) (by decide), hu 6 (by decide) (by decide)]; exact h.r4
  · rw [hu 5 (by decide) (by decide), hu 7 (by decide) (by decide)]; exact h.r5
theorem CI.call (h : CI w a W H C Z V σ e k d a' w') (hinj : ∀ i j, i < 6 → j < 6 → σ i = σ j → i = j) (hlt : ∀ i, i < 6 → σ i < a.tmps.size) (b : Nat) (hb : b = 0 ∨ b = 2) (hd0 : d (b + 1) = false) (h6 : d (if b = 0 then 6 else 7) = false)
    (g1 k1 g2 k2 : Nat) (X : Xt) (A1 : Arr (w'.ext X) g1 k1 C) (A2 : Arr (w'.ext X) g2 k2 Z) (b1 : w'.heap.size ≤ g1) (b2 : w'.heap.size ≤ g2) (hne : g1 ≠ g2) :
    ∃ e' k', CI w a W H C Z V σ e' k' (upd d (b + 1)) (a'.put (some (σ (b + 1))) (.agg (IC W H C.length g1 k1 g2 k2))) (w'.ext X) := by
  obtain ⟨e', he'⟩ : ∃ e' : Nat → Nat, ∀ j, e' j = if j = b then g1 else if j = b + 1 then g2 else e j := ⟨_, fun _ => rfl⟩
  obtain ⟨k', hk'⟩ : ∃ k' : Nat → Nat, ∀ j, k' j = if j = b then k1 else if j = b + 1 then k2 else k j := ⟨_, fun _ => rfl⟩
  have eo : ∀ j, j ≠ b → j ≠ b + 1 → e' j = e j := fun j h1 h2 => by rw [he', if_neg h1, if_neg h2]
  have ko : ∀ j, j ≠ b → j ≠ b + 1 → k' j = k j := fun j h1 h2 => by rw [hk', if_neg h1, if_neg h2]
  have e0 : e' b = g1 := by rw [he', if_pos rfl]
  have e1 : e' (b + 1) = g2 := by rw [he', if_neg (by omega), if_pos rfl]
  have q0 : k' b = k1 := by rw [hk', if_pos rfl]
  have q1 : k' (b + 1) = k2 := by rw [hk', if_neg (by omega), if_pos rfl]
  have hC : Chg (fun _ => False) w' (w'.ext X) := Chg.of_ext X
  obtain ⟨f1, f2, f3, f4⟩ := h.put hinj hlt e' k' (b + 1) (by omega) (.agg (IC W H C.length g1 k1 g2 k2)) (by
      rcases hb with rfl | rfl
      · simp only [vv]; simp only [Nat.zero_add] at e1 q1 ⊢; simp [e0, e1, q0, q1]
      · simp only [vv]; simp only [Nat.reduceAdd] at e1 q1 ⊢; simp [e0, e1, q0, q1]) (by
      intro j hj hji hdj
      unfold vv
      rcases hb with rfl | rfl
      · rw [eo 2 (by decide) (by decide), ko 2 (by decide) (by decide), eo 3 (by decide) (by decide), ko 3 (by decide) (by decide)]
        have : j = 0 ∨ j = 2 ∨ j = 3 ∨ j = 4 ∨ j = 5 := by omega
        rcases this with rfl | rfl | rfl | rfl | rfl <;> simp [eo]
      · rw [eo 0 (by decide) (by decide), ko 0 (by decide) (by decide), eo 1 (by decide) (by decide), ko 1 (by decide) (by decide)]
        have : j = 0 ∨ j = 1 ∨ j = 2 ∨ j = 4 ∨ j = 5 := by omega
        rcases this with rfl | rfl | rfl | rfl | rfl <;> simp [eo])
  have hsz : (w'.ext X).heap.size = w'.heap.size + X.sz := World.size_ext
  obtain ⟨X0, hX0⟩ := h.world
  have hw0 : w.heap.size ≤ w'.heap.size := by rw [hX0]; simp
  have how : ∀ j, j < 6 → j ≠ b → j ≠ b + 1 → upd d (b + 1) (ow j) = d (ow j) := fun j hj h1 h2 => upd_ne _ (by
    unfold ow; rcases hb with rfl | rfl <;> split <;> (try split) <;> omega)
  have hu : ∀ j, j ≠ b + 1 → upd d (b + 1) j = d j := fun j h => upd_ne _ h
  have A1l := A1.lt
  have A2l := A2.lt
  refine ⟨e', k', f1, f2, f3, f4, ⟨_, by rw [hX0, World.ext_ext]⟩, ?_, ?_, ?_, ?_, ?_, ?_⟩
  · intro j hj hd
    by_cases hjb : j = b
    · subst hjb; rw [e0]; omega
    · by_cases hjb1 : j = b + 1
      · subst hjb1; rw [e1]; omega
      · rw [how j hj hjb hjb1] at hd
        have := h.lo j hj hd
        rw [eo j hjb hjb1]; omega
  · have hbig : ∀ j, j < 6 → upd d (b + 1) (ow j) = true → j ≠ b → j ≠ b + 1 → e' j < w'.heap.size := fun j hj hd h1 h2 => by
      rw [how j hj h1 h2] at hd; rw [eo j h1 h2]; exact (h.lo j hj hd).2
    intro i j hi hj h1 h2 hij
    by_cases ib : i = b
    · subst ib
      by_cases jb1 : j = i + 1
      · subst jb1; rw [e0, e1]; exact hne
      · have := hbig j hj h2 (Ne.symm hij) jb1; rw [e0]; omega
    · by_cases ib1 : i = b + 1
      · subst ib1
        by_cases jb : j = b
        · subst jb; rw [e0, e1]; exact Ne.symm hne
        · have := hbig j hj h2 jb (Ne.symm hij); rw [e1]; omega
      · have hi' := hbig i hi h1 ib ib1
        by_cases jb : j = b
        · subst jb; rw [e0]; omega
        · by_cases jb1 : j = b + 1
          · subst jb1; rw [e1]; omega
          · rw [eo i ib ib1, eo j jb jb1]
            rw [how i hi ib ib1] at h1; rw [how j hj jb jb1] at h2
            exact h.ne i j hi hj h1 h2 hij
  · intro hd
    rcases hb with rfl | rfl
    · simp only [Nat.zero_add] at e1 q1; rw [e0, e1, q0, q1]; exact ⟨A1, A2⟩
    · rw [eo 0 (by decide) (by decide), ko 0 (by decide) (by decide), eo 1 (by decide) (by decide), ko 1 (by decide) (by decide)]
      rw [hu 1 (by decide)] at hd
      exact ⟨(h.c0 hd).1.chg hC id, (h.c0 hd).2.chg hC id⟩
  · intro hd
    rcases hb with rfl | rfl
    · rw [eo 2 (by decide) (by decide), ko 2 (by decide) (by decide), eo 3 (by decide) (by decide), ko 3 (by decide) (by decide)]
      rw [hu 3 (by decide)] at hd
      exact ⟨(h.c1 hd).1.chg hC id, (h.c1 hd).2.chg hC id⟩
    · simp only [Nat.reduceAdd] at e1 q1; rw [e0, e1, q0, q1]; exact ⟨A1, A2⟩
  · intro hd
    rw [hu 4 (by omega)] at hd
    rw [hu 6 (by omega), eo 4 (by omega) (by omega)]
    have := hC.row (h.r4 hd) id
    rcases hb with rfl | rfl
    · simp only [if_true] at h6; rw [h6] at this ⊢; exact this
    · rw [eo 0 (by decide) (by decide), ko 0 (by decide) (by decide), eo 1 (by decide) (by decide), ko 1 (by decide) (by decide)]; exact this
  · intro hd
    rw [hu 5 (by omega)] at hd
    rw [hu 7 (by omega), eo 5 (by omega) (by omega)]
    have := hC.row (h.r5 hd) id
    rcases hb with rfl | rfl
    · rw [eo 2 (by decide) (by decide), ko 2 (by decide) (by decide), eo 3 (by decide) (by decide), ko 3 (by decide) (by decide)]; exact this
    · simp only [if_neg (show ¬ (2 : Nat) = 0 by decide)] at h6; rw [h6] at this ⊢; exact this
theorem CI.alloc (h : CI w a W H C Z V σ e k d a' w') (hinj : ∀ i j, i < 6 → j < 6 → σ i = σ j → i = j) (hlt : ∀ i, i < 6 → σ i < a.tmps.size) (t : Nat) (ht : t = 4 ∨ t = 5) (hd0 : d t = false) (h6 : d (t + 2) = false) :
    ∃ e' k', CI w a W H C Z V σ e' k' (upd d t) (a'.put (some (σ t)) (ptr w'.heap.size)) (w'.alloc (.cells c0I 24)) := by
  obtain ⟨e', he'⟩ : ∃ e' : Nat → Nat, ∀ j, e' j = if j = t then w'.heap.size else e j := ⟨_, fun _ => rfl⟩
  have eo : ∀ j, j ≠ t → e' j = e j := fun j h1 => by rw [he', if_neg h1]
  have e0 : e' t = w'.heap.size := by rw [he', if_pos rfl]
  have hC : Chg (fun _ => False) w' (w'.alloc (.cells c0I 24)) := Chg.refl.alloc _
  obtain ⟨f1, f2, f3, f4⟩ := h.put hinj hlt e' k t (by omega) (ptr w'.heap.size) (by
      rcases ht with rfl | rfl <;> simp [vv, e0]) (by
      intro j hj hji hdj
      unfold vv
      rw [eo 0 (by omega), eo 1 (by omega), eo 2 (by omega), eo 3 (by omega), eo j hji])
  have hsz : (w'.alloc (.cells c0I 24)).heap.size = w'.heap.size + 1 := by rw [World.hp_alloc, Array.size_push]
  obtain ⟨X0, hX0⟩ := h.world
  have hw0 : w.heap.size ≤ w'.heap.size := by rw [hX0]; simp
  have how : ∀ j, j < 6 → j ≠ t → upd d t (ow j) = d (ow j) := fun j hj h1 => upd_ne _ (by
    unfold ow; rcases ht with rfl | rfl <;> split <;> (try split) <;> omega)
  have hu : ∀ j, j ≠ t → upd d t j = d j := fun j h => upd_ne _ h
  refine ⟨e', k, f1, f2, f3, f4, ?_, ?_, ?_, ?_, ?_, ?_, ?_⟩
  · rw [hX0]; exact Below.toExt ((Below.refl _ _).ext (Nat.le_refl _) X0 |>.alloc (by simp) _)
  · intro j hj hd
    rw [hsz]
    by_cases hjb : j = t
    · subst hjb; rw [e0]; omega
    · rw [how j hj hjb] at hd
      have := h.lo j hj hd
      rw [eo j hjb]; omega
  · intro i j hi hj h1 h2 hij
    by_cases ib : i = t
    · subst ib
      rw [how j hj (Ne.symm hij)] at h2
      have := h.lo j hj h2
      rw [e0, eo j (Ne.symm hij)]; omega
    · rw [how i hi ib] at h1
      have hi' := h.lo i hi h1
      by_cases jb : j = t
      · subst jb; rw [e0, eo i ib]; omega
      · rw [how j hj jb] at h2
        rw [eo i ib, eo j jb]; exact h.ne i j hi hj h1 h2 hij
  · intro hd
    rw [hu 1 (by omega)] at hd
    rw [eo 0 (by omega), eo 1 (by omega)]
    exact ⟨(h.c0 hd).1.chg hC id, (h.c0 hd).2.chg hC id⟩
  · intro hd
    rw [hu 3 (by omega)] at hd
    rw [eo 2 (by omega), eo 3 (by omega)]
    exact ⟨(h.c1 hd).1.chg hC id, (h.c1 hd).2.chg hC id⟩
  · intro hd
    rw [hu 6 (by omega), eo 0 (by omega), eo 1 (by omega)]
    rcases ht with rfl | rfl
    · simp only [Nat.reduceAdd] at h6; rw [h6, e0]; exact row_last rfl
    · rw [hu 4 (by decide)] at hd; rw [eo 4 (by decide)]; exact hC.row (h.r4 hd) id
  · intro hd
    rw [hu 7 (by omega), eo 2 (by omega), eo 3 (by omega)]
    rcases ht with rfl | rfl
    · rw [hu 5 (by decide)] at hd; rw [eo 5 (by decide)]; exact hC.row (h.r5 hd) id
    · simp only [Nat.reduceAdd] at h6; rw [h6, e0]; exact row_last rfl
theorem CI.store (h : CI w a W H C Z V σ e k d a' w') (t : Nat) (ht : t = 6 ∨ t = 7) (hall : ∀ j, j < 6 → d j = true) :
    CI w a W H C Z V σ e k (upd d t) a' (w'.setRow (e (t - 2)) (if t = 6 then IC W H C.length (e 0) (k 0) (e 1) (k 1) else IC W H C.length (e 2) (k 2) (e 3) (k 3))) := by
  have hu : ∀ j, j ≠ t → upd d t j = d j := fun j h => upd_ne _ h
  have how : ∀ j, j < 6 → d (ow j) = true := fun j hj => hall _ (by unfold ow; split <;> (try split) <;> omega)
  have how' : ∀ j, j < 6 → upd d t (ow j) = true := fun j hj => (upd_eq _ _ _).2 (.inr (how j hj))
  have hoth : ∀ (g : Nat) (cs : Array Value) (b : Nat) (c : Array Value) (T : TypeId), Row w' b c T → b ≠ g → Row (w'.setRow g cs) b c T := fun g cs b c T hr hne => by
    unfold Row; rw [setRow_other w' g b cs hne]; exact hr
  have aoth : ∀ (g : Nat) (cs : Array Value) (b cap : Nat) (xs : List Int), Arr w' b cap xs → b ≠ g → Arr (w'.setRow g cs) b cap xs := fun g cs b cap xs ⟨h1, cur, h2, h3⟩ hne =>
    ⟨h1, cur, hoth g cs b _ _ h2 hne, h3⟩
  have hne : ∀ i j, i < 6 → j < 6 → i ≠ j → e i ≠ e j := fun i j hi hj hij => h.ne i j hi hj (how i hi) (how j hj) hij
  have hlo := h.lo (t - 2) (by omega) (how _ (by omega))
  refine ⟨h.size, h.defers, h.off, fun i hi hd => h.on i hi (hall i hi), ?_, fun j hj _ => by rw [size_setRow]; exact h.lo j hj (how j hj), fun i j hi hj _ _ hij => hne i j hi hj hij, ?_, ?_, ?_, ?_⟩
  · obtain ⟨X0, hX0⟩ := h.world
    refine Below.toExt ?_
    refine ⟨?_, ?_, ?_, by rw [size_setRow, hX0]; simp, fun j hj => ?_⟩
    · rw [hX0]; rfl
    · rw [hX0]; rfl
    · rw [hX0]; rfl
    · rw [setRow_other w' _ j _ (by omega), hX0]; exact World.heap_ext hj
  · intro _
    have hA := h.c0 (hall 1 (by decide))
    exact ⟨aoth _ _ _ _ _ hA.1 (hne _ _ (by decide) (by omega) (by omega)), aoth _ _ _ _ _ hA.2 (hne _ _ (by decide) (by omega) (by omega))⟩
  · intro _
    have hA := h.c1 (hall 3 (by decide))
    exact ⟨aoth _ _ _ _ _ hA.1 (hne _ _ (by decide) (by omega) (by omega)), aoth _ _ _ _ _ hA.2 (hne _ _ (by decide) (by omega) (by omega))⟩
  · intro _
    have hR := h.r4 (hall 4 (by decide))
    rcases ht with rfl | rfl
    · rw [show upd d 6 6 = true from by simp [upd]]
      exact setRow_heap _ _ _ _ _ _ hR
    · rw [hu 6 (by decide)]
      exact hoth _ _ _ _ _ hR (hne 4 5 (by decide) (by decide) (by decide))
  · intro _
    have hR := h.r5 (hall 5 (by decide))
    rcases ht with rfl | rfl
    · rw [hu 7 (by decide)]
      exact hoth _ _ _ _ _ hR (hne 5 4 (by decide) (by decide) (by decide))
    · rw [show upd d 7 7 = true from by simp [upd]]
      exact setRow_heap _ _ _ _ _ _ hR
end
/-- The slots of a copying of two. -/
def sg (s0 s1 s2 s3 d1 d2 : Tmp) (i : Nat) : Tmp := if i = 0 then s0 else if i = 1 then s1 else if i = 2 then s2 else if i = 3 then s3 else if i = 4 then d1 else d2
theorem six {p : Nat → Prop} (h0 : p 0) (h1 : p 1) (h2 : p 2) (h3 : p 3) (h4 : p 4) (h5 : p 5) : ∀ j, j < 6 → p j := by
  intro j hj
  have : j = 0 ∨ j = 1 ∨ j = 2 ∨ j = 3 ∨ j = 4 ∨ j = 5 := by omega
  rcases this with rfl | rfl | rfl | rfl | rfl | rfl <;> assumption
abbrev ops2 (m s0 s1 s2 s3 d1 d2 : Tmp) (q0 q1 q2 q3 q4 q5 q6 q7 : String) : Array Oper :=
  #[{ dst := some s0, op := .load 24 (.tmp m), type := 24, pos := q0, after := #[], guard := none },
    { dst := some s1, op := .call { callee := .value (.func 8), args := #[.tmp s0], argTypes := #[24] }, type := 24, pos := q1, after := #[{ on := 0, ground := .data }], guard := none },
    { dst := some s2, op := .load 24 (.tmp m), type := 24, pos := q2, after := #[], guard := none },
    { dst := some s3, op := .call { callee := .value (.func 8), args := #[.tmp s2], argTypes := #[24] }, type := 24, pos := q3, after := #[{ on := 2, ground := .data }, { on := 1, ground := .chain }], guard := none },
    { dst := some d1, op := .alloc 24, type := 0, pos := q4, after := #[], guard := none },
    { dst := some d2, op := .alloc 24, type := 0, pos := q5, after := #[], guard := none },
    { dst := none, op := .store 24 (.tmp d1) (.tmp s1), type := 0, pos := q6, after := #[{ on := 4, ground := .data }, { on := 1, ground := .data }, { on := 3, ground := .chain }, { on := 0, ground := .phase }, { on := 1, ground := .phase }, { on := 2, ground := .textOnly .lateStores }, { on := 3, ground := .phase }, { on := 4, ground := .phase }, { on := 5, ground := .phase }], guard := none },
    { dst := none, op := .store 24 (.tmp d2) (.tmp s3), type := 0, pos := q7, after := #[{ on := 5, ground := .data }, { on := 3, ground := .data }, { on := 6, ground := .chain }, { on := 0, ground := .phase }, { on := 1, ground := .phase }, { on := 2, ground := .phase }, { on := 3, ground := .phase }, { on := 4, ground := .phase }, { on := 5, ground := .phase }, { on := 6, ground := .phase }], guard := none }]
theorem put_some {a : Act} {v : Value} {d s : Tmp} : (a.put (some d) v).tmps[s]? = if d = s then (a.tmps[s]?).map (fun _ => v) else a.tmps[s]? := Act.put_at rfl
/-- Two images of their own, apart. -/
structure Two (w wx : World) (W H : Int) (C Z : List Int) (pa g1 k1 g2 k2 pb g3 k3 g4 k4 : Nat) : Prop where
  a : Img wx pa g1 k1 g2 k2 W H C Z
  b : Img wx pb g3 k3 g4 k4 W H C Z
  lo : w.heap.size ≤ pa ∧ w.heap.size ≤ g1 ∧ w.heap.size ≤ g2 ∧ w.heap.size ≤ pb ∧ w.heap.size ≤ g3 ∧ w.heap.size ≤ g4
  ap : (pb ≠ g1 ∧ pb ≠ g2 ∧ g3 ≠ g1 ∧ g3 ≠ g2 ∧ g4 ≠ g1 ∧ g4 ≠ g2) ∧ (pa ≠ g3 ∧ pa ≠ g4) ∧ pa ≠ pb
theorem Img.drew {w : World} {bm g1 k1 g2 k2 : Nat} {W H : Int} {C Z : List Int} (h : Img w bm g1 k1 g2 k2 W H C Z) : Img w.drew bm g1 k1 g2 k2 W H C Z := h.chg (p := fun _ => False) Chg.refl.drew id id id
theorem Img.alloc {w : World} {bm g1 k1 g2 k2 : Nat} {W H : Int} {C Z : List Int} (h : Img w bm g1 k1 g2 k2 W H C Z) (o : Obj) : Img (w.alloc o) bm g1 k1 g2 k2 W H C Z := h.chg (p := fun _ => False) (Chg.refl.alloc o) id id id
/-- Two images, apart, behind what was there. -/
structure Pair (w wx : World) (W H : Int) (Ca Za Cb Zb : List Int) (pa g1 k1 g2 k2 pb g3 k3 g4 k4 : Nat) : Prop where
  a : Img wx pa g1 k1 g2 k2 W H Ca Za
  b : Img wx pb g3 k3 g4 k4 W H Cb Zb
  lo : w.heap.size ≤ pa ∧ w.heap.size ≤ g1 ∧ w.heap.size ≤ g2 ∧ w.heap.size ≤ pb ∧ w.heap.size ≤ g3 ∧ w.heap.size ≤ g4
  ap : (pb ≠ g1 ∧ pb ≠ g2 ∧ g3 ≠ g1 ∧ g3 ≠ g2 ∧ g4 ≠ g1 ∧ g4 ≠ g2) ∧ (pa ≠ g3 ∧ pa ≠ g4) ∧ pa ≠ pb
  bel : Below w.heap.size w wx
section
variable {w wx w1 : World} {W H : Int} {Ca Za Cb Zb C' Z' : List Int} {pa g1 k1 g2 k2 pb g3 k3 g4 k4 : Nat} {p : Nat → Prop}
theorem Below.chg {B : Nat} {w0 : World} (h : Below B w0 wx) (hc : Chg p wx w1) (hB : B ≤ wx.heap.size) (hp : ∀ k, k < B → ¬ p k) : Below B w0 w1 := h.trans (hc.below hp hB)
theorem Pair.stepA (h : Pair w wx W H Ca Za Cb Zb pa g1 k1 g2 k2 pb g3 k3 g4 k4) (hc : Chg p wx w1) (hp : ∀ k, p k → k = g1 ∨ k = g2) (hI : Img w1 pa g1 k1 g2 k2 W H C' Z') : Pair w w1 W H C' Z' Cb Zb pa g1 k1 g2 k2 pb g3 k3 g4 k4 := by
  obtain ⟨a, b, lo, ap, bel⟩ := h
  exact ⟨hI, b.chg hc (fun h => by have := hp _ h; omega) (fun h => by have := hp _ h; omega) (fun h => by have := hp _ h; omega), lo, ap, Below.chg bel hc bel.size fun k hk h => by have := hp _ h; omega⟩
theorem Pair.stepB (h : Pair w wx W H Ca Za Cb Zb pa g1 k1 g2 k2 pb g3 k3 g4 k4) (hc : Chg p wx w1) (hp : ∀ k, p k → k = g3 ∨ k = g4) (hI : Img w1 pb g3 k3 g4 k4 W H C' Z') : Pair w w1 W H Ca Za C' Z' pa g1 k1 g2 k2 pb g3 k3 g4 k4 := by
  obtain ⟨a, b, lo, ap, bel⟩ := h
  exact ⟨a.chg hc (fun h => by have := hp _ h; omega) (fun h => by have := hp _ h; omega) (fun h => by have := hp _ h; omega), hI, lo, ap, Below.chg bel hc bel.size fun k hk h => by have := hp _ h; omega⟩
theorem Pair.drew (h : Pair w wx W H Ca Za Cb Zb pa g1 k1 g2 k2 pb g3 k3 g4 k4) : Pair w wx.drew W H Ca Za Cb Zb pa g1 k1 g2 k2 pb g3 k3 g4 k4 := ⟨h.a.drew, h.b.drew, h.lo, h.ap, h.bel.drew⟩
theorem Pair.ext (h : Pair w wx W H Ca Za Cb Zb pa g1 k1 g2 k2 pb g3 k3 g4 k4) (X : Xt) : Pair w (wx.ext X) W H Ca Za Cb Zb pa g1 k1 g2 k2 pb g3 k3 g4 k4 := ⟨h.a.ext X, h.b.ext X, h.lo, h.ap, h.bel.ext h.bel.size X⟩
theorem Pair.keep (h : Pair w wx W H Ca Za Cb Zb pa g1 k1 g2 k2 pb g3 k3 g4 k4) (hc : Chg p wx w1) (hp : ∀ k, p k → k = g1 ∨ k = g2 ∨ k = g3 ∨ k = g4) {b : Nat} {c : Array Value} {T : TypeId} (hr : Row wx b c T) (hb : b < w.heap.size) : Row w1 b c T :=
  hc.row hr fun h' => by have := hp _ h'; have := h.lo; omega
end
set_option maxHeartbeats 400000 in
theorem wp_copies2 {id : Nat} {Q : Exit → Act → World → Prop} {a : Act} {w : World} {W H : Int} {C Z : List Int} {c z : Value} {m s0 s1 s2 s3 d1 d2 : Tmp} {q0 q1 q2 q3 q4 q5 q6 q7 : String} (bm : Nat) (hok : ImOk W H C Z) (hc : Rd w c C) (hz : Rd w z Z)
    (hmv : a.tmps[m]? = some (.pointer (some ⟨bm, 0, none⟩))) (hrow : Row w bm #[.int .i64 W, .int .i64 H, c, z] 24)
    (hinj : ∀ i, i < 6 → ∀ j, j < 6 → sg s0 s1 s2 s3 d1 d2 i = sg s0 s1 s2 s3 d1 d2 j → i = j) (hlt : ∀ i, i < 6 → sg s0 s1 s2 s3 d1 d2 i < a.tmps.size) (hmo : ∀ i, i < 6 → sg s0 s1 s2 s3 d1 d2 i ≠ m)
    (h : ∀ X pa g1 k1 g2 k2 pb g3 k3 g4 k4, Two w (w.ext X) W H C Z pa g1 k1 g2 k2 pb g3 k3 g4 k4 →
      Q .normal ((((((a.put (some s0) (Im W H c z)).put (some s1) (.agg (IC W H C.length g1 k1 g2 k2))).put (some s2) (Im W H c z)).put (some s3) (.agg (IC W H C.length g3 k3 g4 k4))).put (some d1) (ptr pa)).put (some d2) (ptr pb)) (w.ext X)) :
    (Code.region id (ops2 m s0 s1 s2 s3 d1 d2 q0 q1 q2 q3 q4 q5 q6 q7) true).wp Try.prog Q a w := by
  have hinj' : ∀ i j, i < 6 → j < 6 → sg s0 s1 s2 s3 d1 d2 i = sg s0 s1 s2 s3 d1 d2 j → i = j := fun i j hi hj => hinj i hi j hj
  refine wp_region_inv (fun d a' w' => (∃ e k, CI w a W H C Z (Im W H c z) (sg s0 s1 s2 s3 d1 d2) e k d a' w') ∧ (d 6 = true → ∀ j, j < 6 → d j = true) ∧ (d 7 = true → ∀ j, j < 6 → d j = true) ∧ (d 3 = true → d 2 = true)) (by kernel_rfl) (by kernel_rfl) ?_ ?_ ?_
  · have no : ∀ {p : Prop}, (false = true) → p := fun h => Bool.noConfusion h
    exact ⟨⟨fun _ => 0, fun _ => 0, ⟨rfl, rfl, fun _ _ => rfl, fun _ _ h => no h, ⟨⟨#[], w.drawn + 1⟩, by show ({ w with drawn := w.drawn + 1 } : World) = _; simp [World.ext]⟩, fun _ _ h => no h, fun _ _ _ _ h => no h, fun h => no h, fun h => no h, fun h => no h, fun h => no h⟩⟩, fun h => no h, fun h => no h, fun h => no h⟩
  · intro i o ho d a' w' ⟨⟨e, k, inv⟩, h6, h7, h32⟩ hd hw
    have hi : i < 8 := by simpa using (Array.getElem?_eq_some_iff.1 ho).1
    obtain ⟨X0, hX0⟩ := inv.world
    have l32 : i ≠ 3 → upd d i 3 = true → upd d i 2 = true := fun hi3 h => (upd_eq _ _ _).2 (.inr (h32 (by rwa [upd_ne _ (Ne.symm hi3)] at h)))
    have late : ∀ t, t ≠ i → (d t = true → ∀ j, j < 6 → d j = true) → upd d i t = true → ∀ j, j < 6 → upd d i j = true := fun t ht h1 h2 j hj => by
      rw [upd_ne _ ht] at h2; exact (upd_eq _ _ _).2 (.inr (h1 h2 j hj))
    have hmv' : a'.eval (.tmp m) = .pointer (some ⟨bm, 0, none⟩) := by
      have := inv.off m hmo
      simp [Act.eval, Array.getD_eq_getD_getElem?, this, hmv]
    have hev : ∀ j, j < 6 → d j = true → a'.eval (.tmp (sg s0 s1 s2 s3 d1 d2 j)) = vv W H C.length (Im W H c z) e k j := fun j hj hdj => by
      simp [Act.eval, Array.getD_eq_getD_getElem?, inv.on j hj hdj]
    have no6 : ∀ j, j < 6 → d j = false → d 6 = false := fun j hj hdj => by
      cases h : d 6 with
      | false => rfl
      | true => have := h6 h j hj; rw [this] at hdj; cases hdj
    have no7 : ∀ j, j < 6 → d j = false → d 7 = false := fun j hj hdj => by
      cases h : d 7 with
      | false => rfl
      | true => have := h7 h j hj; rw [this] at hdj; cases hdj
    have hrow' : Row w' bm #[.int .i64 W, .int .i64 H, c, z] 24 := by rw [hX0]; exact hrow.ext X0
    have hcase : i = 0 ∨ i = 1 ∨ i = 2 ∨ i = 3 ∨ i = 4 ∨ i = 5 ∨ i = 6 ∨ i = 7 := by omega
    rcases hcase with rfl | rfl | rfl | rfl | rfl | rfl | rfl | rfl
    · simp at ho; subst ho
      refine wp_load_row 24 (.tmp m) rfl bm hmv' 24 _ (0, 0) _ hrow' Try.underlying24 rfl (by kernel_rfl) ?_
      exact ⟨⟨e, k, inv.load hinj' hlt 0 (.inl rfl)⟩, late 6 (by decide) h6, late 7 (by decide) h7, l32 (by decide)⟩
    · simp at ho; subst ho
      have d0 : d 0 = true := hw { on := 0, ground := .data } (by simp) rfl
      have hv := hev 0 (by decide) d0
      simp only [sg, vv, Nat.reduceEqDiff, reduceIte] at hv
      have hcall : (execOp a'.eval { dst := some s1, op := .call { callee := .value (.func 8), args := #[.tmp s0], argTypes := #[24] }, type := 24, pos := q1, after := #[{ on := 0, ground := .data }], guard := none }).run Try.prog w' = .ok (.enter 8 #[Im W H c z]) w' := by
        simp only [execOp, resolve, List.map_toArray, List.map_cons, List.map_nil, hv]
        kernel_rfl
      unfold Oper.wp
      rw [hcall, Oper.upon_enter]
      refine (rcopy_is W H c z C Z w' (by rw [hX0]; exact hc.ext X0) (by rw [hX0]; exact hz.ext X0) hok).mono ?_
      rintro _ w2 ⟨g1, k1, g2, k2, rfl, ⟨X, rfl⟩, A1, A2, b1, b2, ne⟩
      obtain ⟨e', k', inv'⟩ := inv.call hinj' hlt 0 (.inl rfl) hd (no6 1 (by decide) hd) g1 k1 g2 k2 X A1 A2 b1 b2 ne
      exact ⟨⟨e', k', inv'⟩, late 6 (by decide) h6, late 7 (by decide) h7, l32 (by decide)⟩
    · simp at ho; subst ho
      refine wp_load_row 24 (.tmp m) rfl bm hmv' 24 _ (0, 0) _ hrow' Try.underlying24 rfl (by kernel_rfl) ?_
      exact ⟨⟨e, k, inv.load hinj' hlt 2 (.inr rfl)⟩, late 6 (by decide) h6, late 7 (by decide) h7, l32 (by decide)⟩
    · simp at ho; subst ho
      have d0 : d 2 = true := hw { on := 2, ground := .data } (by simp) rfl
      have hv := hev 2 (by decide) d0
      simp only [sg, vv, Nat.reduceEqDiff, reduceIte] at hv
      have hcall : (execOp a'.eval { dst := some s3, op := .call { callee := .value (.func 8), args := #[.tmp s2], argTypes := #[24] }, type := 24, pos := q3, after := #[{ on := 2, ground := .data }, { on := 1, ground := .chain }], guard := none }).run Try.prog w' = .ok (.enter 8 #[Im W H c z]) w' := by
        simp only [execOp, resolve, List.map_toArray, List.map_cons, List.map_nil, hv]
        kernel_rfl
      unfold Oper.wp
      rw [hcall, Oper.upon_enter]
      refine (rcopy_is W H c z C Z w' (by rw [hX0]; exact hc.ext X0) (by rw [hX0]; exact hz.ext X0) hok).mono ?_
      rintro _ w2 ⟨g1, k1, g2, k2, rfl, ⟨X, rfl⟩, A1, A2, b1, b2, ne⟩
      obtain ⟨e', k', inv'⟩ := inv.call hinj' hlt 2 (.inr rfl) hd (no7 3 (by decide) hd) g1 k1 g2 k2 X A1 A2 b1 b2 ne
      exact ⟨⟨e', k', inv'⟩, late 6 (by decide) h6, late 7 (by decide) h7, (fun _ => (upd_eq _ _ _).2 (.inr d0))⟩
    · simp at ho; subst ho
      obtain ⟨e', k', inv'⟩ := inv.alloc hinj' hlt 4 (.inl rfl) hd (no6 4 (by decide) hd)
      unfold Oper.wp
      have : (execOp a'.eval { dst := some d1, op := .alloc 24, type := 0, pos := q4, after := #[], guard := none }).run Try.prog w' = .ok (.value (ptr w'.heap.size)) (w'.alloc (.cells c0I 24)) := by
        simp [execOp, Instr.alloc, newVar, Try.zeroValue24, Sem.run_bind, Result.andThen, Value.cells, ptr, newRow, newObj, Sem.run]
      rw [this]
      exact ⟨⟨e', k', inv'⟩, late 6 (by decide) h6, late 7 (by decide) h7, l32 (by decide)⟩
    · simp at ho; subst ho
      obtain ⟨e', k', inv'⟩ := inv.alloc hinj' hlt 5 (.inr rfl) hd (no7 5 (by decide) hd)
      unfold Oper.wp
      have : (execOp a'.eval { dst := some d2, op := .alloc 24, type := 0, pos := q5, after := #[], guard := none }).run Try.prog w' = .ok (.value (ptr w'.heap.size)) (w'.alloc (.cells c0I 24)) := by
        simp [execOp, Instr.alloc, newVar, Try.zeroValue24, Sem.run_bind, Result.andThen, Value.cells, ptr, newRow, newObj, Sem.run]
      rw [this]
      exact ⟨⟨e', k', inv'⟩, late 6 (by decide) h6, late 7 (by decide) h7, l32 (by decide)⟩
    · simp at ho; subst ho
      have hall : ∀ j, j < 6 → d j = true := six (hw { on := 0, ground := .phase } (by simp) rfl) (hw { on := 1, ground := .phase } (by simp) rfl) (h32 (hw { on := 3, ground := .phase } (by simp) rfl)) (hw { on := 3, ground := .phase } (by simp) rfl) (hw { on := 4, ground := .phase } (by simp) rfl) (hw { on := 5, ground := .phase } (by simp) rfl)
      have hv := hev 1 (by decide) (hall _ (by decide))
      have hp := hev 4 (by decide) (hall _ (by decide))
      simp only [sg, vv, Nat.reduceEqDiff, reduceIte] at hv hp
      have hrt := inv.r4 (hall _ (by decide))
      rw [if_neg (by rw [hd]; decide)] at hrt
      have h1 := run_storeVar_row (P := Try.prog) w' (e 4) 24 24 c0I (IC W H C.length (e 0) (k 0) (e 1) (k 1)) hrt (by kernel_rfl) rfl (by simp [Value.oneCell'])
      have hrun : ∀ aft ps, (execOp a'.eval { dst := none, op := .store 24 (.tmp d1) (.tmp s1), type := 0, pos := ps, after := aft, guard := none }).run Try.prog w' = .ok .skip (w'.setRow (e 4) (IC W H C.length (e 0) (k 0) (e 1) (k 1))) := fun aft ps => by
        simp only [execOp, hv, hp, ptr, Instr.storeAt, Instr.sureAddr, Sem.run_bind, Sem.run_pure, Result.andThen]
        rw [h1]
      unfold Oper.wp
      rw [hrun]
      have inv' := inv.store 6 (.inl rfl) hall
      exact ⟨⟨e, k, inv'⟩, fun _ j hj => (upd_eq _ _ _).2 (.inr (hall j hj)), fun _ j hj => (upd_eq _ _ _).2 (.inr (hall j hj)), l32 (by decide)⟩
    · simp at ho; subst ho
      have hall : ∀ j, j < 6 → d j = true := six (hw { on := 0, ground := .phase } (by simp) rfl) (hw { on := 1, ground := .phase } (by simp) rfl) (h32 (hw { on := 3, ground := .phase } (by simp) rfl)) (hw { on := 3, ground := .phase } (by simp) rfl) (hw { on := 4, ground := .phase } (by simp) rfl) (hw { on := 5, ground := .phase } (by simp) rfl)
      have hv := hev 3 (by decide) (hall _ (by decide))
      have hp := hev 5 (by decide) (hall _ (by decide))
      simp only [sg, vv, Nat.reduceEqDiff, reduceIte] at hv hp
      have hrt := inv.r5 (hall _ (by decide))
      rw [if_neg (by rw [hd]; decide)] at hrt
      have h1 := run_storeVar_row (P := Try.prog) w' (e 5) 24 24 c0I (IC W H C.length (e 2) (k 2) (e 3) (k 3)) hrt (by kernel_rfl) rfl (by simp [Value.oneCell'])
      have hrun : ∀ aft ps, (execOp a'.eval { dst := none, op := .store 24 (.tmp d2) (.tmp s3), type := 0, pos := ps, after := aft, guard := none }).run Try.prog w' = .ok .skip (w'.setRow (e 5) (IC W H C.length (e 2) (k 2) (e 3) (k 3))) := fun aft ps => by
        simp only [execOp, hv, hp, ptr, Instr.storeAt, Instr.sureAddr, Sem.run_bind, Sem.run_pure, Result.andThen]
        rw [h1]
      unfold Oper.wp
      rw [hrun]
      have inv' := inv.store 7 (.inr rfl) hall
      exact ⟨⟨e, k, inv'⟩, fun _ j hj => (upd_eq _ _ _).2 (.inr (hall j hj)), fun _ j hj => (upd_eq _ _ _).2 (.inr (hall j hj)), l32 (by decide)⟩
  · intro d a' w' ⟨⟨e, k, inv⟩, h6, h7, h32⟩ hall
    have hall' : ∀ j, j < 8 → d j = true := fun j hj => hall j (by simpa using hj)
    obtain ⟨X0, rfl⟩ := inv.world
    have hn := fun i j hi hj hij => inv.ne i j hi hj (hall' _ (by unfold ow; split <;> (try split) <;> omega)) (hall' _ (by unfold ow; split <;> (try split) <;> omega)) hij
    have hl := fun j hj => inv.lo j hj (hall' _ (by unfold ow; split <;> (try split) <;> omega))
    have r4 := inv.r4 (hall' 4 (by decide))
    have r5 := inv.r5 (hall' 5 (by decide))
    rw [if_pos (hall' 6 (by decide))] at r4
    rw [if_pos (hall' 7 (by decide))] at r5
    have c0 := inv.c0 (hall' 1 (by decide))
    have c1 := inv.c1 (hall' 3 (by decide))
    have HH := h X0 (e 4) (e 0) (k 0) (e 1) (k 1) (e 5) (e 2) (k 2) (e 3) (k 3) ⟨⟨hok, r4, c0.1, c0.2, hn _ _ (by decide) (by decide) (by decide), hn _ _ (by decide) (by decide) (by decide), hn _ _ (by decide) (by decide) (by decide)⟩,
      ⟨hok, r5, c1.1, c1.2, hn _ _ (by decide) (by decide) (by decide), hn _ _ (by decide) (by decide) (by decide), hn _ _ (by decide) (by decide) (by decide)⟩,
      ⟨(hl 4 (by decide)).1, (hl 0 (by decide)).1, (hl 1 (by decide)).1, (hl 5 (by decide)).1, (hl 2 (by decide)).1, (hl 3 (by decide)).1⟩,
      ⟨⟨hn _ _ (by decide) (by decide) (by decide), hn _ _ (by decide) (by decide) (by decide), hn _ _ (by decide) (by decide) (by decide), hn _ _ (by decide) (by decide) (by decide), hn _ _ (by decide) (by decide) (by decide), hn _ _ (by decide) (by decide) (by decide)⟩,
        ⟨hn _ _ (by decide) (by decide) (by decide), hn _ _ (by decide) (by decide) (by decide)⟩, hn _ _ (by decide) (by decide) (by decide)⟩⟩
    have heq : a' = ((((((a.put (some s0) (Im W H c z)).put (some s1) (.agg (IC W H C.length (e 0) (k 0) (e 1) (k 1)))).put (some s2) (Im W H c z)).put (some s3) (.agg (IC W H C.length (e 2) (k 2) (e 3) (k 3)))).put (some d1) (ptr (e 4))).put (some d2) (ptr (e 5))) := by
      have n01 : ¬ s0 = s1 := fun e => absurd (hinj 0 (by decide) 1 (by decide) e) (by decide)
      have n02 : ¬ s0 = s2 := fun e => absurd (hinj 0 (by decide) 2 (by decide) e) (by decide)
      have n03 : ¬ s0 = s3 := fun e => absurd (hinj 0 (by decide) 3 (by decide) e) (by decide)
      have n04 : ¬ s0 = d1 := fun e => absurd (hinj 0 (by decide) 4 (by decide) e) (by decide)
      have n05 : ¬ s0 = d2 := fun e => absurd (hinj 0 (by decide) 5 (by decide) e) (by decide)
      have n10 : ¬ s1 = s0 := fun e => absurd (hinj 1 (by decide) 0 (by decide) e) (by decide)
      have n12 : ¬ s1 = s2 := fun e => absurd (hinj 1 (by decide) 2 (by decide) e) (by decide)
      have n13 : ¬ s1 = s3 := fun e => absurd (hinj 1 (by decide) 3 (by decide) e) (by decide)
      have n14 : ¬ s1 = d1 := fun e => absurd (hinj 1 (by decide) 4 (by decide) e) (by decide)
      have n15 : ¬ s1 = d2 := fun e => absurd (hinj 1 (by decide) 5 (by decide) e) (by decide)
      have n20 : ¬ s2 = s0 := fun e => absurd (hinj 2 (by decide) 0 (by decide) e) (by decide)
      have n21 : ¬ s2 = s1 := fun e => absurd (hinj 2 (by decide) 1 (by decide) e) (by decide)
      have n23 : ¬ s2 = s3 := fun e => absurd (hinj 2 (by decide) 3 (by decide) e) (by decide)
      have n24 : ¬ s2 = d1 := fun e => absurd (hinj 2 (by decide) 4 (by decide) e) (by decide)
      have n25 : ¬ s2 = d2 := fun e => absurd (hinj 2 (by decide) 5 (by decide) e) (by decide)
      have n30 : ¬ s3 = s0 := fun e => absurd (hinj 3 (by decide) 0 (by decide) e) (by decide)
      have n31 : ¬ s3 = s1 := fun e => absurd (hinj 3 (by decide) 1 (by decide) e) (by decide)
      have n32 : ¬ s3 = s2 := fun e => absurd (hinj 3 (by decide) 2 (by decide) e) (by decide)
      have n34 : ¬ s3 = d1 := fun e => absurd (hinj 3 (by decide) 4 (by decide) e) (by decide)
      have n35 : ¬ s3 = d2 := fun e => absurd (hinj 3 (by decide) 5 (by decide) e) (by decide)
      have n40 : ¬ d1 = s0 := fun e => absurd (hinj 4 (by decide) 0 (by decide) e) (by decide)
      have n41 : ¬ d1 = s1 := fun e => absurd (hinj 4 (by decide) 1 (by decide) e) (by decide)
      have n42 : ¬ d1 = s2 := fun e => absurd (hinj 4 (by decide) 2 (by decide) e) (by decide)
      have n43 : ¬ d1 = s3 := fun e => absurd (hinj 4 (by decide) 3 (by decide) e) (by decide)
      have n45 : ¬ d1 = d2 := fun e => absurd (hinj 4 (by decide) 5 (by decide) e) (by decide)
      have n50 : ¬ d2 = s0 := fun e => absurd (hinj 5 (by decide) 0 (by decide) e) (by decide)
      have n51 : ¬ d2 = s1 := fun e => absurd (hinj 5 (by decide) 1 (by decide) e) (by decide)
      have n52 : ¬ d2 = s2 := fun e => absurd (hinj 5 (by decide) 2 (by decide) e) (by decide)
      have n53 : ¬ d2 = s3 := fun e => absurd (hinj 5 (by decide) 3 (by decide) e) (by decide)
      have n54 : ¬ d2 = d1 := fun e => absurd (hinj 5 (by decide) 4 (by decide) e) (by decide)
      refine act_ext (by simp [Act.put, inv.size]) (by simp [Act.put, inv.defers]) fun s => ?_
      simp only [put_some]
      by_cases q0 : s0 = s
      · subst q0
        simp only [if_true, n10, if_false, n20, if_false, n30, if_false, n40, if_false, n50, if_false]
        have h1 := inv.on 0 (by decide) (hall' 0 (by decide))
        have h2 := hlt 0 (by decide)
        simp only [sg, vv, Nat.reduceEqDiff, reduceIte] at h1 h2
        rw [h1]; simp [h2]
      by_cases q1 : s1 = s
      · subst q1
        simp only [if_true, n01, if_false, n21, if_false, n31, if_false, n41, if_false, n51, if_false]
        have h1 := inv.on 1 (by decide) (hall' 1 (by decide))
        have h2 := hlt 1 (by decide)
        simp only [sg, vv, Nat.reduceEqDiff, reduceIte] at h1 h2
        rw [h1]; simp [h2]
      by_cases q2 : s2 = s
      · subst q2
        simp only [if_true, n02, if_false, n12, if_false, n32, if_false, n42, if_false, n52, if_false]
        have h1 := inv.on 2 (by decide) (hall' 2 (by decide))
        have h2 := hlt 2 (by decide)
        simp only [sg, vv, Nat.reduceEqDiff, reduceIte] at h1 h2
        rw [h1]; simp [h2]
      by_cases q3 : s3 = s
      · subst q3
        simp only [if_true, n03, if_false, n13, if_false, n23, if_false, n43, if_false, n53, if_false]
        have h1 := inv.on 3 (by decide) (hall' 3 (by decide))
        have h2 := hlt 3 (by decide)
        simp only [sg, vv, Nat.reduceEqDiff, reduceIte] at h1 h2
        rw [h1]; simp [h2]
      by_cases q4 : d1 = s
      · subst q4
        simp only [if_true, n04, if_false, n14, if_false, n24, if_false, n34, if_false, n54, if_false]
        have h1 := inv.on 4 (by decide) (hall' 4 (by decide))
        have h2 := hlt 4 (by decide)
        simp only [sg, vv, Nat.reduceEqDiff, reduceIte] at h1 h2
        rw [h1]; simp [h2]
      by_cases q5 : d2 = s
      · subst q5
        simp only [if_true, n05, if_false, n15, if_false, n25, if_false, n35, if_false, n45, if_false]
        have h1 := inv.on 5 (by decide) (hall' 5 (by decide))
        have h2 := hlt 5 (by decide)
        simp only [sg, vv, Nat.reduceEqDiff, reduceIte] at h1 h2
        rw [h1]; simp [h2]
      simp only [q0, q1, q2, q3, q4, q5, if_false]
      exact inv.off s (six q0 q1 q2 q3 q4 q5)
    rw [heq]; exact HH
end Go.Proofs.Ythcjfanigfgckaa
end
section
/- The walks of layer 23 (store): what a pixel has, in one form for all pixels. Conditions: the image may be. -/
namespace Go.Proofs.Ythcjfanigfgckaa
set_option linter.unusedVariables false
set_option linter.unusedSimpArgs false
set_option maxRecDepth 10000
open Go.RowKit
/-- What a pixel has, as far as it is got. -/
def gotC (f : Int → Int) (W H : Int) (C : List Int) (x y : Int) : Int := if inB W H x y then f (elt C (y * W + x).toNat) else 0
abbrev gotV (W H : Int) (C Z : List Int) (x y : Int) : Value := .tuple #[C4 (gotC up0 W H C x y) (gotC up1 W H C x y) (gotC up2 W H C x y) (gotC up3 W H C x y), .int .i64 (gotC id W H Z x y), .bool (decide (inB W H x y))]
theorem get_is (W H : Int) (c z : Value) (C Z : List Int) (x y : Int) (w : World) (hc : Rd w c C) (hz : Rd w z Z) (h : ImOk W H C Z) (bx0 : -9223372036854775808 ≤ x) (bx1 : x ≤ 9223372036854775807) (by0 : -9223372036854775808 ≤ y) (by1 : y ≤ 9223372036854775807) :
    Calls Try.prog 18 #[Im W H c z, .int .i64 x, .int .i64 y] w (Ret (gotV W H C Z x y) w) := by
  unfold gotV gotC
  by_cases hi : inB W H x y
  · simp only [if_pos hi, id, hi, decide_true]; exact get_in W H c z C Z x y w hc hz h hi
  · simp only [if_neg hi, hi, decide_false]; exact get_out W H c z C Z x y w hc hz h bx0 bx1 by0 by1 hi
end Go.Proofs.Ythcjfanigfgckaa
end
section
/- Layer 23 (store): the k-th pixel, what is got there, and what it is behind a color and a depth that are put. Condition: the image may be. -/
namespace Go.Proofs.Ythcjfanigfgckaa
set_option linter.unusedVariables false
set_option linter.unusedSimpArgs false
set_option maxRecDepth 10000
open Go.RowKit
theorem kth {W H : Int} {C Z : List Int} (h : ImOk W H C Z) {k : Nat} (hk : k < C.length) : inB W H ((k : Int) % W) ((k : Int) / W) ∧ (k : Int) / W * W + (k : Int) % W = k := by
  have w0 := h.w0
  have h1 := Int.emod_nonneg (k : Int) (show W ≠ 0 by omega)
  have h2 := Int.emod_lt_of_pos (k : Int) (show 0 < W by omega)
  have h3 : (k : Int) / W * W + (k : Int) % W = k := by have := Int.mul_ediv_add_emod (k : Int) W; rw [Int.mul_comm]; omega
  have h4 : 0 ≤ (k : Int) / W := Int.ediv_nonneg (by omega) (by omega)
  have hc := h.c
  refine ⟨⟨h1, h2, h4, ?_⟩, h3⟩
  refine Int.ediv_lt_of_lt_mul (by omega) ?_
  rw [Int.mul_comm H W]; omega
theorem kth_of {W H x y : Int} (hi : inB W H x y) : ((y * W + x).toNat : Int) % W = x ∧ ((y * W + x).toNat : Int) / W = y := by
  obtain ⟨x0, x1, y0, y1⟩ := hi
  have := ix_in x0 x1 y0 y1
  have e : ((y * W + x).toNat : Int) = x + y * W := by omega
  rw [e]
  refine ⟨?_, ?_⟩
  · rw [Int.add_mul_emod_self_right]; exact Int.emod_eq_of_lt x0 x1
  · rw [Int.add_mul_ediv_right _ _ (by omega), Int.ediv_eq_zero_of_lt x0 x1]; omega
theorem get_at (W H : Int) (c z : Value) (C Z : List Int) (k : Nat) (v0 v1 v2 v3 vz : Int) (w : World) (hc : Rd w c C) (hz : Rd w z Z) (h : ImOk W H C Z) (hk : k < C.length) (e : up0 (elt C k) = v0 ∧ up1 (elt C k) = v1 ∧ up2 (elt C k) = v2 ∧ up3 (elt C k) = v3 ∧ elt Z k = vz) :
    Calls Try.prog 18 #[Im W H c z, .int .i64 ((k : Int) % W), .int .i64 ((k : Int) / W)] w (Ret (.tuple #[C4 v0 v1 v2 v3, .int .i64 vz, .bool true]) w) := by
  obtain ⟨h1, h2⟩ := kth h hk
  obtain ⟨rfl, rfl, rfl, rfl, rfl⟩ := e
  have := get_in W H c z C Z _ _ w hc hz h h1
  rw [h2] at this
  exact this
theorem putC_len (W H : Int) (C : List Int) (x y a b c d : Int) (m0 m1 m2 m3 : Bool) : (putC W H C x y a b c d m0 m1 m2 m3).length = C.length := by unfold putC; split <;> simp
theorem putZ_len (W H : Int) (Z : List Int) (x y u : Int) : (putZ W H Z x y u).length = Z.length := by unfold putZ; split <;> simp
theorem putC_at {W H : Int} {C Z : List Int} (h : ImOk W H C Z) {x y a b c d : Int} (k : Nat) (hk : k < C.length) (hm : May a b c d) (e : (k : Int) % W = x) (e' : (k : Int) / W = y) : elt (putC W H C x y a b c d true true true true) k = pk a b c d := by
  obtain ⟨h1, h2⟩ := kth h hk
  subst e e'
  unfold putC
  rw [if_pos h1, h2, elt_set _ _ _ _ (by simpa using hk), if_pos (by simp)]
  simp [mixN]
theorem putZ_at {W H : Int} {C Z : List Int} (h : ImOk W H C Z) {x y u : Int} (k : Nat) (hk : k < C.length) (e : (k : Int) % W = x) (e' : (k : Int) / W = y) : elt (putZ W H Z x y u) k = u := by
  obtain ⟨h1, h2⟩ := kth h hk
  have := h.same
  subst e e'
  unfold putZ
  rw [if_pos h1, h2, elt_set _ _ _ _ (by simp; omega), if_pos (by simp)]
theorem putC_off {W H : Int} {C Z : List Int} (h : ImOk W H C Z) {x y a b c d : Int} {m0 m1 m2 m3 : Bool} (k : Nat) (ne : ¬ ((k : Int) % W = x ∧ (k : Int) / W = y)) : elt (putC W H C x y a b c d m0 m1 m2 m3) k = elt C k := by
  unfold putC
  split
  · rename_i hi
    rw [elt_set _ _ _ _ (ix_lt h hi).1, if_neg]
    intro e; subst e; exact ne (kth_of hi)
  · rfl
theorem putZ_off {W H : Int} {C Z : List Int} (h : ImOk W H C Z) {x y u : Int} (k : Nat) (ne : ¬ ((k : Int) % W = x ∧ (k : Int) / W = y)) : elt (putZ W H Z x y u) k = elt Z k := by
  unfold putZ
  split
  · rename_i hi
    rw [elt_set _ _ _ _ (ix_lt h hi).2, if_neg]
    intro e; subst e; exact ne (kth_of hi)
  · rfl
end Go.Proofs.Ythcjfanigfgckaa
end
