/- From 'the argument reads as data' to its cells: written by a program of mine (gen_open.py). No condition. -/
import Derived.Test.YthcjfanigfgckaaPBase
import Derived.OpenShut
import Derived.Deep.Slices
namespace Go.Proofs.Ythcjfanigfgckaa
set_option linter.unusedVariables false
set_option linter.unusedSimpArgs false
set_option maxRecDepth 100000
open Go.RowKit Go.ChangeShapes Go.WideShapes
/-- v is a slice of ints that reads zs. -/
def Ints (w : World) (v : Value) (zs : List Int) : Prop :=
  (∀ z ∈ zs, -9223372036854775808 ≤ z ∧ z ≤ 9223372036854775807) ∧ zs.length ≤ maxLen ∧
  ∃ a cap, v = .slice a zs.length cap ∧ zs.length ≤ cap ∧ cap ≤ maxLen ∧ (zs = [] ∨ ∃ b off, a = some ⟨b, off, none⟩ ∧ b < w.heap.size ∧ ∀ i, i < zs.length → w.cell? ⟨b, off + i, none⟩ = some (.int .i64 (zs.getD i 0)))
theorem rd_ints {H : Type} {enc : TypeId × Value → H} {w : World} {fuel : Nat} {cs : List Value} {y : DataW H × List MemPlace} {t e : TypeId} (ht : Try.prog.underlying t = some (.slice e)) (he : Try.prog.underlying e = some (.int .i64)) (hc : Try.prog.cellsOf e = 1)
    (h : DataW.trod enc Try.prog w 0 (fun _ => true) true fuel t cs = some y) : ∃ x, cs = [x] ∧ ∃ zs, Ints w x zs := by
  rcases open_ints ht he hc h with ⟨rfl, -⟩ | ⟨a, len, cap, zs, rfl, -, hl, hm, hz, -, hcell, hw⟩
  · exact ⟨_, rfl, [], by simp, by simp, none, 0, rfl, Nat.le_refl _, Nat.zero_le _, .inl rfl⟩
  · rw [if_pos rfl] at hz
    have htl : (zs.take len).length = len := by rw [List.length_take]; omega
    refine ⟨_, rfl, zs.take len, fun z hz' => by have := bounds_i64 (hw z (List.mem_of_mem_take hz')); simpa using this, by rw [htl]; omega, some a, cap, by rw [htl], by rw [htl]; exact hl, hm, ?_⟩
    by_cases h0 : len = 0
    · left; subst h0; rfl
    · right
      have h1 := hcell 0 (by omega)
      have hs : a.spot = none := by
        cases hs : a.spot with
        | none => rfl
        | some s => simp [Addr.add, World.cell?, hs] at h1; split at h1 <;> simp at h1
      have e : a = ⟨a.block, a.off, none⟩ := by cases a; simp_all
      refine ⟨a.block, a.off, by rw [← e], ?_, fun i hi => ?_⟩
      · have := World.block_lt_of_cell? _ _ h1; simpa [Addr.add] using this
      · rw [htl] at hi
        have h2 := hcell i (by omega)
        have e2 : a.add i = ⟨a.block, a.off + i, none⟩ := by
          unfold Addr.add
          split
          · rename_i h; subst h; exact e
          · rfl
        rw [e2] at h2
        rw [h2]; congr 2
        simp [List.getD, hi]
/-- v is a slice of rows of k cells each, such as R tells. -/
def Sls (w : World) (k : Nat) (R : List Value → Prop) (v : Value) (L : List (List Value)) : Prop :=
  (∀ r ∈ L, r.length = k ∧ R r) ∧ L.length ≤ maxLen ∧ ∃ a cap, v = .slice a L.length cap ∧ L.length ≤ cap ∧ cap ≤ maxLen ∧
    (L = [] ∨ ∃ b off, a = some ⟨b, off, none⟩ ∧ b < w.heap.size ∧ ∀ i r, L[i]? = some r → ∀ j u, r[j]? = some u → w.cell? ⟨b, off + i * k + j, none⟩ = some u)
theorem add_plain (b off j : Nat) : (⟨b, off, none⟩ : Addr).add j = ⟨b, off + j, none⟩ := by
  unfold Addr.add; split
  · subst_vars; rfl
  · rfl
theorem list_build {α : Type} (n : Nat) (p : Nat → α → Prop) (h : ∀ i, i < n → ∃ x, p i x) : ∃ L : List α, L.length = n ∧ ∀ i x, L[i]? = some x → p i x := by
  induction n with
  | zero => exact ⟨[], rfl, fun i x h => by simp at h⟩
  | succ n ih =>
    obtain ⟨L, hl, hL⟩ := ih fun i hi => h i (by omega)
    obtain ⟨x, hx⟩ := h n (by omega)
    refine ⟨L ++ [x], by simp [hl], fun i y hy => ?_⟩
    rw [List.getElem?_append] at hy
    split at hy
    · exact hL i y hy
    · rename_i hi
      have hi' : i - L.length = 0 := by
        rcases Nat.eq_zero_or_pos (i - L.length) with h | h
        · exact h
        · rw [List.getElem?_eq_none (by simp; omega)] at hy; cases hy
      rw [hi'] at hy
      simp at hy
      obtain rfl : i = n := by omega
      rw [← hy]; exact hx
theorem rd_rows {H : Type} {enc : TypeId × Value → H} {w : World} {fuel : Nat} {cs : List Value} {y : DataW H × List MemPlace} {t e : TypeId} {k : Nat} (ht : Try.prog.underlying t = some (.slice e)) (hc : Try.prog.cellsOf e = k) (hk : 0 < k) (R : List Value → Prop)
    (hR : ∀ fuel cs y, DataW.trod enc Try.prog w 0 (fun _ => true) true fuel e cs = some y → R cs) (h : DataW.trod enc Try.prog w 0 (fun _ => true) true fuel t cs = some y) : ∃ x, cs = [x] ∧ ∃ L, Sls w k R x L := by
  rcases Go.Deep.open_slice ht h with ⟨rfl, -⟩ | ⟨a, len, cap, m, n, D, Pl, rfl, -, hl, hm, hmm, -, hi⟩
  · exact ⟨_, rfl, [], by simp, by simp, none, 0, rfl, Nat.le_refl _, Nat.zero_le _, .inl rfl⟩
  · rw [hc] at hi
    have hlm : len ≤ m := by rw [hmm]; split <;> omega
    obtain ⟨L, hL, hrow⟩ := list_build len (fun i r => r.length = k ∧ R r ∧ ∀ j u, r[j]? = some u → w.cell? ((a.add (i * k)).add j) = some u) (fun i hil => by
      obtain ⟨cs', hcs, htr⟩ := hi i (by omega)
      obtain ⟨_, hcl, hat⟩ := World.cells?_some hcs
      refine ⟨cs', hcl, hR _ _ _ htr, fun j u hj => ?_⟩
      have hjl : j < k := by rw [← hcl]; exact (List.getElem?_eq_some_iff.1 hj).1
      rw [hat j hjl]; exact hj)
    refine ⟨_, rfl, L, fun r hr => ?_, by omega, some a, cap, by rw [hL], by omega, hm, ?_⟩
    · obtain ⟨i, hi', rfl⟩ := List.mem_iff_getElem.1 hr
      have := hrow i _ (List.getElem?_eq_getElem hi')
      exact ⟨this.1, this.2.1⟩
    · rcases Nat.eq_zero_or_pos len with h0 | h0
      · left; exact List.eq_nil_of_length_eq_zero (by omega)
      · right
        have hs : a.spot = none := by
          have h0' : 0 < L.length := by omega
          obtain ⟨h1, -, h2⟩ := hrow 0 _ (List.getElem?_eq_getElem h0')
          have h3 := h2 0 _ (List.getElem?_eq_getElem (by omega))
          cases hs : a.spot with
          | none => rfl
          | some s => simp [Addr.add, World.cell?, hs] at h3; split at h3 <;> simp at h3
        have e : a = ⟨a.block, a.off, none⟩ := by cases a; simp_all
        have hcell : ∀ i r, L[i]? = some r → ∀ j u, r[j]? = some u → w.cell? ⟨a.block, a.off + i * k + j, none⟩ = some u := fun i r hr j u hu => by
          have := (hrow i r hr).2.2 j u hu
          rw [e, add_plain, add_plain] at this
          exact this
        refine ⟨a.block, a.off, by rw [← e], ?_, hcell⟩
        have h0' : 0 < L.length := by omega
        have h1 := (hrow 0 _ (List.getElem?_eq_getElem h0')).1
        have h2 := hcell 0 _ (List.getElem?_eq_getElem h0') 0 _ (List.getElem?_eq_getElem (by omega))
        exact World.block_lt_of_cell? _ (⟨a.block, a.off + 0 * k + 0, none⟩ : Addr) h2
theorem list_1 {α : Type} (l : List α) (h : l.length = 1) : ∃ c0, l = [c0] := by
  match l, h with
  | [c0], _ => exact ⟨c0, rfl⟩
theorem list_2 {α : Type} (l : List α) (h : l.length = 2) : ∃ c0 c1, l = [c0, c1] := by
  match l, h with
  | [c0, c1], _ => exact ⟨c0, c1, rfl⟩
theorem list_3 {α : Type} (l : List α) (h : l.length = 3) : ∃ c0 c1 c2, l = [c0, c1, c2] := by
  match l, h with
  | [c0, c1, c2], _ => exact ⟨c0, c1, c2, rfl⟩
theorem list_4 {α : Type} (l : List α) (h : l.length = 4) : ∃ c0 c1 c2 c3, l = [c0, c1, c2, c3] := by
  match l, h with
  | [c0, c1, c2, c3], _ => exact ⟨c0, c1, c2, c3, rfl⟩
theorem list_5 {α : Type} (l : List α) (h : l.length = 5) : ∃ c0 c1 c2 c3 c4, l = [c0, c1, c2, c3, c4] := by
  match l, h with
  | [c0, c1, c2, c3, c4], _ => exact ⟨c0, c1, c2, c3, c4, rfl⟩
theorem list_6 {α : Type} (l : List α) (h : l.length = 6) : ∃ c0 c1 c2 c3 c4 c5, l = [c0, c1, c2, c3, c4, c5] := by
  match l, h with
  | [c0, c1, c2, c3, c4, c5], _ => exact ⟨c0, c1, c2, c3, c4, c5, rfl⟩
theorem list_7 {α : Type} (l : List α) (h : l.length = 7) : ∃ c0 c1 c2 c3 c4 c5 c6, l = [c0, c1, c2, c3, c4, c5, c6] := by
  match l, h with
  | [c0, c1, c2, c3, c4, c5, c6], _ => exact ⟨c0, c1, c2, c3, c4, c5, c6, rfl⟩
theorem list_11 {α : Type} (l : List α) (h : l.length = 11) : ∃ c0 c1 c2 c3 c4 c5 c6 c7 c8 c9 c10, l = [c0, c1, c2, c3, c4, c5, c6, c7, c8, c9, c10] := by
  match l, h with
  | [c0, c1, c2, c3, c4, c5, c6, c7, c8, c9, c10], _ => exact ⟨c0, c1, c2, c3, c4, c5, c6, c7, c8, c9, c10, rfl⟩
theorem list_20 {α : Type} (l : List α) (h : l.length = 20) : ∃ c0 c1 c2 c3 c4 c5 c6 c7 c8 c9 c10 c11 c12 c13 c14 c15 c16 c17 c18 c19, l = [c0, c1, c2, c3, c4, c5, c6, c7, c8, c9, c10, c11, c12, c13, c14, c15, c16, c17, c18, c19] := by
  match l, h with
  | [c0, c1, c2, c3, c4, c5, c6, c7, c8, c9, c10, c11, c12, c13, c14, c15, c16, c17, c18, c19], _ => exact ⟨c0, c1, c2, c3, c4, c5, c6, c7, c8, c9, c10, c11, c12, c13, c14, c15, c16, c17, c18, c19, rfl⟩
theorem list_23 {α : Type} (l : List α) (h : l.length = 23) : ∃ c0 c1 c2 c3 c4 c5 c6 c7 c8 c9 c10 c11 c12 c13 c14 c15 c16 c17 c18 c19 c20 c21 c22, l = [c0, c1, c2, c3, c4, c5, c6, c7, c8, c9, c10, c11, c12, c13, c14, c15, c16, c17, c18, c19, c20, c21, c22] := by
  match l, h with
  | [c0, c1, c2, c3, c4, c5, c6, c7, c8, c9, c10, c11, c12, c13, c14, c15, c16, c17, c18, c19, c20, c21, c22], _ => exact ⟨c0, c1, c2, c3, c4, c5, c6, c7, c8, c9, c10, c11, c12, c13, c14, c15, c16, c17, c18, c19, c20, c21, c22, rfl⟩
section
variable {H : Type} {enc : TypeId × Value → H} {w : World} {fuel base : Nat} {cs : List Value} {y : DataW H × List MemPlace} {v : Value} {d : DataW H} {ps : List MemPlace}
theorem rd_int (h : DataW.trod enc Try.prog w 0 (fun _ => true) true fuel 3 cs = some y) : ∃ (x : Int), cs = [.int .i64 x] ∧ (-9223372036854775808 ≤ x ∧ x ≤ 9223372036854775807) := by
  obtain ⟨n, rfl, -, hw⟩ := DataW.trod_int Try.underlying3 h
  exact ⟨n, rfl, by have := bounds_i64 hw; simpa using this⟩
theorem arg_int (hv : Value.okWide Try.prog w .any base 3 v) (h : DataW.Trod enc Try.prog w 0 (fun _ => true) true 3 v d ps) : ∃ (x : Int), v = .int .i64 x ∧ (-9223372036854775808 ≤ x ∧ x ≤ 9223372036854775807) := by
  obtain ⟨x, rfl, -, -, hw⟩ := open_int Try.underlying3 hv h
  exact ⟨x, rfl, by have := bounds_i64 hw; simpa using this⟩
theorem rd_Slint (h : DataW.trod enc Try.prog w 0 (fun _ => true) true fuel 22 cs = some y) : ∃ (x : Value), cs = [x] ∧ (∃ zx, Ints w x zx) := by
  exact rd_ints Try.underlying22 Try.underlying3 (by kernel_rfl) h
theorem arg_Slint (hv : Value.okWide Try.prog w .any base 22 v) (h : DataW.Trod enc Try.prog w 0 (fun _ => true) true 22 v d ps) : ∃ (x : Value), v = x ∧ (∃ zx, Ints w x zx) := by
  obtain ⟨a, len, cap, rfl⟩ := okWide_slice Try.underlying22 hv
  obtain ⟨fuel, h⟩ := h
  obtain ⟨x, e, hf⟩ := rd_Slint h
  simp [Value.cells] at e
  subst e
  exact ⟨_, rfl, hf⟩
theorem rd_Image (h : DataW.trod enc Try.prog w 0 (fun _ => true) true fuel 24 cs = some y) : ∃ (xW : Int) (xH : Int) (xC : Value) (xZ : Value), cs = [.int .i64 xW, .int .i64 xH, xC, xZ] ∧ (-9223372036854775808 ≤ xW ∧ xW ≤ 9223372036854775807) ∧ (-9223372036854775808 ≤ xH ∧ xH ≤ 9223372036854775807) ∧ (∃ zxC, Ints w xC zxC) ∧ (∃ zxZ, Ints w xZ zxZ) := by
  obtain ⟨ys, m, -, -, hl, hn, hf⟩ := DataW.trod_struct Try.underlying24 h
  rw [show Try.prog.cellsOf 24 = 4 from by kernel_rfl] at hl
  obtain ⟨c0, c1, c2, c3, rfl⟩ := list_4 cs hl
  obtain ⟨y0, y1, y2, y3, rfl⟩ := list_4 ys hn
  obtain ⟨xW, e, hxW⟩ := rd_int (cs := [c0]) (show _ = some y0 from hf 0 _ rfl)
  simp only [List.cons.injEq, and_true] at e
  obtain rfl := e
  obtain ⟨xH, e, hxH⟩ := rd_int (cs := [c1]) (show _ = some y1 from hf 1 _ rfl)
  simp only [List.cons.injEq, and_true] at e
  obtain rfl := e
  obtain ⟨xC, e, hxC⟩ := rd_Slint (cs := [c2]) (show _ = some y2 from hf 2 _ rfl)
  simp only [List.cons.injEq, and_true] at e
  obtain rfl := e
  obtain ⟨xZ, e, hxZ⟩ := rd_Slint (cs := [c3]) (show _ = some y3 from hf 3 _ rfl)
  simp only [List.cons.injEq, and_true] at e
  obtain rfl := e
  exact ⟨_, _, _, _, rfl, hxW, hxH, hxC, hxZ⟩
theorem arg_Image (hv : Value.okWide Try.prog w .any base 24 v) (h : DataW.Trod enc Try.prog w 0 (fun _ => true) true 24 v d ps) : ∃ (xW : Int) (xH : Int) (xC : Value) (xZ : Value), v = .agg #[.int .i64 xW, .int .i64 xH, xC, xZ] ∧ (-9223372036854775808 ≤ xW ∧ xW ≤ 9223372036854775807) ∧ (-9223372036854775808 ≤ xH ∧ xH ≤ 9223372036854775807) ∧ (∃ zxC, Ints w xC zxC) ∧ (∃ zxZ, Ints w xZ zxZ) := by
  obtain ⟨cs, rfl, -⟩ : ∃ cs, v = .agg cs ∧ True := by
    simp only [Value.okWide, Try.underlying24] at hv
    obtain ⟨cs, e, -⟩ := hv
    exact ⟨cs, e, trivial⟩
  obtain ⟨fuel, h⟩ := h
  obtain ⟨xW, xH, xC, xZ, e, hf⟩ := rd_Image h
  exact ⟨xW, xH, xC, xZ, by rw [← Array.toArray_toList (xs := cs), show cs.toList = _ from e], hf⟩
theorem rd_Rect (h : DataW.trod enc Try.prog w 0 (fun _ => true) true fuel 26 cs = some y) : ∃ (xX0 : Int) (xY0 : Int) (xX1 : Int) (xY1 : Int), cs = [.int .i64 xX0, .int .i64 xY0, .int .i64 xX1, .int .i64 xY1] ∧ (-9223372036854775808 ≤ xX0 ∧ xX0 ≤ 9223372036854775807) ∧ (-9223372036854775808 ≤ xY0 ∧ xY0 ≤ 9223372036854775807) ∧ (-9223372036854775808 ≤ xX1 ∧ xX1 ≤ 9223372036854775807) ∧ (-9223372036854775808 ≤ xY1 ∧ xY1 ≤ 9223372036854775807) := by
  obtain ⟨ys, m, -, -, hl, hn, hf⟩ := DataW.trod_struct Try.underlying26 h
  rw [show Try.prog.cellsOf 26 = 4 from by kernel_rfl] at hl
  obtain ⟨c0, c1, c2, c3, rfl⟩ := list_4 cs hl
  obtain ⟨y0, y1, y2, y3, rfl⟩ := list_4 ys hn
  obtain ⟨xX0, e, hxX0⟩ := rd_int (cs := [c0]) (show _ = some y0 from hf 0 _ rfl)
  simp only [List.cons.injEq, and_true] at e
  obtain rfl := e
  obtain ⟨xY0, e, hxY0⟩ := rd_int (cs := [c1]) (show _ = some y1 from hf 1 _ rfl)
  simp only [List.cons.injEq, and_true] at e
  obtain rfl := e
  obtain ⟨xX1, e, hxX1⟩ := rd_int (cs := [c2]) (show _ = some y2 from hf 2 _ rfl)
  simp only [List.cons.injEq, and_true] at e
  obtain rfl := e
  obtain ⟨xY1, e, hxY1⟩ := rd_int (cs := [c3]) (show _ = some y3 from hf 3 _ rfl)
  simp only [List.cons.injEq, and_true] at e
  obtain rfl := e
  exact ⟨_, _, _, _, rfl, hxX0, hxY0, hxX1, hxY1⟩
theorem arg_Rect (hv : Value.okWide Try.prog w .any base 26 v) (h : DataW.Trod enc Try.prog w 0 (fun _ => true) true 26 v d ps) : ∃ (xX0 : Int) (xY0 : Int) (xX1 : Int) (xY1 : Int), v = .agg #[.int .i64 xX0, .int .i64 xY0, .int .i64 xX1, .int .i64 xY1] ∧ (-9223372036854775808 ≤ xX0 ∧ xX0 ≤ 9223372036854775807) ∧ (-9223372036854775808 ≤ xY0 ∧ xY0 ≤ 9223372036854775807) ∧ (-9223372036854775808 ≤ xX1 ∧ xX1 ≤ 9223372036854775807) ∧ (-9223372036854775808 ≤ xY1 ∧ xY1 ≤ 9223372036854775807) := by
  obtain ⟨cs, rfl, -⟩ : ∃ cs, v = .agg cs ∧ True := by
    simp only [Value.okWide, Try.underlying26] at hv
    obtain ⟨cs, e, -⟩ := hv
    exact ⟨cs, e, trivial⟩
  obtain ⟨fuel, h⟩ := h
  obtain ⟨xX0, xY0, xX1, xY1, e, hf⟩ := rd_Rect h
  exact ⟨xX0, xY0, xX1, xY1, by rw [← Array.toArray_toList (xs := cs), show cs.toList = _ from e], hf⟩
theorem rd_Color (h : DataW.trod enc Try.prog w 0 (fun _ => true) true fuel 28 cs = some y) : ∃ (x0 : Int) (x1 : Int) (x2 : Int) (x3 : Int), cs = [.int .i64 x0, .int .i64 x1, .int .i64 x2, .int .i64 x3] ∧ (-9223372036854775808 ≤ x0 ∧ x0 ≤ 9223372036854775807) ∧ (-9223372036854775808 ≤ x1 ∧ x1 ≤ 9223372036854775807) ∧ (-9223372036854775808 ≤ x2 ∧ x2 ≤ 9223372036854775807) ∧ (-9223372036854775808 ≤ x3 ∧ x3 ≤ 9223372036854775807) := by
  obtain ⟨ys, m, -, -, hl, hn, hf⟩ := DataW.trod_array Try.underlying28 h
  rw [show Try.prog.cellsOf 28 = 4 from by kernel_rfl] at hl
  obtain ⟨c0, c1, c2, c3, rfl⟩ := list_4 cs hl
  obtain ⟨y0, y1, y2, y3, rfl⟩ := list_4 ys hn
  obtain ⟨x0, e, hx0⟩ := rd_int (cs := [c0]) (show _ = some y0 from hf 0 (by decide))
  simp only [List.cons.injEq, and_true] at e
  obtain rfl := e
  obtain ⟨x1, e, hx1⟩ := rd_int (cs := [c1]) (show _ = some y1 from hf 1 (by decide))
  simp only [List.cons.injEq, and_true] at e
  obtain rfl := e
  obtain ⟨x2, e, hx2⟩ := rd_int (cs := [c2]) (show _ = some y2 from hf 2 (by decide))
  simp only [List.cons.injEq, and_true] at e
  obtain rfl := e
  obtain ⟨x3, e, hx3⟩ := rd_int (cs := [c3]) (show _ = some y3 from hf 3 (by decide))
  simp only [List.cons.injEq, and_true] at e
  obtain rfl := e
  exact ⟨_, _, _, _, rfl, hx0, hx1, hx2, hx3⟩
theorem arg_Color (hv : Value.okWide Try.prog w .any base 28 v) (h : DataW.Trod enc Try.prog w 0 (fun _ => true) true 28 v d ps) : ∃ (x0 : Int) (x1 : Int) (x2 : Int) (x3 : Int), v = .agg #[.int .i64 x0, .int .i64 x1, .int .i64 x2, .int .i64 x3] ∧ (-9223372036854775808 ≤ x0 ∧ x0 ≤ 9223372036854775807) ∧ (-9223372036854775808 ≤ x1 ∧ x1 ≤ 9223372036854775807) ∧ (-9223372036854775808 ≤ x2 ∧ x2 ≤ 9223372036854775807) ∧ (-9223372036854775808 ≤ x3 ∧ x3 ≤ 9223372036854775807) := by
  obtain ⟨cs, rfl, -⟩ : ∃ cs, v = .agg cs ∧ True := by
    simp only [Value.okWide, Try.underlying28] at hv
    obtain ⟨cs, e, -⟩ := hv
    exact ⟨cs, e, trivial⟩
  obtain ⟨fuel, h⟩ := h
  obtain ⟨x0, x1, x2, x3, e, hf⟩ := rd_Color h
  exact ⟨x0, x1, x2, x3, by rw [← Array.toArray_toList (xs := cs), show cs.toList = _ from e], hf⟩
theorem rd_bool (h : DataW.trod enc Try.prog w 0 (fun _ => true) true fuel 4 cs = some y) : ∃ (x : Bool), cs = [.bool x] ∧ True := by
  obtain ⟨n, rfl, -⟩ := DataW.trod_bool Try.underlying4 h
  exact ⟨n, rfl, trivial⟩
theorem arg_bool (hv : Value.okWide Try.prog w .any base 4 v) (h : DataW.Trod enc Try.prog w 0 (fun _ => true) true 4 v d ps) : ∃ (x : Bool), v = .bool x ∧ True := by
  obtain ⟨x, rfl, -, -⟩ := open_bool Try.underlying4 hv h
  exact ⟨x, rfl, trivial⟩
theorem rd_A4_bool (h : DataW.trod enc Try.prog w 0 (fun _ => true) true fuel 29 cs = some y) : ∃ (x0 : Bool) (x1 : Bool) (x2 : Bool) (x3 : Bool), cs = [.bool x0, .bool x1, .bool x2, .bool x3] ∧ True := by
  obtain ⟨ys, m, -, -, hl, hn, hf⟩ := DataW.trod_array Try.underlying29 h
  rw [show Try.prog.cellsOf 29 = 4 from by kernel_rfl] at hl
  obtain ⟨c0, c1, c2, c3, rfl⟩ := list_4 cs hl
  obtain ⟨y0, y1, y2, y3, rfl⟩ := list_4 ys hn
  obtain ⟨x0, e, hx0⟩ := rd_bool (cs := [c0]) (show _ = some y0 from hf 0 (by decide))
  simp only [List.cons.injEq, and_true] at e
  obtain rfl := e
  obtain ⟨x1, e, hx1⟩ := rd_bool (cs := [c1]) (show _ = some y1 from hf 1 (by decide))
  simp only [List.cons.injEq, and_true] at e
  obtain rfl := e
  obtain ⟨x2, e, hx2⟩ := rd_bool (cs := [c2]) (show _ = some y2 from hf 2 (by decide))
  simp only [List.cons.injEq, and_true] at e
  obtain rfl := e
  obtain ⟨x3, e, hx3⟩ := rd_bool (cs := [c3]) (show _ = some y3 from hf 3 (by decide))
  simp only [List.cons.injEq, and_true] at e
  obtain rfl := e
  exact ⟨_, _, _, _, rfl, trivial⟩
theorem arg_A4_bool (hv : Value.okWide Try.prog w .any base 29 v) (h : DataW.Trod enc Try.prog w 0 (fun _ => true) true 29 v d ps) : ∃ (x0 : Bool) (x1 : Bool) (x2 : Bool) (x3 : Bool), v = .agg #[.bool x0, .bool x1, .bool x2, .bool x3] ∧ True := by
  obtain ⟨cs, rfl, -⟩ : ∃ cs, v = .agg cs ∧ True := by
    simp only [Value.okWide, Try.underlying29] at hv
    obtain ⟨cs, e, -⟩ := hv
    exact ⟨cs, e, trivial⟩
  obtain ⟨fuel, h⟩ := h
  obtain ⟨x0, x1, x2, x3, e, hf⟩ := rd_A4_bool h
  exact ⟨x0, x1, x2, x3, by rw [← Array.toArray_toList (xs := cs), show cs.toList = _ from e], hf⟩
theorem rd_rastrumlaw23_Pen (h : DataW.trod enc Try.prog w 0 (fun _ => true) true fuel 31 cs = some y) : ∃ (xX : Int) (xY : Int) (xZ : Int) (xC0 : Int) (xC1 : Int) (xC2 : Int) (xC3 : Int) (xMask0 : Bool) (xMask1 : Bool) (xMask2 : Bool) (xMask3 : Bool), cs = [.int .i64 xX, .int .i64 xY, .int .i64 xZ, .int .i64 xC0, .int .i64 xC1, .int .i64 xC2, .int .i64 xC3, .bool xMask0, .bool xMask1, .bool xMask2, .bool xMask3] ∧ (-9223372036854775808 ≤ xX ∧ xX ≤ 9223372036854775807) ∧ (-9223372036854775808 ≤ xY ∧ xY ≤ 9223372036854775807) ∧ (-9223372036854775808 ≤ xZ ∧ xZ ≤ 9223372036854775807) ∧ (-9223372036854775808 ≤ xC0 ∧ xC0 ≤ 9223372036854775807) ∧ (-9223372036854775808 ≤ xC1 ∧ xC1 ≤ 9223372036854775807) ∧ (-9223372036854775808 ≤ xC2 ∧ xC2 ≤ 9223372036854775807) ∧ (-9223372036854775808 ≤ xC3 ∧ xC3 ≤ 9223372036854775807) := by
  obtain ⟨ys, m, -, -, hl, hn, hf⟩ := DataW.trod_struct Try.underlying31 h
  rw [show Try.prog.cellsOf 31 = 11 from by kernel_rfl] at hl
  obtain ⟨c0, c1, c2, c3, c4, c5, c6, c7, c8, c9, c10, rfl⟩ := list_11 cs hl
  obtain ⟨y0, y1, y2, y3, y4, rfl⟩ := list_5 ys hn
  obtain ⟨xX, e, hxX⟩ := rd_int (cs := [c0]) (show _ = some y0 from hf 0 _ rfl)
  simp only [List.cons.injEq, and_true] at e
  obtain rfl := e
  obtain ⟨xY, e, hxY⟩ := rd_int (cs := [c1]) (show _ = some y1 from hf 1 _ rfl)
  simp only [List.cons.injEq, and_true] at e
  obtain rfl := e
  obtain ⟨xZ, e, hxZ⟩ := rd_int (cs := [c2]) (show _ = some y2 from hf 2 _ rfl)
  simp only [List.cons.injEq, and_true] at e
  obtain rfl := e
  obtain ⟨xC0, xC1, xC2, xC3, e, hxC⟩ := rd_Color (cs := [c3, c4, c5, c6]) (show _ = some y3 from hf 3 _ rfl)
  simp only [List.cons.injEq, and_true] at e
  obtain ⟨rfl, rfl, rfl, rfl⟩ := e
  obtain ⟨xMask0, xMask1, xMask2, xMask3, e, hxMask⟩ := rd_A4_bool (cs := [c7, c8, c9, c10]) (show _ = some y4 from hf 4 _ rfl)
  simp only [List.cons.injEq, and_true] at e
  obtain ⟨rfl, rfl, rfl, rfl⟩ := e
  exact ⟨_, _, _, _, _, _, _, _, _, _, _, rfl, hxX, hxY, hxZ, hxC.1, hxC.2.1, hxC.2.2.1, hxC.2.2.2⟩
theorem arg_rastrumlaw23_Pen (hv : Value.okWide Try.prog w .any base 31 v) (h : DataW.Trod enc Try.prog w 0 (fun _ => true) true 31 v d ps) : ∃ (xX : Int) (xY : Int) (xZ : Int) (xC0 : Int) (xC1 : Int) (xC2 : Int) (xC3 : Int) (xMask0 : Bool) (xMask1 : Bool) (xMask2 : Bool) (xMask3 : Bool), v = .agg #[.int .i64 xX, .int .i64 xY, .int .i64 xZ, .int .i64 xC0, .int .i64 xC1, .int .i64 xC2, .int .i64 xC3, .bool xMask0, .bool xMask1, .bool xMask2, .bool xMask3] ∧ (-9223372036854775808 ≤ xX ∧ xX ≤ 9223372036854775807) ∧ (-9223372036854775808 ≤ xY ∧ xY ≤ 9223372036854775807) ∧ (-9223372036854775808 ≤ xZ ∧ xZ ≤ 9223372036854775807) ∧ (-9223372036854775808 ≤ xC0 ∧ xC0 ≤ 9223372036854775807) ∧ (-9223372036854775808 ≤ xC1 ∧ xC1 ≤ 9223372036854775807) ∧ (-9223372036854775808 ≤ xC2 ∧ xC2 ≤ 9223372036854775807) ∧ (-9223372036854775808 ≤ xC3 ∧ xC3 ≤ 9223372036854775807) := by
  obtain ⟨cs, rfl, -⟩ : ∃ cs, v = .agg cs ∧ True := by
    simp only [Value.okWide, Try.underlying31] at hv
    obtain ⟨cs, e, -⟩ := hv
    exact ⟨cs, e, trivial⟩
  obtain ⟨fuel, h⟩ := h
  obtain ⟨xX, xY, xZ, xC0, xC1, xC2, xC3, xMask0, xMask1, xMask2, xMask3, e, hf⟩ := rd_rastrumlaw23_Pen h
  exact ⟨xX, xY, xZ, xC0, xC1, xC2, xC3, xMask0, xMask1, xMask2, xMask3, by rw [← Array.toArray_toList (xs := cs), show cs.toList = _ from e], hf⟩
theorem rd_rastrumlaw23_Wipe (h : DataW.trod enc Try.prog w 0 (fun _ => true) true fuel 33 cs = some y) : ∃ (xMW : Int) (xMH : Int) (xMC : Value) (xMZ : Value) (xRX0 : Int) (xRY0 : Int) (xRX1 : Int) (xRY1 : Int) (xWhat : Int) (xPX : Int) (xPY : Int) (xPZ : Int) (xPC0 : Int) (xPC1 : Int) (xPC2 : Int) (xPC3 : Int) (xPMask0 : Bool) (xPMask1 : Bool) (xPMask2 : Bool) (xPMask3 : Bool), cs = [.int .i64 xMW, .int .i64 xMH, xMC, xMZ, .int .i64 xRX0, .int .i64 xRY0, .int .i64 xRX1, .int .i64 xRY1, .int .i64 xWhat, .int .i64 xPX, .int .i64 xPY, .int .i64 xPZ, .int .i64 xPC0, .int .i64 xPC1, .int .i64 xPC2, .int .i64 xPC3, .bool xPMask0, .bool xPMask1, .bool xPMask2, .bool xPMask3] ∧ (-9223372036854775808 ≤ xMW ∧ xMW ≤ 9223372036854775807) ∧ (-9223372036854775808 ≤ xMH ∧ xMH ≤ 9223372036854775807) ∧ (∃ zxMC, Ints w xMC zxMC) ∧ (∃ zxMZ, Ints w xMZ zxMZ) ∧ (-9223372036854775808 ≤ xRX0 ∧ xRX0 ≤ 9223372036854775807) ∧ (-9223372036854775808 ≤ xRY0 ∧ xRY0 ≤ 9223372036854775807) ∧ (-9223372036854775808 ≤ xRX1 ∧ xRX1 ≤ 9223372036854775807) ∧ (-9223372036854775808 ≤ xRY1 ∧ xRY1 ≤ 9223372036854775807) ∧ (-9223372036854775808 ≤ xWhat ∧ xWhat ≤ 9223372036854775807) ∧ (-9223372036854775808 ≤ xPX ∧ xPX ≤ 9223372036854775807) ∧ (-9223372036854775808 ≤ xPY ∧ xPY ≤ 9223372036854775807) ∧ (-9223372036854775808 ≤ xPZ ∧ xPZ ≤ 9223372036854775807) ∧ (-9223372036854775808 ≤ xPC0 ∧ xPC0 ≤ 9223372036854775807) ∧ (-9223372036854775808 ≤ xPC1 ∧ xPC1 ≤ 9223372036854775807) ∧ (-9223372036854775808 ≤ xPC2 ∧ xPC2 ≤ 9223372036854775807) ∧ (-9223372036854775808 ≤ xPC3 ∧ xPC3 ≤ 9223372036854775807) := by
  obtain ⟨ys, m, -, -, hl, hn, hf⟩ := DataW.trod_struct Try.underlying33 h
  rw [show Try.prog.cellsOf 33 = 20 from by kernel_rfl] at hl
  obtain ⟨c0, c1, c2, c3, c4, c5, c6, c7, c8, c9, c10, c11, c12, c13, c14, c15, c16, c17, c18, c19, rfl⟩ := list_20 cs hl
  obtain ⟨y0, y1, y2, y3, rfl⟩ := list_4 ys hn
  obtain ⟨xMW, xMH, xMC, xMZ, e, hxM⟩ := rd_Image (cs := [c0, c1, c2, c3]) (show _ = some y0 from hf 0 _ rfl)
  simp only [List.cons.injEq, and_true] at e
  obtain ⟨rfl, rfl, rfl, rfl⟩ := e
  obtain ⟨xRX0, xRY0, xRX1, xRY1, e, hxR⟩ := rd_Rect (cs := [c4, c5, c6, c7]) (show _ = some y1 from hf 1 _ rfl)
  simp only [List.cons.injEq, and_true] at e
  obtain ⟨rfl, rfl, rfl, rfl⟩ := e
  obtain ⟨xWhat, e, hxWhat⟩ := rd_int (cs := [c8]) (show _ = some y2 from hf 2 _ rfl)
  simp only [List.cons.injEq, and_true] at e
  obtain rfl := e
  obtain ⟨xPX, xPY, xPZ, xPC0, xPC1, xPC2, xPC3, xPMask0, xPMask1, xPMask2, xPMask3, e, hxP⟩ := rd_rastrumlaw23_Pen (cs := [c9, c10, c11, c12, c13, c14, c15, c16, c17, c18, c19]) (show _ = some y3 from hf 3 _ rfl)
  simp only [List.cons.injEq, and_true] at e
  obtain ⟨rfl, rfl, rfl, rfl, rfl, rfl, rfl, rfl, rfl, rfl, rfl⟩ := e
  exact ⟨_, _, _, _, _, _, _, _, _, _, _, _, _, _, _, _, _, _, _, _, rfl, hxM.1, hxM.2.1, hxM.2.2.1, hxM.2.2.2, hxR.1, hxR.2.1, hxR.2.2.1, hxR.2.2.2, hxWhat, hxP.1, hxP.2.1, hxP.2.2.1, hxP.2.2.2.1, hxP.2.2.2.2.1, hxP.2.2.2.2.2.1, hxP.2.2.2.2.2.2⟩
theorem arg_rastrumlaw23_Wipe (hv : Value.okWide Try.prog w .any base 33 v) (h : DataW.Trod enc Try.prog w 0 (fun _ => true) true 33 v d ps) : ∃ (xMW : Int) (xMH : Int) (xMC : Value) (xMZ : Value) (xRX0 : Int) (xRY0 : Int) (xRX1 : Int) (xRY1 : Int) (xWhat : Int) (xPX : Int) (xPY : Int) (xPZ : Int) (xPC0 : Int) (xPC1 : Int) (xPC2 : Int) (xPC3 : Int) (xPMask0 : Bool) (xPMask1 : Bool) (xPMask2 : Bool) (xPMask3 : Bool), v = .agg #[.int .i64 xMW, .int .i64 xMH, xMC, xMZ, .int .i64 xRX0, .int .i64 xRY0, .int .i64 xRX1, .int .i64 xRY1, .int .i64 xWhat, .int .i64 xPX, .int .i64 xPY, .int .i64 xPZ, .int .i64 xPC0, .int .i64 xPC1, .int .i64 xPC2, .int .i64 xPC3, .bool xPMask0, .bool xPMask1, .bool xPMask2, .bool xPMask3] ∧ (-9223372036854775808 ≤ xMW ∧ xMW ≤ 9223372036854775807) ∧ (-9223372036854775808 ≤ xMH ∧ xMH ≤ 9223372036854775807) ∧ (∃ zxMC, Ints w xMC zxMC) ∧ (∃ zxMZ, Ints w xMZ zxMZ) ∧ (-9223372036854775808 ≤ xRX0 ∧ xRX0 ≤ 9223372036854775807) ∧ (-9223372036854775808 ≤ xRY0 ∧ xRY0 ≤ 9223372036854775807) ∧ (-9223372036854775808 ≤ xRX1 ∧ xRX1 ≤ 9223372036854775807) ∧ (-9223372036854775808 ≤ xRY1 ∧ xRY1 ≤ 9223372036854775807) ∧ (-9223372036854775808 ≤ xWhat ∧ xWhat ≤ 9223372036854775807) ∧ (-9223372036854775808 ≤ xPX ∧ xPX ≤ 9223372036854775807) ∧ (-9223372036854775808 ≤ xPY ∧ xPY ≤ 9223372036854775807) ∧ (-9223372036854775808 ≤ xPZ ∧ xPZ ≤ 9223372036854775807) ∧ (-9223372036854775808 ≤ xPC0 ∧ xPC0 ≤ 9223372036854775807) ∧ (-9223372036854775808 ≤ xPC1 ∧ xPC1 ≤ 9223372036854775807) ∧ (-9223372036854775808 ≤ xPC2 ∧ xPC2 ≤ 9223372036854775807) ∧ (-9223372036854775808 ≤ xPC3 ∧ xPC3 ≤ 9223372036854775807) := by
  obtain ⟨cs, rfl, -⟩ : ∃ cs, v = .agg cs ∧ True := by
    simp only [Value.okWide, Try.underlying33] at hv
    obtain ⟨cs, e, -⟩ := hv
    exact ⟨cs, e, trivial⟩
  obtain ⟨fuel, h⟩ := h
  obtain ⟨xMW, xMH, xMC, xMZ, xRX0, xRY0, xRX1, xRY1, xWhat, xPX, xPY, xPZ, xPC0, xPC1, xPC2, xPC3, xPMask0, xPMask1, xPMask2, xPMask3, e, hf⟩ := rd_rastrumlaw23_Wipe h
  exact ⟨xMW, xMH, xMC, xMZ, xRX0, xRY0, xRX1, xRY1, xWhat, xPX, xPY, xPZ, xPC0, xPC1, xPC2, xPC3, xPMask0, xPMask1, xPMask2, xPMask3, by rw [← Array.toArray_toList (xs := cs), show cs.toList = _ from e], hf⟩
theorem rd_uint8 (h : DataW.trod enc Try.prog w 0 (fun _ => true) true fuel 5 cs = some y) : ∃ (x : Int), cs = [.int .u8 x] ∧ (0 ≤ x ∧ x ≤ 255) := by
  obtain ⟨n, rfl, -, hw⟩ := DataW.trod_int Try.underlying5 h
  exact ⟨n, rfl, by have := bounds_u8 hw; simpa using this⟩
theorem arg_uint8 (hv : Value.okWide Try.prog w .any base 5 v) (h : DataW.Trod enc Try.prog w 0 (fun _ => true) true 5 v d ps) : ∃ (x : Int), v = .int .u8 x ∧ (0 ≤ x ∧ x ≤ 255) := by
  obtain ⟨x, rfl, -, -, hw⟩ := open_int Try.underlying5 hv h
  exact ⟨x, rfl, by have := bounds_u8 hw; simpa using this⟩
end
end Go.Proofs.Ythcjfanigfgckaa

