/- From 'the argument reads as data' to its cells: written by a program of mine (gen_open.py). No condition. -/
import Derived.Test.YtciooaihobnifaaGreatPBase
import Derived.OpenShut
import Derived.Deep.Slices
namespace Go.Proofs.YtciooaihobnifaaGreat
set_option linter.unusedVariables false
set_option linter.unusedSimpArgs false
set_option maxRecDepth 100000
open Go.RowKit Go.ChangeShapes Go.WideShapes
/-- v is a slice of ints that reads zs. -/
def Ints (w : World) (v : Value) (zs : List Int) : Prop :=
  (∀ z ∈ zs, -9223372036854775808 ≤ z ∧ z ≤ 9223372036854775807) ∧ zs.length ≤ maxLen ∧
  ∃ a cap, v = .slice a zs.length cap ∧ zs.length ≤ cap ∧ cap ≤ maxLen ∧ (zs = [] ∨ ∃ b off, a = some ⟨b, off, none⟩ ∧ b < w.heap.size ∧ ∀ i, i < zs.length → w.cell? ⟨b, off + i, none⟩ = some (.int .i64 (zs.getD i 0)))
theorem rd_ints {H : Type} {enc : TypeId × Value → H} {w : World} {fuel : Nat} {cs : List Value} {y : DataW H × List MemPlace} {t e : TypeId} (ht : Tryz.prog.underlying t = some (.slice e)) (he : Tryz.prog.underlying e = some (.int .i64)) (hc : Tryz.prog.cellsOf e = 1)
    (h : DataW.trod enc Tryz.prog w 0 (fun _ => true) true fuel t cs = some y) : ∃ x, cs = [x] ∧ ∃ zs, Ints w x zs := by
  rcases open_ints ht he hc h with ⟨rfl, -⟩ | ⟨a, len, cap, zs, rfl, -, hl, hm, hz, -, hcell, hw⟩
  · exact ⟨_, rfl, [], by simp, by simp, none, 0, rfl, Nat.le_refl _, Nat.zero_le _, .inl rfl⟩
  · rw [if_pos rfl] at hz
    have htl : (zs.take len).length = len := by rw [List.length_take]; omega
    refine ⟨_, rfl, zs.take len, fun z hz' => by have := bounds_i64 (hw z (List.mem_of_mem_take hz')); simpa using this, by rw [htl]; omega, some a, cap, by rw [htl], by rw [htl]; exact hl, hm, ?_⟩
    by_cases h0 : len = 0
    · left; subst h0; rfl
    · right
      have h1 := hcell 0 (by omega)
      have hs : a.spot = none := by
        cases hs : a.spot with
        | none => rfl
        | some s => simp [Addr.add, World.cell?, hs] at h1; split at h1 <;> simp at h1
      have e : a = ⟨a.block, a.off, none⟩ := by cases a; simp_all
      refine ⟨a.block, a.off, by rw [← e], ?_, fun i hi => ?_⟩
      · have := World.block_lt_of_cell? _ _ h1; simpa [Addr.add] using this
      · rw [htl] at hi
        have h2 := hcell i (by omega)
        have e2 : a.add i = ⟨a.block, a.off + i, none⟩ := by
          unfold Addr.add
          split
          · rename_i h; subst h; exact e
          · rfl
        rw [e2] at h2
        rw [h2]; congr 2
        simp [List.getD, hi]
/-- v is a slice of rows of k cells each, such as R tells. -/
def Sls (w : World) (k : Nat) (R : List Value → Prop) (v : Value) (L : List (List Value)) : Prop :=
  (∀ r ∈ L, r.length = k ∧ R r) ∧ L.length ≤ maxLen ∧ ∃ a cap, v = .slice a L.length cap ∧ L.length ≤ cap ∧ cap ≤ maxLen ∧
    (L = [] ∨ ∃ b off, a = some ⟨b, off, none⟩ ∧ b < w.heap.size ∧ ∀ i r, L[i]? = some r → ∀ j u, r[j]? = some u → w.cell? ⟨b, off + i * k + j, none⟩ = some u)
theorem add_plain (b off j : Nat) : (⟨b, off, none⟩ : Addr).add j = ⟨b, off + j, none⟩ := by
  unfold Addr.add; split
  · subst_vars; rfl
  · rfl
theorem list_build {α : Type} (n : Nat) (p : Nat → α → Prop) (h : ∀ i, i < n → ∃ x, p i x) : ∃ L : List α, L.length = n ∧ ∀ i x, L[i]? = some x → p i x := by
  induction n with
  | zero => exact ⟨[], rfl, fun i x h => by simp at h⟩
  | succ n ih =>
    obtain ⟨L, hl, hL⟩ := ih fun i hi => h i (by omega)
    obtain ⟨x, hx⟩ := h n (by omega)
    refine ⟨L ++ [x], by simp [hl], fun i y hy => ?_⟩
    rw [List.getElem?_append] at hy
    split at hy
    · exact hL i y hy
    · rename_i hi
      have hi' : i - L.length = 0 := by
        rcases Nat.eq_zero_or_pos (i - L.length) with h | h
        · exact h
        · rw [List.getElem?_eq_none (by simp; omega)] at hy; cases hy
      rw [hi'] at hy
      simp at hy
      obtain rfl : i = n := by omega
      rw [← hy]; exact hx
theorem rd_rows {H : Type} {enc : TypeId × Value → H} {w : World} {fuel : Nat} {cs : List Value} {y : DataW H × List MemPlace} {t e : TypeId} {k : Nat} (ht : Tryz.prog.underlying t = some (.slice e)) (hc : Tryz.prog.cellsOf e = k) (hk : 0 < k) (R : List Value → Prop)
    (hR : ∀ fuel cs y, DataW.trod enc Tryz.prog w 0 (fun _ => true) true fuel e cs = some y → R cs) (h : DataW.trod enc Tryz.prog w 0 (fun _ => true) true fuel t cs = some y) : ∃ x, cs = [x] ∧ ∃ L, Sls w k R x L := by
  rcases Go.Deep.open_slice ht h with ⟨rfl, -⟩ | ⟨a, len, cap, m, n, D, Pl, rfl, -, hl, hm, hmm, -, hi⟩
  · exact ⟨_, rfl, [], by simp, by simp, none, 0, rfl, Nat.le_refl _, Nat.zero_le _, .inl rfl⟩
  · rw [hc] at hi
    have hlm : len ≤ m := by rw [hmm]; split <;> omega
    obtain ⟨L, hL, hrow⟩ := list_build len (fun i r => r.length = k ∧ R r ∧ ∀ j u, r[j]? = some u → w.cell? ((a.add (i * k)).add j) = some u) (fun i hil => by
      obtain ⟨cs', hcs, htr⟩ := hi i (by omega)
      obtain ⟨_, hcl, hat⟩ := World.cells?_some hcs
      refine ⟨cs', hcl, hR _ _ _ htr, fun j u hj => ?_⟩
      have hjl : j < k := by rw [← hcl]; exact (List.getElem?_eq_some_iff.1 hj).1
      rw [hat j hjl]; exact hj)
    refine ⟨_, rfl, L, fun r hr => ?_, by omega, some a, cap, by rw [hL], by omega, hm, ?_⟩
    · obtain ⟨i, hi', rfl⟩ := List.mem_iff_getElem.1 hr
      have := hrow i _ (List.getElem?_eq_getElem hi')
      exact ⟨this.1, this.2.1⟩
    · rcases Nat.eq_zero_or_pos len with h0 | h0
      · left; exact List.eq_nil_of_length_eq_zero (by omega)
      · right
        have hs : a.spot = none := by
          have h0' : 0 < L.length := by omega
          obtain ⟨h1, -, h2⟩ := hrow 0 _ (List.getElem?_eq_getElem h0')
          have h3 := h2 0 _ (List.getElem?_eq_getElem (by omega))
          cases hs : a.spot with
          | none => rfl
          | some s => simp [Addr.add, World.cell?, hs] at h3; split at h3 <;> simp at h3
        have e : a = ⟨a.block, a.off, none⟩ := by cases a; simp_all
        have hcell : ∀ i r, L[i]? = some r → ∀ j u, r[j]? = some u → w.cell? ⟨a.block, a.off + i * k + j, none⟩ = some u := fun i r hr j u hu => by
          have := (hrow i r hr).2.2 j u hu
          rw [e, add_plain, add_plain] at this
          exact this
        refine ⟨a.block, a.off, by rw [← e], ?_, hcell⟩
        have h0' : 0 < L.length := by omega
        have h1 := (hrow 0 _ (List.getElem?_eq_getElem h0')).1
        have h2 := hcell 0 _ (List.getElem?_eq_getElem h0') 0 _ (List.getElem?_eq_getElem (by omega))
        exact World.block_lt_of_cell? _ (⟨a.block, a.off + 0 * k + 0, none⟩ : Addr) h2
theorem list_1 {α : Type} (l : List α) (h : l.length = 1) : ∃ c0, l = [c0] := by
  match l, h with
  | [c0], _ => exact ⟨c0, rfl⟩
theorem list_2 {α : Type} (l : List α) (h : l.length = 2) : ∃ c0 c1, l = [c0, c1] := by
  match l, h with
  | [c0, c1], _ => exact ⟨c0, c1, rfl⟩
theorem list_3 {α : Type} (l : List α) (h : l.length = 3) : ∃ c0 c1 c2, l = [c0, c1, c2] := by
  match l, h with
  | [c0, c1, c2], _ => exact ⟨c0, c1, c2, rfl⟩
theorem list_4 {α : Type} (l : List α) (h : l.length = 4) : ∃ c0 c1 c2 c3, l = [c0, c1, c2, c3] := by
  match l, h with
  | [c0, c1, c2, c3], _ => exact ⟨c0, c1, c2, c3, rfl⟩
theorem list_5 {α : Type} (l : List α) (h : l.length = 5) : ∃ c0 c1 c2 c3 c4, l = [c0, c1, c2, c3, c4] := by
  match l, h with
  | [c0, c1, c2, c3, c4], _ => exact ⟨c0, c1, c2, c3, c4, rfl⟩
theorem list_6 {α : Type} (l : List α) (h : l.length = 6) : ∃ c0 c1 c2 c3 c4 c5, l = [c0, c1, c2, c3, c4, c5] := by
  match l, h with
  | [c0, c1, c2, c3, c4, c5], _ => exact ⟨c0, c1, c2, c3, c4, c5, rfl⟩
theorem list_7 {α : Type} (l : List α) (h : l.length = 7) : ∃ c0 c1 c2 c3 c4 c5 c6, l = [c0, c1, c2, c3, c4, c5, c6] := by
  match l, h with
  | [c0, c1, c2, c3, c4, c5, c6], _ => exact ⟨c0, c1, c2, c3, c4, c5, c6, rfl⟩
theorem list_9 {α : Type} (l : List α) (h : l.length = 9) : ∃ c0 c1 c2 c3 c4 c5 c6 c7 c8, l = [c0, c1, c2, c3, c4, c5, c6, c7, c8] := by
  match l, h with
  | [c0, c1, c2, c3, c4, c5, c6, c7, c8], _ => exact ⟨c0, c1, c2, c3, c4, c5, c6, c7, c8, rfl⟩
theorem list_13 {α : Type} (l : List α) (h : l.length = 13) : ∃ c0 c1 c2 c3 c4 c5 c6 c7 c8 c9 c10 c11 c12, l = [c0, c1, c2, c3, c4, c5, c6, c7, c8, c9, c10, c11, c12] := by
  match l, h with
  | [c0, c1, c2, c3, c4, c5, c6, c7, c8, c9, c10, c11, c12], _ => exact ⟨c0, c1, c2, c3, c4, c5, c6, c7, c8, c9, c10, c11, c12, rfl⟩
theorem list_15 {α : Type} (l : List α) (h : l.length = 15) : ∃ c0 c1 c2 c3 c4 c5 c6 c7 c8 c9 c10 c11 c12 c13 c14, l = [c0, c1, c2, c3, c4, c5, c6, c7, c8, c9, c10, c11, c12, c13, c14] := by
  match l, h with
  | [c0, c1, c2, c3, c4, c5, c6, c7, c8, c9, c10, c11, c12, c13, c14], _ => exact ⟨c0, c1, c2, c3, c4, c5, c6, c7, c8, c9, c10, c11, c12, c13, c14, rfl⟩
theorem list_21 {α : Type} (l : List α) (h : l.length = 21) : ∃ c0 c1 c2 c3 c4 c5 c6 c7 c8 c9 c10 c11 c12 c13 c14 c15 c16 c17 c18 c19 c20, l = [c0, c1, c2, c3, c4, c5, c6, c7, c8, c9, c10, c11, c12, c13, c14, c15, c16, c17, c18, c19, c20] := by
  match l, h with
  | [c0, c1, c2, c3, c4, c5, c6, c7, c8, c9, c10, c11, c12, c13, c14, c15, c16, c17, c18, c19, c20], _ => exact ⟨c0, c1, c2, c3, c4, c5, c6, c7, c8, c9, c10, c11, c12, c13, c14, c15, c16, c17, c18, c19, c20, rfl⟩
section
variable {H : Type} {enc : TypeId × Value → H} {w : World} {fuel base : Nat} {cs : List Value} {y : DataW H × List MemPlace} {v : Value} {d : DataW H} {ps : List MemPlace}
theorem rd_uint8 (h : DataW.trod enc Tryz.prog w 0 (fun _ => true) true fuel 5 cs = some y) : ∃ (x : Int), cs = [.int .u8 x] ∧ (0 ≤ x ∧ x ≤ 255) := by
  obtain ⟨n, rfl, -, hw⟩ := DataW.trod_int Tryz.underlying5 h
  exact ⟨n, rfl, by have := bounds_u8 hw; simpa using this⟩
theorem arg_uint8 (hv : Value.okWide Tryz.prog w .any base 5 v) (h : DataW.Trod enc Tryz.prog w 0 (fun _ => true) true 5 v d ps) : ∃ (x : Int), v = .int .u8 x ∧ (0 ≤ x ∧ x ≤ 255) := by
  obtain ⟨x, rfl, -, -, hw⟩ := open_int Tryz.underlying5 hv h
  exact ⟨x, rfl, by have := bounds_u8 hw; simpa using this⟩
theorem rd_int (h : DataW.trod enc Tryz.prog w 0 (fun _ => true) true fuel 3 cs = some y) : ∃ (x : Int), cs = [.int .i64 x] ∧ (-9223372036854775808 ≤ x ∧ x ≤ 9223372036854775807) := by
  obtain ⟨n, rfl, -, hw⟩ := DataW.trod_int Tryz.underlying3 h
  exact ⟨n, rfl, by have := bounds_i64 hw; simpa using this⟩
theorem arg_int (hv : Value.okWide Tryz.prog w .any base 3 v) (h : DataW.Trod enc Tryz.prog w 0 (fun _ => true) true 3 v d ps) : ∃ (x : Int), v = .int .i64 x ∧ (-9223372036854775808 ≤ x ∧ x ≤ 9223372036854775807) := by
  obtain ⟨x, rfl, -, -, hw⟩ := open_int Tryz.underlying3 hv h
  exact ⟨x, rfl, by have := bounds_i64 hw; simpa using this⟩
theorem rd_Color (h : DataW.trod enc Tryz.prog w 0 (fun _ => true) true fuel 39 cs = some y) : ∃ (x0 : Int) (x1 : Int) (x2 : Int) (x3 : Int), cs = [.int .i64 x0, .int .i64 x1, .int .i64 x2, .int .i64 x3] ∧ (-9223372036854775808 ≤ x0 ∧ x0 ≤ 9223372036854775807) ∧ (-9223372036854775808 ≤ x1 ∧ x1 ≤ 9223372036854775807) ∧ (-9223372036854775808 ≤ x2 ∧ x2 ≤ 9223372036854775807) ∧ (-9223372036854775808 ≤ x3 ∧ x3 ≤ 9223372036854775807) := by
  obtain ⟨ys, m, -, -, hl, hn, hf⟩ := DataW.trod_array Tryz.underlying39 h
  rw [show Tryz.prog.cellsOf 39 = 4 from by kernel_rfl] at hl
  obtain ⟨c0, c1, c2, c3, rfl⟩ := list_4 cs hl
  obtain ⟨y0, y1, y2, y3, rfl⟩ := list_4 ys hn
  obtain ⟨x0, e, hx0⟩ := rd_int (cs := [c0]) (show _ = some y0 from hf 0 (by decide))
  simp only [List.cons.injEq, and_true] at e
  obtain rfl := e
  obtain ⟨x1, e, hx1⟩ := rd_int (cs := [c1]) (show _ = some y1 from hf 1 (by decide))
  simp only [List.cons.injEq, and_true] at e
  obtain rfl := e
  obtain ⟨x2, e, hx2⟩ := rd_int (cs := [c2]) (show _ = some y2 from hf 2 (by decide))
  simp only [List.cons.injEq, and_true] at e
  obtain rfl := e
  obtain ⟨x3, e, hx3⟩ := rd_int (cs := [c3]) (show _ = some y3 from hf 3 (by decide))
  simp only [List.cons.injEq, and_true] at e
  obtain rfl := e
  exact ⟨_, _, _, _, rfl, hx0, hx1, hx2, hx3⟩
theorem arg_Color (hv : Value.okWide Tryz.prog w .any base 39 v) (h : DataW.Trod enc Tryz.prog w 0 (fun _ => true) true 39 v d ps) : ∃ (x0 : Int) (x1 : Int) (x2 : Int) (x3 : Int), v = .agg #[.int .i64 x0, .int .i64 x1, .int .i64 x2, .int .i64 x3] ∧ (-9223372036854775808 ≤ x0 ∧ x0 ≤ 9223372036854775807) ∧ (-9223372036854775808 ≤ x1 ∧ x1 ≤ 9223372036854775807) ∧ (-9223372036854775808 ≤ x2 ∧ x2 ≤ 9223372036854775807) ∧ (-9223372036854775808 ≤ x3 ∧ x3 ≤ 9223372036854775807) := by
  obtain ⟨cs, rfl, -⟩ : ∃ cs, v = .agg cs ∧ True := by
    simp only [Value.okWide, Tryz.underlying39] at hv
    obtain ⟨cs, e, -⟩ := hv
    exact ⟨cs, e, trivial⟩
  obtain ⟨fuel, h⟩ := h
  obtain ⟨x0, x1, x2, x3, e, hf⟩ := rd_Color h
  exact ⟨x0, x1, x2, x3, by rw [← Array.toArray_toList (xs := cs), show cs.toList = _ from e], hf⟩
theorem rd_Win (h : DataW.trod enc Tryz.prog w 0 (fun _ => true) true fuel 41 cs = some y) : ∃ (xX : Int) (xY : Int) (xZ : Int) (xC0 : Int) (xC1 : Int) (xC2 : Int) (xC3 : Int), cs = [.int .i64 xX, .int .i64 xY, .int .i64 xZ, .int .i64 xC0, .int .i64 xC1, .int .i64 xC2, .int .i64 xC3] ∧ (-9223372036854775808 ≤ xX ∧ xX ≤ 9223372036854775807) ∧ (-9223372036854775808 ≤ xY ∧ xY ≤ 9223372036854775807) ∧ (-9223372036854775808 ≤ xZ ∧ xZ ≤ 9223372036854775807) ∧ (-9223372036854775808 ≤ xC0 ∧ xC0 ≤ 9223372036854775807) ∧ (-9223372036854775808 ≤ xC1 ∧ xC1 ≤ 9223372036854775807) ∧ (-9223372036854775808 ≤ xC2 ∧ xC2 ≤ 9223372036854775807) ∧ (-9223372036854775808 ≤ xC3 ∧ xC3 ≤ 9223372036854775807) := by
  obtain ⟨ys, m, -, -, hl, hn, hf⟩ := DataW.trod_struct Tryz.underlying41 h
  rw [show Tryz.prog.cellsOf 41 = 7 from by kernel_rfl] at hl
  obtain ⟨c0, c1, c2, c3, c4, c5, c6, rfl⟩ := list_7 cs hl
  obtain ⟨y0, y1, y2, y3, rfl⟩ := list_4 ys hn
  obtain ⟨xX, e, hxX⟩ := rd_int (cs := [c0]) (show _ = some y0 from hf 0 _ rfl)
  simp only [List.cons.injEq, and_true] at e
  obtain rfl := e
  obtain ⟨xY, e, hxY⟩ := rd_int (cs := [c1]) (show _ = some y1 from hf 1 _ rfl)
  simp only [List.cons.injEq, and_true] at e
  obtain rfl := e
  obtain ⟨xZ, e, hxZ⟩ := rd_int (cs := [c2]) (show _ = some y2 from hf 2 _ rfl)
  simp only [List.cons.injEq, and_true] at e
  obtain rfl := e
  obtain ⟨xC0, xC1, xC2, xC3, e, hxC⟩ := rd_Color (cs := [c3, c4, c5, c6]) (show _ = some y3 from hf 3 _ rfl)
  simp only [List.cons.injEq, and_true] at e
  obtain ⟨rfl, rfl, rfl, rfl⟩ := e
  exact ⟨_, _, _, _, _, _, _, rfl, hxX, hxY, hxZ, hxC.1, hxC.2.1, hxC.2.2.1, hxC.2.2.2⟩
theorem arg_Win (hv : Value.okWide Tryz.prog w .any base 41 v) (h : DataW.Trod enc Tryz.prog w 0 (fun _ => true) true 41 v d ps) : ∃ (xX : Int) (xY : Int) (xZ : Int) (xC0 : Int) (xC1 : Int) (xC2 : Int) (xC3 : Int), v = .agg #[.int .i64 xX, .int .i64 xY, .int .i64 xZ, .int .i64 xC0, .int .i64 xC1, .int .i64 xC2, .int .i64 xC3] ∧ (-9223372036854775808 ≤ xX ∧ xX ≤ 9223372036854775807) ∧ (-9223372036854775808 ≤ xY ∧ xY ≤ 9223372036854775807) ∧ (-9223372036854775808 ≤ xZ ∧ xZ ≤ 9223372036854775807) ∧ (-9223372036854775808 ≤ xC0 ∧ xC0 ≤ 9223372036854775807) ∧ (-9223372036854775808 ≤ xC1 ∧ xC1 ≤ 9223372036854775807) ∧ (-9223372036854775808 ≤ xC2 ∧ xC2 ≤ 9223372036854775807) ∧ (-9223372036854775808 ≤ xC3 ∧ xC3 ≤ 9223372036854775807) := by
  obtain ⟨cs, rfl, -⟩ : ∃ cs, v = .agg cs ∧ True := by
    simp only [Value.okWide, Tryz.underlying41] at hv
    obtain ⟨cs, e, -⟩ := hv
    exact ⟨cs, e, trivial⟩
  obtain ⟨fuel, h⟩ := h
  obtain ⟨xX, xY, xZ, xC0, xC1, xC2, xC3, e, hf⟩ := rd_Win h
  exact ⟨xX, xY, xZ, xC0, xC1, xC2, xC3, by rw [← Array.toArray_toList (xs := cs), show cs.toList = _ from e], hf⟩
theorem rd_SlWin (h : DataW.trod enc Tryz.prog w 0 (fun _ => true) true fuel 22 cs = some y) : ∃ (x : Value), cs = [x] ∧ (∃ zx, Sls w 7 (fun r => ∃ (exX : Int) (exY : Int) (exZ : Int) (exC0 : Int) (exC1 : Int) (exC2 : Int) (exC3 : Int), r = [.int .i64 exX, .int .i64 exY, .int .i64 exZ, .int .i64 exC0, .int .i64 exC1, .int .i64 exC2, .int .i64 exC3] ∧ (-9223372036854775808 ≤ exX ∧ exX ≤ 9223372036854775807) ∧ (-9223372036854775808 ≤ exY ∧ exY ≤ 9223372036854775807) ∧ (-9223372036854775808 ≤ exZ ∧ exZ ≤ 9223372036854775807) ∧ (-9223372036854775808 ≤ exC0 ∧ exC0 ≤ 9223372036854775807) ∧ (-9223372036854775808 ≤ exC1 ∧ exC1 ≤ 9223372036854775807) ∧ (-9223372036854775808 ≤ exC2 ∧ exC2 ≤ 9223372036854775807) ∧ (-9223372036854775808 ≤ exC3 ∧ exC3 ≤ 9223372036854775807)) x zx) := by
  exact rd_rows Tryz.underlying22 (by kernel_rfl) (by decide) _ (fun fuel cs y h => rd_Win h) h
theorem arg_SlWin (hv : Value.okWide Tryz.prog w .any base 22 v) (h : DataW.Trod enc Tryz.prog w 0 (fun _ => true) true 22 v d ps) : ∃ (x : Value), v = x ∧ (∃ zx, Sls w 7 (fun r => ∃ (exX : Int) (exY : Int) (exZ : Int) (exC0 : Int) (exC1 : Int) (exC2 : Int) (exC3 : Int), r = [.int .i64 exX, .int .i64 exY, .int .i64 exZ, .int .i64 exC0, .int .i64 exC1, .int .i64 exC2, .int .i64 exC3] ∧ (-9223372036854775808 ≤ exX ∧ exX ≤ 9223372036854775807) ∧ (-9223372036854775808 ≤ exY ∧ exY ≤ 9223372036854775807) ∧ (-9223372036854775808 ≤ exZ ∧ exZ ≤ 9223372036854775807) ∧ (-9223372036854775808 ≤ exC0 ∧ exC0 ≤ 9223372036854775807) ∧ (-9223372036854775808 ≤ exC1 ∧ exC1 ≤ 9223372036854775807) ∧ (-9223372036854775808 ≤ exC2 ∧ exC2 ≤ 9223372036854775807) ∧ (-9223372036854775808 ≤ exC3 ∧ exC3 ≤ 9223372036854775807)) x zx) := by
  obtain ⟨a, len, cap, rfl⟩ := okWide_slice Tryz.underlying22 hv
  obtain ⟨fuel, h⟩ := h
  obtain ⟨x, e, hf⟩ := rd_SlWin h
  simp [Value.cells] at e
  subst e
  exact ⟨_, rfl, hf⟩
theorem rd_bool (h : DataW.trod enc Tryz.prog w 0 (fun _ => true) true fuel 4 cs = some y) : ∃ (x : Bool), cs = [.bool x] ∧ True := by
  obtain ⟨n, rfl, -⟩ := DataW.trod_bool Tryz.underlying4 h
  exact ⟨n, rfl, trivial⟩
theorem arg_bool (hv : Value.okWide Tryz.prog w .any base 4 v) (h : DataW.Trod enc Tryz.prog w 0 (fun _ => true) true 4 v d ps) : ∃ (x : Bool), v = .bool x ∧ True := by
  obtain ⟨x, rfl, -, -⟩ := open_bool Tryz.underlying4 hv h
  exact ⟨x, rfl, trivial⟩
theorem rd_Dash (h : DataW.trod enc Tryz.prog w 0 (fun _ => true) true fuel 25 cs = some y) : ∃ (xPattern : Int) (xRepeat : Int) (xCount : Int), cs = [.int .i64 xPattern, .int .i64 xRepeat, .int .i64 xCount] ∧ (-9223372036854775808 ≤ xPattern ∧ xPattern ≤ 9223372036854775807) ∧ (-9223372036854775808 ≤ xRepeat ∧ xRepeat ≤ 9223372036854775807) ∧ (-9223372036854775808 ≤ xCount ∧ xCount ≤ 9223372036854775807) := by
  obtain ⟨ys, m, -, -, hl, hn, hf⟩ := DataW.trod_struct Tryz.underlying25 h
  rw [show Tryz.prog.cellsOf 25 = 3 from by kernel_rfl] at hl
  obtain ⟨c0, c1, c2, rfl⟩ := list_3 cs hl
  obtain ⟨y0, y1, y2, rfl⟩ := list_3 ys hn
  obtain ⟨xPattern, e, hxPattern⟩ := rd_int (cs := [c0]) (show _ = some y0 from hf 0 _ rfl)
  simp only [List.cons.injEq, and_true] at e
  obtain rfl := e
  obtain ⟨xRepeat, e, hxRepeat⟩ := rd_int (cs := [c1]) (show _ = some y1 from hf 1 _ rfl)
  simp only [List.cons.injEq, and_true] at e
  obtain rfl := e
  obtain ⟨xCount, e, hxCount⟩ := rd_int (cs := [c2]) (show _ = some y2 from hf 2 _ rfl)
  simp only [List.cons.injEq, and_true] at e
  obtain rfl := e
  exact ⟨_, _, _, rfl, hxPattern, hxRepeat, hxCount⟩
theorem arg_Dash (hv : Value.okWide Tryz.prog w .any base 25 v) (h : DataW.Trod enc Tryz.prog w 0 (fun _ => true) true 25 v d ps) : ∃ (xPattern : Int) (xRepeat : Int) (xCount : Int), v = .agg #[.int .i64 xPattern, .int .i64 xRepeat, .int .i64 xCount] ∧ (-9223372036854775808 ≤ xPattern ∧ xPattern ≤ 9223372036854775807) ∧ (-9223372036854775808 ≤ xRepeat ∧ xRepeat ≤ 9223372036854775807) ∧ (-9223372036854775808 ≤ xCount ∧ xCount ≤ 9223372036854775807) := by
  obtain ⟨cs, rfl, -⟩ : ∃ cs, v = .agg cs ∧ True := by
    simp only [Value.okWide, Tryz.underlying25] at hv
    obtain ⟨cs, e, -⟩ := hv
    exact ⟨cs, e, trivial⟩
  obtain ⟨fuel, h⟩ := h
  obtain ⟨xPattern, xRepeat, xCount, e, hf⟩ := rd_Dash h
  exact ⟨xPattern, xRepeat, xCount, by rw [← Array.toArray_toList (xs := cs), show cs.toList = _ from e], hf⟩
theorem rd_Look (h : DataW.trod enc Tryz.prog w 0 (fun _ => true) true fuel 27 cs = some y) : ∃ (xWidth : Int) (xSoft : Bool) (xDashed : Bool) (xDashPattern : Int) (xDashRepeat : Int) (xDashCount : Int) (xSize : Int) (xKind : Int) (xFront : Int) (xBack : Int) (xCcw : Bool) (xCull : Int) (xOffset : Bool) (xFactor : Int) (xUnits : Int), cs = [.int .i64 xWidth, .bool xSoft, .bool xDashed, .int .i64 xDashPattern, .int .i64 xDashRepeat, .int .i64 xDashCount, .int .i64 xSize, .int .i64 xKind, .int .i64 xFront, .int .i64 xBack, .bool xCcw, .int .i64 xCull, .bool xOffset, .int .i64 xFactor, .int .i64 xUnits] ∧ (-9223372036854775808 ≤ xWidth ∧ xWidth ≤ 9223372036854775807) ∧ (-9223372036854775808 ≤ xDashPattern ∧ xDashPattern ≤ 9223372036854775807) ∧ (-9223372036854775808 ≤ xDashRepeat ∧ xDashRepeat ≤ 9223372036854775807) ∧ (-9223372036854775808 ≤ xDashCount ∧ xDashCount ≤ 9223372036854775807) ∧ (-9223372036854775808 ≤ xSize ∧ xSize ≤ 9223372036854775807) ∧ (-9223372036854775808 ≤ xKind ∧ xKind ≤ 9223372036854775807) ∧ (-9223372036854775808 ≤ xFront ∧ xFront ≤ 9223372036854775807) ∧ (-9223372036854775808 ≤ xBack ∧ xBack ≤ 9223372036854775807) ∧ (-9223372036854775808 ≤ xCull ∧ xCull ≤ 9223372036854775807) ∧ (-9223372036854775808 ≤ xFactor ∧ xFactor ≤ 9223372036854775807) ∧ (-9223372036854775808 ≤ xUnits ∧ xUnits ≤ 9223372036854775807) := by
  obtain ⟨ys, m, -, -, hl, hn, hf⟩ := DataW.trod_struct Tryz.underlying27 h
  rw [show Tryz.prog.cellsOf 27 = 15 from by kernel_rfl] at hl
  obtain ⟨c0, c1, c2, c3, c4, c5, c6, c7, c8, c9, c10, c11, c12, c13, c14, rfl⟩ := list_15 cs hl
  obtain ⟨y0, y1, y2, y3, y4, y5, y6, y7, y8, y9, y10, y11, y12, rfl⟩ := list_13 ys hn
  obtain ⟨xWidth, e, hxWidth⟩ := rd_int (cs := [c0]) (show _ = some y0 from hf 0 _ rfl)
  simp only [List.cons.injEq, and_true] at e
  obtain rfl := e
  obtain ⟨xSoft, e, hxSoft⟩ := rd_bool (cs := [c1]) (show _ = some y1 from hf 1 _ rfl)
  simp only [List.cons.injEq, and_true] at e
  obtain rfl := e
  obtain ⟨xDashed, e, hxDashed⟩ := rd_bool (cs := [c2]) (show _ = some y2 from hf 2 _ rfl)
  simp only [List.cons.injEq, and_true] at e
  obtain rfl := e
  obtain ⟨xDashPattern, xDashRepeat, xDashCount, e, hxDash⟩ := rd_Dash (cs := [c3, c4, c5]) (show _ = some y3 from hf 3 _ rfl)
  simp only [List.cons.injEq, and_true] at e
  obtain ⟨rfl, rfl, rfl⟩ := e
  obtain ⟨xSize, e, hxSize⟩ := rd_int (cs := [c6]) (show _ = some y4 from hf 4 _ rfl)
  simp only [List.cons.injEq, and_true] at e
  obtain rfl := e
  obtain ⟨xKind, e, hxKind⟩ := rd_int (cs := [c7]) (show _ = some y5 from hf 5 _ rfl)
  simp only [List.cons.injEq, and_true] at e
  obtain rfl := e
  obtain ⟨xFront, e, hxFront⟩ := rd_int (cs := [c8]) (show _ = some y6 from hf 6 _ rfl)
  simp only [List.cons.injEq, and_true] at e
  obtain rfl := e
  obtain ⟨xBack, e, hxBack⟩ := rd_int (cs := [c9]) (show _ = some y7 from hf 7 _ rfl)
  simp only [List.cons.injEq, and_true] at e
  obtain rfl := e
  obtain ⟨xCcw, e, hxCcw⟩ := rd_bool (cs := [c10]) (show _ = some y8 from hf 8 _ rfl)
  simp only [List.cons.injEq, and_true] at e
  obtain rfl := e
  obtain ⟨xCull, e, hxCull⟩ := rd_int (cs := [c11]) (show _ = some y9 from hf 9 _ rfl)
  simp only [List.cons.injEq, and_true] at e
  obtain rfl := e
  obtain ⟨xOffset, e, hxOffset⟩ := rd_bool (cs := [c12]) (show _ = some y10 from hf 10 _ rfl)
  simp only [List.cons.injEq, and_true] at e
  obtain rfl := e
  obtain ⟨xFactor, e, hxFactor⟩ := rd_int (cs := [c13]) (show _ = some y11 from hf 11 _ rfl)
  simp only [List.cons.injEq, and_true] at e
  obtain rfl := e
  obtain ⟨xUnits, e, hxUnits⟩ := rd_int (cs := [c14]) (show _ = some y12 from hf 12 _ rfl)
  simp only [List.cons.injEq, and_true] at e
  obtain rfl := e
  exact ⟨_, _, _, _, _, _, _, _, _, _, _, _, _, _, _, rfl, hxWidth, hxDash.1, hxDash.2.1, hxDash.2.2, hxSize, hxKind, hxFront, hxBack, hxCull, hxFactor, hxUnits⟩
theorem arg_Look (hv : Value.okWide Tryz.prog w .any base 27 v) (h : DataW.Trod enc Tryz.prog w 0 (fun _ => true) true 27 v d ps) : ∃ (xWidth : Int) (xSoft : Bool) (xDashed : Bool) (xDashPattern : Int) (xDashRepeat : Int) (xDashCount : Int) (xSize : Int) (xKind : Int) (xFront : Int) (xBack : Int) (xCcw : Bool) (xCull : Int) (xOffset : Bool) (xFactor : Int) (xUnits : Int), v = .agg #[.int .i64 xWidth, .bool xSoft, .bool xDashed, .int .i64 xDashPattern, .int .i64 xDashRepeat, .int .i64 xDashCount, .int .i64 xSize, .int .i64 xKind, .int .i64 xFront, .int .i64 xBack, .bool xCcw, .int .i64 xCull, .bool xOffset, .int .i64 xFactor, .int .i64 xUnits] ∧ (-9223372036854775808 ≤ xWidth ∧ xWidth ≤ 9223372036854775807) ∧ (-9223372036854775808 ≤ xDashPattern ∧ xDashPattern ≤ 9223372036854775807) ∧ (-9223372036854775808 ≤ xDashRepeat ∧ xDashRepeat ≤ 9223372036854775807) ∧ (-9223372036854775808 ≤ xDashCount ∧ xDashCount ≤ 9223372036854775807) ∧ (-9223372036854775808 ≤ xSize ∧ xSize ≤ 9223372036854775807) ∧ (-9223372036854775808 ≤ xKind ∧ xKind ≤ 9223372036854775807) ∧ (-9223372036854775808 ≤ xFront ∧ xFront ≤ 9223372036854775807) ∧ (-9223372036854775808 ≤ xBack ∧ xBack ≤ 9223372036854775807) ∧ (-9223372036854775808 ≤ xCull ∧ xCull ≤ 9223372036854775807) ∧ (-9223372036854775808 ≤ xFactor ∧ xFactor ≤ 9223372036854775807) ∧ (-9223372036854775808 ≤ xUnits ∧ xUnits ≤ 9223372036854775807) := by
  obtain ⟨cs, rfl, -⟩ : ∃ cs, v = .agg cs ∧ True := by
    simp only [Value.okWide, Tryz.underlying27] at hv
    obtain ⟨cs, e, -⟩ := hv
    exact ⟨cs, e, trivial⟩
  obtain ⟨fuel, h⟩ := h
  obtain ⟨xWidth, xSoft, xDashed, xDashPattern, xDashRepeat, xDashCount, xSize, xKind, xFront, xBack, xCcw, xCull, xOffset, xFactor, xUnits, e, hf⟩ := rd_Look h
  exact ⟨xWidth, xSoft, xDashed, xDashPattern, xDashRepeat, xDashCount, xSize, xKind, xFront, xBack, xCcw, xCull, xOffset, xFactor, xUnits, by rw [← Array.toArray_toList (xs := cs), show cs.toList = _ from e], hf⟩
theorem rd_Rect (h : DataW.trod enc Tryz.prog w 0 (fun _ => true) true fuel 29 cs = some y) : ∃ (xX0 : Int) (xY0 : Int) (xX1 : Int) (xY1 : Int), cs = [.int .i64 xX0, .int .i64 xY0, .int .i64 xX1, .int .i64 xY1] ∧ (-9223372036854775808 ≤ xX0 ∧ xX0 ≤ 9223372036854775807) ∧ (-9223372036854775808 ≤ xY0 ∧ xY0 ≤ 9223372036854775807) ∧ (-9223372036854775808 ≤ xX1 ∧ xX1 ≤ 9223372036854775807) ∧ (-9223372036854775808 ≤ xY1 ∧ xY1 ≤ 9223372036854775807) := by
  obtain ⟨ys, m, -, -, hl, hn, hf⟩ := DataW.trod_struct Tryz.underlying29 h
  rw [show Tryz.prog.cellsOf 29 = 4 from by kernel_rfl] at hl
  obtain ⟨c0, c1, c2, c3, rfl⟩ := list_4 cs hl
  obtain ⟨y0, y1, y2, y3, rfl⟩ := list_4 ys hn
  obtain ⟨xX0, e, hxX0⟩ := rd_int (cs := [c0]) (show _ = some y0 from hf 0 _ rfl)
  simp only [List.cons.injEq, and_true] at e
  obtain rfl := e
  obtain ⟨xY0, e, hxY0⟩ := rd_int (cs := [c1]) (show _ = some y1 from hf 1 _ rfl)
  simp only [List.cons.injEq, and_true] at e
  obtain rfl := e
  obtain ⟨xX1, e, hxX1⟩ := rd_int (cs := [c2]) (show _ = some y2 from hf 2 _ rfl)
  simp only [List.cons.injEq, and_true] at e
  obtain rfl := e
  obtain ⟨xY1, e, hxY1⟩ := rd_int (cs := [c3]) (show _ = some y3 from hf 3 _ rfl)
  simp only [List.cons.injEq, and_true] at e
  obtain rfl := e
  exact ⟨_, _, _, _, rfl, hxX0, hxY0, hxX1, hxY1⟩
theorem arg_Rect (hv : Value.okWide Tryz.prog w .any base 29 v) (h : DataW.Trod enc Tryz.prog w 0 (fun _ => true) true 29 v d ps) : ∃ (xX0 : Int) (xY0 : Int) (xX1 : Int) (xY1 : Int), v = .agg #[.int .i64 xX0, .int .i64 xY0, .int .i64 xX1, .int .i64 xY1] ∧ (-9223372036854775808 ≤ xX0 ∧ xX0 ≤ 9223372036854775807) ∧ (-9223372036854775808 ≤ xY0 ∧ xY0 ≤ 9223372036854775807) ∧ (-9223372036854775808 ≤ xX1 ∧ xX1 ≤ 9223372036854775807) ∧ (-9223372036854775808 ≤ xY1 ∧ xY1 ≤ 9223372036854775807) := by
  obtain ⟨cs, rfl, -⟩ : ∃ cs, v = .agg cs ∧ True := by
    simp only [Value.okWide, Tryz.underlying29] at hv
    obtain ⟨cs, e, -⟩ := hv
    exact ⟨cs, e, trivial⟩
  obtain ⟨fuel, h⟩ := h
  obtain ⟨xX0, xY0, xX1, xY1, e, hf⟩ := rd_Rect h
  exact ⟨xX0, xY0, xX1, xY1, by rw [← Array.toArray_toList (xs := cs), show cs.toList = _ from e], hf⟩
theorem rd_Slbool (h : DataW.trod enc Tryz.prog w 0 (fun _ => true) true fuel 23 cs = some y) : ∃ (x : Value), cs = [x] ∧ (∃ zx, Sls w 1 (fun r => ∃ (ex : Bool), r = [.bool ex] ∧ True) x zx) := by
  exact rd_rows Tryz.underlying23 (by kernel_rfl) (by decide) _ (fun fuel cs y h => rd_bool h) h
theorem arg_Slbool (hv : Value.okWide Tryz.prog w .any base 23 v) (h : DataW.Trod enc Tryz.prog w 0 (fun _ => true) true 23 v d ps) : ∃ (x : Value), v = x ∧ (∃ zx, Sls w 1 (fun r => ∃ (ex : Bool), r = [.bool ex] ∧ True) x zx) := by
  obtain ⟨a, len, cap, rfl⟩ := okWide_slice Tryz.underlying23 hv
  obtain ⟨fuel, h⟩ := h
  obtain ⟨x, e, hf⟩ := rd_Slbool h
  simp [Value.cells] at e
  subst e
  exact ⟨_, rfl, hf⟩
theorem rd_rastrumlaw22_Face (h : DataW.trod enc Tryz.prog w 0 (fun _ => true) true fuel 31 cs = some y) : ∃ (xL : Value) (xE : Value) (xKWidth : Int) (xKSoft : Bool) (xKDashed : Bool) (xKDashPattern : Int) (xKDashRepeat : Int) (xKDashCount : Int) (xKSize : Int) (xKKind : Int) (xKFront : Int) (xKBack : Int) (xKCcw : Bool) (xKCull : Int) (xKOffset : Bool) (xKFactor : Int) (xKUnits : Int) (xRX0 : Int) (xRY0 : Int) (xRX1 : Int) (xRY1 : Int), cs = [xL, xE, .int .i64 xKWidth, .bool xKSoft, .bool xKDashed, .int .i64 xKDashPattern, .int .i64 xKDashRepeat, .int .i64 xKDashCount, .int .i64 xKSize, .int .i64 xKKind, .int .i64 xKFront, .int .i64 xKBack, .bool xKCcw, .int .i64 xKCull, .bool xKOffset, .int .i64 xKFactor, .int .i64 xKUnits, .int .i64 xRX0, .int .i64 xRY0, .int .i64 xRX1, .int .i64 xRY1] ∧ (∃ zxL, Sls w 7 (fun r => ∃ (exLX : Int) (exLY : Int) (exLZ : Int) (exLC0 : Int) (exLC1 : Int) (exLC2 : Int) (exLC3 : Int), r = [.int .i64 exLX, .int .i64 exLY, .int .i64 exLZ, .int .i64 exLC0, .int .i64 exLC1, .int .i64 exLC2, .int .i64 exLC3] ∧ (-9223372036854775808 ≤ exLX ∧ exLX ≤ 9223372036854775807) ∧ (-9223372036854775808 ≤ exLY ∧ exLY ≤ 9223372036854775807) ∧ (-9223372036854775808 ≤ exLZ ∧ exLZ ≤ 9223372036854775807) ∧ (-9223372036854775808 ≤ exLC0 ∧ exLC0 ≤ 9223372036854775807) ∧ (-9223372036854775808 ≤ exLC1 ∧ exLC1 ≤ 9223372036854775807) ∧ (-9223372036854775808 ≤ exLC2 ∧ exLC2 ≤ 9223372036854775807) ∧ (-9223372036854775808 ≤ exLC3 ∧ exLC3 ≤ 9223372036854775807)) xL zxL) ∧ (∃ zxE, Sls w 1 (fun r => ∃ (exE : Bool), r = [.bool exE] ∧ True) xE zxE) ∧ (-9223372036854775808 ≤ xKWidth ∧ xKWidth ≤ 9223372036854775807) ∧ (-9223372036854775808 ≤ xKDashPattern ∧ xKDashPattern ≤ 9223372036854775807) ∧ (-9223372036854775808 ≤ xKDashRepeat ∧ xKDashRepeat ≤ 9223372036854775807) ∧ (-9223372036854775808 ≤ xKDashCount ∧ xKDashCount ≤ 9223372036854775807) ∧ (-9223372036854775808 ≤ xKSize ∧ xKSize ≤ 9223372036854775807) ∧ (-9223372036854775808 ≤ xKKind ∧ xKKind ≤ 9223372036854775807) ∧ (-9223372036854775808 ≤ xKFront ∧ xKFront ≤ 9223372036854775807) ∧ (-9223372036854775808 ≤ xKBack ∧ xKBack ≤ 9223372036854775807) ∧ (-9223372036854775808 ≤ xKCull ∧ xKCull ≤ 9223372036854775807) ∧ (-9223372036854775808 ≤ xKFactor ∧ xKFactor ≤ 9223372036854775807) ∧ (-9223372036854775808 ≤ xKUnits ∧ xKUnits ≤ 9223372036854775807) ∧ (-9223372036854775808 ≤ xRX0 ∧ xRX0 ≤ 9223372036854775807) ∧ (-9223372036854775808 ≤ xRY0 ∧ xRY0 ≤ 9223372036854775807) ∧ (-9223372036854775808 ≤ xRX1 ∧ xRX1 ≤ 9223372036854775807) ∧ (-9223372036854775808 ≤ xRY1 ∧ xRY1 ≤ 9223372036854775807) := by
  obtain ⟨ys, m, -, -, hl, hn, hf⟩ := DataW.trod_struct Tryz.underlying31 h
  rw [show Tryz.prog.cellsOf 31 = 21 from by kernel_rfl] at hl
  obtain ⟨c0, c1, c2, c3, c4, c5, c6, c7, c8, c9, c10, c11, c12, c13, c14, c15, c16, c17, c18, c19, c20, rfl⟩ := list_21 cs hl
  obtain ⟨y0, y1, y2, y3, rfl⟩ := list_4 ys hn
  obtain ⟨xL, e, hxL⟩ := rd_SlWin (cs := [c0]) (show _ = some y0 from hf 0 _ rfl)
  simp only [List.cons.injEq, and_true] at e
  obtain rfl := e
  obtain ⟨xE, e, hxE⟩ := rd_Slbool (cs := [c1]) (show _ = some y1 from hf 1 _ rfl)
  simp only [List.cons.injEq, and_true] at e
  obtain rfl := e
  obtain ⟨xKWidth, xKSoft, xKDashed, xKDashPattern, xKDashRepeat, xKDashCount, xKSize, xKKind, xKFront, xKBack, xKCcw, xKCull, xKOffset, xKFactor, xKUnits, e, hxK⟩ := rd_Look (cs := [c2, c3, c4, c5, c6, c7, c8, c9, c10, c11, c12, c13, c14, c15, c16]) (show _ = some y2 from hf 2 _ rfl)
  simp only [List.cons.injEq, and_true] at e
  obtain ⟨rfl, rfl, rfl, rfl, rfl, rfl, rfl, rfl, rfl, rfl, rfl, rfl, rfl, rfl, rfl⟩ := e
  obtain ⟨xRX0, xRY0, xRX1, xRY1, e, hxR⟩ := rd_Rect (cs := [c17, c18, c19, c20]) (show _ = some y3 from hf 3 _ rfl)
  simp only [List.cons.injEq, and_true] at e
  obtain ⟨rfl, rfl, rfl, rfl⟩ := e
  exact ⟨_, _, _, _, _, _, _, _, _, _, _, _, _, _, _, _, _, _, _, _, _, rfl, hxL, hxE, hxK.1, hxK.2.1, hxK.2.2.1, hxK.2.2.2.1, hxK.2.2.2.2.1, hxK.2.2.2.2.2.1, hxK.2.2.2.2.2.2.1, hxK.2.2.2.2.2.2.2.1, hxK.2.2.2.2.2.2.2.2.1, hxK.2.2.2.2.2.2.2.2.2.1, hxK.2.2.2.2.2.2.2.2.2.2, hxR.1, hxR.2.1, hxR.2.2.1, hxR.2.2.2⟩
theorem arg_rastrumlaw22_Face (hv : Value.okWide Tryz.prog w .any base 31 v) (h : DataW.Trod enc Tryz.prog w 0 (fun _ => true) true 31 v d ps) : ∃ (xL : Value) (xE : Value) (xKWidth : Int) (xKSoft : Bool) (xKDashed : Bool) (xKDashPattern : Int) (xKDashRepeat : Int) (xKDashCount : Int) (xKSize : Int) (xKKind : Int) (xKFront : Int) (xKBack : Int) (xKCcw : Bool) (xKCull : Int) (xKOffset : Bool) (xKFactor : Int) (xKUnits : Int) (xRX0 : Int) (xRY0 : Int) (xRX1 : Int) (xRY1 : Int), v = .agg #[xL, xE, .int .i64 xKWidth, .bool xKSoft, .bool xKDashed, .int .i64 xKDashPattern, .int .i64 xKDashRepeat, .int .i64 xKDashCount, .int .i64 xKSize, .int .i64 xKKind, .int .i64 xKFront, .int .i64 xKBack, .bool xKCcw, .int .i64 xKCull, .bool xKOffset, .int .i64 xKFactor, .int .i64 xKUnits, .int .i64 xRX0, .int .i64 xRY0, .int .i64 xRX1, .int .i64 xRY1] ∧ (∃ zxL, Sls w 7 (fun r => ∃ (exLX : Int) (exLY : Int) (exLZ : Int) (exLC0 : Int) (exLC1 : Int) (exLC2 : Int) (exLC3 : Int), r = [.int .i64 exLX, .int .i64 exLY, .int .i64 exLZ, .int .i64 exLC0, .int .i64 exLC1, .int .i64 exLC2, .int .i64 exLC3] ∧ (-9223372036854775808 ≤ exLX ∧ exLX ≤ 9223372036854775807) ∧ (-9223372036854775808 ≤ exLY ∧ exLY ≤ 9223372036854775807) ∧ (-9223372036854775808 ≤ exLZ ∧ exLZ ≤ 9223372036854775807) ∧ (-9223372036854775808 ≤ exLC0 ∧ exLC0 ≤ 9223372036854775807) ∧ (-9223372036854775808 ≤ exLC1 ∧ exLC1 ≤ 9223372036854775807) ∧ (-9223372036854775808 ≤ exLC2 ∧ exLC2 ≤ 9223372036854775807) ∧ (-9223372036854775808 ≤ exLC3 ∧ exLC3 ≤ 9223372036854775807)) xL zxL) ∧ (∃ zxE, Sls w 1 (fun r => ∃ (exE : Bool), r = [.bool exE] ∧ True) xE zxE) ∧ (-9223372036854775808 ≤ xKWidth ∧ xKWidth ≤ 9223372036854775807) ∧ (-9223372036854775808 ≤ xKDashPattern ∧ xKDashPattern ≤ 9223372036854775807) ∧ (-9223372036854775808 ≤ xKDashRepeat ∧ xKDashRepeat ≤ 9223372036854775807) ∧ (-9223372036854775808 ≤ xKDashCount ∧ xKDashCount ≤ 9223372036854775807) ∧ (-9223372036854775808 ≤ xKSize ∧ xKSize ≤ 9223372036854775807) ∧ (-9223372036854775808 ≤ xKKind ∧ xKKind ≤ 9223372036854775807) ∧ (-9223372036854775808 ≤ xKFront ∧ xKFront ≤ 9223372036854775807) ∧ (-9223372036854775808 ≤ xKBack ∧ xKBack ≤ 9223372036854775807) ∧ (-9223372036854775808 ≤ xKCull ∧ xKCull ≤ 9223372036854775807) ∧ (-9223372036854775808 ≤ xKFactor ∧ xKFactor ≤ 9223372036854775807) ∧ (-9223372036854775808 ≤ xKUnits ∧ xKUnits ≤ 9223372036854775807) ∧ (-9223372036854775808 ≤ xRX0 ∧ xRX0 ≤ 9223372036854775807) ∧ (-9223372036854775808 ≤ xRY0 ∧ xRY0 ≤ 9223372036854775807) ∧ (-9223372036854775808 ≤ xRX1 ∧ xRX1 ≤ 9223372036854775807) ∧ (-9223372036854775808 ≤ xRY1 ∧ xRY1 ≤ 9223372036854775807) := by
  obtain ⟨cs, rfl, -⟩ : ∃ cs, v = .agg cs ∧ True := by
    simp only [Value.okWide, Tryz.underlying31] at hv
    obtain ⟨cs, e, -⟩ := hv
    exact ⟨cs, e, trivial⟩
  obtain ⟨fuel, h⟩ := h
  obtain ⟨xL, xE, xKWidth, xKSoft, xKDashed, xKDashPattern, xKDashRepeat, xKDashCount, xKSize, xKKind, xKFront, xKBack, xKCcw, xKCull, xKOffset, xKFactor, xKUnits, xRX0, xRY0, xRX1, xRY1, e, hf⟩ := rd_rastrumlaw22_Face h
  exact ⟨xL, xE, xKWidth, xKSoft, xKDashed, xKDashPattern, xKDashRepeat, xKDashCount, xKSize, xKKind, xKFront, xKBack, xKCcw, xKCull, xKOffset, xKFactor, xKUnits, xRX0, xRY0, xRX1, xRY1, by rw [← Array.toArray_toList (xs := cs), show cs.toList = _ from e], hf⟩
theorem rd_int16 (h : DataW.trod enc Tryz.prog w 0 (fun _ => true) true fuel 49 cs = some y) : ∃ (x : Int), cs = [.int .i16 x] ∧ (-32768 ≤ x ∧ x ≤ 32767) := by
  obtain ⟨n, rfl, -, hw⟩ := DataW.trod_int Tryz.underlying49 h
  exact ⟨n, rfl, by have := bounds_i16 hw; simpa using this⟩
theorem arg_int16 (hv : Value.okWide Tryz.prog w .any base 49 v) (h : DataW.Trod enc Tryz.prog w 0 (fun _ => true) true 49 v d ps) : ∃ (x : Int), v = .int .i16 x ∧ (-32768 ≤ x ∧ x ≤ 32767) := by
  obtain ⟨x, rfl, -, -, hw⟩ := open_int Tryz.underlying49 hv h
  exact ⟨x, rfl, by have := bounds_i16 hw; simpa using this⟩
theorem rd_A2_int16 (h : DataW.trod enc Tryz.prog w 0 (fun _ => true) true fuel 50 cs = some y) : ∃ (x0 : Int) (x1 : Int), cs = [.int .i16 x0, .int .i16 x1] ∧ (-32768 ≤ x0 ∧ x0 ≤ 32767) ∧ (-32768 ≤ x1 ∧ x1 ≤ 32767) := by
  obtain ⟨ys, m, -, -, hl, hn, hf⟩ := DataW.trod_array Tryz.underlying50 h
  rw [show Tryz.prog.cellsOf 50 = 2 from by kernel_rfl] at hl
  obtain ⟨c0, c1, rfl⟩ := list_2 cs hl
  obtain ⟨y0, y1, rfl⟩ := list_2 ys hn
  obtain ⟨x0, e, hx0⟩ := rd_int16 (cs := [c0]) (show _ = some y0 from hf 0 (by decide))
  simp only [List.cons.injEq, and_true] at e
  obtain rfl := e
  obtain ⟨x1, e, hx1⟩ := rd_int16 (cs := [c1]) (show _ = some y1 from hf 1 (by decide))
  simp only [List.cons.injEq, and_true] at e
  obtain rfl := e
  exact ⟨_, _, rfl, hx0, hx1⟩
theorem arg_A2_int16 (hv : Value.okWide Tryz.prog w .any base 50 v) (h : DataW.Trod enc Tryz.prog w 0 (fun _ => true) true 50 v d ps) : ∃ (x0 : Int) (x1 : Int), v = .agg #[.int .i16 x0, .int .i16 x1] ∧ (-32768 ≤ x0 ∧ x0 ≤ 32767) ∧ (-32768 ≤ x1 ∧ x1 ≤ 32767) := by
  obtain ⟨cs, rfl, -⟩ : ∃ cs, v = .agg cs ∧ True := by
    simp only [Value.okWide, Tryz.underlying50] at hv
    obtain ⟨cs, e, -⟩ := hv
    exact ⟨cs, e, trivial⟩
  obtain ⟨fuel, h⟩ := h
  obtain ⟨x0, x1, e, hf⟩ := rd_A2_int16 h
  exact ⟨x0, x1, by rw [← Array.toArray_toList (xs := cs), show cs.toList = _ from e], hf⟩
theorem rd_rastrumlaw22_Quad (h : DataW.trod enc Tryz.prog w 0 (fun _ => true) true fuel 52 cs = some y) : ∃ (xA0 : Int) (xA1 : Int) (xU0 : Int) (xU1 : Int) (xV0 : Int) (xV1 : Int), cs = [.int .i16 xA0, .int .i16 xA1, .int .i16 xU0, .int .i16 xU1, .int .i16 xV0, .int .i16 xV1] ∧ (-32768 ≤ xA0 ∧ xA0 ≤ 32767) ∧ (-32768 ≤ xA1 ∧ xA1 ≤ 32767) ∧ (-32768 ≤ xU0 ∧ xU0 ≤ 32767) ∧ (-32768 ≤ xU1 ∧ xU1 ≤ 32767) ∧ (-32768 ≤ xV0 ∧ xV0 ≤ 32767) ∧ (-32768 ≤ xV1 ∧ xV1 ≤ 32767) := by
  obtain ⟨ys, m, -, -, hl, hn, hf⟩ := DataW.trod_struct Tryz.underlying52 h
  rw [show Tryz.prog.cellsOf 52 = 6 from by kernel_rfl] at hl
  obtain ⟨c0, c1, c2, c3, c4, c5, rfl⟩ := list_6 cs hl
  obtain ⟨y0, y1, y2, rfl⟩ := list_3 ys hn
  obtain ⟨xA0, xA1, e, hxA⟩ := rd_A2_int16 (cs := [c0, c1]) (show _ = some y0 from hf 0 _ rfl)
  simp only [List.cons.injEq, and_true] at e
  obtain ⟨rfl, rfl⟩ := e
  obtain ⟨xU0, xU1, e, hxU⟩ := rd_A2_int16 (cs := [c2, c3]) (show _ = some y1 from hf 1 _ rfl)
  simp only [List.cons.injEq, and_true] at e
  obtain ⟨rfl, rfl⟩ := e
  obtain ⟨xV0, xV1, e, hxV⟩ := rd_A2_int16 (cs := [c4, c5]) (show _ = some y2 from hf 2 _ rfl)
  simp only [List.cons.injEq, and_true] at e
  obtain ⟨rfl, rfl⟩ := e
  exact ⟨_, _, _, _, _, _, rfl, hxA.1, hxA.2, hxU.1, hxU.2, hxV.1, hxV.2⟩
theorem arg_rastrumlaw22_Quad (hv : Value.okWide Tryz.prog w .any base 52 v) (h : DataW.Trod enc Tryz.prog w 0 (fun _ => true) true 52 v d ps) : ∃ (xA0 : Int) (xA1 : Int) (xU0 : Int) (xU1 : Int) (xV0 : Int) (xV1 : Int), v = .agg #[.int .i16 xA0, .int .i16 xA1, .int .i16 xU0, .int .i16 xU1, .int .i16 xV0, .int .i16 xV1] ∧ (-32768 ≤ xA0 ∧ xA0 ≤ 32767) ∧ (-32768 ≤ xA1 ∧ xA1 ≤ 32767) ∧ (-32768 ≤ xU0 ∧ xU0 ≤ 32767) ∧ (-32768 ≤ xU1 ∧ xU1 ≤ 32767) ∧ (-32768 ≤ xV0 ∧ xV0 ≤ 32767) ∧ (-32768 ≤ xV1 ∧ xV1 ≤ 32767) := by
  obtain ⟨cs, rfl, -⟩ : ∃ cs, v = .agg cs ∧ True := by
    simp only [Value.okWide, Tryz.underlying52] at hv
    obtain ⟨cs, e, -⟩ := hv
    exact ⟨cs, e, trivial⟩
  obtain ⟨fuel, h⟩ := h
  obtain ⟨xA0, xA1, xU0, xU1, xV0, xV1, e, hf⟩ := rd_rastrumlaw22_Quad h
  exact ⟨xA0, xA1, xU0, xU1, xV0, xV1, by rw [← Array.toArray_toList (xs := cs), show cs.toList = _ from e], hf⟩
theorem rd_A3_int (h : DataW.trod enc Tryz.prog w 0 (fun _ => true) true fuel 184 cs = some y) : ∃ (x0 : Int) (x1 : Int) (x2 : Int), cs = [.int .i64 x0, .int .i64 x1, .int .i64 x2] ∧ (-9223372036854775808 ≤ x0 ∧ x0 ≤ 9223372036854775807) ∧ (-9223372036854775808 ≤ x1 ∧ x1 ≤ 9223372036854775807) ∧ (-9223372036854775808 ≤ x2 ∧ x2 ≤ 9223372036854775807) := by
  obtain ⟨ys, m, -, -, hl, hn, hf⟩ := DataW.trod_array Tryz.underlying184 h
  rw [show Tryz.prog.cellsOf 184 = 3 from by kernel_rfl] at hl
  obtain ⟨c0, c1, c2, rfl⟩ := list_3 cs hl
  obtain ⟨y0, y1, y2, rfl⟩ := list_3 ys hn
  obtain ⟨x0, e, hx0⟩ := rd_int (cs := [c0]) (show _ = some y0 from hf 0 (by decide))
  simp only [List.cons.injEq, and_true] at e
  obtain rfl := e
  obtain ⟨x1, e, hx1⟩ := rd_int (cs := [c1]) (show _ = some y1 from hf 1 (by decide))
  simp only [List.cons.injEq, and_true] at e
  obtain rfl := e
  obtain ⟨x2, e, hx2⟩ := rd_int (cs := [c2]) (show _ = some y2 from hf 2 (by decide))
  simp only [List.cons.injEq, and_true] at e
  obtain rfl := e
  exact ⟨_, _, _, rfl, hx0, hx1, hx2⟩
theorem arg_A3_int (hv : Value.okWide Tryz.prog w .any base 184 v) (h : DataW.Trod enc Tryz.prog w 0 (fun _ => true) true 184 v d ps) : ∃ (x0 : Int) (x1 : Int) (x2 : Int), v = .agg #[.int .i64 x0, .int .i64 x1, .int .i64 x2] ∧ (-9223372036854775808 ≤ x0 ∧ x0 ≤ 9223372036854775807) ∧ (-9223372036854775808 ≤ x1 ∧ x1 ≤ 9223372036854775807) ∧ (-9223372036854775808 ≤ x2 ∧ x2 ≤ 9223372036854775807) := by
  obtain ⟨cs, rfl, -⟩ : ∃ cs, v = .agg cs ∧ True := by
    simp only [Value.okWide, Tryz.underlying184] at hv
    obtain ⟨cs, e, -⟩ := hv
    exact ⟨cs, e, trivial⟩
  obtain ⟨fuel, h⟩ := h
  obtain ⟨x0, x1, x2, e, hf⟩ := rd_A3_int h
  exact ⟨x0, x1, x2, by rw [← Array.toArray_toList (xs := cs), show cs.toList = _ from e], hf⟩
theorem rd_SlA3_int (h : DataW.trod enc Tryz.prog w 0 (fun _ => true) true fuel 81 cs = some y) : ∃ (x : Value), cs = [x] ∧ (∃ zx, Sls w 3 (fun r => ∃ (ex0 : Int) (ex1 : Int) (ex2 : Int), r = [.int .i64 ex0, .int .i64 ex1, .int .i64 ex2] ∧ (-9223372036854775808 ≤ ex0 ∧ ex0 ≤ 9223372036854775807) ∧ (-9223372036854775808 ≤ ex1 ∧ ex1 ≤ 9223372036854775807) ∧ (-9223372036854775808 ≤ ex2 ∧ ex2 ≤ 9223372036854775807)) x zx) := by
  exact rd_rows Tryz.underlying81 (by kernel_rfl) (by decide) _ (fun fuel cs y h => rd_A3_int h) h
theorem arg_SlA3_int (hv : Value.okWide Tryz.prog w .any base 81 v) (h : DataW.Trod enc Tryz.prog w 0 (fun _ => true) true 81 v d ps) : ∃ (x : Value), v = x ∧ (∃ zx, Sls w 3 (fun r => ∃ (ex0 : Int) (ex1 : Int) (ex2 : Int), r = [.int .i64 ex0, .int .i64 ex1, .int .i64 ex2] ∧ (-9223372036854775808 ≤ ex0 ∧ ex0 ≤ 9223372036854775807) ∧ (-9223372036854775808 ≤ ex1 ∧ ex1 ≤ 9223372036854775807) ∧ (-9223372036854775808 ≤ ex2 ∧ ex2 ≤ 9223372036854775807)) x zx) := by
  obtain ⟨a, len, cap, rfl⟩ := okWide_slice Tryz.underlying81 hv
  obtain ⟨fuel, h⟩ := h
  obtain ⟨x, e, hf⟩ := rd_SlA3_int h
  simp [Value.cells] at e
  subst e
  exact ⟨_, rfl, hf⟩
theorem rd_Poly (h : DataW.trod enc Tryz.prog w 0 (fun _ => true) true fuel 83 cs = some y) : ∃ (xV : Value) (xE : Value), cs = [xV, xE] ∧ (∃ zxV, Sls w 3 (fun r => ∃ (exV0 : Int) (exV1 : Int) (exV2 : Int), r = [.int .i64 exV0, .int .i64 exV1, .int .i64 exV2] ∧ (-9223372036854775808 ≤ exV0 ∧ exV0 ≤ 9223372036854775807) ∧ (-9223372036854775808 ≤ exV1 ∧ exV1 ≤ 9223372036854775807) ∧ (-9223372036854775808 ≤ exV2 ∧ exV2 ≤ 9223372036854775807)) xV zxV) ∧ (∃ zxE, Sls w 1 (fun r => ∃ (exE : Bool), r = [.bool exE] ∧ True) xE zxE) := by
  obtain ⟨ys, m, -, -, hl, hn, hf⟩ := DataW.trod_struct Tryz.underlying83 h
  rw [show Tryz.prog.cellsOf 83 = 2 from by kernel_rfl] at hl
  obtain ⟨c0, c1, rfl⟩ := list_2 cs hl
  obtain ⟨y0, y1, rfl⟩ := list_2 ys hn
  obtain ⟨xV, e, hxV⟩ := rd_SlA3_int (cs := [c0]) (show _ = some y0 from hf 0 _ rfl)
  simp only [List.cons.injEq, and_true] at e
  obtain rfl := e
  obtain ⟨xE, e, hxE⟩ := rd_Slbool (cs := [c1]) (show _ = some y1 from hf 1 _ rfl)
  simp only [List.cons.injEq, and_true] at e
  obtain rfl := e
  exact ⟨_, _, rfl, hxV, hxE⟩
theorem arg_Poly (hv : Value.okWide Tryz.prog w .any base 83 v) (h : DataW.Trod enc Tryz.prog w 0 (fun _ => true) true 83 v d ps) : ∃ (xV : Value) (xE : Value), v = .agg #[xV, xE] ∧ (∃ zxV, Sls w 3 (fun r => ∃ (exV0 : Int) (exV1 : Int) (exV2 : Int), r = [.int .i64 exV0, .int .i64 exV1, .int .i64 exV2] ∧ (-9223372036854775808 ≤ exV0 ∧ exV0 ≤ 9223372036854775807) ∧ (-9223372036854775808 ≤ exV1 ∧ exV1 ≤ 9223372036854775807) ∧ (-9223372036854775808 ≤ exV2 ∧ exV2 ≤ 9223372036854775807)) xV zxV) ∧ (∃ zxE, Sls w 1 (fun r => ∃ (exE : Bool), r = [.bool exE] ∧ True) xE zxE) := by
  obtain ⟨cs, rfl, -⟩ : ∃ cs, v = .agg cs ∧ True := by
    simp only [Value.okWide, Tryz.underlying83] at hv
    obtain ⟨cs, e, -⟩ := hv
    exact ⟨cs, e, trivial⟩
  obtain ⟨fuel, h⟩ := h
  obtain ⟨xV, xE, e, hf⟩ := rd_Poly h
  exact ⟨xV, xE, by rw [← Array.toArray_toList (xs := cs), show cs.toList = _ from e], hf⟩
theorem rd_SlPoly (h : DataW.trod enc Tryz.prog w 0 (fun _ => true) true fuel 61 cs = some y) : ∃ (x : Value), cs = [x] ∧ (∃ zx, Sls w 2 (fun r => ∃ (exV : Value) (exE : Value), r = [exV, exE] ∧ (∃ zexV, Sls w 3 (fun r => ∃ (eexV0 : Int) (eexV1 : Int) (eexV2 : Int), r = [.int .i64 eexV0, .int .i64 eexV1, .int .i64 eexV2] ∧ (-9223372036854775808 ≤ eexV0 ∧ eexV0 ≤ 9223372036854775807) ∧ (-9223372036854775808 ≤ eexV1 ∧ eexV1 ≤ 9223372036854775807) ∧ (-9223372036854775808 ≤ eexV2 ∧ eexV2 ≤ 9223372036854775807)) exV zexV) ∧ (∃ zexE, Sls w 1 (fun r => ∃ (eexE : Bool), r = [.bool eexE] ∧ True) exE zexE)) x zx) := by
  exact rd_rows Tryz.underlying61 (by kernel_rfl) (by decide) _ (fun fuel cs y h => rd_Poly h) h
theorem arg_SlPoly (hv : Value.okWide Tryz.prog w .any base 61 v) (h : DataW.Trod enc Tryz.prog w 0 (fun _ => true) true 61 v d ps) : ∃ (x : Value), v = x ∧ (∃ zx, Sls w 2 (fun r => ∃ (exV : Value) (exE : Value), r = [exV, exE] ∧ (∃ zexV, Sls w 3 (fun r => ∃ (eexV0 : Int) (eexV1 : Int) (eexV2 : Int), r = [.int .i64 eexV0, .int .i64 eexV1, .int .i64 eexV2] ∧ (-9223372036854775808 ≤ eexV0 ∧ eexV0 ≤ 9223372036854775807) ∧ (-9223372036854775808 ≤ eexV1 ∧ eexV1 ≤ 9223372036854775807) ∧ (-9223372036854775808 ≤ eexV2 ∧ eexV2 ≤ 9223372036854775807)) exV zexV) ∧ (∃ zexE, Sls w 1 (fun r => ∃ (eexE : Bool), r = [.bool eexE] ∧ True) exE zexE)) x zx) := by
  obtain ⟨a, len, cap, rfl⟩ := okWide_slice Tryz.underlying61 hv
  obtain ⟨fuel, h⟩ := h
  obtain ⟨x, e, hf⟩ := rd_SlPoly h
  simp [Value.cells] at e
  subst e
  exact ⟨_, rfl, hf⟩
theorem rd_Sketch (h : DataW.trod enc Tryz.prog w 0 (fun _ => true) true fuel 63 cs = some y) : ∃ (xFactor : Int) (xUnits : Int) (xCcw : Bool) (xCull : Int) (xWidth : Int) (xLine0 : Int) (xLine1 : Int) (xLine2 : Int) (xLine3 : Int), cs = [.int .i64 xFactor, .int .i64 xUnits, .bool xCcw, .int .i64 xCull, .int .i64 xWidth, .int .i64 xLine0, .int .i64 xLine1, .int .i64 xLine2, .int .i64 xLine3] ∧ (-9223372036854775808 ≤ xFactor ∧ xFactor ≤ 9223372036854775807) ∧ (-9223372036854775808 ≤ xUnits ∧ xUnits ≤ 9223372036854775807) ∧ (-9223372036854775808 ≤ xCull ∧ xCull ≤ 9223372036854775807) ∧ (-9223372036854775808 ≤ xWidth ∧ xWidth ≤ 9223372036854775807) ∧ (-9223372036854775808 ≤ xLine0 ∧ xLine0 ≤ 9223372036854775807) ∧ (-9223372036854775808 ≤ xLine1 ∧ xLine1 ≤ 9223372036854775807) ∧ (-9223372036854775808 ≤ xLine2 ∧ xLine2 ≤ 9223372036854775807) ∧ (-9223372036854775808 ≤ xLine3 ∧ xLine3 ≤ 9223372036854775807) := by
  obtain ⟨ys, m, -, -, hl, hn, hf⟩ := DataW.trod_struct Tryz.underlying63 h
  rw [show Tryz.prog.cellsOf 63 = 9 from by kernel_rfl] at hl
  obtain ⟨c0, c1, c2, c3, c4, c5, c6, c7, c8, rfl⟩ := list_9 cs hl
  obtain ⟨y0, y1, y2, y3, y4, y5, rfl⟩ := list_6 ys hn
  obtain ⟨xFactor, e, hxFactor⟩ := rd_int (cs := [c0]) (show _ = some y0 from hf 0 _ rfl)
  simp only [List.cons.injEq, and_true] at e
  obtain rfl := e
  obtain ⟨xUnits, e, hxUnits⟩ := rd_int (cs := [c1]) (show _ = some y1 from hf 1 _ rfl)
  simp only [List.cons.injEq, and_true] at e
  obtain rfl := e
  obtain ⟨xCcw, e, hxCcw⟩ := rd_bool (cs := [c2]) (show _ = some y2 from hf 2 _ rfl)
  simp only [List.cons.injEq, and_true] at e
  obtain rfl := e
  obtain ⟨xCull, e, hxCull⟩ := rd_int (cs := [c3]) (show _ = some y3 from hf 3 _ rfl)
  simp only [List.cons.injEq, and_true] at e
  obtain rfl := e
  obtain ⟨xWidth, e, hxWidth⟩ := rd_int (cs := [c4]) (show _ = some y4 from hf 4 _ rfl)
  simp only [List.cons.injEq, and_true] at e
  obtain rfl := e
  obtain ⟨xLine0, xLine1, xLine2, xLine3, e, hxLine⟩ := rd_Color (cs := [c5, c6, c7, c8]) (show _ = some y5 from hf 5 _ rfl)
  simp only [List.cons.injEq, and_true] at e
  obtain ⟨rfl, rfl, rfl, rfl⟩ := e
  exact ⟨_, _, _, _, _, _, _, _, _, rfl, hxFactor, hxUnits, hxCull, hxWidth, hxLine.1, hxLine.2.1, hxLine.2.2.1, hxLine.2.2.2⟩
theorem arg_Sketch (hv : Value.okWide Tryz.prog w .any base 63 v) (h : DataW.Trod enc Tryz.prog w 0 (fun _ => true) true 63 v d ps) : ∃ (xFactor : Int) (xUnits : Int) (xCcw : Bool) (xCull : Int) (xWidth : Int) (xLine0 : Int) (xLine1 : Int) (xLine2 : Int) (xLine3 : Int), v = .agg #[.int .i64 xFactor, .int .i64 xUnits, .bool xCcw, .int .i64 xCull, .int .i64 xWidth, .int .i64 xLine0, .int .i64 xLine1, .int .i64 xLine2, .int .i64 xLine3] ∧ (-9223372036854775808 ≤ xFactor ∧ xFactor ≤ 9223372036854775807) ∧ (-9223372036854775808 ≤ xUnits ∧ xUnits ≤ 9223372036854775807) ∧ (-9223372036854775808 ≤ xCull ∧ xCull ≤ 9223372036854775807) ∧ (-9223372036854775808 ≤ xWidth ∧ xWidth ≤ 9223372036854775807) ∧ (-9223372036854775808 ≤ xLine0 ∧ xLine0 ≤ 9223372036854775807) ∧ (-9223372036854775808 ≤ xLine1 ∧ xLine1 ≤ 9223372036854775807) ∧ (-9223372036854775808 ≤ xLine2 ∧ xLine2 ≤ 9223372036854775807) ∧ (-9223372036854775808 ≤ xLine3 ∧ xLine3 ≤ 9223372036854775807) := by
  obtain ⟨cs, rfl, -⟩ : ∃ cs, v = .agg cs ∧ True := by
    simp only [Value.okWide, Tryz.underlying63] at hv
    obtain ⟨cs, e, -⟩ := hv
    exact ⟨cs, e, trivial⟩
  obtain ⟨fuel, h⟩ := h
  obtain ⟨xFactor, xUnits, xCcw, xCull, xWidth, xLine0, xLine1, xLine2, xLine3, e, hf⟩ := rd_Sketch h
  exact ⟨xFactor, xUnits, xCcw, xCull, xWidth, xLine0, xLine1, xLine2, xLine3, by rw [← Array.toArray_toList (xs := cs), show cs.toList = _ from e], hf⟩
theorem rd_rastrumlaw27_Art (h : DataW.trod enc Tryz.prog w 0 (fun _ => true) true fuel 65 cs = some y) : ∃ (xL : Value) (xSFactor : Int) (xSUnits : Int) (xSCcw : Bool) (xSCull : Int) (xSWidth : Int) (xSLine0 : Int) (xSLine1 : Int) (xSLine2 : Int) (xSLine3 : Int) (xW : Int) (xH : Int) (xFar : Int), cs = [xL, .int .i64 xSFactor, .int .i64 xSUnits, .bool xSCcw, .int .i64 xSCull, .int .i64 xSWidth, .int .i64 xSLine0, .int .i64 xSLine1, .int .i64 xSLine2, .int .i64 xSLine3, .int .u8 xW, .int .u8 xH, .int .i64 xFar] ∧ (∃ zxL, Sls w 2 (fun r => ∃ (exLV : Value) (exLE : Value), r = [exLV, exLE] ∧ (∃ zexLV, Sls w 3 (fun r => ∃ (eexLV0 : Int) (eexLV1 : Int) (eexLV2 : Int), r = [.int .i64 eexLV0, .int .i64 eexLV1, .int .i64 eexLV2] ∧ (-9223372036854775808 ≤ eexLV0 ∧ eexLV0 ≤ 9223372036854775807) ∧ (-9223372036854775808 ≤ eexLV1 ∧ eexLV1 ≤ 9223372036854775807) ∧ (-9223372036854775808 ≤ eexLV2 ∧ eexLV2 ≤ 9223372036854775807)) exLV zexLV) ∧ (∃ zexLE, Sls w 1 (fun r => ∃ (eexLE : Bool), r = [.bool eexLE] ∧ True) exLE zexLE)) xL zxL) ∧ (-9223372036854775808 ≤ xSFactor ∧ xSFactor ≤ 9223372036854775807) ∧ (-9223372036854775808 ≤ xSUnits ∧ xSUnits ≤ 9223372036854775807) ∧ (-9223372036854775808 ≤ xSCull ∧ xSCull ≤ 9223372036854775807) ∧ (-9223372036854775808 ≤ xSWidth ∧ xSWidth ≤ 9223372036854775807) ∧ (-9223372036854775808 ≤ xSLine0 ∧ xSLine0 ≤ 9223372036854775807) ∧ (-9223372036854775808 ≤ xSLine1 ∧ xSLine1 ≤ 9223372036854775807) ∧ (-9223372036854775808 ≤ xSLine2 ∧ xSLine2 ≤ 9223372036854775807) ∧ (-9223372036854775808 ≤ xSLine3 ∧ xSLine3 ≤ 9223372036854775807) ∧ (0 ≤ xW ∧ xW ≤ 255) ∧ (0 ≤ xH ∧ xH ≤ 255) ∧ (-9223372036854775808 ≤ xFar ∧ xFar ≤ 9223372036854775807) := by
  obtain ⟨ys, m, -, -, hl, hn, hf⟩ := DataW.trod_struct Tryz.underlying65 h
  rw [show Tryz.prog.cellsOf 65 = 13 from by kernel_rfl] at hl
  obtain ⟨c0, c1, c2, c3, c4, c5, c6, c7, c8, c9, c10, c11, c12, rfl⟩ := list_13 cs hl
  obtain ⟨y0, y1, y2, y3, y4, rfl⟩ := list_5 ys hn
  obtain ⟨xL, e, hxL⟩ := rd_SlPoly (cs := [c0]) (show _ = some y0 from hf 0 _ rfl)
  simp only [List.cons.injEq, and_true] at e
  obtain rfl := e
  obtain ⟨xSFactor, xSUnits, xSCcw, xSCull, xSWidth, xSLine0, xSLine1, xSLine2, xSLine3, e, hxS⟩ := rd_Sketch (cs := [c1, c2, c3, c4, c5, c6, c7, c8, c9]) (show _ = some y1 from hf 1 _ rfl)
  simp only [List.cons.injEq, and_true] at e
  obtain ⟨rfl, rfl, rfl, rfl, rfl, rfl, rfl, rfl, rfl⟩ := e
  obtain ⟨xW, e, hxW⟩ := rd_uint8 (cs := [c10]) (show _ = some y2 from hf 2 _ rfl)
  simp only [List.cons.injEq, and_true] at e
  obtain rfl := e
  obtain ⟨xH, e, hxH⟩ := rd_uint8 (cs := [c11]) (show _ = some y3 from hf 3 _ rfl)
  simp only [List.cons.injEq, and_true] at e
  obtain rfl := e
  obtain ⟨xFar, e, hxFar⟩ := rd_int (cs := [c12]) (show _ = some y4 from hf 4 _ rfl)
  simp only [List.cons.injEq, and_true] at e
  obtain rfl := e
  exact ⟨_, _, _, _, _, _, _, _, _, _, _, _, _, rfl, hxL, hxS.1, hxS.2.1, hxS.2.2.1, hxS.2.2.2.1, hxS.2.2.2.2.1, hxS.2.2.2.2.2.1, hxS.2.2.2.2.2.2.1, hxS.2.2.2.2.2.2.2, hxW, hxH, hxFar⟩
theorem arg_rastrumlaw27_Art (hv : Value.okWide Tryz.prog w .any base 65 v) (h : DataW.Trod enc Tryz.prog w 0 (fun _ => true) true 65 v d ps) : ∃ (xL : Value) (xSFactor : Int) (xSUnits : Int) (xSCcw : Bool) (xSCull : Int) (xSWidth : Int) (xSLine0 : Int) (xSLine1 : Int) (xSLine2 : Int) (xSLine3 : Int) (xW : Int) (xH : Int) (xFar : Int), v = .agg #[xL, .int .i64 xSFactor, .int .i64 xSUnits, .bool xSCcw, .int .i64 xSCull, .int .i64 xSWidth, .int .i64 xSLine0, .int .i64 xSLine1, .int .i64 xSLine2, .int .i64 xSLine3, .int .u8 xW, .int .u8 xH, .int .i64 xFar] ∧ (∃ zxL, Sls w 2 (fun r => ∃ (exLV : Value) (exLE : Value), r = [exLV, exLE] ∧ (∃ zexLV, Sls w 3 (fun r => ∃ (eexLV0 : Int) (eexLV1 : Int) (eexLV2 : Int), r = [.int .i64 eexLV0, .int .i64 eexLV1, .int .i64 eexLV2] ∧ (-9223372036854775808 ≤ eexLV0 ∧ eexLV0 ≤ 9223372036854775807) ∧ (-9223372036854775808 ≤ eexLV1 ∧ eexLV1 ≤ 9223372036854775807) ∧ (-9223372036854775808 ≤ eexLV2 ∧ eexLV2 ≤ 9223372036854775807)) exLV zexLV) ∧ (∃ zexLE, Sls w 1 (fun r => ∃ (eexLE : Bool), r = [.bool eexLE] ∧ True) exLE zexLE)) xL zxL) ∧ (-9223372036854775808 ≤ xSFactor ∧ xSFactor ≤ 9223372036854775807) ∧ (-9223372036854775808 ≤ xSUnits ∧ xSUnits ≤ 9223372036854775807) ∧ (-9223372036854775808 ≤ xSCull ∧ xSCull ≤ 9223372036854775807) ∧ (-9223372036854775808 ≤ xSWidth ∧ xSWidth ≤ 9223372036854775807) ∧ (-9223372036854775808 ≤ xSLine0 ∧ xSLine0 ≤ 9223372036854775807) ∧ (-9223372036854775808 ≤ xSLine1 ∧ xSLine1 ≤ 9223372036854775807) ∧ (-9223372036854775808 ≤ xSLine2 ∧ xSLine2 ≤ 9223372036854775807) ∧ (-9223372036854775808 ≤ xSLine3 ∧ xSLine3 ≤ 9223372036854775807) ∧ (0 ≤ xW ∧ xW ≤ 255) ∧ (0 ≤ xH ∧ xH ≤ 255) ∧ (-9223372036854775808 ≤ xFar ∧ xFar ≤ 9223372036854775807) := by
  obtain ⟨cs, rfl, -⟩ : ∃ cs, v = .agg cs ∧ True := by
    simp only [Value.okWide, Tryz.underlying65] at hv
    obtain ⟨cs, e, -⟩ := hv
    exact ⟨cs, e, trivial⟩
  obtain ⟨fuel, h⟩ := h
  obtain ⟨xL, xSFactor, xSUnits, xSCcw, xSCull, xSWidth, xSLine0, xSLine1, xSLine2, xSLine3, xW, xH, xFar, e, hf⟩ := rd_rastrumlaw27_Art h
  exact ⟨xL, xSFactor, xSUnits, xSCcw, xSCull, xSWidth, xSLine0, xSLine1, xSLine2, xSLine3, xW, xH, xFar, by rw [← Array.toArray_toList (xs := cs), show cs.toList = _ from e], hf⟩
theorem rd_Slint (h : DataW.trod enc Tryz.prog w 0 (fun _ => true) true fuel 67 cs = some y) : ∃ (x : Value), cs = [x] ∧ (∃ zx, Ints w x zx) := by
  exact rd_ints Tryz.underlying67 Tryz.underlying3 (by kernel_rfl) h
theorem arg_Slint (hv : Value.okWide Tryz.prog w .any base 67 v) (h : DataW.Trod enc Tryz.prog w 0 (fun _ => true) true 67 v d ps) : ∃ (x : Value), v = x ∧ (∃ zx, Ints w x zx) := by
  obtain ⟨a, len, cap, rfl⟩ := okWide_slice Tryz.underlying67 hv
  obtain ⟨fuel, h⟩ := h
  obtain ⟨x, e, hf⟩ := rd_Slint h
  simp [Value.cells] at e
  subst e
  exact ⟨_, rfl, hf⟩
theorem rd_Image (h : DataW.trod enc Tryz.prog w 0 (fun _ => true) true fuel 69 cs = some y) : ∃ (xW : Int) (xH : Int) (xC : Value) (xZ : Value), cs = [.int .i64 xW, .int .i64 xH, xC, xZ] ∧ (-9223372036854775808 ≤ xW ∧ xW ≤ 9223372036854775807) ∧ (-9223372036854775808 ≤ xH ∧ xH ≤ 9223372036854775807) ∧ (∃ zxC, Ints w xC zxC) ∧ (∃ zxZ, Ints w xZ zxZ) := by
  obtain ⟨ys, m, -, -, hl, hn, hf⟩ := DataW.trod_struct Tryz.underlying69 h
  rw [show Tryz.prog.cellsOf 69 = 4 from by kernel_rfl] at hl
  obtain ⟨c0, c1, c2, c3, rfl⟩ := list_4 cs hl
  obtain ⟨y0, y1, y2, y3, rfl⟩ := list_4 ys hn
  obtain ⟨xW, e, hxW⟩ := rd_int (cs := [c0]) (show _ = some y0 from hf 0 _ rfl)
  simp only [List.cons.injEq, and_true] at e
  obtain rfl := e
  obtain ⟨xH, e, hxH⟩ := rd_int (cs := [c1]) (show _ = some y1 from hf 1 _ rfl)
  simp only [List.cons.injEq, and_true] at e
  obtain rfl := e
  obtain ⟨xC, e, hxC⟩ := rd_Slint (cs := [c2]) (show _ = some y2 from hf 2 _ rfl)
  simp only [List.cons.injEq, and_true] at e
  obtain rfl := e
  obtain ⟨xZ, e, hxZ⟩ := rd_Slint (cs := [c3]) (show _ = some y3 from hf 3 _ rfl)
  simp only [List.cons.injEq, and_true] at e
  obtain rfl := e
  exact ⟨_, _, _, _, rfl, hxW, hxH, hxC, hxZ⟩
theorem arg_Image (hv : Value.okWide Tryz.prog w .any base 69 v) (h : DataW.Trod enc Tryz.prog w 0 (fun _ => true) true 69 v d ps) : ∃ (xW : Int) (xH : Int) (xC : Value) (xZ : Value), v = .agg #[.int .i64 xW, .int .i64 xH, xC, xZ] ∧ (-9223372036854775808 ≤ xW ∧ xW ≤ 9223372036854775807) ∧ (-9223372036854775808 ≤ xH ∧ xH ≤ 9223372036854775807) ∧ (∃ zxC, Ints w xC zxC) ∧ (∃ zxZ, Ints w xZ zxZ) := by
  obtain ⟨cs, rfl, -⟩ : ∃ cs, v = .agg cs ∧ True := by
    simp only [Value.okWide, Tryz.underlying69] at hv
    obtain ⟨cs, e, -⟩ := hv
    exact ⟨cs, e, trivial⟩
  obtain ⟨fuel, h⟩ := h
  obtain ⟨xW, xH, xC, xZ, e, hf⟩ := rd_Image h
  exact ⟨xW, xH, xC, xZ, by rw [← Array.toArray_toList (xs := cs), show cs.toList = _ from e], hf⟩
end
end Go.Proofs.YtciooaihobnifaaGreat

