/- Parts of the proof of FaceLines, laid together. Conditions: at each. -/
import Derived.OpenShut
import Derived.Deep.Slices
import Derived.Test.YtbkmgngeahmefaaGreatSFaceLines01
set_option linter.unusedVariables false
set_option linter.unusedSimpArgs false
namespace Go.Proofs.YtbkmgngeahmefaaGreat
set_option maxRecDepth 100000
open Go.RowKit Go.ChangeShapes Go.WideShapes
def Sls (w : World) (k : Nat) (R : List Value → Prop) (v : Value) (L : List (List Value)) : Prop :=
  (∀ r ∈ L, r.length = k ∧ R r) ∧ L.length ≤ maxLen ∧ ∃ a cap, v = .slice a L.length cap ∧ L.length ≤ cap ∧ cap ≤ maxLen ∧
    (L = [] ∨ ∃ b off, a = some ⟨b, off, none⟩ ∧ b < w.heap.size ∧ ∀ i r, L[i]? = some r → ∀ j u, r[j]? = some u → w.cell? ⟨b, off + i * k + j, none⟩ = some u)
theorem add_plain (b off j : Nat) : (⟨b, off, none⟩ : Addr).add j = ⟨b, off + j, none⟩ := by
  unfold Addr.add; split
  · subst_vars; rfl
  · rfl
theorem list_build {α : Type} (n : Nat) (p : Nat → α → Prop) (h : ∀ i, i < n → ∃ x, p i x) : ∃ L : List α, L.length = n ∧ ∀ i x, L[i]? = some x → p i x := by
  induction n with
  | zero => exact ⟨[], rfl, fun i x h => by simp at h⟩
  | succ n ih =>
    obtain ⟨L, hl, hL⟩ := ih fun i hi => h i (by omega)
    obtain ⟨x, hx⟩ := h n (by omega)
    refine ⟨L ++ [x], by simp [hl], fun i y hy => ?_⟩
    rw [List.getElem?_append] at hy
    split at hy
    · exact hL i y hy
    · rename_i hi
      have hi' : i - L.length = 0 := by
        rcases Nat.eq_zero_or_pos (i - L.length) with h | h
        · exact h
        · rw [List.getElem?_eq_none (by simp; omega)] at hy; cases hy
      rw [hi'] at hy
      simp at hy
      obtain rfl : i = n := by omega
      rw [← hy]; exact hx
theorem rd_rows {H : Type} {enc : TypeId × Value → H} {w : World} {fuel : Nat} {cs : List Value} {y : DataW H × List MemPlace} {t e : TypeId} {k : Nat} (ht : Tryz.prog.underlying t = some (.slice e)) (hc : Tryz.prog.cellsOf e = k) (hk : 0 < k) (R : List Value → Prop)
    (hR : ∀ fuel cs y, DataW.trod enc Tryz.prog w 0 (fun _ => true) true fuel e cs = some y → R cs) (h : DataW.trod enc Tryz.prog w 0 (fun _ => true) true fuel t cs = some y) : ∃ x, cs = [x] ∧ ∃ L, Sls w k R x L := by
  rcases Go.Deep.open_slice ht h with ⟨rfl, -⟩ | ⟨a, len, cap, m, n, D, Pl, rfl, -, hl, hm, hmm, -, hi⟩
  · exact ⟨_, rfl, [], by simp, by simp, none, 0, rfl, Nat.le_refl _, Nat.zero_le _, .inl rfl⟩
  · rw [hc] at hi
    have hlm : len ≤ m := by rw [hmm]; split <;> omega
    obtain ⟨L, hL, hrow⟩ := list_build len (fun i r => r.length = k ∧ R r ∧ ∀ j u, r[j]? = some u → w.cell? ((a.add (i * k)).add j) = some u) (fun i hil => by
      obtain ⟨cs', hcs, htr⟩ := hi i (by omega)
      obtain ⟨_, hcl, hat⟩ := World.cells?_some hcs
      refine ⟨cs', hcl, hR _ _ _ htr, fun j u hj => ?_⟩
      have hjl : j < k := by rw [← hcl]; exact (List.getElem?_eq_some_iff.1 hj).1
      rw [hat j hjl]; exact hj)
    refine ⟨_, rfl, L, fun r hr => ?_, by omega, some a, cap, by rw [hL], by omega, hm, ?_⟩
    · obtain ⟨i, hi', rfl⟩ := List.mem_iff_getElem.1 hr
      have := hrow i _ (List.getElem?_eq_getElem hi')
      exact ⟨this.1, this.2.1⟩
    · rcases Nat.eq_zero_or_pos len with h0 | h0
      · left; exact List.eq_nil_of_length_eq_zero (by omega)
      · right
        have hs : a.spot = none := by
          have h0' : 0 < L.length := by omega
          obtain ⟨h1, -, h2⟩ := hrow 0 _ (List.getElem?_eq_getElem h0')
          have h3 := h2 0 _ (List.getElem?_eq_getElem (by omega))
          cases hs : a.spot with
          | none => rfl
          | some s => simp [Addr.add, World.cell?, hs] at h3; split at h3 <;> simp at h3
        have e : a = ⟨a.block, a.off, none⟩ := by cases a; simp_all
        have hcell : ∀ i r, L[i]? = some r → ∀ j u, r[j]? = some u → w.cell? ⟨a.block, a.off + i * k + j, none⟩ = some u := fun i r hr j u hu => by
          have := (hrow i r hr).2.2 j u hu
          rw [e, add_plain, add_plain] at this
          exact this
        refine ⟨a.block, a.off, by rw [← e], ?_, hcell⟩
        have h0' : 0 < L.length := by omega
        have h1 := (hrow 0 _ (List.getElem?_eq_getElem h0')).1
        have h2 := hcell 0 _ (List.getElem?_eq_getElem h0') 0 _ (List.getElem?_eq_getElem (by omega))
        exact World.block_lt_of_cell? _ (⟨a.block, a.off + 0 * k + 0, none⟩ : Addr) h2
theorem list_3 {α : Type} (l : List α) (h : l.length = 3) : ∃ c0 c1 c2, l = [c0, c1, c2] := by
  match l, h with
  | [c0, c1, c2], _ => exact ⟨c0, c1, c2, rfl⟩
theorem list_4 {α : Type} (l : List α) (h : l.length = 4) : ∃ c0 c1 c2 c3, l = [c0, c1, c2, c3] := by
  match l, h with
  | [c0, c1, c2, c3], _ => exact ⟨c0, c1, c2, c3, rfl⟩
theorem list_7 {α : Type} (l : List α) (h : l.length = 7) : ∃ c0 c1 c2 c3 c4 c5 c6, l = [c0, c1, c2, c3, c4, c5, c6] := by
  match l, h with
  | [c0, c1, c2, c3, c4, c5, c6], _ => exact ⟨c0, c1, c2, c3, c4, c5, c6, rfl⟩
theorem list_13 {α : Type} (l : List α) (h : l.length = 13) : ∃ c0 c1 c2 c3 c4 c5 c6 c7 c8 c9 c10 c11 c12, l = [c0, c1, c2, c3, c4, c5, c6, c7, c8, c9, c10, c11, c12] := by
  match l, h with
  | [c0, c1, c2, c3, c4, c5, c6, c7, c8, c9, c10, c11, c12], _ => exact ⟨c0, c1, c2, c3, c4, c5, c6, c7, c8, c9, c10, c11, c12, rfl⟩
theorem list_15 {α : Type} (l : List α) (h : l.length = 15) : ∃ c0 c1 c2 c3 c4 c5 c6 c7 c8 c9 c10 c11 c12 c13 c14, l = [c0, c1, c2, c3, c4, c5, c6, c7, c8, c9, c10, c11, c12, c13, c14] := by
  match l, h with
  | [c0, c1, c2, c3, c4, c5, c6, c7, c8, c9, c10, c11, c12, c13, c14], _ => exact ⟨c0, c1, c2, c3, c4, c5, c6, c7, c8, c9, c10, c11, c12, c13, c14, rfl⟩
theorem list_21 {α : Type} (l : List α) (h : l.length = 21) : ∃ c0 c1 c2 c3 c4 c5 c6 c7 c8 c9 c10 c11 c12 c13 c14 c15 c16 c17 c18 c19 c20, l = [c0, c1, c2, c3, c4, c5, c6, c7, c8, c9, c10, c11, c12, c13, c14, c15, c16, c17, c18, c19, c20] := by
  match l, h with
  | [c0, c1, c2, c3, c4, c5, c6, c7, c8, c9, c10, c11, c12, c13, c14, c15, c16, c17, c18, c19, c20], _ => exact ⟨c0, c1, c2, c3, c4, c5, c6, c7, c8, c9, c10, c11, c12, c13, c14, c15, c16, c17, c18, c19, c20, rfl⟩
section
variable {H : Type} {enc : TypeId × Value → H} {w : World} {fuel base : Nat} {cs : List Value} {y : DataW H × List MemPlace} {v : Value} {d : DataW H} {ps : List MemPlace}
theorem rd_int (h : DataW.trod enc Tryz.prog w 0 (fun _ => true) true fuel 3 cs = some y) : ∃ (x : Int), cs = [.int .i64 x] ∧ (-9223372036854775808 ≤ x ∧ x ≤ 9223372036854775807) := by
  obtain ⟨n, rfl, -, hw⟩ := DataW.trod_int Tryz.underlying3 h
  exact ⟨n, rfl, by have := bounds_i64 hw; simpa using this⟩
theorem rd_Color (h : DataW.trod enc Tryz.prog w 0 (fun _ => true) true fuel 39 cs = some y) : ∃ (x0 : Int) (x1 : Int) (x2 : Int) (x3 : Int), cs = [.int .i64 x0, .int .i64 x1, .int .i64 x2, .int .i64 x3] ∧ (-9223372036854775808 ≤ x0 ∧ x0 ≤ 9223372036854775807) ∧ (-9223372036854775808 ≤ x1 ∧ x1 ≤ 9223372036854775807) ∧ (-9223372036854775808 ≤ x2 ∧ x2 ≤ 9223372036854775807) ∧ (-9223372036854775808 ≤ x3 ∧ x3 ≤ 9223372036854775807) := by
  obtain ⟨ys, m, -, -, hl, hn, hf⟩ := DataW.trod_array Tryz.underlying39 h
  rw [show Tryz.prog.cellsOf 39 = 4 from by kernel_rfl] at hl
  obtain ⟨c0, c1, c2, c3, rfl⟩ := list_4 cs hl
  obtain ⟨y0, y1, y2, y3, rfl⟩ := list_4 ys hn
  obtain ⟨x0, e, hx0⟩ := rd_int (cs := [c0]) (show _ = some y0 from hf 0 (by decide))
  simp only [List.cons.injEq, and_true] at e
  obtain rfl := e
  obtain ⟨x1, e, hx1⟩ := rd_int (cs := [c1]) (show _ = some y1 from hf 1 (by decide))
  simp only [List.cons.injEq, and_true] at e
  obtain rfl := e
  obtain ⟨x2, e, hx2⟩ := rd_int (cs := [c2]) (show _ = some y2 from hf 2 (by decide))
  simp only [List.cons.injEq, and_true] at e
  obtain rfl := e
  obtain ⟨x3, e, hx3⟩ := rd_int (cs := [c3]) (show _ = some y3 from hf 3 (by decide))
  simp only [List.cons.injEq, and_true] at e
  obtain rfl := e
  exact ⟨_, _, _, _, rfl, hx0, hx1, hx2, hx3⟩
theorem rd_Win (h : DataW.trod enc Tryz.prog w 0 (fun _ => true) true fuel 41 cs = some y) : ∃ (xX : Int) (xY : Int) (xZ : Int) (xC0 : Int) (xC1 : Int) (xC2 : Int) (xC3 : Int), cs = [.int .i64 xX, .int .i64 xY, .int .i64 xZ, .int .i64 xC0, .int .i64 xC1, .int .i64 xC2, .int .i64 xC3] ∧ (-9223372036854775808 ≤ xX ∧ xX ≤ 9223372036854775807) ∧ (-9223372036854775808 ≤ xY ∧ xY ≤ 9223372036854775807) ∧ (-9223372036854775808 ≤ xZ ∧ xZ ≤ 9223372036854775807) ∧ (-9223372036854775808 ≤ xC0 ∧ xC0 ≤ 9223372036854775807) ∧ (-9223372036854775808 ≤ xC1 ∧ xC1 ≤ 9223372036854775807) ∧ (-9223372036854775808 ≤ xC2 ∧ xC2 ≤ 9223372036854775807) ∧ (-9223372036854775808 ≤ xC3 ∧ xC3 ≤ 9223372036854775807) := by
  obtain ⟨ys, m, -, -, hl, hn, hf⟩ := DataW.trod_struct Tryz.underlying41 h
  rw [show Tryz.prog.cellsOf 41 = 7 from by kernel_rfl] at hl
  obtain ⟨c0, c1, c2, c3, c4, c5, c6, rfl⟩ := list_7 cs hl
  obtain ⟨y0, y1, y2, y3, rfl⟩ := list_4 ys hn
  obtain ⟨xX, e, hxX⟩ := rd_int (cs := [c0]) (show _ = some y0 from hf 0 _ rfl)
  simp only [List.cons.injEq, and_true] at e
  obtain rfl := e
  obtain ⟨xY, e, hxY⟩ := rd_int (cs := [c1]) (show _ = some y1 from hf 1 _ rfl)
  simp only [List.cons.injEq, and_true] at e
  obtain rfl := e
  obtain ⟨xZ, e, hxZ⟩ := rd_int (cs := [c2]) (show _ = some y2 from hf 2 _ rfl)
  simp only [List.cons.injEq, and_true] at e
  obtain rfl := e
  obtain ⟨xC0, xC1, xC2, xC3, e, hxC⟩ := rd_Color (cs := [c3, c4, c5, c6]) (show _ = some y3 from hf 3 _ rfl)
  simp only [List.cons.injEq, and_true] at e
  obtain ⟨rfl, rfl, rfl, rfl⟩ := e
  exact ⟨_, _, _, _, _, _, _, rfl, hxX, hxY, hxZ, hxC.1, hxC.2.1, hxC.2.2.1, hxC.2.2.2⟩
theorem arg_Win (hv : Value.okWide Tryz.prog w .any base 41 v) (h : DataW.Trod enc Tryz.prog w 0 (fun _ => true) true 41 v d ps) : ∃ (xX : Int) (xY : Int) (xZ : Int) (xC0 : Int) (xC1 : Int) (xC2 : Int) (xC3 : Int), v = .agg #[.int .i64 xX, .int .i64 xY, .int .i64 xZ, .int .i64 xC0, .int .i64 xC1, .int .i64 xC2, .int .i64 xC3] ∧ (-9223372036854775808 ≤ xX ∧ xX ≤ 9223372036854775807) ∧ (-9223372036854775808 ≤ xY ∧ xY ≤ 9223372036854775807) ∧ (-9223372036854775808 ≤ xZ ∧ xZ ≤ 9223372036854775807) ∧ (-9223372036854775808 ≤ xC0 ∧ xC0 ≤ 9223372036854775807) ∧ (-9223372036854775808 ≤ xC1 ∧ xC1 ≤ 9223372036854775807) ∧ (-9223372036854775808 ≤ xC2 ∧ xC2 ≤ 9223372036854775807) ∧ (-9223372036854775808 ≤ xC3 ∧ xC3 ≤ 9223372036854775807) := by
  obtain ⟨cs, rfl, -⟩ : ∃ cs, v = .agg cs ∧ True := by
    simp only [Value.okWide, Tryz.underlying41] at hv
    obtain ⟨cs, e, -⟩ := hv
    exact ⟨cs, e, trivial⟩
  obtain ⟨fuel, h⟩ := h
  obtain ⟨xX, xY, xZ, xC0, xC1, xC2, xC3, e, hf⟩ := rd_Win h
  exact ⟨xX, xY, xZ, xC0, xC1, xC2, xC3, by rw [← Array.toArray_toList (xs := cs), show cs.toList = _ from e], hf⟩
theorem rd_SlWin (h : DataW.trod enc Tryz.prog w 0 (fun _ => true) true fuel 22 cs = some y) : ∃ (x : Value), cs = [x] ∧ (∃ zx, Sls w 7 (fun r => ∃ (exX : Int) (exY : Int) (exZ : Int) (exC0 : Int) (exC1 : Int) (exC2 : Int) (exC3 : Int), r = [.int .i64 exX, .int .i64 exY, .int .i64 exZ, .int .i64 exC0, .int .i64 exC1, .int .i64 exC2, .int .i64 exC3] ∧ (-9223372036854775808 ≤ exX ∧ exX ≤ 9223372036854775807) ∧ (-9223372036854775808 ≤ exY ∧ exY ≤ 9223372036854775807) ∧ (-9223372036854775808 ≤ exZ ∧ exZ ≤ 9223372036854775807) ∧ (-9223372036854775808 ≤ exC0 ∧ exC0 ≤ 9223372036854775807) ∧ (-9223372036854775808 ≤ exC1 ∧ exC1 ≤ 9223372036854775807) ∧ (-9223372036854775808 ≤ exC2 ∧ exC2 ≤ 9223372036854775807) ∧ (-9223372036854775808 ≤ exC3 ∧ exC3 ≤ 9223372036854775807)) x zx) := by
  exact rd_rows Tryz.underlying22 (by kernel_rfl) (by decide) _ (fun fuel cs y h => rd_Win h) h
theorem rd_bool (h : DataW.trod enc Tryz.prog w 0 (fun _ => true) true fuel 4 cs = some y) : ∃ (x : Bool), cs = [.bool x] ∧ True := by
  obtain ⟨n, rfl, -⟩ := DataW.trod_bool Tryz.underlying4 h
  exact ⟨n, rfl, trivial⟩
theorem rd_Dash (h : DataW.trod enc Tryz.prog w 0 (fun _ => true) true fuel 25 cs = some y) : ∃ (xPattern : Int) (xRepeat : Int) (xCount : Int), cs = [.int .i64 xPattern, .int .i64 xRepeat, .int .i64 xCount] ∧ (-9223372036854775808 ≤ xPattern ∧ xPattern ≤ 9223372036854775807) ∧ (-9223372036854775808 ≤ xRepeat ∧ xRepeat ≤ 9223372036854775807) ∧ (-9223372036854775808 ≤ xCount ∧ xCount ≤ 9223372036854775807) := by
  obtain ⟨ys, m, -, -, hl, hn, hf⟩ := DataW.trod_struct Tryz.underlying25 h
  rw [show Tryz.prog.cellsOf 25 = 3 from by kernel_rfl] at hl
  obtain ⟨c0, c1, c2, rfl⟩ := list_3 cs hl
  obtain ⟨y0, y1, y2, rfl⟩ := list_3 ys hn
  obtain ⟨xPattern, e, hxPattern⟩ := rd_int (cs := [c0]) (show _ = some y0 from hf 0 _ rfl)
  simp only [List.cons.injEq, and_true] at e
  obtain rfl := e
  obtain ⟨xRepeat, e, hxRepeat⟩ := rd_int (cs := [c1]) (show _ = some y1 from hf 1 _ rfl)
  simp only [List.cons.injEq, and_true] at e
  obtain rfl := e
  obtain ⟨xCount, e, hxCount⟩ := rd_int (cs := [c2]) (show _ = some y2 from hf 2 _ rfl)
  simp only [List.cons.injEq, and_true] at e
  obtain rfl := e
  exact ⟨_, _, _, rfl, hxPattern, hxRepeat, hxCount⟩
theorem rd_Look (h : DataW.trod enc Tryz.prog w 0 (fun _ => true) true fuel 27 cs = some y) : ∃ (xWidth : Int) (xSoft : Bool) (xDashed : Bool) (xDashPattern : Int) (xDashRepeat : Int) (xDashCount : Int) (xSize : Int) (xKind : Int) (xFront : Int) (xBack : Int) (xCcw : Bool) (xCull : Int) (xOffset : Bool) (xFactor : Int) (xUnits : Int), cs = [.int .i64 xWidth, .bool xSoft, .bool xDashed, .int .i64 xDashPattern, .int .i64 xDashRepeat, .int .i64 xDashCount, .int .i64 xSize, .int .i64 xKind, .int .i64 xFront, .int .i64 xBack, .bool xCcw, .int .i64 xCull, .bool xOffset, .int .i64 xFactor, .int .i64 xUnits] ∧ (-9223372036854775808 ≤ xWidth ∧ xWidth ≤ 9223372036854775807) ∧ (-9223372036854775808 ≤ xDashPattern ∧ xDashPattern ≤ 9223372036854775807) ∧ (-9223372036854775808 ≤ xDashRepeat ∧ xDashRepeat ≤ 9223372036854775807) ∧ (-9223372036854775808 ≤ xDashCount ∧ xDashCount ≤ 9223372036854775807) ∧ (-9223372036854775808 ≤ xSize ∧ xSize ≤ 9223372036854775807) ∧ (-9223372036854775808 ≤ xKind ∧ xKind ≤ 9223372036854775807) ∧ (-9223372036854775808 ≤ xFront ∧ xFront ≤ 9223372036854775807) ∧ (-9223372036854775808 ≤ xBack ∧ xBack ≤ 9223372036854775807) ∧ (-9223372036854775808 ≤ xCull ∧ xCull ≤ 9223372036854775807) ∧ (-9223372036854775808 ≤ xFactor ∧ xFactor ≤ 9223372036854775807) ∧ (-9223372036854775808 ≤ xUnits ∧ xUnits ≤ 9223372036854775807) := by
  obtain ⟨ys, m, -, -, hl, hn, hf⟩ := DataW.trod_struct Tryz.underlying27 h
  rw [show Tryz.prog.cellsOf 27 = 15 from by kernel_rfl] at hl
  obtain ⟨c0, c1, c2, c3, c4, c5, c6, c7, c8, c9, c10, c11, c12, c13, c14, rfl⟩ := list_15 cs hl
  obtain ⟨y0, y1, y2, y3, y4, y5, y6, y7, y8, y9, y10, y11, y12, rfl⟩ := list_13 ys hn
  obtain ⟨xWidth, e, hxWidth⟩ := rd_int (cs := [c0]) (show _ = some y0 from hf 0 _ rfl)
  simp only [List.cons.injEq, and_true] at e
  obtain rfl := e
  obtain ⟨xSoft, e, hxSoft⟩ := rd_bool (cs := [c1]) (show _ = some y1 from hf 1 _ rfl)
  simp only [List.cons.injEq, and_true] at e
  obtain rfl := e
  obtain ⟨xDashed, e, hxDashed⟩ := rd_bool (cs := [c2]) (show _ = some y2 from hf 2 _ rfl)
  simp only [List.cons.injEq, and_true] at e
  obtain rfl := e
  obtain ⟨xDashPattern, xDashRepeat, xDashCount, e, hxDash⟩ := rd_Dash (cs := [c3, c4, c5]) (show _ = some y3 from hf 3 _ rfl)
  simp only [List.cons.injEq, and_true] at e
  obtain ⟨rfl, rfl, rfl⟩ := e
  obtain ⟨xSize, e, hxSize⟩ := rd_int (cs := [c6]) (show _ = some y4 from hf 4 _ rfl)
  simp only [List.cons.injEq, and_true] at e
  obtain rfl := e
  obtain ⟨xKind, e, hxKind⟩ := rd_int (cs := [c7]) (show _ = some y5 from hf 5 _ rfl)
  simp only [List.cons.injEq, and_true] at e
  obtain rfl := e
  obtain ⟨xFront, e, hxFront⟩ := rd_int (cs := [c8]) (show _ = some y6 from hf 6 _ rfl)
  simp only [List.cons.injEq, and_true] at e
  obtain rfl := e
  obtain ⟨xBack, e, hxBack⟩ := rd_int (cs := [c9]) (show _ = some y7 from hf 7 _ rfl)
  simp only [List.cons.injEq, and_true] at e
  obtain rfl := e
  obtain ⟨xCcw, e, hxCcw⟩ := rd_bool (cs := [c10]) (show _ = some y8 from hf 8 _ rfl)
  simp only [List.cons.injEq, and_true] at e
  obtain rfl := e
  obtain ⟨xCull, e, hxCull⟩ := rd_int (cs := [c11]) (show _ = some y9 from hf 9 _ rfl)
  simp only [List.cons.injEq, and_true] at e
  obtain rfl := e
  obtain ⟨xOffset, e, hxOffset⟩ := rd_bool (cs := [c12]) (show _ = some y10 from hf 10 _ rfl)
  simp only [List.cons.injEq, and_true] at e
  obtain rfl := e
  obtain ⟨xFactor, e, hxFactor⟩ := rd_int (cs := [c13]) (show _ = some y11 from hf 11 _ rfl)
  simp only [List.cons.injEq, and_true] at e
  obtain rfl := e
  obtain ⟨xUnits, e, hxUnits⟩ := rd_int (cs := [c14]) (show _ = some y12 from hf 12 _ rfl)
  simp only [List.cons.injEq, and_true] at e
  obtain rfl := e
  exact ⟨_, _, _, _, _, _, _, _, _, _, _, _, _, _, _, rfl, hxWidth, hxDash.1, hxDash.2.1, hxDash.2.2, hxSize, hxKind, hxFront, hxBack, hxCull, hxFactor, hxUnits⟩
theorem rd_Rect (h : DataW.trod enc Tryz.prog w 0 (fun _ => true) true fuel 29 cs = some y) : ∃ (xX0 : Int) (xY0 : Int) (xX1 : Int) (xY1 : Int), cs = [.int .i64 xX0, .int .i64 xY0, .int .i64 xX1, .int .i64 xY1] ∧ (-9223372036854775808 ≤ xX0 ∧ xX0 ≤ 9223372036854775807) ∧ (-9223372036854775808 ≤ xY0 ∧ xY0 ≤ 9223372036854775807) ∧ (-9223372036854775808 ≤ xX1 ∧ xX1 ≤ 9223372036854775807) ∧ (-9223372036854775808 ≤ xY1 ∧ xY1 ≤ 9223372036854775807) := by
  obtain ⟨ys, m, -, -, hl, hn, hf⟩ := DataW.trod_struct Tryz.underlying29 h
  rw [show Tryz.prog.cellsOf 29 = 4 from by kernel_rfl] at hl
  obtain ⟨c0, c1, c2, c3, rfl⟩ := list_4 cs hl
  obtain ⟨y0, y1, y2, y3, rfl⟩ := list_4 ys hn
  obtain ⟨xX0, e, hxX0⟩ := rd_int (cs := [c0]) (show _ = some y0 from hf 0 _ rfl)
  simp only [List.cons.injEq, and_true] at e
  obtain rfl := e
  obtain ⟨xY0, e, hxY0⟩ := rd_int (cs := [c1]) (show _ = some y1 from hf 1 _ rfl)
  simp only [List.cons.injEq, and_true] at e
  obtain rfl := e
  obtain ⟨xX1, e, hxX1⟩ := rd_int (cs := [c2]) (show _ = some y2 from hf 2 _ rfl)
  simp only [List.cons.injEq, and_true] at e
  obtain rfl := e
  obtain ⟨xY1, e, hxY1⟩ := rd_int (cs := [c3]) (show _ = some y3 from hf 3 _ rfl)
  simp only [List.cons.injEq, and_true] at e
  obtain rfl := e
  exact ⟨_, _, _, _, rfl, hxX0, hxY0, hxX1, hxY1⟩
theorem rd_Slbool (h : DataW.trod enc Tryz.prog w 0 (fun _ => true) true fuel 23 cs = some y) : ∃ (x : Value), cs = [x] ∧ (∃ zx, Sls w 1 (fun r => ∃ (ex : Bool), r = [.bool ex] ∧ True) x zx) := by
  exact rd_rows Tryz.underlying23 (by kernel_rfl) (by decide) _ (fun fuel cs y h => rd_bool h) h
theorem rd_rastrumlaw22_Face (h : DataW.trod enc Tryz.prog w 0 (fun _ => true) true fuel 31 cs = some y) : ∃ (xL : Value) (xE : Value) (xKWidth : Int) (xKSoft : Bool) (xKDashed : Bool) (xKDashPattern : Int) (xKDashRepeat : Int) (xKDashCount : Int) (xKSize : Int) (xKKind : Int) (xKFront : Int) (xKBack : Int) (xKCcw : Bool) (xKCull : Int) (xKOffset : Bool) (xKFactor : Int) (xKUnits : Int) (xRX0 : Int) (xRY0 : Int) (xRX1 : Int) (xRY1 : Int), cs = [xL, xE, .int .i64 xKWidth, .bool xKSoft, .bool xKDashed, .int .i64 xKDashPattern, .int .i64 xKDashRepeat, .int .i64 xKDashCount, .int .i64 xKSize, .int .i64 xKKind, .int .i64 xKFront, .int .i64 xKBack, .bool xKCcw, .int .i64 xKCull, .bool xKOffset, .int .i64 xKFactor, .int .i64 xKUnits, .int .i64 xRX0, .int .i64 xRY0, .int .i64 xRX1, .int .i64 xRY1] ∧ (∃ zxL, Sls w 7 (fun r => ∃ (exLX : Int) (exLY : Int) (exLZ : Int) (exLC0 : Int) (exLC1 : Int) (exLC2 : Int) (exLC3 : Int), r = [.int .i64 exLX, .int .i64 exLY, .int .i64 exLZ, .int .i64 exLC0, .int .i64 exLC1, .int .i64 exLC2, .int .i64 exLC3] ∧ (-9223372036854775808 ≤ exLX ∧ exLX ≤ 9223372036854775807) ∧ (-9223372036854775808 ≤ exLY ∧ exLY ≤ 9223372036854775807) ∧ (-9223372036854775808 ≤ exLZ ∧ exLZ ≤ 9223372036854775807) ∧ (-9223372036854775808 ≤ exLC0 ∧ exLC0 ≤ 9223372036854775807) ∧ (-9223372036854775808 ≤ exLC1 ∧ exLC1 ≤ 9223372036854775807) ∧ (-9223372036854775808 ≤ exLC2 ∧ exLC2 ≤ 9223372036854775807) ∧ (-9223372036854775808 ≤ exLC3 ∧ exLC3 ≤ 9223372036854775807)) xL zxL) ∧ (∃ zxE, Sls w 1 (fun r => ∃ (exE : Bool), r = [.bool exE] ∧ True) xE zxE) ∧ (-9223372036854775808 ≤ xKWidth ∧ xKWidth ≤ 9223372036854775807) ∧ (-9223372036854775808 ≤ xKDashPattern ∧ xKDashPattern ≤ 9223372036854775807) ∧ (-9223372036854775808 ≤ xKDashRepeat ∧ xKDashRepeat ≤ 9223372036854775807) ∧ (-9223372036854775808 ≤ xKDashCount ∧ xKDashCount ≤ 9223372036854775807) ∧ (-9223372036854775808 ≤ xKSize ∧ xKSize ≤ 9223372036854775807) ∧ (-9223372036854775808 ≤ xKKind ∧ xKKind ≤ 9223372036854775807) ∧ (-9223372036854775808 ≤ xKFront ∧ xKFront ≤ 9223372036854775807) ∧ (-9223372036854775808 ≤ xKBack ∧ xKBack ≤ 9223372036854775807) ∧ (-9223372036854775808 ≤ xKCull ∧ xKCull ≤ 9223372036854775807) ∧ (-9223372036854775808 ≤ xKFactor ∧ xKFactor ≤ 9223372036854775807) ∧ (-9223372036854775808 ≤ xKUnits ∧ xKUnits ≤ 9223372036854775807) ∧ (-9223372036854775808 ≤ xRX0 ∧ xRX0 ≤ 9223372036854775807) ∧ (-9223372036854775808 ≤ xRY0 ∧ xRY0 ≤ 9223372036854775807) ∧ (-9223372036854775808 ≤ xRX1 ∧ xRX1 ≤ 9223372036854775807) ∧ (-9223372036854775808 ≤ xRY1 ∧ xRY1 ≤ 9223372036854775807) := by
  obtain ⟨ys, m, -, -, hl, hn, hf⟩ := DataW.trod_struct Tryz.underlying31 h
  rw [show Tryz.prog.cellsOf 31 = 21 from by kernel_rfl] at hl
  obtain ⟨c0, c1, c2, c3, c4, c5, c6, c7, c8, c9, c10, c11, c12, c13, c14, c15, c16, c17, c18, c19, c20, rfl⟩ := list_21 cs hl
  obtain ⟨y0, y1, y2, y3, rfl⟩ := list_4 ys hn
  obtain ⟨xL, e, hxL⟩ := rd_SlWin (cs := [c0]) (show _ = some y0 from hf 0 _ rfl)
  simp only [List.cons.injEq, and_true] at e
  obtain rfl := e
  obtain ⟨xE, e, hxE⟩ := rd_Slbool (cs := [c1]) (show _ = some y1 from hf 1 _ rfl)
  simp only [List.cons.injEq, and_true] at e
  obtain rfl := e
  obtain ⟨xKWidth, xKSoft, xKDashed, xKDashPattern, xKDashRepeat, xKDashCount, xKSize, xKKind, xKFront, xKBack, xKCcw, xKCull, xKOffset, xKFactor, xKUnits, e, hxK⟩ := rd_Look (cs := [c2, c3, c4, c5, c6, c7, c8, c9, c10, c11, c12, c13, c14, c15, c16]) (show _ = some y2 from hf 2 _ rfl)
  simp only [List.cons.injEq, and_true] at e
  obtain ⟨rfl, rfl, rfl, rfl, rfl, rfl, rfl, rfl, rfl, rfl, rfl, rfl, rfl, rfl, rfl⟩ := e
  obtain ⟨xRX0, xRY0, xRX1, xRY1, e, hxR⟩ := rd_Rect (cs := [c17, c18, c19, c20]) (show _ = some y3 from hf 3 _ rfl)
  simp only [List.cons.injEq, and_true] at e
  obtain ⟨rfl, rfl, rfl, rfl⟩ := e
  exact ⟨_, _, _, _, _, _, _, _, _, _, _, _, _, _, _, _, _, _, _, _, _, rfl, hxL, hxE, hxK.1, hxK.2.1, hxK.2.2.1, hxK.2.2.2.1, hxK.2.2.2.2.1, hxK.2.2.2.2.2.1, hxK.2.2.2.2.2.2.1, hxK.2.2.2.2.2.2.2.1, hxK.2.2.2.2.2.2.2.2.1, hxK.2.2.2.2.2.2.2.2.2.1, hxK.2.2.2.2.2.2.2.2.2.2, hxR.1, hxR.2.1, hxR.2.2.1, hxR.2.2.2⟩
theorem arg_rastrumlaw22_Face (hv : Value.okWide Tryz.prog w .any base 31 v) (h : DataW.Trod enc Tryz.prog w 0 (fun _ => true) true 31 v d ps) : ∃ (xL : Value) (xE : Value) (xKWidth : Int) (xKSoft : Bool) (xKDashed : Bool) (xKDashPattern : Int) (xKDashRepeat : Int) (xKDashCount : Int) (xKSize : Int) (xKKind : Int) (xKFront : Int) (xKBack : Int) (xKCcw : Bool) (xKCull : Int) (xKOffset : Bool) (xKFactor : Int) (xKUnits : Int) (xRX0 : Int) (xRY0 : Int) (xRX1 : Int) (xRY1 : Int), v = .agg #[xL, xE, .int .i64 xKWidth, .bool xKSoft, .bool xKDashed, .int .i64 xKDashPattern, .int .i64 xKDashRepeat, .int .i64 xKDashCount, .int .i64 xKSize, .int .i64 xKKind, .int .i64 xKFront, .int .i64 xKBack, .bool xKCcw, .int .i64 xKCull, .bool xKOffset, .int .i64 xKFactor, .int .i64 xKUnits, .int .i64 xRX0, .int .i64 xRY0, .int .i64 xRX1, .int .i64 xRY1] ∧ (∃ zxL, Sls w 7 (fun r => ∃ (exLX : Int) (exLY : Int) (exLZ : Int) (exLC0 : Int) (exLC1 : Int) (exLC2 : Int) (exLC3 : Int), r = [.int .i64 exLX, .int .i64 exLY, .int .i64 exLZ, .int .i64 exLC0, .int .i64 exLC1, .int .i64 exLC2, .int .i64 exLC3] ∧ (-9223372036854775808 ≤ exLX ∧ exLX ≤ 9223372036854775807) ∧ (-9223372036854775808 ≤ exLY ∧ exLY ≤ 9223372036854775807) ∧ (-9223372036854775808 ≤ exLZ ∧ exLZ ≤ 9223372036854775807) ∧ (-9223372036854775808 ≤ exLC0 ∧ exLC0 ≤ 9223372036854775807) ∧ (-9223372036854775808 ≤ exLC1 ∧ exLC1 ≤ 9223372036854775807) ∧ (-9223372036854775808 ≤ exLC2 ∧ exLC2 ≤ 9223372036854775807) ∧ (-9223372036854775808 ≤ exLC3 ∧ exLC3 ≤ 9223372036854775807)) xL zxL) ∧ (∃ zxE, Sls w 1 (fun r => ∃ (exE : Bool), r = [.bool exE] ∧ True) xE zxE) ∧ (-9223372036854775808 ≤ xKWidth ∧ xKWidth ≤ 9223372036854775807) ∧ (-9223372036854775808 ≤ xKDashPattern ∧ xKDashPattern ≤ 9223372036854775807) ∧ (-9223372036854775808 ≤ xKDashRepeat ∧ xKDashRepeat ≤ 9223372036854775807) ∧ (-9223372036854775808 ≤ xKDashCount ∧ xKDashCount ≤ 9223372036854775807) ∧ (-9223372036854775808 ≤ xKSize ∧ xKSize ≤ 9223372036854775807) ∧ (-9223372036854775808 ≤ xKKind ∧ xKKind ≤ 9223372036854775807) ∧ (-9223372036854775808 ≤ xKFront ∧ xKFront ≤ 9223372036854775807) ∧ (-9223372036854775808 ≤ xKBack ∧ xKBack ≤ 9223372036854775807) ∧ (-9223372036854775808 ≤ xKCull ∧ xKCull ≤ 9223372036854775807) ∧ (-9223372036854775808 ≤ xKFactor ∧ xKFactor ≤ 9223372036854775807) ∧ (-9223372036854775808 ≤ xKUnits ∧ xKUnits ≤ 9223372036854775807) ∧ (-9223372036854775808 ≤ xRX0 ∧ xRX0 ≤ 9223372036854775807) ∧ (-9223372036854775808 ≤ xRY0 ∧ xRY0 ≤ 9223372036854775807) ∧ (-9223372036854775808 ≤ xRX1 ∧ xRX1 ≤ 9223372036854775807) ∧ (-9223372036854775808 ≤ xRY1 ∧ xRY1 ≤ 9223372036854775807) := by
  obtain ⟨cs, rfl, -⟩ : ∃ cs, v = .agg cs ∧ True := by
    simp only [Value.okWide, Tryz.underlying31] at hv
    obtain ⟨cs, e, -⟩ := hv
    exact ⟨cs, e, trivial⟩
  obtain ⟨fuel, h⟩ := h
  obtain ⟨xL, xE, xKWidth, xKSoft, xKDashed, xKDashPattern, xKDashRepeat, xKDashCount, xKSize, xKKind, xKFront, xKBack, xKCcw, xKCull, xKOffset, xKFactor, xKUnits, xRX0, xRY0, xRX1, xRY1, e, hf⟩ := rd_rastrumlaw22_Face h
  exact ⟨xL, xE, xKWidth, xKSoft, xKDashed, xKDashPattern, xKDashRepeat, xKDashCount, xKSize, xKKind, xKFront, xKBack, xKCcw, xKCull, xKOffset, xKFactor, xKUnits, xRX0, xRY0, xRX1, xRY1, by rw [← Array.toArray_toList (xs := cs), show cs.toList = _ from e], hf⟩
end
end Go.Proofs.YtbkmgngeahmefaaGreat
