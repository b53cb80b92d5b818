/- Parts of the proofs, laid together: Base, Region, Bits, Inv, Law, Row, Big, DivL. Conditions: at each. -/
import Derived.Test.YthcjfanigfgckaaRows
import Derived.WalkKit
import Derived.WalkSpells
import Derived.WalkLawsBesides
import Derived.Deep.QuietTactic
import Derived.BigQuiet
import Derived.ProofKit
import Derived.IntWalk
import Derived.Deep.RegionHeld3
import Derived.BigRegion
import Derived.Lib.Hide
import Derived.StillTail
import Derived.JoinedAt
import Derived.Deep.OwnRows
import Derived.Laws.Tables
import Derived.Laws.Rows
section
/- The base of my proofs: a world that has grown (blocks behind the old ones, draws), its laws for the walk, and the words that my contracts are said in. No condition. -/
namespace Go
/-- What has come: blocks, and how many draws there have been in all. -/
structure Xt where
  objs : Array Obj
  drawn : Nat
instance : Inhabited Xt := ⟨⟨#[], 0⟩⟩
def World.ext (w : World) (X : Xt) : World := { w with heap := w.heap ++ X.objs, drawn := X.drawn }
section
variable {w : World} {X : Xt}
def Xt.sz (X : Xt) : Nat := X.objs.size
def Xt.gap (X : Xt) (n m : Nat) : Prop := m ≤ n ∧ n < m + X.sz
def Xt.gapl (X : Xt) (n m : Nat) : Prop := m ≤ n ∧ n ≤ m + X.sz
@[go_sem] theorem Xt.lt_sz (n m : Nat) : (n < m + X.sz) = (n < m ∨ X.gap n m) := by
  apply propext; unfold Xt.gap; omega
@[go_sem] theorem Xt.le_sz (n m : Nat) : (n ≤ m + X.sz) = (n ≤ m ∨ X.gapl n m) := by
  apply propext; unfold Xt.gapl; omega
@[go_sem] theorem Xt.lt_one (n m : Nat) : (n < m + 1) = (n ≤ m) := by
  apply propext; omega
@[go_sem] theorem Xt.le_one (n m : Nat) : (n ≤ m + 1) = (n ≤ m ∨ n = m + 1) := by
  apply propext; omega
@[go_sem, simp] theorem Xt.gapl_self (m : Nat) : X.gapl (m + X.sz) m := by unfold Xt.gapl; omega
@[go_sem, simp] theorem World.size_ext : (w.ext X).heap.size = w.heap.size + X.sz := by simp [World.ext, Xt.sz]
theorem World.heap_ext {k : Nat} (h : k < w.heap.size) : (w.ext X).heap[k]? = w.heap[k]? := by
  simp only [World.ext]; rw [Array.getElem?_append_left h]
@[go_sem] theorem World.cell?_ext {n i : Nat} (h : n < w.heap.size) : (w.ext X).cell? ⟨n, i, none⟩ = w.cell? ⟨n, i, none⟩ := by
  unfold World.cell?; rw [World.heap_ext h]
theorem World.cell?_ext' {a : Addr} (h : a.block < w.heap.size) : (w.ext X).cell? a = w.cell? a := by
  unfold World.cell?; rw [World.heap_ext h]
@[go_sem] theorem World.frozen?_ext {n i : Nat} (h : n < w.heap.size) : (w.ext X).frozen? ⟨n, i, none⟩ = w.frozen? ⟨n, i, none⟩ := by
  unfold World.frozen?; rw [World.heap_ext h]
theorem World.frozen?_ext' {a : Addr} (h : a.block < w.heap.size) : (w.ext X).frozen? a = w.frozen? a := by
  unfold World.frozen?; rw [World.heap_ext h]
@[go_sem] theorem World.setCell_ext {n i : Nat} {v : Value} (h : n < w.heap.size) : (w.ext X).setCell ⟨n, i, none⟩ v = (w.setCell ⟨n, i, none⟩ v).ext X := by
  unfold World.setCell World.ext
  congr 1
  apply Array.ext_getElem?
  intro k
  simp only [Array.getElem?_modify, Array.getElem?_append, Array.size_modify]
  by_cases hk : n = k
  · subst hk; simp [h]
  · simp [hk]
@[go_sem] theorem World.drew_ext : (w.ext X).drew = w.ext ⟨X.objs, X.drawn + 1⟩ := rfl
theorem World.ext_ext {Y : Xt} : (w.ext X).ext Y = w.ext ⟨X.objs ++ Y.objs, Y.drawn⟩ := by
  simp [World.ext, Array.append_assoc]
@[go_sem] theorem World.ext_drew {Y : Xt} : (w.drew).ext Y = w.ext Y := rfl
end
open Go.RowKit
theorem RowKit.Below.ext {B : Nat} {a w : World} (h : Below B a w) (hB : B ≤ w.heap.size) (X : Xt) : Below B a (w.ext X) :=
  h.trans ⟨rfl, rfl, rfl, by simp, fun k hk => World.heap_ext (by omega)⟩
theorem RowKit.Below.toExt {w w' : World} (h : Below w.heap.size w w') : ∃ X, w' = w.ext X := by
  refine ⟨⟨w'.heap.extract w.heap.size w'.heap.size, w'.drawn⟩, ?_⟩
  obtain ⟨h1, h2, h3, h4, h5⟩ := h
  cases w' with
  | mk heap tape drawn os output =>
    cases w with
    | mk heap0 tape0 drawn0 os0 output0 =>
      simp only at h1 h2 h3 h4 h5
      subst h1 h2 h3
      simp only [World.ext, World.mk.injEq, and_true]
      apply Array.ext_getElem?
      intro k
      rw [Array.getElem?_append]
      split
      · rename_i hk; exact h5 k hk
      · rename_i hk
        rw [Array.getElem?_extract]
        by_cases hk2 : k < heap.size
        · rw [if_pos (by omega)]; congr 1; omega
        · rw [if_neg (by omega)]; exact Array.getElem?_eq_none (by omega)
@[go_sem] theorem ite_min (x y : Int) : (if y < x then y else x) = min x y := by split <;> omega
@[go_sem] theorem ite_max (x y : Int) : (if x < y then y else x) = max x y := by split <;> omega
/-- It returns this value; what was there stays. -/
def Ret (v : Value) (w : World) (e : Ending) (w' : World) : Prop := e = .returned v ∧ ∃ X, w' = w.ext X
theorem Ret.of {v : Value} {w w' : World} (h : Below w.heap.size w w') : Ret v w (.returned v) w' := ⟨rfl, h.toExt⟩
theorem Ret.of' {v v' : Value} {w w' : World} (hv : v' = v) (h : Below w.heap.size w w') : Ret v w (.returned v') w' := by subst hv; exact .of h
/-- A region that draws, whose operations read and whose callees make blocks of their own: one walk. -/
theorem wp_region_ext {P : Program} {id : Nat} {Q : Exit → Act → World → Prop} {a : Act} {w : World} {l : List Oper} (hm : P.follows .mixedOrders = true) (hB : Region.lexB .any l.toArray = true)
    (h : wpQuiet P l.toArray (fun w' => ∃ X, w' = w.ext X) (fun a' => ∀ w', (∃ X, w' = w.ext X) → Q .normal a' w') l a) : (Code.region id l.toArray true).wp P Q a w :=
  wp_region_quiet (C := fun w' => ∃ X, w' = w.ext X) hm hB ⟨⟨#[], w.drawn + 1⟩, by simp [World.ext]⟩ (by simpa using h)
theorem Calls.quiet_ret {P : Program} {f : FuncId} {args : Array Value} {w : World} {X : Xt} {v : Value}
    (h : Calls P f args (w.ext X) (Ret v (w.ext X))) : Calls P f args (w.ext X) fun e w'' => e = .returned v ∧ ∃ Y, w'' = w.ext Y :=
  h.mono fun _ _ ⟨he, Y, hm⟩ => ⟨he, ⟨X.objs ++ Y.objs, Y.drawn⟩, by rw [hm, World.ext_ext]⟩
end Go
namespace Go.Proofs.Ythcjfanigfgckaa
set_option linter.unusedVariables false
set_option linter.unusedSimpArgs false
open Go.RowKit
/-- A color's value. -/
abbrev C4 (a b c d : Int) : Value := .agg #[.int .i64 a, .int .i64 b, .int .i64 c, .int .i64 d]
/-- A color such as is promised anything. -/
structure May (a b c d : Int) : Prop where
  a0 : 0 ≤ a
  a1 : a ≤ 255
  b0 : 0 ≤ b
  b1 : b ≤ 255
  c0 : 0 ≤ c
  c1 : c ≤ 255
  d0 : 0 ≤ d
  d1 : d ≤ 255
/-- A number of four. -/
def get4 (a b c d i : Int) : Int := if i = 0 then a else if i = 1 then b else if i = 2 then c else d
theorem get4_0 (a b c d : Int) : get4 a b c d 0 = a := rfl
theorem get4_1 (a b c d : Int) : get4 a b c d 1 = b := rfl
theorem get4_2 (a b c d : Int) : get4 a b c d 2 = c := rfl
theorem get4_3 (a b c d : Int) : get4 a b c d 3 = d := rfl
theorem cases4 {k : Int} (h0 : 0 ≤ k) (h7 : k ≤ 3) : k = 0 ∨ k = 1 ∨ k = 2 ∨ k = 3 := by omega
theorem cases8 {k : Int} (h0 : 0 ≤ k) (h7 : k ≤ 7) : k = 0 ∨ k = 1 ∨ k = 2 ∨ k = 3 ∨ k = 4 ∨ k = 5 ∨ k = 6 ∨ k = 7 := by omega
theorem at4 (a b c d : Int) {i : Int} (h0 : 0 ≤ i) (h3 : i ≤ 3) :
    (#[Value.int .i64 a, Value.int .i64 b, Value.int .i64 c, Value.int .i64 d] : Array Value)[i.toNat]? = some (.int .i64 (get4 a b c d i)) := by
  rcases cases4 h0 h3 with rfl | rfl | rfl | rfl <;> rfl
theorem at4l (a b c d : Int) {i : Int} (h0 : 0 ≤ i) (h3 : i ≤ 3) :
    [Value.int .i64 a, Value.int .i64 b, Value.int .i64 c, Value.int .i64 d][i.toNat]? = some (.int .i64 (get4 a b c d i)) := by
  rcases cases4 h0 h3 with rfl | rfl | rfl | rfl <;> rfl
theorem at4g (a b c d : Int) {i : Int} (h0 : 0 ≤ i) (h3 : i ≤ 3) : ∀ h : i.toNat < [Value.int .i64 a, Value.int .i64 b, Value.int .i64 c, Value.int .i64 d].length,
    [Value.int .i64 a, Value.int .i64 b, Value.int .i64 c, Value.int .i64 d][i.toNat]'h = .int .i64 (get4 a b c d i) := by
  rcases cases4 h0 h3 with rfl | rfl | rfl | rfl <;> intro _ <;> rfl
theorem May.get {a b c d i : Int} (h : May a b c d) (h0 : 0 ≤ i) (h3 : i ≤ 3) : 0 ≤ get4 a b c d i ∧ get4 a b c d i ≤ 255 := by
  obtain ⟨a0, a1, b0, b1, c0, c1, d0, d1⟩ := h
  rcases cases4 h0 h3 with rfl | rfl | rfl | rfl <;> simp [get4] <;> omega
theorem May.at0 {a b c d : Int} (h : May a b c d) : 0 ≤ a ∧ a ≤ 255 := ⟨h.a0, h.a1⟩
theorem May.at1 {a b c d : Int} (h : May a b c d) : 0 ≤ b ∧ b ≤ 255 := ⟨h.b0, h.b1⟩
theorem May.at2 {a b c d : Int} (h : May a b c d) : 0 ≤ c ∧ c ≤ 255 := ⟨h.c0, h.c1⟩
theorem May.at3 {a b c d : Int} (h : May a b c d) : 0 ≤ d ∧ d ≤ 255 := ⟨h.d0, h.d1⟩
@[go_sem] theorem index4_0 (a b c d : Int) (w : World) : (Instr.index 28 (C4 a b c d) (.int .i64 0)).run Try.prog w = .ok (.int .i64 a) w := by kernel_rfl
@[go_sem] theorem index4_1 (a b c d : Int) (w : World) : (Instr.index 28 (C4 a b c d) (.int .i64 1)).run Try.prog w = .ok (.int .i64 b) w := by kernel_rfl
@[go_sem] theorem index4_2 (a b c d : Int) (w : World) : (Instr.index 28 (C4 a b c d) (.int .i64 2)).run Try.prog w = .ok (.int .i64 c) w := by kernel_rfl
@[go_sem] theorem index4_3 (a b c d : Int) (w : World) : (Instr.index 28 (C4 a b c d) (.int .i64 3)).run Try.prog w = .ok (.int .i64 d) w := by kernel_rfl
theorem list_range4 : List.range 4 = [0, 1, 2, 3] := rfl
theorem cells_int : Try.prog.cellsOf 3 = 1 := by kernel_rfl
@[go_sem] theorem equalIn4 (n : Nat) (a b c d a' b' c' d' : Int) (w : World) : (Op.equalIn (n + 2) 28 (C4 a b c d) (C4 a' b' c' d')).run Try.prog w = .ok (a == a' && b == b' && c == c' && d == d') w := by
  obtain ⟨i, hi⟩ := Option.isSome_iff_exists.1 (show (Try.prog.info? 3).isSome = true by kernel_rfl)
  rw [run_equalIn_array w (n + 1) _ _ Try.underlying28 hi, list_range4]
  simp only [Op.eqItems, cells_int]
  simp [go_sem]
  by_cases h1 : a = a' <;> by_cases h2 : b = b' <;> by_cases h3 : c = c' <;> by_cases h4 : d = d' <;> simp [h1, h2, h3, h4]
end Go.Proofs.Ythcjfanigfgckaa
end
section
/- A region that draws its order: operations that read, calls that make blocks of their own, and at the end operations in one forced order (a store, say): one walk of the text's order serves every order. No condition. -/
namespace Go
set_option linter.unusedVariables false
set_option linter.unusedSimpArgs false
section
variable {P : Program} {ops : Array Oper} {md : Region.Mode} {C : World → Prop}
/-- The head of a region, whatever comes up: only the first n operations, each quiet in the class. -/
def headC (P : Program) (md : Region.Mode) (ops : Array Oper) (C : World → Prop) (n : Nat) (L : Array Bool → Act → Prop) : Nat → Array Bool → Act → Prop
  | 0, done, a => L done a
  | f + 1, done, a => Region.ready md ops done ≠ [] ∧ ∀ i ∈ Region.ready md ops done, i < n ∧ qOp P ops C i (headC P md ops C n L f (done.setIfInBounds i true)) a
theorem wpAny_of_headC {n g : Nat} {L : Array Bool → Act → Prop} {Q : Exit → Act → World → Prop} (hL : ∀ done a w, C w → L done a → wpAny P md ops Q g done a w) (f : Nat) :
    ∀ (done : Array Bool) (a : Act) (w : World), C w → headC P md ops C n L f done a → wpAny P md ops Q (f + g) done a w := by
  induction f with
  | zero => intro done a w hw h; rw [Nat.zero_add]; exact hL _ _ _ hw h
  | succ f ih =>
    intro done a w hw h
    have e : f + 1 + g = (f + g) + 1 := by omega
    rw [e]
    refine ⟨fun h0 => absurd h0 h.1, fun i hi => ?_⟩
    exact wpOp_of_qOp hw (fun a' w' hw' h' => ih _ a' w' hw' h') (h.2 i hi).2
/-- What a ready head operation yields may be laid first. -/
theorem headC_first {n i : Nat} {o : Oper} {v : Value} {L : Array Bool → Act → Prop} (hi : ops[i]? = some o) (hsel : Region.noSelect ops = true)
    (hs : Region.sinkB md ops n = true) (hc : Region.chainB md ops n = true) (hn : n < ops.size) (hin : i < n)
    (hL : ∀ done a, L done a → ∀ j ∈ Region.ready md ops done, n ≤ j) (f : Nat) :
    ∀ (done : Array Bool) (a : Act), HeadInv md ops n done →
      (∀ j oj, ops[j]? = some oj → j ≠ i → done.getD j true = false → (∀ e ∈ oj.after, Region.binds md e = true → e.on ≠ i) → o.apart ops oj = true) →
      i ∈ Region.ready md ops done → YieldsIn P ops C o v a → headC P md ops C n L f (done.setIfInBounds i true) (a.put o.dst v) → headC P md ops C n L (f + 1) done a := by
  have nosel := fun (j : Nat) (o : Oper) cs b (h : ops[j]? = some o) => Region.noSelect_spec hsel j o cs b h
  induction f with
  | zero =>
    intro done a inv _ hr hy H
    refine ⟨fun h => (by rw [h] at hr; cases hr), fun j hj => ?_⟩
    have hjn : j < n := Nat.lt_of_not_le fun h => tail_waits hs hc hn inv _ i rfl hin (mem_ready.1 hr).1 j h hj
    refine ⟨hjn, ?_⟩
    by_cases e : j = i
    · subst e; exact hy.qOp hi H
    · have := hL _ _ H j (ready_mono hj e); omega
  | succ f ih =>
    intro done a inv hfree hr hy H
    have hun := (mem_ready.1 hr).1
    refine ⟨fun h => (by rw [h] at hr; cases hr), fun j hj => ?_⟩
    have hjn : j < n := Nat.lt_of_not_le fun h => tail_waits hs hc hn inv _ i rfl hin hun j h hj
    refine ⟨hjn, ?_⟩
    by_cases e : j = i
    · subst e; exact hy.qOp hi H
    · obtain ⟨hjun, oj, hoj, hall⟩ := mem_ready.1 hj
      have hnot : ∀ e ∈ oj.after, Region.binds md e = true → e.on ≠ i := fun e he hb heq => by
        have h1 := hall e he hb
        rw [heq, getD_both hun] at h1
        cases h1
      have h2 := qOp_put hoj (hfree j oj hoj e hjun hnot) (fun cs b => nosel i o cs b hi) (fun cs b => nosel j oj cs b hoj) hy (H.2 j (ready_mono hj e)).2
      refine qOp_mono (fun a' h3 => ih (done.setIfInBounds j true) a' (inv.set hj hjn) (fun k ok hk hki hku hno => ?_) (ready_mono hr (Ne.symm e)) h3.1 ?_) h2
      · refine hfree k ok hk hki ?_ hno
        by_cases hjk : j = k
        · subst hjk; exact hjun
        · rw [getD_set_ne true hjk] at hku; exact hku
      · rw [Array.setIfInBounds_comm _ _ e]; exact h3.2
theorem headC_lex {n g : Nat} {K : Act → Prop} (hsel : Region.noSelect ops = true) (hs : Region.sinkB md ops n = true) (hc : Region.chainB md ops n = true) (hn : n < ops.size) (l : List Oper) :
    ∀ (k : Nat) (done : Array Bool) (a : Act), (∀ j, j < l.length → l[j]? = ops[k + j]?) → k + l.length = n → HeadInv md ops n done →
    Region.lexHead md ops g l.length k done = true → wpQuiet P ops C K l a →
    headC P md ops C n (fun done' a' => Region.seqB md ops g n done' = true ∧ K a') l.length done a := by
  induction l with
  | nil =>
    intro k done a _ hk _ hB h
    obtain rfl : k = n := by simpa using hk
    exact ⟨by simpa [Region.lexHead] using hB, h⟩
  | cons o l ih =>
    intro k done a hl hk inv hB h
    have h0 : ops[k]? = some o := by simpa using (hl 0 (by simp)).symm
    simp only [List.length_cons, Region.lexHead, Bool.and_eq_true] at hB
    obtain ⟨⟨hr, hf⟩, hB'⟩ := hB
    have hkn : k < n := by simp only [List.length_cons] at hk; omega
    have hr' : k ∈ Region.ready md ops done := by simpa using hr
    have hq : qOp P ops C k (wpQuiet P ops C K l) a := by unfold qOp; simp only [h0]; exact h
    obtain ⟨v, hy, hK⟩ := yieldsIn_of_qOp h0 hq
    refine headC_first h0 hsel hs hc hn hkn (fun done' a' hL => seqB_ready hL.1) l.length done a inv (Region.free_spec h0 hf) hr' hy ?_
    exact ih (k + 1) _ _ (fun j hj => by have := hl (j + 1) (by simp; omega); simpa [Nat.add_assoc, Nat.add_comm 1 j] using this) (by simp only [List.length_cons] at hk; omega) (inv.set hr' hkn) hB' hK
/-- The first n operations quiet in the class of the grown worlds, the others in one order. -/
theorem wp_region_ext_tail {id : Nat} {Q : Exit → Act → World → Prop} {a : Act} {w : World} {l : List Oper} (n : Nat) (hm : P.follows .mixedOrders = true) (hB : Region.lexTailB .any l.toArray n = true)
    (h : wpQuiet P l.toArray (fun w' => ∃ X, w' = w.ext X) (fun a' => ∀ w', (∃ X, w' = w.ext X) → wpList P l.toArray Q (l.drop n) a' w') (l.take n) a) : (Code.region id l.toArray true).wp P Q a w := by
  simp only [Region.lexTailB, Bool.and_eq_true, decide_eq_true_eq] at hB
  obtain ⟨⟨⟨⟨hsel, hn⟩, hs⟩, hc⟩, hlex⟩ := hB
  have hn' : n < l.length := by simpa using hn
  have htl : (l.take n).length = n := by simp; omega
  have hdl : (l.drop n).length = l.toArray.size - n := by simp
  have inv0 : HeadInv .any l.toArray n (Array.replicate l.toArray.size false) :=
    ⟨by simp, fun j oj _ hl => (by rw [getD_replicate_false] at hl; cases hl), fun t _ ht => getD_in (by simpa using ht) (getD_replicate_false _ _)⟩
  have H := headC_lex (md := .any) (g := l.toArray.size - n) hsel hs hc hn (l.take n) 0 _ a (fun j hj => by
    rw [htl] at hj
    simp [hj]) (by simpa using htl) inv0 (by rw [htl]; exact hlex) h
  refine wp_region_any hm ?_
  have := wpAny_of_headC (Q := Q) (g := l.toArray.size - n) (fun done a' w' hw' hL => by
    have := wpAny_of_seq (md := .any) (Q' := Q) (l.drop n) n done a' w' (fun j => by simp [List.getElem?_drop]) (by rw [hdl]; exact hL.1) (hL.2 w' hw')
    rwa [hdl] at this) _ _ _ { w with drawn := w.drawn + 1 } ⟨⟨#[], w.drawn + 1⟩, by simp [World.ext]⟩ H
  rw [htl, show n + (l.toArray.size - n) = l.toArray.size by omega] at this
  exact this
end
end Go
end
section
/- Bits of ints as arithmetic: and with 255, or of what doesn't meet, and the bytes of one number beside another's. Conditions: as each says. -/
namespace Go.Proofs.Ythcjfanigfgckaa
set_option linter.unusedVariables false
set_option linter.unusedSimpArgs false
theorem ofInt_toNat (x : Int) (h0 : 0 ≤ x) (h1 : x < 18446744073709551616) : (BitVec.ofInt 64 x).toNat = x.toNat := by
  simp [BitVec.toNat_ofInt]
  omega
theorem wrap_nat (n : Nat) (h : n < 9223372036854775808) : IntKind.i64.wrap (n : Int) = n := IntWalk.i64_in _ (by omega)
theorem bits_and_nat (x y : Int) (hx0 : 0 ≤ x) (hx1 : x < 9223372036854775808) (hy0 : 0 ≤ y) (hy1 : y < 9223372036854775808) : bits .and .i64 x y = ((x.toNat &&& y.toNat : Nat) : Int) := by
  have e1 := ofInt_toNat x hx0 (by omega)
  have e2 := ofInt_toNat y hy0 (by omega)
  have hl : x.toNat &&& y.toNat < 9223372036854775808 := Nat.lt_of_le_of_lt Nat.and_le_left (by omega)
  show IntKind.i64.wrap (((BitVec.ofInt 64 x &&& BitVec.ofInt 64 y).toNat : Nat) : Int) = _
  rw [BitVec.toNat_and, e1, e2]
  exact wrap_nat _ hl
theorem bits_or_nat (x y : Int) (hx0 : 0 ≤ x) (hx1 : x < 9223372036854775808) (hy0 : 0 ≤ y) (hy1 : y < 9223372036854775808) : bits .or .i64 x y = ((x.toNat ||| y.toNat : Nat) : Int) := by
  have e1 := ofInt_toNat x hx0 (by omega)
  have e2 := ofInt_toNat y hy0 (by omega)
  have hl : x.toNat ||| y.toNat < 2 ^ 63 := Nat.or_lt_two_pow (by omega) (by omega)
  show IntKind.i64.wrap (((BitVec.ofInt 64 x ||| BitVec.ofInt 64 y).toNat : Nat) : Int) = _
  rw [BitVec.toNat_or, e1, e2]
  exact wrap_nat _ (by omega)
theorem bits_andNot_nat (x y : Int) (hx0 : 0 ≤ x) (hx1 : x < 9223372036854775808) (hy0 : 0 ≤ y) (hy1 : y < 9223372036854775808) : bits .andNot .i64 x y = ((x.toNat &&& (2 ^ 64 - 1 - y.toNat) : Nat) : Int) := by
  have e1 := ofInt_toNat x hx0 (by omega)
  have e2 := ofInt_toNat y hy0 (by omega)
  have hl : x.toNat &&& (2 ^ 64 - 1 - y.toNat) < 9223372036854775808 := Nat.lt_of_le_of_lt Nat.and_le_left (by omega)
  show IntKind.i64.wrap (((BitVec.ofInt 64 x &&& ~~~BitVec.ofInt 64 y).toNat : Nat) : Int) = _
  rw [BitVec.toNat_and, BitVec.toNat_not, e1, e2]
  exact wrap_nat _ hl
theorem bits_and_255 (x : Int) (hx0 : 0 ≤ x) (hx1 : x < 9223372036854775808) : bits .and .i64 x 255 = x % 256 := by
  rw [bits_and_nat x 255 hx0 hx1 (by decide) (by decide)]
  have : x.toNat &&& 255 = x.toNat % 256 := Nat.and_two_pow_sub_one_eq_mod x.toNat 8
  rw [show (255 : Int).toNat = 255 from rfl, this]
  omega
theorem bits_or_low (x y : Int) (k : Nat) (u : Nat) (hx : x = 2 ^ k * (u : Int)) (hx1 : x < 9223372036854775808) (hy0 : 0 ≤ y) (hy1 : y < 2 ^ k) (hyb : y < 9223372036854775808) : bits .or .i64 x y = x + y := by
  have hp : (0 : Int) < 2 ^ k := Int.pow_pos (by decide)
  have hx0 : 0 ≤ x := by rw [hx]; exact Int.mul_nonneg (Int.le_of_lt hp) (by omega)
  rw [bits_or_nat x y hx0 hx1 hy0 hyb]
  have e1 : x.toNat = 2 ^ k * u := by
    rw [hx]
    have : ((2 : Int) ^ k * (u : Int)) = ((2 ^ k * u : Nat) : Int) := by push_cast; rfl
    rw [this, Int.toNat_natCast]
  have hyn : y.toNat < 2 ^ k := by
    have : ((2 : Int) ^ k) = ((2 ^ k : Nat) : Int) := by push_cast; rfl
    omega
  rw [e1, ← Nat.two_pow_add_eq_or_of_lt hyn, ← e1]
  omega
/-- The bytes of p where b has its bits, n's elsewhere. -/
def mrg (n b p : Nat) : Nat := (n &&& (2 ^ 64 - 1 - b)) ||| (p &&& b)
theorem mrg_testBit (n b p i : Nat) (hn : n < 2 ^ 64) (hb : b < 2 ^ 64) : (mrg n b p).testBit i = if b.testBit i then p.testBit i else n.testBit i := by
  unfold mrg
  have e : 2 ^ 64 - 1 - b = 2 ^ 64 - (b + 1) := by omega
  rw [Nat.testBit_or, Nat.testBit_and, Nat.testBit_and, e, Nat.testBit_two_pow_sub_succ hb]
  by_cases hi : i < 64
  · cases b.testBit i <;> simp [hi]
  · have h1 : n.testBit i = false := Nat.testBit_lt_two_pow (Nat.lt_of_lt_of_le hn (Nat.pow_le_pow_right (by omega) (by omega)))
    have h2 : b.testBit i = false := Nat.testBit_lt_two_pow (Nat.lt_of_lt_of_le hb (Nat.pow_le_pow_right (by omega) (by omega)))
    simp [h1, h2]
theorem mrg_step (x y B u v : Nat) (m : Bool) (hy : y < 2 ^ 8) (hv : v < 2 ^ 8) (hn : 2 ^ 8 * x + y < 2 ^ 64) (hb : 2 ^ 8 * B + (if m then 255 else 0) < 2 ^ 64) (hp : 2 ^ 8 * u + v < 2 ^ 64) :
    mrg (2 ^ 8 * x + y) (2 ^ 8 * B + if m then 255 else 0) (2 ^ 8 * u + v) = 2 ^ 8 * mrg x B u + if m then v else y := by
  have hm : (if m then 255 else 0) < 2 ^ 8 := by split <;> decide
  have hr : (if m then v else y) < 2 ^ 8 := by split <;> assumption
  apply Nat.eq_of_testBit_eq
  intro i
  rw [mrg_testBit _ _ _ _ hn hb, Nat.testBit_two_pow_mul_add _ hm, Nat.testBit_two_pow_mul_add _ hv, Nat.testBit_two_pow_mul_add _ hy, Nat.testBit_two_pow_mul_add _ hr]
  by_cases hi : i < 8
  · simp only [hi, if_true]
    cases m
    · simp
    · have : (255 : Nat).testBit i = true := by
        have : (255 : Nat) = 2 ^ 8 - 1 := rfl
        rw [this, Nat.testBit_two_pow_sub_one]; simp [hi]
      simp [this]
  · simp only [hi, if_false]
    rw [mrg_testBit _ _ _ _ (by omega) (by omega)]
theorem mrg_zero (m : Bool) (y v : Nat) (hy : y < 2 ^ 8) (hv : v < 2 ^ 8) : mrg y (if m then 255 else 0) v = if m then v else y := by
  have := mrg_step 0 y 0 0 v m hy hv (by omega) (by split <;> omega) (by omega)
  simpa [mrg] using this
/-- A color as a number. -/
def pk (a b c d : Int) : Int := ((a * 256 + b) * 256 + c) * 256 + d
/-- The bits of a mask. -/
def mk (m0 m1 m2 m3 : Bool) : Int := pk (if m0 then 255 else 0) (if m1 then 255 else 0) (if m2 then 255 else 0) (if m3 then 255 else 0)
theorem pk_01 {a b c d : Int} (h : May a b c d) : 0 ≤ pk a b c d ∧ pk a b c d ≤ 4294967295 := by
  obtain ⟨a0, a1, b0, b1, c0, c1, d0, d1⟩ := h
  unfold pk; omega
theorem may_of_mask (m0 m1 m2 m3 : Bool) : May (if m0 then 255 else 0) (if m1 then 255 else 0) (if m2 then 255 else 0) (if m3 then 255 else 0) := by
  constructor <;> split <;> decide
theorem mk_01 (m0 m1 m2 m3 : Bool) : 0 ≤ mk m0 m1 m2 m3 ∧ mk m0 m1 m2 m3 ≤ 4294967295 := pk_01 (may_of_mask m0 m1 m2 m3)
theorem mrg_pk {a b c d x y z t : Int} (h : May a b c d) (k : May x y z t) (m0 m1 m2 m3 : Bool) :
    mrg (pk a b c d).toNat (mk m0 m1 m2 m3).toNat (pk x y z t).toNat = (pk (if m0 then x else a) (if m1 then y else b) (if m2 then z else c) (if m3 then t else d)).toNat := by
  obtain ⟨a0, a1, b0, b1, c0, c1, d0, d1⟩ := h
  obtain ⟨x0, x1, y0, y1, z0, z1, t0, t1⟩ := k
  obtain ⟨a, rfl⟩ := Int.eq_ofNat_of_zero_le a0
  obtain ⟨b, rfl⟩ := Int.eq_ofNat_of_zero_le b0
  obtain ⟨c, rfl⟩ := Int.eq_ofNat_of_zero_le c0
  obtain ⟨d, rfl⟩ := Int.eq_ofNat_of_zero_le d0
  obtain ⟨x, rfl⟩ := Int.eq_ofNat_of_zero_le x0
  obtain ⟨y, rfl⟩ := Int.eq_ofNat_of_zero_le y0
  obtain ⟨z, rfl⟩ := Int.eq_ofNat_of_zero_le z0
  obtain ⟨t, rfl⟩ := Int.eq_ofNat_of_zero_le t0
  have pn : ∀ p q r s : Nat, (pk p q r s).toNat = 2 ^ 8 * (2 ^ 8 * (2 ^ 8 * p + q) + r) + s := by intro p q r s; unfold pk; omega
  have hc : ∀ (m : Bool) (p q : Nat), (if m then (p : Int) else (q : Int)) = ((if m then p else q : Nat) : Int) := by intro m p q; split <;> rfl
  have h255 : ∀ m : Bool, (if m then (255 : Int) else 0) = ((if m then 255 else 0 : Nat) : Int) := by intro m; split <;> rfl
  unfold mk
  rw [hc, hc, hc, hc, h255, h255, h255, h255, pn, pn, pn, pn]
  have l0 : (if m0 then 255 else 0) ≤ 255 := by split <;> decide
  have l1 : (if m1 then 255 else 0) ≤ 255 := by split <;> decide
  have l2 : (if m2 then 255 else 0) ≤ 255 := by split <;> decide
  have l3 : (if m3 then 255 else 0) ≤ 255 := by split <;> decide
  rw [mrg_step _ _ _ _ _ m3 (by omega) (by omega) (by omega) (by omega) (by omega), mrg_step _ _ _ _ _ m2 (by omega) (by omega) (by omega) (by omega) (by omega),
    mrg_step _ _ _ _ _ m1 (by omega) (by omega) (by omega) (by omega) (by omega), mrg_zero m0 a x (by omega) (by omega)]
/-- What Put writes. -/
theorem put_bits {a b c d x y z t : Int} (h : May a b c d) (k : May x y z t) (m0 m1 m2 m3 : Bool) :
    bits .or .i64 (bits .andNot .i64 (pk a b c d) (mk m0 m1 m2 m3)) (bits .and .i64 (pk x y z t) (mk m0 m1 m2 m3)) = pk (if m0 then x else a) (if m1 then y else b) (if m2 then z else c) (if m3 then t else d) := by
  obtain ⟨n0, n1⟩ := pk_01 h
  obtain ⟨p0, p1⟩ := pk_01 k
  obtain ⟨b0, b1⟩ := mk_01 m0 m1 m2 m3
  have hm : May (if m0 then x else a) (if m1 then y else b) (if m2 then z else c) (if m3 then t else d) := by
    obtain ⟨a0, a1, b0, b1, c0, c1, d0, d1⟩ := h
    obtain ⟨x0, x1, y0, y1, z0, z1, t0, t1⟩ := k
    constructor <;> split <;> assumption
  obtain ⟨r0, r1⟩ := pk_01 hm
  rw [bits_andNot_nat _ _ n0 (by omega) b0 (by omega), bits_and_nat _ _ p0 (by omega) b0 (by omega)]
  have l1 : (pk a b c d).toNat &&& (2 ^ 64 - 1 - (mk m0 m1 m2 m3).toNat) ≤ (pk a b c d).toNat := Nat.and_le_left
  have l2 : (pk x y z t).toNat &&& (mk m0 m1 m2 m3).toNat ≤ (pk x y z t).toNat := Nat.and_le_left
  rw [bits_or_nat _ _ (by omega) (by omega) (by omega) (by omega), Int.toNat_natCast, Int.toNat_natCast]
  have := mrg_pk h k m0 m1 m2 m3
  unfold mrg at this
  rw [this]; omega
/-- A list's number; 0 behind its end. (A word of its own: the walk's simp would turn 'getD' into 'get'.) -/
def elt (l : List Int) (i : Nat) : Int := l.getD i 0
theorem elt_mem {l : List Int} {i : Nat} (h : i < l.length) : elt l i ∈ l := by simp [elt, h]
end Go.Proofs.Ythcjfanigfgckaa
end
section
/- A region that draws its order, by an invariant over the operations that are done: each operation is walked once, in whatever order they come up. No condition. -/
namespace Go
set_option linter.unusedVariables false
set_option linter.unusedSimpArgs false
section
variable {P : Program}
/-- One more operation is done. -/
def upd (d : Nat → Bool) (i : Nat) : Nat → Bool := fun j => if j = i then true else d j
/-- Each operation waits for elder ones alone, and has no guard. -/
def lowB (ops : Array Oper) : Bool := (List.range ops.size).all fun i => match ops[i]? with
  | some o => o.guard.isNone && o.after.all fun e => !(Region.binds .any e) || decide (e.on < i)
  | none => true
theorem lowB_spec {ops : Array Oper} (h : lowB ops = true) {i : Nat} {o : Oper} (ho : ops[i]? = some o) : o.guard = none ∧ ∀ e ∈ o.after, Region.binds .any e = true → e.on < i := by
  have hi : i < ops.size := (Array.getElem?_eq_some_iff.1 ho).1
  have := List.all_eq_true.1 h i (List.mem_range.2 hi)
  simp only [ho, Bool.and_eq_true, Option.isNone_iff_eq_none, Array.all_eq_true', Bool.or_eq_true, Bool.not_eq_true', decide_eq_true_eq] at this
  exact ⟨this.1, fun e he hb => (this.2 e he).resolve_left (by rw [hb]; exact Bool.noConfusion)⟩
theorem wpAny_of_I {ops : Array Oper} {I : (Nat → Bool) → Act → World → Prop} {Q : Exit → Act → World → Prop} (hl : lowB ops = true)
    (hstep : ∀ i o, ops[i]? = some o → ∀ d a w, I d a w → d i = false → (∀ e ∈ o.after, Region.binds .any e = true → d e.on = true) → o.wp P a w (I (upd d i)) Q)
    (hend : ∀ d a w, I d a w → (∀ i, i < ops.size → d i = true) → Q .normal a w) :
    ∀ (fuel : Nat) (done : Array Bool) (a : Act) (w : World), done.size = ops.size → done.toList.count false = fuel → I (fun j => done.getD j false) a w → wpAny P .any ops Q fuel done a w := by
  have all_done : ∀ (done : Array Bool), done.size = ops.size → Region.ready .any ops done = [] → ∀ i, i < ops.size → done.getD i false = true := by
    intro done hs hr i
    induction i using Nat.strongRecOn with
    | _ i ih =>
      intro hi
      cases hd : done.getD i false with
      | true => rfl
      | false =>
        have hmem : i ∈ Region.ready .any ops done := by
          refine mem_ready.2 ⟨getD_in (by omega) hd, ops[i], by simp [hi], fun e he hb => ?_⟩
          have := (lowB_spec hl (show ops[i]? = some ops[i] by simp [hi])).2 e he hb
          exact ih e.on this (by omega)
        rw [hr] at hmem; cases hmem
  intro fuel
  induction fuel with
  | zero =>
    intro done a w hs hc hI
    have hr : Region.ready .any ops done = [] := by
      cases hr : Region.ready .any ops done with
      | nil => rfl
      | cons i l =>
        exfalso
        have h1 := (mem_ready.1 (show i ∈ Region.ready .any ops done by rw [hr]; exact List.mem_cons_self)).1
        have hi : i < done.size := by
          rcases Nat.lt_or_ge i done.size with h | h
          · exact h
          · simp [Array.getElem?_eq_none h] at h1
        have : false ∈ done.toList := by
          have h2 : done[i] = false := by simpa [hi] using h1
          rw [← h2]; simp
        have := List.count_pos_iff.2 this
        omega
    exact ⟨hr, hend _ a w hI (all_done done hs hr)⟩
  | succ fuel ih =>
    intro done a w hs hc hI
    refine ⟨fun hr => hend _ a w hI (all_done done hs hr), fun i hi => ?_⟩
    obtain ⟨h1, o, ho, haft⟩ := mem_ready.1 hi
    have hid : i < done.size := by rw [hs]; exact (Array.getElem?_eq_some_iff.1 ho).1
    have hf : done[i] = false := by simpa [hid] using h1
    have hw : Region.wanted o (yielded ops a.tmps) = true := by simp [Region.wanted, (lowB_spec hl ho).1]
    unfold wpOp
    simp only [ho, hw, if_true]
    refine .inl (Oper.wp_mono (fun a' w' h => ?_) (hstep i o ho _ a w hI (getD_both h1) haft))
    refine ih _ a' w' (by simpa using hs) ?_ ?_
    · have h0 : done.toList[i]'(by simpa using hid) = false := by simpa using hf
      rw [Array.toList_setIfInBounds, List.count_set (by simpa using hid), h0, hc]
      simp
    · have e : (fun j => (done.setIfInBounds i true).getD j false) = upd (fun j => done.getD j false) i := by
        funext j
        unfold upd
        by_cases hj : j = i
        · subst hj; simp [hid]
        · rw [if_neg hj, getD_set_ne false (Ne.symm hj)]
      rw [e]; exact h
/-- A region that draws its order, by an invariant. -/
theorem wp_region_inv {id : Nat} {Q : Exit → Act → World → Prop} {a : Act} {w : World} {ops : Array Oper} (I : (Nat → Bool) → Act → World → Prop) (hm : P.follows .mixedOrders = true) (hl : lowB ops = true)
    (h0 : I (fun _ => false) a w.drew)
    (hstep : ∀ i o, ops[i]? = some o → ∀ d a w, I d a w → d i = false → (∀ e ∈ o.after, Region.binds .any e = true → d e.on = true) → o.wp P a w (I (upd d i)) Q)
    (hend : ∀ d a w, I d a w → (∀ i, i < ops.size → d i = true) → Q .normal a w) : (Code.region id ops true).wp P Q a w := by
  refine wp_region_any hm (wpAny_of_I hl hstep hend _ _ _ _ (by simp) (by simp) ?_)
  have e : (fun j => (Array.replicate ops.size false).getD j false) = fun _ => false := by funext j; exact getD_replicate_false _ _
  rw [e]; exact h0
end
end Go
end
section
/- From a law's walk to its row, once for all laws: a call that returns true and leaves what was there makes the row hold. Condition: the parameters' types read as data. -/
namespace Go.Proofs.Ythcjfanigfgckaa
set_option linter.unusedVariables false
set_option linter.unusedSimpArgs false
open Go.RowKit Go.ChangeShapes Go.WideShapes Go.ChangeAt
theorem own : ownKnob Try.prog.godebug = none := by kernel_rfl
theorem laidOut : laidOutB Try.prog = true := by kernel_rfl
theorem trodAll_below {H : Type} {enc : TypeId × Value → H} {W W' : World} (hb : Below W.heap.size W W') (ts : List TypeId) :
    ∀ (vs : List Value) (ds : List (DataW H)) (ps : List MemPlace),
      ts.all (fun t => Try.prog.readableRec t && decide (t < Try.prog.types.size)) = true → DataW.TrodAll enc Try.prog W 0 (fun _ => true) true ts vs ds ps → (∀ x ∈ ps, x.block < W.heap.size) →
      DataW.TrodAll enc Try.prog W' 0 (fun b => decide (b < W.heap.size)) true ts vs ds ps := by
  induction ts with
  | nil =>
    intro vs ds ps _ h _
    obtain ⟨rfl, rfl, rfl⟩ := trodAll_nil h
    rfl
  | cons t ts ih =>
    intro vs ds ps hr h hlt
    obtain ⟨v, vs', d, ds', p, q, rfl, rfl, rfl, h1, h2⟩ := trodAll_cons h
    rw [List.all_cons, Bool.and_eq_true, Bool.and_eq_true, decide_eq_true_eq] at hr
    exact ⟨p, q, Below.trod laidOut hr.1.1 hr.1.2 h1 hb (fun x hx => hlt x (List.mem_append.2 (.inl hx))), ih _ _ _ hr.2 h2 (fun x hx => hlt x (List.mem_append.2 (.inr hx))), rfl⟩
theorem trodAll_length {H : Type} {enc : TypeId × Value → H} {W : World} (ts : List TypeId) : ∀ (vs : List Value) (ds : List (DataW H)) (ps : List MemPlace),
    DataW.TrodAll enc Try.prog W 0 (fun _ => true) true ts vs ds ps → ds.length = ts.length := by
  induction ts with
  | nil =>
    intro vs ds ps h
    obtain ⟨rfl, rfl, rfl⟩ := trodAll_nil h
    rfl
  | cons t ts ih =>
    intro vs ds ps h
    obtain ⟨v, vs', d, ds', p, q, rfl, rfl, rfl, h1, h2⟩ := trodAll_cons h
    simp [ih _ _ _ h2]
/-- What a law's walk may lean on: its arguments read as data, and have their types' outer forms. -/
def Args (fn : Func) (W : World) (args : Array Value) : Prop :=
  ∃ (H : Type) (enc : TypeId × Value → H) (ds : List (DataW H)) (ps : List MemPlace) (base : Nat),
    DataW.TrodAll enc Try.prog W 0 (fun _ => true) true fn.params.toList args.toList ds ps ∧
    (∀ (j : Nat) t v, fn.params[j]? = some t → args[j]? = some v → Value.okWide Try.prog W .any base t v) ∧ (∀ x ∈ ps, x.block < W.heap.size) ∧ W.noneFrozen ps
set_option maxRecDepth 100000 in
theorem law_lifted (spec : ChangeSpec) (f : FuncId) (fn : Func) (hin : Try.prog.inits.idxOf? f = none) (hf : Try.prog.funcs[f]? = some fn) (hvars : spec.vars = []) (hres : fn.resultTypes = #[4])
    (hspec : ∀ (H : Type) (ds : List (DataW H)), ds.length = fn.params.toList.length → (spec.fn H ds).results = [.lit (.bool true)] ∧ (spec.fn H ds).args = ds ∧ (spec.fn H ds).vars = [])
    (hread : fn.params.toList.all (fun t => Try.prog.readableRec t && decide (t < Try.prog.types.size)) = true)
    (walk : ∀ (W : World) (args : Array Value), Args fn W args → Calls Try.prog f args W (Ret (.bool true) W))
    (os : Os) (started : os.Started) (H : Type) (enc : TypeId × Value → H)
    (wit : ∃ (w : World) (tape : Nat → Question → Nat) (i : Input), w.os = os ∧ World.Shaped Try.checked.prog (w.forCall tape i) ∧ i.vars = [] ∧ Input.okWide Try.checked.prog (w.forCall tape i) Reach.any w.heap.size f i ∧
      ChangeSpec.pre6 enc Try.checked.prog fn spec [] false (w.forCall tape i).memory i.args ∧ ({} : Assume).holds Try.checked.prog (lone (Frame.enter Try.checked.prog f i.args CallKind.normal) [] (w.forCall tape i))) :
    ReturnsInHanded {} Try.checked os f .any (spec.pre6 enc Try.prog fn [] false) (spec.post enc Try.prog fn false true false false) := by
  refine returnsInHanded_of_change (C := Try.checked) own started hin hf wit ?_
  intro W base args ds gs before hval hW _ _
  have hlt : ∀ x ∈ before, x.block < W.heap.size := fun x hx => by simpa using hW.lt x hx
  have hW' := hW
  obtain ⟨p, q, hA, hV, rfl, hfz, _⟩ := hW
  have hA' : DataW.TrodAll enc Try.prog W 0 (fun _ => true) true fn.params.toList args.toList ds p := hA
  rw [hvars] at hV
  obtain ⟨rfl, rfl⟩ := trodVars_none hV
  have hl := trodAll_length _ _ _ _ hA'
  obtain ⟨e1, e2, e3⟩ := hspec H ds hl
  rw [List.append_nil] at hlt hfz
  refine (walk W args ⟨H, enc, ds, p, base, hA', hval, hlt, hfz⟩).mono fun e W' hr => ?_
  obtain ⟨rfl, X, rfl⟩ := hr
  have hb : Below W.heap.size W (W.ext X) := (Below.refl _ _).ext (Nat.le_refl _) X
  refine ⟨_, rfl, ds, [], p ++ [], [], p, [], hW', ?_, ?_, ?_, hb.frame _, fun h => by cases h⟩
  · rw [List.append_nil, e1, hres]
    exact trodAll_mk1 (shut_bool Try.underlying4 true)
  · rw [List.append_nil, e2]
    exact trodAll_below hb _ _ _ _ hread hA' hlt
  · rw [List.append_nil, e3, hvars]
    rfl
end Go.Proofs.Ythcjfanigfgckaa
end
section
/- Blocks that hold cells, and what has changed since: for worlds that grow or are written to. No condition. -/
namespace Go.Proofs.Ythcjfanigfgckaa
set_option linter.unusedVariables false
set_option linter.unusedSimpArgs false
open Go.RowKit
theorem bool_t {p : Prop} [Decidable p] (h : p) : Value.bool true = .bool (decide p) := by simp [h]
theorem bool_f {p : Prop} [Decidable p] (h : ¬ p) : Value.bool false = .bool (decide p) := by simp [h]
theorem bool_d {p q : Prop} [Decidable p] [Decidable q] (h : q ↔ p) : Value.bool (decide q) = .bool (decide p) := by simp [h]
theorem bool_b {b : Bool} {p : Prop} [Decidable p] (h : b = true ↔ p) : Value.bool b = .bool (decide p) := by
  cases b
  · exact bool_f fun hp => by cases h.2 hp
  · exact bool_t (h.1 rfl)
/-- A block that holds these cells. -/
def Row (w : World) (p : Nat) (c : Array Value) (T : TypeId) : Prop := w.heap[p]? = some (.cells c T (0, 0))
section
variable {w : World} {p q : Nat} {c d : Array Value} {T U : TypeId}
theorem Row.lt (h : Row w p c T) : p < w.heap.size := (Array.getElem?_eq_some_iff.1 h).1
theorem Row.cell (h : Row w p c T) (k : Nat) : w.cell? ⟨p, k, none⟩ = c[k]? := by
  unfold Row at h; simp [World.cell?, h]
theorem Row.frozen (h : Row w p c T) (k : Nat) : w.frozen? ⟨p, k, none⟩ = false := by
  unfold Row at h; simp [World.frozen?, h]
theorem Row.ext (h : Row w p c T) (X : Xt) : Row (w.ext X) p c T := by
  unfold Row; rw [World.heap_ext h.lt]; exact h
theorem Row.set (h : Row w p c T) (k : Nat) (v : Value) : Row (w.setCell ⟨p, k, none⟩ v) p (c.setIfInBounds k v) T := by
  rw [setCell_eq_setRow w p k c T (0, 0) v h]; exact setRow_heap w p c _ T (0, 0) h
theorem Row.other (h : Row w q d U) (hne : q ≠ p) (k : Nat) (v : Value) : Row (w.setCell ⟨p, k, none⟩ v) q d U := by
  unfold Row at h ⊢; simp [World.setCell, Array.getElem?_modify, Ne.symm hne, h]
theorem World.ext_of {w' : World} (h : RowKit.Below w.heap.size w w') : ∃ X, w' = w.ext X := h.toExt
theorem World.setCell_new {w0 w : World} {k : Nat} {v : Value} (hw : ∃ X, w = w0.ext X) (hp : w0.heap.size ≤ p) : ∃ X, w.setCell ⟨p, k, none⟩ v = w0.ext X := by
  obtain ⟨X, rfl⟩ := hw
  refine RowKit.Below.toExt ⟨rfl, rfl, rfl, by simp [World.setCell, World.ext], fun j hj => ?_⟩
  have hne : ¬ p = j := by omega
  simp only [World.setCell, Array.getElem?_modify, if_neg hne]
  exact World.heap_ext hj
theorem Row.swap {o o' : Obj} {X : Xt} (h : Row ((w.alloc o).ext X) p c T) (hp : w.heap.size < p) : Row ((w.alloc o').ext X) p c T := by
  unfold Row at h ⊢
  simp only [World.ext, World.alloc, Array.getElem?_append, Array.size_push] at h ⊢
  rw [if_neg (by omega)] at h ⊢
  exact h
end
theorem World.hp_alloc {w : World} {o : Obj} : (w.alloc o).heap = w.heap.push o := rfl
theorem World.hp_drew {w : World} : w.drew.heap = w.heap := rfl
theorem Row.alloc {w : World} {p : Nat} {c : Array Value} {T : TypeId} (h : Row w p c T) (o : Obj) : Row (w.alloc o) p c T := by
  unfold Row; rw [World.hp_alloc, Array.getElem?_push, if_neg (by have := h.lt; omega)]; exact h
theorem row_drew {w : World} {p : Nat} {c : Array Value} {T : TypeId} (h : Row w p c T) : Row w.drew p c T := h
theorem row_last {w : World} {c : Array Value} {T : TypeId} {n : Nat} (h : w.heap.size = n) : Row (w.alloc (.cells c T)) n c T := by
  subst h; unfold Row; rw [World.hp_alloc, Array.getElem?_push, if_pos rfl]
/-- What was there stays, but for the blocks of p. -/
structure Chg (p : Nat → Prop) (w w' : World) : Prop where
  os : w'.os = w.os
  tape : w'.tape = w.tape
  output : w'.output = w.output
  size : w.heap.size ≤ w'.heap.size
  block : ∀ k, k < w.heap.size → ¬ p k → w'.heap[k]? = w.heap[k]?
section
variable {p q : Nat → Prop} {w w1 w2 : World}
theorem Chg.refl : Chg p w w := ⟨rfl, rfl, rfl, Nat.le_refl _, fun _ _ _ => rfl⟩
theorem Chg.trans (h : Chg p w w1) (k : Chg p w1 w2) : Chg p w w2 :=
  ⟨k.os.trans h.os, k.tape.trans h.tape, k.output.trans h.output, Nat.le_trans h.size k.size, fun j hj hp => (k.block j (Nat.lt_of_lt_of_le hj h.size) hp).trans (h.block j hj hp)⟩
theorem Chg.mono (h : Chg p w w1) (hp : ∀ k, k < w.heap.size → p k → q k) : Chg q w w1 := ⟨h.os, h.tape, h.output, h.size, fun k hk hq => h.block k hk fun hk' => hq (hp k hk hk')⟩
theorem Chg.ext (h : Chg p w w1) (X : Xt) : Chg p w (w1.ext X) := h.trans ⟨rfl, rfl, rfl, by simp, fun k hk _ => World.heap_ext hk⟩
theorem Chg.alloc (h : Chg p w w1) (o : Obj) : Chg p w (w1.alloc o) := h.trans ⟨rfl, rfl, rfl, by rw [World.hp_alloc, Array.size_push]; omega, fun k hk _ => Below.heap_alloc _ _ _ hk⟩
theorem Chg.drew (h : Chg p w w1) : Chg p w w1.drew := ⟨h.os, h.tape, h.output, h.size, h.block⟩
theorem Chg.setCell (h : Chg p w w1) {b k : Nat} (hb : b < w.heap.size → p b) (v : Value) : Chg p w (w1.setCell ⟨b, k, none⟩ v) :=
  ⟨h.os, h.tape, h.output, by rw [show (w1.setCell ⟨b, k, none⟩ v).heap.size = w1.heap.size by simp [World.setCell]]; exact h.size, fun j hj hp => by
    rw [Below.heap_setCell _ _ _ _ (fun e => hp (by have e' : j = b := e; subst e'; exact hb hj))]; exact h.block j hj hp⟩
theorem Chg.one (w : World) (b k : Nat) (v : Value) : Chg (fun j => j = b) w (w.setCell ⟨b, k, none⟩ v) := Chg.setCell (p := fun j => j = b) Chg.refl (fun _ => rfl) v
theorem Chg.of_ext (X : Xt) : Chg p w (w.ext X) := Chg.refl.ext X
theorem Chg.below {B : Nat} (h : Chg p w w1) (hp : ∀ k, k < B → ¬ p k) (hB : B ≤ w.heap.size) : Below B w w1 := ⟨h.os, h.tape, h.output, h.size, fun k hk => h.block k (by omega) (hp k hk)⟩
theorem Chg.row (h : Chg p w w1) {b : Nat} {c : Array Value} {T : TypeId} (hr : Row w b c T) (hb : ¬ p b) : Row w1 b c T := by
  unfold Row; rw [h.block b hr.lt hb]; exact hr
theorem Chg.cell (h : Chg p w w1) {b o : Nat} (hb : b < w.heap.size) (hp : ¬ p b) : w1.cell? ⟨b, o, none⟩ = w.cell? ⟨b, o, none⟩ := by
  unfold World.cell?; simp only [h.block b hb hp]
theorem Chg.frozen (h : Chg p w w1) {b o : Nat} (hb : b < w.heap.size) (hp : ¬ p b) : w1.frozen? ⟨b, o, none⟩ = w.frozen? ⟨b, o, none⟩ := by
  unfold World.frozen?; simp only [h.block b hb hp]
end
theorem wp_abs {code : Code} {Q : Exit → Act → World → Prop} {a : Act} {w : World} (F : World → Prop) (hF : F w) (h : ∀ wx, F wx → code.wp Try.prog Q a wx) : code.wp Try.prog Q a w := h _ hF
end Go.Proofs.Ythcjfanigfgckaa
end
section
/- Blocks of many cells: a walk's world in one form, each new block with what it holds now; whole blocks are loaded and stored in one step. No condition. -/
set_option linter.unusedVariables false
namespace Go
section
variable {w : World} {X : Xt}
/-- What a block holds. -/
def World.row? (w : World) (n : Nat) : Option (Array Value) := match w.heap[n]? with
  | some (.cells c _ f) => if f = (0, 0) then some c else none
  | _ => none
theorem World.row_eq {n : Nat} {c : Array Value} (h : w.row? n = some c) : ∃ T, w.heap[n]? = some (.cells c T (0, 0)) := by
  unfold World.row? at h
  split at h
  next o c' T f hc =>
    by_cases hf : f = (0, 0)
    · subst hf
      simp at h
      subst h
      exact ⟨T, hc⟩
    · simp [hf] at h
  next => cases h
/-- Its cells; none where it is no such block. -/
def World.rowD (w : World) (n : Nat) : Array Value := (w.row? n).getD #[]
theorem World.rowD_of {n : Nat} {c : Array Value} {T : TypeId} (h : w.heap[n]? = some (.cells c T (0, 0))) : w.rowD n = c := by
  unfold World.rowD World.row?; rw [h]; simp
theorem World.rowD_eq {n k : Nat} (h : (w.rowD n).size = k) (hk : 0 < k) : ∃ T, w.heap[n]? = some (.cells (w.rowD n) T (0, 0)) := by
  unfold World.rowD at *
  cases hr : w.row? n with
  | none => rw [hr] at h; simp at h; omega
  | some c => exact World.row_eq hr
theorem World.rowD_congr {w' : World} {n : Nat} (h : w'.heap[n]? = w.heap[n]?) : w'.rowD n = w.rowD n := by unfold World.rowD World.row?; rw [h]
@[go_sem] theorem World.rowD_last {n : Nat} {c : Array Value} {T : TypeId} (h : n = w.heap.size) : (w.alloc (.cells c T)).rowD n = c := by
  subst h; exact World.rowD_of (T := T) (by show (w.heap.push _)[w.heap.size]? = _; simp)
@[go_sem] theorem World.rowD_alloc {n : Nat} {o : Obj} (h : n < w.heap.size) : (w.alloc o).rowD n = w.rowD n :=
  World.rowD_congr (by show (w.heap.push _)[n]? = _; rw [Array.getElem?_push, if_neg (by omega)])
@[go_sem] theorem World.rowD_ext {n : Nat} (h : n < w.heap.size) : (w.ext X).rowD n = w.rowD n := World.rowD_congr (World.heap_ext h)
@[go_sem] theorem World.rowD_drew {n : Nat} : w.drew.rowD n = w.rowD n := rfl
@[go_sem] theorem World.setRow_last {n : Nat} {c c' : Array Value} {T : TypeId} (h : n = w.heap.size) : (w.alloc (.cells c T)).setRow n c' = w.alloc (.cells c' T) := by
  subst h
  simp only [World.setRow, World.alloc]
  congr 1
  apply Array.ext_getElem?
  intro i
  rw [Array.getElem?_modify]
  by_cases h : w.heap.size = i
  · subst h; simp
  · have h' : ¬ i = w.heap.size := fun e => h e.symm
    simp [h, h', Array.getElem?_push]
@[go_sem] theorem World.setRow_alloc {n : Nat} {c : Array Value} {o : Obj} (h : n < w.heap.size) : (w.alloc o).setRow n c = (w.setRow n c).alloc o := by
  simp only [World.setRow, World.alloc]
  congr 1
  apply Array.ext_getElem?
  intro i
  simp only [Array.getElem?_modify, Array.getElem?_push, Array.size_modify]
  by_cases h' : n = i
  · subst h'; simp [show ¬ n = w.heap.size by omega]
  · simp [h']
@[go_sem] theorem World.setRow_ext {n : Nat} {c : Array Value} (h : n < w.heap.size) : (w.ext X).setRow n c = (w.setRow n c).ext X := by
  simp only [World.setRow, World.ext]
  congr 1
  apply Array.ext_getElem?
  intro i
  simp only [Array.getElem?_modify, Array.getElem?_append, Array.size_modify]
  by_cases h' : n = i
  · subst h'; simp [h]
  · simp [h']
@[go_sem] theorem World.setRow_drew {n : Nat} {c : Array Value} : w.drew.setRow n c = (w.setRow n c).drew := rfl
@[go_sem] theorem World.setRow_size' {n : Nat} {c : Array Value} : (w.setRow n c).heap.size = w.heap.size := by simp [World.setRow]
@[go_sem] theorem World.setCell_last {n i : Nat} {c : Array Value} {v : Value} {T : TypeId} (h : n = w.heap.size) : (w.alloc (.cells c T)).setCell ⟨n, i, none⟩ v = w.alloc (.cells (c.setIfInBounds i v) T) := by
  subst h
  simp only [World.setCell, World.alloc]
  congr 1
  apply Array.ext_getElem?
  intro k
  rw [Array.getElem?_modify]
  by_cases h : w.heap.size = k
  · subst h; simp
  · have h' : ¬ k = w.heap.size := fun e => h e.symm
    simp [h, h', Array.getElem?_push]
@[go_sem] theorem World.setCell_alloc {n i : Nat} {v : Value} {o : Obj} (h : n < w.heap.size) : (w.alloc o).setCell ⟨n, i, none⟩ v = (w.setCell ⟨n, i, none⟩ v).alloc o := by
  simp only [World.setCell, World.alloc]
  congr 1
  apply Array.ext_getElem?
  intro k
  simp only [Array.getElem?_modify, Array.getElem?_push, Array.size_modify]
  by_cases h' : n = k
  · subst h'; simp [show ¬ n = w.heap.size by omega]
  · simp [h']
end
/-- Ten cells or more into a block that holds so many: one step. -/
theorem run_storeCells_big {P : Program} {w : World} {n : Nat} {vs : List Value} (hk : 10 ≤ vs.length) (hs : (w.rowD n).size = vs.length) (h1 : vs.all (·.oneCell') = true) :
    (storeCells ⟨n, 0, none⟩ vs 0).run P w = .ok () (w.setRow n vs.toArray) := by
  obtain ⟨T, hc⟩ := World.rowD_eq hs (by omega)
  have := run_storeCells_from (P := P) n T vs 0 _ w hc (by omega) (fun v hv => List.all_eq_true.1 h1 v hv)
  simpa using this
theorem run_loadCells_big {P : Program} {w : World} {n k : Nat} (hk : 10 ≤ k) (hs : (w.rowD n).size = k) :
    (loadCellsFrom ⟨n, 0, none⟩ 0 k #[]).run P w = .ok (w.rowD n) w := by
  obtain ⟨T, hc⟩ := World.rowD_eq hs (by omega)
  have := run_loadCells_list (P := P) w ⟨n, 0, none⟩ (w.rowD n).toList (fun j v hv => by
    have hadd : (⟨n, 0, none⟩ : Addr).add j = ⟨n, j, none⟩ := by unfold Addr.add; split <;> simp_all
    rw [hadd, cell_of_row _ _ j _ T (0, 0) hc]
    simpa using hv)
  rw [← hs]
  simpa [loadCells] using this
/-- The loading of cells, whole while its address is not known. -/
def ldC (a : Addr) (n : Nat) : Sem (Array Value) := loadCellsFrom a 0 n #[]
@[go_sem ↓] theorem ldC_pre (a : Addr) (n : Nat) : loadCellsFrom a 0 n #[] = ldC a n := rfl
def ldU (a : Addr) (i : Nat) : Nat → Array Value → Sem (Array Value)
  | 0, acc => pure acc
  | n + 1, acc => do
    let v ← load (a.add i)
    ldU a (i + 1) n (acc.push v)
theorem ldU_eq (a : Addr) : ∀ (n i : Nat) (acc : Array Value), loadCellsFrom a i n acc = ldU a i n acc
  | 0, _, _ => rfl
  | n + 1, i, acc => by simp only [loadCellsFrom, ldU]; congr 1; funext v; exact ldU_eq a n (i + 1) _
attribute [go_sem] ldU
@[go_sem] theorem run_ldC_big {P : Program} {w : World} {n k : Nat} (hk : 10 ≤ k) (hs : (w.rowD n).size = k) : (ldC ⟨n, 0, none⟩ k).run P w = .ok (w.rowD n) w := run_loadCells_big hk hs
@[go_sem] theorem run_ldC_part {P : Program} {w : World} {n i k : Nat} (hk : 10 ≤ k) (hs : ¬ (w.rowD n).size = k) : (ldC ⟨n, i, none⟩ k).run P w = (ldU ⟨n, i, none⟩ 0 k #[]).run P w := by unfold ldC; rw [ldU_eq]
@[go_sem] theorem run_ldC_small {P : Program} {w : World} {a : Addr} {k : Nat} (h : k < 10) : (ldC a k).run P w = (ldU a 0 k #[]).run P w := by unfold ldC; rw [ldU_eq]
/-- The storing of cells, whole while its address is not known. -/
def stC (a : Addr) (vs : List Value) : Sem Unit := storeCells a vs 0
@[go_sem ↓] theorem stC_pre (a : Addr) (vs : List Value) : storeCells a vs 0 = stC a vs := rfl
/-- One cell after the other. -/
def stU (a : Addr) : List Value → Nat → Sem Unit
  | [], _ => pure ()
  | v :: r, i => do store (a.add i) v; stU a r (i + 1)
theorem stU_eq (a : Addr) : ∀ (vs : List Value) (i : Nat), storeCells a vs i = stU a vs i
  | [], _ => rfl
  | v :: r, i => by simp only [storeCells, stU, stU_eq a r (i + 1)]
@[go_sem] theorem stU_nil (a : Addr) (i : Nat) : stU a [] i = pure () := rfl
@[go_sem] theorem stU_cons (a : Addr) (v : Value) (r : List Value) (i : Nat) : stU a (v :: r) i = (do store (a.add i) v; stU a r (i + 1)) := rfl
def allOne (vs : List Value) : Prop := vs.all (·.oneCell') = true
section
variable {r : List Value}
@[go_sem] theorem allOne_nil : allOne [] = True := by simp [allOne]
@[go_sem] theorem allOne_int (k : IntKind) (n : Int) : allOne (.int k n :: r) = allOne r := by simp [allOne, Value.oneCell']
@[go_sem] theorem allOne_bool (b : Bool) : allOne (.bool b :: r) = allOne r := by simp [allOne, Value.oneCell']
@[go_sem] theorem allOne_ptr (p : Option Addr) : allOne (.pointer p :: r) = allOne r := by simp [allOne, Value.oneCell']
@[go_sem] theorem allOne_slice (p : Option Addr) (l c : Nat) : allOne (.slice p l c :: r) = allOne r := by simp [allOne, Value.oneCell']
end
@[go_sem] theorem run_stC_big {P : Program} {w : World} {n : Nat} {vs : List Value} (hk : 10 ≤ vs.length) (hs : (w.rowD n).size = vs.length) (h1 : allOne vs) :
    (stC ⟨n, 0, none⟩ vs).run P w = .ok () (w.setRow n vs.toArray) := run_storeCells_big hk hs h1
@[go_sem] theorem run_stC_part {P : Program} {w : World} {n i : Nat} {vs : List Value} (hk : 10 ≤ vs.length) (hs : ¬ (w.rowD n).size = vs.length) :
    (stC ⟨n, i, none⟩ vs).run P w = (stU ⟨n, i, none⟩ vs 0).run P w := by unfold stC; rw [stU_eq]
@[go_sem] theorem run_stC_small {P : Program} {w : World} {a : Addr} {vs : List Value} (h : vs.length < 10) : (stC a vs).run P w = (stU a vs 0).run P w := by unfold stC; rw [stU_eq]
def TypeDesc.agg? (d : Option TypeDesc) : Bool := match d with
  | some (.struct _) => true
  | some (.array _ _) => true
  | _ => false
/-- A result that is a block of many cells. -/
theorem results_big {P : Program} {fn : Func} {p : Tmp} {ty : TypeId} {tmps : Array Value} {w : World} {n k : Nat} {cs : Array Value} (h : fn.results = #[.cell p ty]) (hp : tmps.getD p undef = .pointer (some ⟨n, 0, none⟩))
    (hr : w.rowD n = cs) (hs : cs.size = k) (hk : 0 < k) (hd : TypeDesc.agg? (P.underlying ty) = true) (hi : (P.info? ty).map (·.size) = some k) : (results fn tmps).run P w = .ok (.agg cs) w := by
  subst hr
  obtain ⟨T, hg⟩ := World.rowD_eq hs hk
  cases hu : P.underlying ty with
  | none => rw [hu] at hd; cases hd
  | some d =>
    rw [hu] at hd
    exact results_cell_row h tmps w n T _ (0, 0) d hp hg hu (by cases d <;> first | rfl | cases hd) (by rw [hi, hs])
end Go
namespace Go.Proofs.Ythcjfanigfgckaa
open Go.RowKit
theorem Row.rowD {w : World} {p : Nat} {c : Array Value} {T : TypeId} (h : Row w p c T) : w.rowD p = c := World.rowD_of h
end Go.Proofs.Ythcjfanigfgckaa
end
section
/- Plain laws of a division by halves (math/bits.Div64), over the integers. No program. -/
namespace Go.Proofs.Ythcjfanigfgckaa
set_option linter.unusedVariables false
set_option linter.unusedSimpArgs false
/-- What the guess of a digit keeps. -/
structure Guess (U Y1 Y0 N1 q r : Int) : Prop where
  eq : r = U - q * Y1
  le : (U * 4294967296 + N1) / (Y1 * 4294967296 + Y0) ≤ q
  r0 : 0 ≤ r
  r1 : r < 4294967296
  q1 : q ≤ 4294967297
structure Digit (U Y1 Y0 N1 : Int) : Prop where
  a0 : 2147483648 ≤ Y1
  a1 : Y1 < 4294967296
  b0 : 0 ≤ Y0
  b1 : Y0 < 4294967296
  u0 : 0 ≤ U
  u1 : U < Y1 * 4294967296 + Y0
  n0 : 0 ≤ N1
  n1 : N1 < 4294967296
section
variable {U Y1 Y0 N1 q r : Int}
theorem Digit.quot (h : Digit U Y1 Y0 N1) : 0 ≤ (U * 4294967296 + N1) / (Y1 * 4294967296 + Y0) ∧ (U * 4294967296 + N1) / (Y1 * 4294967296 + Y0) < 4294967296 := by
  obtain ⟨a0, a1, b0, b1, u0, u1, n0, n1⟩ := h
  refine ⟨Int.ediv_nonneg (by omega) (by omega), Int.ediv_lt_of_lt_mul (by omega) ?_⟩
  omega
theorem le_ediv {a b c : Int} (hc : 0 < c) (h : a * c ≤ b) : a ≤ b / c := (Int.le_ediv_iff_mul_le hc).2 h
theorem mul_ge {a b c : Int} (h : a ≤ b) (hc : 0 ≤ c) : a * c ≤ b * c := Int.mul_le_mul_of_nonneg_right h hc
theorem Digit.start (h : Digit U Y1 Y0 N1) : Guess U Y1 Y0 N1 (U / Y1) (U - U / Y1 * Y1) := by
  have hq := h.quot
  obtain ⟨a0, a1, b0, b1, u0, u1, n0, n1⟩ := h
  have e := Int.emod_add_mul_ediv U Y1
  have m0 := Int.emod_nonneg U (show Y1 ≠ 0 by omega)
  have m1 := Int.emod_lt_of_pos U (show 0 < Y1 by omega)
  have c : U / Y1 * Y1 = Y1 * (U / Y1) := Int.mul_comm _ _
  refine ⟨rfl, ?_, by omega, by omega, ?_⟩
  · refine le_ediv (by omega) ?_
    have l := Int.ediv_mul_le (U * 4294967296 + N1) (show Y1 * 4294967296 + Y0 ≠ 0 by omega)
    generalize (U * 4294967296 + N1) / (Y1 * 4294967296 + Y0) = Q at *
    have p : 0 ≤ Q * Y0 := Int.mul_nonneg hq.1 b0
    have e2 : Q * (Y1 * 4294967296 + Y0) = Q * Y1 * 4294967296 + Q * Y0 := by grind
    omega
  · have : U / Y1 < 4294967298 := by
      refine Int.ediv_lt_of_lt_mul (by omega) ?_
      omega
    omega
theorem Guess.q0 (g : Guess U Y1 Y0 N1 q r) (h : Digit U Y1 Y0 N1) : 0 ≤ q := by have := h.quot; have := g.le; omega
theorem Guess.small (g : Guess U Y1 Y0 N1 q r) (h : Digit U Y1 Y0 N1) : 0 ≤ q * Y0 ∧ q * Y0 < 18446744073709551616 ∧ 0 ≤ q * Y1 ∧ q * Y1 ≤ U := by
  have q0 := g.q0 h
  obtain ⟨gr, -, r0, r1, q1⟩ := g
  obtain ⟨a0, a1, b0, b1, u0, u1, n0, n1⟩ := h
  have x1 := Int.mul_nonneg q0 b0
  have x2 := Int.mul_nonneg q0 (show 0 ≤ Y1 by omega)
  have x3 : q * Y0 ≤ 4294967297 * 4294967295 := Int.mul_le_mul q1 (by omega) b0 (by omega)
  omega
theorem Guess.high (g : Guess U Y1 Y0 N1 q r) (h : Digit U Y1 Y0 N1) (t : 4294967296 ≤ q ∨ 4294967296 * r + N1 < q * Y0) : (U * 4294967296 + N1) / (Y1 * 4294967296 + Y0) ≤ q - 1 := by
  have hq := h.quot
  have q0 := g.q0 h
  rcases t with t | t
  · omega
  · obtain ⟨gr, -, r0, r1, q1⟩ := g
    obtain ⟨a0, a1, b0, b1, u0, u1, n0, n1⟩ := h
    have : (U * 4294967296 + N1) / (Y1 * 4294967296 + Y0) < q := by
      refine Int.ediv_lt_of_lt_mul (by omega) ?_
      have e2 : q * (Y1 * 4294967296 + Y0) = q * Y1 * 4294967296 + q * Y0 := by grind
      omega
    omega
theorem Guess.low (g : Guess U Y1 Y0 N1 q r) (h : Digit U Y1 Y0 N1) (t : q * Y0 ≤ 4294967296 * r + N1) : q = (U * 4294967296 + N1) / (Y1 * 4294967296 + Y0) := by
  have hle := g.le
  have q0 := g.q0 h
  obtain ⟨gr, -, r0, r1, q1⟩ := g
  obtain ⟨a0, a1, b0, b1, u0, u1, n0, n1⟩ := h
  have : q ≤ (U * 4294967296 + N1) / (Y1 * 4294967296 + Y0) := by
    refine le_ediv (by omega) ?_
    have e2 : q * (Y1 * 4294967296 + Y0) = q * Y1 * 4294967296 + q * Y0 := by grind
    omega
  omega
theorem Guess.next (g : Guess U Y1 Y0 N1 q r) (h : Digit U Y1 Y0 N1) (t : 4294967296 ≤ q ∨ 4294967296 * r + N1 < q * Y0) (hr : r + Y1 < 4294967296) : Guess U Y1 Y0 N1 (q - 1) (r + Y1) := by
  have := g.high h t
  obtain ⟨gr, -, r0, r1, q1⟩ := g
  have := h.a0
  refine ⟨?_, by assumption, by omega, hr, by omega⟩
  have : (q - 1) * Y1 = q * Y1 - Y1 := by grind
  omega
theorem Guess.stop (g : Guess U Y1 Y0 N1 q r) (h : Digit U Y1 Y0 N1) (t : 4294967296 ≤ q ∨ 4294967296 * r + N1 < q * Y0) (hr : 4294967296 ≤ r + Y1) : q - 1 = (U * 4294967296 + N1) / (Y1 * 4294967296 + Y0) := by
  have hh := g.high h t
  have hq := h.quot
  obtain ⟨gr, -, r0, r1, q1⟩ := g
  obtain ⟨a0, a1, b0, b1, u0, u1, n0, n1⟩ := h
  have : q - 1 ≤ (U * 4294967296 + N1) / (Y1 * 4294967296 + Y0) := by
    refine le_ediv (by omega) ?_
    have e2 : (q - 1) * (Y1 * 4294967296 + Y0) = q * Y1 * 4294967296 - Y1 * 4294967296 + (q - 1) * Y0 := by grind
    have x3 : (q - 1) * Y0 ≤ 4294967296 * 4294967295 := Int.mul_le_mul (by omega) (by omega) b0 (by omega)
    omega
  omega
end
/-- Two digits make the quotient. -/
theorem two_digits {U Y N1 N0 : Int} (hY : 0 < Y) (hN0 : 0 ≤ N0) (hN1 : 0 ≤ N1) (hU : 0 ≤ U) : (U * 18446744073709551616 + (N1 * 4294967296 + N0)) / Y = (U * 4294967296 + N1) / Y * 4294967296 + ((U * 4294967296 + N1) % Y * 4294967296 + N0) / Y ∧
    (U * 18446744073709551616 + (N1 * 4294967296 + N0)) % Y = ((U * 4294967296 + N1) % Y * 4294967296 + N0) % Y := by
  have e := Int.emod_add_mul_ediv (U * 4294967296 + N1) Y
  generalize (U * 4294967296 + N1) / Y = q1 at *
  generalize (U * 4294967296 + N1) % Y = r1 at *
  have e2 : U * 18446744073709551616 + (N1 * 4294967296 + N0) = r1 * 4294967296 + N0 + Y * (q1 * 4294967296) := by grind
  rw [e2, Int.add_mul_ediv_left _ _ (by omega), Int.add_mul_emod_self_left]
  omega
/-- A division whose both sides are shifted. -/
theorem div_shift {V y t : Int} (ht : 0 < t) : V * t / (y * t) = V / y ∧ V * t % (y * t) / t = V % y := by
  refine ⟨Int.mul_ediv_mul_of_pos_left _ _ ht, ?_⟩
  rw [Int.mul_comm V t, Int.mul_comm y t, Int.mul_emod_mul_of_pos _ _ ht]
  exact Int.mul_ediv_cancel_left _ (by omega)
end Go.Proofs.Ythcjfanigfgckaa
end
