/- The base of my proofs: a world that has grown (blocks behind the old ones, draws), its laws for the walk, and the words that my contracts are said in. No condition. -/
import Derived.Test.YtmlhbbkgfffmcaaRows
import Derived.WalkKit
import Derived.WalkSpells
import Derived.WalkLawsBesides
import Derived.Deep.QuietTactic
import Derived.BigQuiet
import Derived.ProofKit
import Derived.IntWalk
import Derived.Deep.RegionHeld3
import Derived.BigRegion
import Derived.Lib.Hide
namespace Go
/-- What has come: blocks, and how many draws there have been in all. -/
structure Xt where
  objs : Array Obj
  drawn : Nat
instance : Inhabited Xt := ⟨⟨#[], 0⟩⟩
def World.ext (w : World) (X : Xt) : World := { w with heap := w.heap ++ X.objs, drawn := X.drawn }
section
variable {w : World} {X : Xt}
def Xt.sz (X : Xt) : Nat := X.objs.size
def Xt.gap (X : Xt) (n m : Nat) : Prop := m ≤ n ∧ n < m + X.sz
def Xt.gapl (X : Xt) (n m : Nat) : Prop := m ≤ n ∧ n ≤ m + X.sz
@[go_sem] theorem Xt.lt_sz (n m : Nat) : (n < m + X.sz) = (n < m ∨ X.gap n m) := by
  apply propext; unfold Xt.gap; omega
@[go_sem] theorem Xt.le_sz (n m : Nat) : (n ≤ m + X.sz) = (n ≤ m ∨ X.gapl n m) := by
  apply propext; unfold Xt.gapl; omega
@[go_sem] theorem Xt.lt_one (n m : Nat) : (n < m + 1) = (n ≤ m) := by
  apply propext; omega
@[go_sem] theorem Xt.le_one (n m : Nat) : (n ≤ m + 1) = (n ≤ m ∨ n = m + 1) := by
  apply propext; omega
@[go_sem, simp] theorem Xt.gapl_self (m : Nat) : X.gapl (m + X.sz) m := by unfold Xt.gapl; omega
@[go_sem, simp] theorem World.size_ext : (w.ext X).heap.size = w.heap.size + X.sz := by simp [World.ext, Xt.sz]
theorem World.heap_ext {k : Nat} (h : k < w.heap.size) : (w.ext X).heap[k]? = w.heap[k]? := by
  simp only [World.ext]; rw [Array.getElem?_append_left h]
@[go_sem] theorem World.cell?_ext {n i : Nat} (h : n < w.heap.size) : (w.ext X).cell? ⟨n, i, none⟩ = w.cell? ⟨n, i, none⟩ := by
  unfold World.cell?; rw [World.heap_ext h]
theorem World.cell?_ext' {a : Addr} (h : a.block < w.heap.size) : (w.ext X).cell? a = w.cell? a := by
  unfold World.cell?; rw [World.heap_ext h]
@[go_sem] theorem World.frozen?_ext {n i : Nat} (h : n < w.heap.size) : (w.ext X).frozen? ⟨n, i, none⟩ = w.frozen? ⟨n, i, none⟩ := by
  unfold World.frozen?; rw [World.heap_ext h]
theorem World.frozen?_ext' {a : Addr} (h : a.block < w.heap.size) : (w.ext X).frozen? a = w.frozen? a := by
  unfold World.frozen?; rw [World.heap_ext h]
@[go_sem] theorem World.setCell_ext {n i : Nat} {v : Value} (h : n < w.heap.size) : (w.ext X).setCell ⟨n, i, none⟩ v = (w.setCell ⟨n, i, none⟩ v).ext X := by
  unfold World.setCell World.ext
  congr 1
  apply Array.ext_getElem?
  intro k
  simp only [Array.getElem?_modify, Array.getElem?_append, Array.size_modify]
  by_cases hk : n = k
  · subst hk; simp [h]
  · simp [hk]
@[go_sem] theorem World.drew_ext : (w.ext X).drew = w.ext ⟨X.objs, X.drawn + 1⟩ := rfl
theorem World.ext_ext {Y : Xt} : (w.ext X).ext Y = w.ext ⟨X.objs ++ Y.objs, Y.drawn⟩ := by
  simp [World.ext, Array.append_assoc]
@[go_sem] theorem World.ext_drew {Y : Xt} : (w.drew).ext Y = w.ext Y := rfl
end
open Go.RowKit
theorem RowKit.Below.ext {B : Nat} {a w : World} (h : Below B a w) (hB : B ≤ w.heap.size) (X : Xt) : Below B a (w.ext X) :=
  h.trans ⟨rfl, rfl, rfl, by simp, fun k hk => World.heap_ext (by omega)⟩
theorem RowKit.Below.toExt {w w' : World} (h : Below w.heap.size w w') : ∃ X, w' = w.ext X := by
  refine ⟨⟨w'.heap.extract w.heap.size w'.heap.size, w'.drawn⟩, ?_⟩
  obtain ⟨h1, h2, h3, h4, h5⟩ := h
  cases w' with
  | mk heap tape drawn os output =>
    cases w with
    | mk heap0 tape0 drawn0 os0 output0 =>
      simp only at h1 h2 h3 h4 h5
      subst h1 h2 h3
      simp only [World.ext, World.mk.injEq, and_true]
      apply Array.ext_getElem?
      intro k
      rw [Array.getElem?_append]
      split
      · rename_i hk; exact h5 k hk
      · rename_i hk
        rw [Array.getElem?_extract]
        by_cases hk2 : k < heap.size
        · rw [if_pos (by omega)]; congr 1; omega
        · rw [if_neg (by omega)]; exact Array.getElem?_eq_none (by omega)
@[go_sem] theorem ite_min (x y : Int) : (if y < x then y else x) = min x y := by split <;> omega
@[go_sem] theorem ite_max (x y : Int) : (if x < y then y else x) = max x y := by split <;> omega
/-- It returns this value; what was there stays. -/
def Ret (v : Value) (w : World) (e : Ending) (w' : World) : Prop := e = .returned v ∧ ∃ X, w' = w.ext X
theorem Ret.of {v : Value} {w w' : World} (h : Below w.heap.size w w') : Ret v w (.returned v) w' := ⟨rfl, h.toExt⟩
theorem Ret.of' {v v' : Value} {w w' : World} (hv : v' = v) (h : Below w.heap.size w w') : Ret v w (.returned v') w' := by subst hv; exact .of h
/-- A region that draws, whose operations read and whose callees make blocks of their own: one walk. -/
theorem wp_region_ext {P : Program} {id : Nat} {Q : Exit → Act → World → Prop} {a : Act} {w : World} {l : List Oper} (hm : P.follows .mixedOrders = true) (hB : Region.lexB .any l.toArray = true)
    (h : wpQuiet P l.toArray (fun w' => ∃ X, w' = w.ext X) (fun a' => ∀ w', (∃ X, w' = w.ext X) → Q .normal a' w') l a) : (Code.region id l.toArray true).wp P Q a w :=
  wp_region_quiet (C := fun w' => ∃ X, w' = w.ext X) hm hB ⟨⟨#[], w.drawn + 1⟩, by simp [World.ext]⟩ (by simpa using h)
theorem Calls.quiet_ret {P : Program} {f : FuncId} {args : Array Value} {w : World} {X : Xt} {v : Value}
    (h : Calls P f args (w.ext X) (Ret v (w.ext X))) : Calls P f args (w.ext X) fun e w'' => e = .returned v ∧ ∃ Y, w'' = w.ext Y :=
  h.mono fun _ _ ⟨he, Y, hm⟩ => ⟨he, ⟨X.objs ++ Y.objs, Y.drawn⟩, by rw [hm, World.ext_ext]⟩
end Go
namespace Go.Proofs.Ytmlhbbkgfffmcaa
set_option linter.unusedVariables false
set_option linter.unusedSimpArgs false
open Go.RowKit
/-- A color's value. -/
abbrev C4 (a b c d : Int) : Value := .agg #[.int .i64 a, .int .i64 b, .int .i64 c, .int .i64 d]
/-- A color such as is promised anything. -/
structure May (a b c d : Int) : Prop where
  a0 : 0 ≤ a
  a1 : a ≤ 255
  b0 : 0 ≤ b
  b1 : b ≤ 255
  c0 : 0 ≤ c
  c1 : c ≤ 255
  d0 : 0 ≤ d
  d1 : d ≤ 255
/-- A number of four. -/
def get4 (a b c d i : Int) : Int := if i = 0 then a else if i = 1 then b else if i = 2 then c else d
theorem get4_0 (a b c d : Int) : get4 a b c d 0 = a := rfl
theorem get4_1 (a b c d : Int) : get4 a b c d 1 = b := rfl
theorem get4_2 (a b c d : Int) : get4 a b c d 2 = c := rfl
theorem get4_3 (a b c d : Int) : get4 a b c d 3 = d := rfl
theorem cases4 {k : Int} (h0 : 0 ≤ k) (h7 : k ≤ 3) : k = 0 ∨ k = 1 ∨ k = 2 ∨ k = 3 := by omega
theorem cases8 {k : Int} (h0 : 0 ≤ k) (h7 : k ≤ 7) : k = 0 ∨ k = 1 ∨ k = 2 ∨ k = 3 ∨ k = 4 ∨ k = 5 ∨ k = 6 ∨ k = 7 := by omega
theorem at4 (a b c d : Int) {i : Int} (h0 : 0 ≤ i) (h3 : i ≤ 3) :
    (#[Value.int .i64 a, Value.int .i64 b, Value.int .i64 c, Value.int .i64 d] : Array Value)[i.toNat]? = some (.int .i64 (get4 a b c d i)) := by
  rcases cases4 h0 h3 with rfl | rfl | rfl | rfl <;> rfl
theorem at4l (a b c d : Int) {i : Int} (h0 : 0 ≤ i) (h3 : i ≤ 3) :
    [Value.int .i64 a, Value.int .i64 b, Value.int .i64 c, Value.int .i64 d][i.toNat]? = some (.int .i64 (get4 a b c d i)) := by
  rcases cases4 h0 h3 with rfl | rfl | rfl | rfl <;> rfl
theorem at4g (a b c d : Int) {i : Int} (h0 : 0 ≤ i) (h3 : i ≤ 3) : ∀ h : i.toNat < [Value.int .i64 a, Value.int .i64 b, Value.int .i64 c, Value.int .i64 d].length,
    [Value.int .i64 a, Value.int .i64 b, Value.int .i64 c, Value.int .i64 d][i.toNat]'h = .int .i64 (get4 a b c d i) := by
  rcases cases4 h0 h3 with rfl | rfl | rfl | rfl <;> intro _ <;> rfl
theorem May.get {a b c d i : Int} (h : May a b c d) (h0 : 0 ≤ i) (h3 : i ≤ 3) : 0 ≤ get4 a b c d i ∧ get4 a b c d i ≤ 255 := by
  obtain ⟨a0, a1, b0, b1, c0, c1, d0, d1⟩ := h
  rcases cases4 h0 h3 with rfl | rfl | rfl | rfl <;> simp [get4] <;> omega
theorem May.at0 {a b c d : Int} (h : May a b c d) : 0 ≤ a ∧ a ≤ 255 := ⟨h.a0, h.a1⟩
theorem May.at1 {a b c d : Int} (h : May a b c d) : 0 ≤ b ∧ b ≤ 255 := ⟨h.b0, h.b1⟩
theorem May.at2 {a b c d : Int} (h : May a b c d) : 0 ≤ c ∧ c ≤ 255 := ⟨h.c0, h.c1⟩
theorem May.at3 {a b c d : Int} (h : May a b c d) : 0 ≤ d ∧ d ≤ 255 := ⟨h.d0, h.d1⟩
@[go_sem] theorem index4_0 (a b c d : Int) (w : World) : (Instr.index 28 (C4 a b c d) (.int .i64 0)).run Try.prog w = .ok (.int .i64 a) w := by kernel_rfl
@[go_sem] theorem index4_1 (a b c d : Int) (w : World) : (Instr.index 28 (C4 a b c d) (.int .i64 1)).run Try.prog w = .ok (.int .i64 b) w := by kernel_rfl
@[go_sem] theorem index4_2 (a b c d : Int) (w : World) : (Instr.index 28 (C4 a b c d) (.int .i64 2)).run Try.prog w = .ok (.int .i64 c) w := by kernel_rfl
@[go_sem] theorem index4_3 (a b c d : Int) (w : World) : (Instr.index 28 (C4 a b c d) (.int .i64 3)).run Try.prog w = .ok (.int .i64 d) w := by kernel_rfl
theorem list_range4 : List.range 4 = [0, 1, 2, 3] := rfl
theorem cells_int : Try.prog.cellsOf 3 = 1 := by kernel_rfl
@[go_sem] theorem equalIn4 (n : Nat) (a b c d a' b' c' d' : Int) (w : World) : (Op.equalIn (n + 2) 28 (C4 a b c d) (C4 a' b' c' d')).run Try.prog w = .ok (a == a' && b == b' && c == c' && d == d') w := by
  obtain ⟨i, hi⟩ := Option.isSome_iff_exists.1 (show (Try.prog.info? 3).isSome = true by kernel_rfl)
  rw [run_equalIn_array w (n + 1) _ _ Try.underlying28 hi, list_range4]
  simp only [Op.eqItems, cells_int]
  simp [go_sem]
  by_cases h1 : a = a' <;> by_cases h2 : b = b' <;> by_cases h3 : c = c' <;> by_cases h4 : d = d' <;> simp [h1, h2, h3, h4]
end Go.Proofs.Ytmlhbbkgfffmcaa
