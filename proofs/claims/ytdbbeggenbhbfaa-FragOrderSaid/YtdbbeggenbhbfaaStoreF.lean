/- Blocks that hold ints, and a new image. Conditions: none besides the sides' bounds. -/
import Derived.Test.YtdbbeggenbhbfaaStoreE
import Derived.Deep.OwnRows
import Derived.Deep.DeepCutAuto
namespace Go.Proofs.Ytdbbeggenbhbfaa
set_option linter.unusedVariables false
set_option linter.unusedSimpArgs false
open Go.RowKit
/-- A block that holds these cells. -/
def Row (w : World) (p : Nat) (c : Array Value) (T : TypeId) : Prop := w.heap[p]? = some (.cells c T (0, 0))
section
variable {w : World} {p q : Nat} {c d : Array Value} {T U : TypeId}
theorem Row.lt (h : Row w p c T) : p < w.heap.size := (Array.getElem?_eq_some_iff.1 h).1
theorem Row.cell (h : Row w p c T) (k : Nat) : w.cell? ⟨p, k, none⟩ = c[k]? := by
  unfold Row at h; simp [World.cell?, h]
theorem Row.frozen (h : Row w p c T) (k : Nat) : w.frozen? ⟨p, k, none⟩ = false := by
  unfold Row at h; simp [World.frozen?, h]
theorem Row.ext (h : Row w p c T) (X : Xt) : Row (w.ext X) p c T := by
  unfold Row; rw [World.heap_ext h.lt]; exact h
theorem Row.set (h : Row w p c T) (k : Nat) (v : Value) : Row (w.setCell ⟨p, k, none⟩ v) p (c.setIfInBounds k v) T := by
  rw [setCell_eq_setRow w p k c T (0, 0) v h]; exact setRow_heap w p c _ T (0, 0) h
theorem Row.other (h : Row w q d U) (hne : q ≠ p) (k : Nat) (v : Value) : Row (w.setCell ⟨p, k, none⟩ v) q d U := by
  unfold Row at h ⊢; simp [World.setCell, Array.getElem?_modify, Ne.symm hne, h]
theorem World.ext_of {w' : World} (h : RowKit.Below w.heap.size w w') : ∃ X, w' = w.ext X := h.toExt
theorem World.setCell_new {w0 w : World} {k : Nat} {v : Value} (hw : ∃ X, w = w0.ext X) (hp : w0.heap.size ≤ p) : ∃ X, w.setCell ⟨p, k, none⟩ v = w0.ext X := by
  obtain ⟨X, rfl⟩ := hw
  refine RowKit.Below.toExt ⟨rfl, rfl, rfl, by simp [World.setCell, World.ext], fun j hj => ?_⟩
  have hne : ¬ p = j := by omega
  simp only [World.setCell, Array.getElem?_modify, if_neg hne]
  exact World.heap_ext hj
theorem Row.swap {o o' : Obj} {X : Xt} (h : Row ((w.alloc o).ext X) p c T) (hp : w.heap.size < p) : Row ((w.alloc o').ext X) p c T := by
  unfold Row at h ⊢
  simp only [World.ext, World.alloc, Array.getElem?_append, Array.size_push] at h ⊢
  rw [if_neg (by omega)] at h ⊢
  exact h
end
theorem World.hp_alloc {w : World} {o : Obj} : (w.alloc o).heap = w.heap.push o := rfl
theorem World.hp_drew {w : World} : w.drew.heap = w.heap := rfl
theorem Row.alloc {w : World} {p : Nat} {c : Array Value} {T : TypeId} (h : Row w p c T) (o : Obj) : Row (w.alloc o) p c T := by
  unfold Row; rw [World.hp_alloc, Array.getElem?_push, if_neg (by have := h.lt; omega)]; exact h
/-- Ints, as cells. -/
def ints (l : List Int) : Array Value := (l.map (Value.int .i64)).toArray
@[simp] theorem size_ints (l : List Int) : (ints l).size = l.length := by simp [ints]
theorem ints_at (l : List Int) (k : Nat) : (ints l)[k]? = (l[k]?).map (Value.int .i64) := by simp [ints]
theorem ints_set (l : List Int) (k : Nat) (v : Int) : (ints l).setIfInBounds k (.int .i64 v) = ints (l.set k v) := by
  simp [ints, List.map_set]
theorem made_ints (n : Nat) : madeCells #[.int .i64 0] n = ints (List.replicate n 0) := by
  apply Array.ext_getElem?
  intro k
  simp only [madeCells, ints, Array.getElem?_map, List.map_replicate, List.getElem?_toArray, List.getElem?_replicate, Array.getElem?_range]
  by_cases h : k < n <;> simp [h, Nat.mod_one]
/-- Of n numbers the first k are m, the others 0. -/
def lead (n k : Nat) (m : Int) : List Int := List.replicate k m ++ List.replicate (n - k) 0
theorem lead_len (n k : Nat) (m : Int) (h : k ≤ n) : (lead n k m).length = n := by simp [lead]; omega
theorem lead_set (n k : Nat) (m : Int) (h : k < n) : (lead n k m).set k m = lead n (k + 1) m := by
  unfold lead
  rw [List.set_append, if_neg (by simp), show n - k = (n - (k + 1)) + 1 by omega, List.replicate_succ, List.replicate_succ']
  simp
theorem info_int : (Try.prog.info? 3).map (fun i => (i.zero, i.size, i.bytes)) = some (some (.int .i64 0), 1, 8) := by kernel_rfl
/-- A new slice of ints. -/
def NSl (p n : Nat) : Value := .slice (some ⟨p, 0, none⟩) n n
/-- What the making of an image lays. -/
def Lays3 (w : World) (W H : Int) (n : Nat) (v : Value) (wx : World) : Prop :=
  ∃ pm pc pz : Nat, v = .pointer (some ⟨pm, 0, none⟩) ∧ (∃ X, wx = w.ext X) ∧ w.heap.size ≤ pm ∧ w.heap.size ≤ pc ∧ w.heap.size ≤ pz ∧ pc ≠ pz ∧ pm ≠ pz ∧
    Row wx pm #[.int .i64 W, .int .i64 H, NSl pc n, NSl pz n] 39 ∧ Row wx pc (ints (List.replicate n 0)) 3 ∧ Row wx pz (ints (List.replicate n 0)) 3
/-- A new image is returned: its slices' blocks are new, and lie apart. -/
def NewIm (W H : Int) (n : Nat) (C Z : List Int) (t : Value → Value) (w : World) (e : Ending) (w' : World) : Prop :=
  ∃ pc pz : Nat, e = .returned (t (Im W H (.slice (some ⟨pc, 0, none⟩) n n) (.slice (some ⟨pz, 0, none⟩) n n))) ∧ (∃ X, w' = w.ext X) ∧ w.heap.size ≤ pc ∧ w.heap.size ≤ pz ∧ pc ≠ pz ∧ Row w' pc (ints C) 3 ∧ Row w' pz (ints Z) 3
theorem lays3_mk {w : World} {W H : Int} {n : Nat} {wx : World} (pm pc pz : Nat) (h : RowKit.Below w.heap.size w wx) (g1 : w.heap.size ≤ pm) (g2 : w.heap.size ≤ pc) (g3 : w.heap.size ≤ pz) (g4 : pc ≠ pz) (g5 : pm ≠ pz)
    (r1 : wx.heap[pm]? = some (.cells #[.int .i64 W, .int .i64 H, NSl pc n, NSl pz n] 39 (0, 0))) (r2 : wx.heap[pc]? = some (.cells (madeCells #[.int .i64 0] n) 3 (0, 0))) (r3 : wx.heap[pz]? = some (.cells (madeCells #[.int .i64 0] n) 3 (0, 0))) :
    Lays3 w W H n (.pointer (some ⟨pm, 0, none⟩)) wx := by
  rw [made_ints] at r2 r3
  exact ⟨pm, pc, pz, rfl, h.toExt, g1, g2, g3, g4, g5, r1, r2, r3⟩
set_option maxHeartbeats 4000000 in
theorem new_ok (W H : Int) (n : Nat) (w : World) (w0 : 1 ≤ W) (w1 : W ≤ 1024) (h0 : 1 ≤ H) (h1 : H ≤ 1024) (hn : W * H = n) :
    Calls Try.prog 32 #[.int .i64 W, .int .i64 H] w (NewIm W H n (List.replicate n 0) (List.replicate n 16777215) (fun m => .tuple #[m, .int .i64 0]) w) := by
  obtain ⟨a0, a1⟩ := area_01 w0 w1 h0 h1
  have n0 : 1 ≤ n := by omega
  have n1 : n ≤ 1048576 := by omega
  have hmk := run_make_row' (P := Try.prog) 37 3 (.int .i64 0) 8 Try.underlying37 info_int rfl .i64 .i64 n (by omega) (by omega)
  go_enter Try.func32, Try.ntmps32
  go_upto_region 3 with fail
  go_cut [6] (fun v wx => Lays3 (w.alloc (.cells #[.int .i64 0, .int .i64 0, .slice none 0 0, .slice none 0 0] 39)) W H n v wx)
  case first =>
    go_region
    all_goals (go_wp2_with fail; go_meet)
    all_goals (first
      | ((with_reducible refine lays3_mk (w.heap.size + 1) (w.heap.size + 1 + 1) (w.heap.size + 1 + 1 + 1) ?_ ?_ ?_ ?_ ?_ ?_ ?_ ?_ ?_); all_goals first | (simp; done) | omega | (simp only [World.hp_alloc, World.hp_drew, Array.getElem?_push, Array.size_push, NSl]; simp; done) | ((repeat (first | exact Below.refl _ _ | with_reducible refine Below.drew ?_ | with_reducible refine Below.ext ?_ (by first | exact Nat.le_refl _ | (simp; done) | (simp; omega)) _ | with_reducible refine Below.alloc ?_ (by first | exact Nat.le_refl _ | (simp; done) | (simp; omega)) _ | with_reducible refine Below.setCell ?_ (by first | exact Nat.le_refl _ | (simp; done) | (simp; omega)) _)); done))
      | ((with_reducible refine lays3_mk (w.heap.size + 1) (w.heap.size + 1 + 1 + 1) (w.heap.size + 1 + 1) ?_ ?_ ?_ ?_ ?_ ?_ ?_ ?_ ?_); all_goals first | (simp; done) | omega | (simp only [World.hp_alloc, World.hp_drew, Array.getElem?_push, Array.size_push, NSl]; simp; done) | ((repeat (first | exact Below.refl _ _ | with_reducible refine Below.drew ?_ | with_reducible refine Below.ext ?_ (by first | exact Nat.le_refl _ | (simp; done) | (simp; omega)) _ | with_reducible refine Below.alloc ?_ (by first | exact Nat.le_refl _ | (simp; done) | (simp; omega)) _ | with_reducible refine Below.setCell ?_ (by first | exact Nat.le_refl _ | (simp; done) | (simp; omega)) _)); done))
      | ((with_reducible refine lays3_mk (w.heap.size + 1 + 1) (w.heap.size + 1) (w.heap.size + 1 + 1 + 1) ?_ ?_ ?_ ?_ ?_ ?_ ?_ ?_ ?_); all_goals first | (simp; done) | omega | (simp only [World.hp_alloc, World.hp_drew, Array.getElem?_push, Array.size_push, NSl]; simp; done) | ((repeat (first | exact Below.refl _ _ | with_reducible refine Below.drew ?_ | with_reducible refine Below.ext ?_ (by first | exact Nat.le_refl _ | (simp; done) | (simp; omega)) _ | with_reducible refine Below.alloc ?_ (by first | exact Nat.le_refl _ | (simp; done) | (simp; omega)) _ | with_reducible refine Below.setCell ?_ (by first | exact Nat.le_refl _ | (simp; done) | (simp; omega)) _)); done))
      | ((with_reducible refine lays3_mk (w.heap.size + 1 + 1) (w.heap.size + 1 + 1 + 1) (w.heap.size + 1) ?_ ?_ ?_ ?_ ?_ ?_ ?_ ?_ ?_); all_goals first | (simp; done) | omega | (simp only [World.hp_alloc, World.hp_drew, Array.getElem?_push, Array.size_push, NSl]; simp; done) | ((repeat (first | exact Below.refl _ _ | with_reducible refine Below.drew ?_ | with_reducible refine Below.ext ?_ (by first | exact Nat.le_refl _ | (simp; done) | (simp; omega)) _ | with_reducible refine Below.alloc ?_ (by first | exact Nat.le_refl _ | (simp; done) | (simp; omega)) _ | with_reducible refine Below.setCell ?_ (by first | exact Nat.le_refl _ | (simp; done) | (simp; omega)) _)); done))
      | ((with_reducible refine lays3_mk (w.heap.size + 1 + 1 + 1) (w.heap.size + 1) (w.heap.size + 1 + 1) ?_ ?_ ?_ ?_ ?_ ?_ ?_ ?_ ?_); all_goals first | (simp; done) | omega | (simp only [World.hp_alloc, World.hp_drew, Array.getElem?_push, Array.size_push, NSl]; simp; done) | ((repeat (first | exact Below.refl _ _ | with_reducible refine Below.drew ?_ | with_reducible refine Below.ext ?_ (by first | exact Nat.le_refl _ | (simp; done) | (simp; omega)) _ | with_reducible refine Below.alloc ?_ (by first | exact Nat.le_refl _ | (simp; done) | (simp; omega)) _ | with_reducible refine Below.setCell ?_ (by first | exact Nat.le_refl _ | (simp; done) | (simp; omega)) _)); done))
      | ((with_reducible refine lays3_mk (w.heap.size + 1 + 1 + 1) (w.heap.size + 1 + 1) (w.heap.size + 1) ?_ ?_ ?_ ?_ ?_ ?_ ?_ ?_ ?_); all_goals first | (simp; done) | omega | (simp only [World.hp_alloc, World.hp_drew, Array.getElem?_push, Array.size_push, NSl]; simp; done) | ((repeat (first | exact Below.refl _ _ | with_reducible refine Below.drew ?_ | with_reducible refine Below.ext ?_ (by first | exact Nat.le_refl _ | (simp; done) | (simp; omega)) _ | with_reducible refine Below.alloc ?_ (by first | exact Nat.le_refl _ | (simp; done) | (simp; omega)) _ | with_reducible refine Below.setCell ?_ (by first | exact Nat.le_refl _ | (simp; done) | (simp; omega)) _)); done)))
  case rest =>
    obtain ⟨pm, pc, pz, rfl, hx, g1, g2, g3, g4, g5, r1, r2, r3⟩ := hcut
    have c2 := r1.cell 2
    have c3 := r1.cell 3
    simp [NSl] at c2 c3
    go_wp2
    go_loopw [37] (fun i wr => ∃ k : Nat, k ≤ n ∧ i = .int .i64 k ∧ (∃ X, wr = (w.alloc (.cells #[.int .i64 0, .int .i64 0, .slice none 0 0, .slice none 0 0] 39)).ext X) ∧ Row wr pm #[.int .i64 W, .int .i64 H, NSl pc n, NSl pz n] 39 ∧ Row wr pc (ints (List.replicate n 0)) 3 ∧ Row wr pz (ints (lead n k 16777215)) 3)
      (fun i _ => n - (intOf i).toNat)
    case atStart => exact ⟨0, by omega, rfl, hx, r1, r2, by simpa [lead] using r3⟩
    case round =>
      obtain ⟨k, hk, rfl, hx, r1, r2, r3⟩ := hrel
      clear c2 c3
      have c2 := r1.cell 2
      have c3 := r1.cell 3
      simp [NSl] at c2 c3
      by_cases hlt : k < n
      · have d1 := r3.cell k
        have d2 := r3.frozen k
        have d3 : (ints (lead n k 16777215))[k]? = some (.int .i64 0) := by
          rw [ints_at]; unfold lead; rw [List.getElem?_append_right (by simp), List.getElem?_replicate, if_pos (by rw [List.length_replicate]; omega)]; rfl
        rw [d3] at d1
        go_wp2
        go_roundw
        case rel =>
          refine ⟨k + 1, by omega, by go_num, World.setCell_new hx (by simpa using g3), r1.other g5 _ _, r2.other g4 _ _, ?_⟩
          have := r3.set k (.int .i64 16777215)
          rwa [ints_set, lead_set n k _ hlt] at this
        case measure => simp [intOf]; omega
      · have hk' : k = n := by omega
        subst hk'
        have c0 := r1.cell 0
        have c1 := r1.cell 1
        simp [NSl] at c0 c1
        obtain ⟨X, rfl⟩ := hx
        go_wp2
        have q2 := r2.swap (o' := .cells #[.int .i64 W, .int .i64 H, .slice (some ⟨pc, 0, none⟩) k k, .slice (some ⟨pz, 0, none⟩) k k] 39) (by simp at g2; omega)
        have q3 := r3.swap (o' := .cells #[.int .i64 W, .int .i64 H, .slice (some ⟨pc, 0, none⟩) k k, .slice (some ⟨pz, 0, none⟩) k k] 39) (by simp at g3; omega)
        refine bodyPost_ret (v := .tuple #[Im W H (.slice (some ⟨pc, 0, none⟩) k k) (.slice (some ⟨pz, 0, none⟩) k k), .int .i64 0]) (by simp [results, Try.results32, go_sem]) rfl ?_
        refine ⟨pc, pz, rfl, RowKit.Below.toExt (by (repeat (first | exact Below.refl _ _ | with_reducible refine Below.drew ?_ | with_reducible refine Below.ext ?_ (by first | exact Nat.le_refl _ | (simp; done) | (simp; omega)) _ | with_reducible refine Below.alloc ?_ (by first | exact Nat.le_refl _ | (simp; done) | (simp; omega)) _ | with_reducible refine Below.setCell ?_ (by first | exact Nat.le_refl _ | (simp; done) | (simp; omega)) _))), ?_, ?_, g4, q2, ?_⟩
        · simp at g2; omega
        · simp at g3; omega
        · simpa [lead] using q3
end Go.Proofs.Ytdbbeggenbhbfaa
