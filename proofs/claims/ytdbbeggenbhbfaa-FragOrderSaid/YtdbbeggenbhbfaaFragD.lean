/- Layer 25 (frag): the document's example; small images. Conditions: the slices read as lists. -/
import Derived.Test.YtdbbeggenbhbfaaFragC
import Derived.Test.YtdbbeggenbhbfaaStoreQ
namespace Go.Proofs.Ytdbbeggenbhbfaa
set_option linter.unusedVariables false
set_option linter.unusedSimpArgs false
open Go.RowKit
def smallP (W H : Int) (C Z : List Int) : Prop := (C.length ≤ 400 ∧ Z.length ≤ 400) ∧ ImOk W H C Z
theorem small25_yes (W H : Int) (c z : Value) (C Z : List Int) (w : World) (hc : Rd w c C) (hz : Rd w z Z) (h : smallP W H C Z) : Calls Try.prog 56 #[Im W H c z] w (Ret (.bool true) w) := by
  have HC := hc
  have HZ := hz
  obtain ⟨-, -, a, cap, rfl, -, -⟩ := hc
  obtain ⟨-, -, a', cap', rfl, -, -⟩ := hz
  obtain ⟨⟨lc, lz⟩, hr⟩ := h
  go_enter Try.func56, Try.ntmps56
  go_wp2_with (first | (go_at_call 35; (with_reducible refine (rright_yes W H _ _ C Z _ ?_ ?_ hr).mono ?_); (repeat (first | assumption | with_reducible refine Rd.ext ?_ _ | with_reducible refine Rd.alloc ?_ _ | with_reducible refine Rd.drew ?_)); (repeat (first | assumption | with_reducible refine Rd.ext ?_ _ | with_reducible refine Rd.alloc ?_ _ | with_reducible refine Rd.drew ?_)); rintro _ _ ⟨rfl, X_, rfl⟩))
  go_ret
  exact Ret.of (by (repeat (first | exact Below.refl _ _ | with_reducible refine Below.drew ?_ | with_reducible refine Below.ext ?_ (by first | exact Nat.le_refl _ | (simp; done) | (simp; omega)) _ | with_reducible refine Below.alloc ?_ (by first | exact Nat.le_refl _ | (simp; done) | (simp; omega)) _ | with_reducible refine Below.setCell ?_ (by first | exact Nat.le_refl _ | (simp; done) | (simp; omega)) _)))
theorem small25_no (W H : Int) (c z : Value) (C Z : List Int) (w : World) (hc : Rd w c C) (hz : Rd w z Z) (h : ¬ smallP W H C Z) : Calls Try.prog 56 #[Im W H c z] w (Ret (.bool false) w) := by
  have HC := hc
  have HZ := hz
  obtain ⟨-, -, a, cap, rfl, -, -⟩ := hc
  obtain ⟨-, -, a', cap', rfl, -, -⟩ := hz
  by_cases lc : C.length ≤ 400
  case neg =>
    clear h
    go_enter Try.func56, Try.ntmps56
    go_wp2
    go_ret
    exact Ret.of (by (repeat (first | exact Below.refl _ _ | with_reducible refine Below.drew ?_ | with_reducible refine Below.ext ?_ (by first | exact Nat.le_refl _ | (simp; done) | (simp; omega)) _ | with_reducible refine Below.alloc ?_ (by first | exact Nat.le_refl _ | (simp; done) | (simp; omega)) _ | with_reducible refine Below.setCell ?_ (by first | exact Nat.le_refl _ | (simp; done) | (simp; omega)) _)))
  by_cases lz : Z.length ≤ 400
  case neg =>
    clear h
    go_enter Try.func56, Try.ntmps56
    go_wp2
    go_ret
    exact Ret.of' (by simp <;> omega) (by (repeat (first | exact Below.refl _ _ | with_reducible refine Below.drew ?_ | with_reducible refine Below.ext ?_ (by first | exact Nat.le_refl _ | (simp; done) | (simp; omega)) _ | with_reducible refine Below.alloc ?_ (by first | exact Nat.le_refl _ | (simp; done) | (simp; omega)) _ | with_reducible refine Below.setCell ?_ (by first | exact Nat.le_refl _ | (simp; done) | (simp; omega)) _)))
  have hr : ¬ ImOk W H C Z := fun hr => h ⟨⟨lc, lz⟩, hr⟩
  clear h
  go_enter Try.func56, Try.ntmps56
  go_wp2_with (first | (go_at_call 35; (with_reducible refine (rright_no W H _ _ C Z _ ?_ ?_ hr).mono ?_); (repeat (first | assumption | with_reducible refine Rd.ext ?_ _ | with_reducible refine Rd.alloc ?_ _ | with_reducible refine Rd.drew ?_)); (repeat (first | assumption | with_reducible refine Rd.ext ?_ _ | with_reducible refine Rd.alloc ?_ _ | with_reducible refine Rd.drew ?_)); rintro _ _ ⟨rfl, X_, rfl⟩))
  go_ret
  exact Ret.of (by (repeat (first | exact Below.refl _ _ | with_reducible refine Below.drew ?_ | with_reducible refine Below.ext ?_ (by first | exact Nat.le_refl _ | (simp; done) | (simp; omega)) _ | with_reducible refine Below.alloc ?_ (by first | exact Nat.le_refl _ | (simp; done) | (simp; omega)) _ | with_reducible refine Below.setCell ?_ (by first | exact Nat.le_refl _ | (simp; done) | (simp; omega)) _)))
abbrev o25 : OpsP := ⟨false, 0, 0, 0, 0, true, 1, true, false, 0, 0, false, false, false, false⟩
abbrev f25 : FrP := ⟨0, 0, 5, 0, 0, 0, 0, 64⟩
theorem o25_ok : o25.ok := by constructor <;> exact ⟨by decide, by decide⟩
theorem f25_ok : f25.ok := by constructor <;> exact ⟨by decide, by decide⟩
theorem im25_ok : ImOk 1 1 [0] [6] := ⟨by decide, by decide, by decide, by decide, by decide, by decide, by decide, by decide⟩
theorem arr_one {w : World} {g : Nat} {x : Int} (h : Row w g #[.int .i64 x] 3) : Arr w g 1 [x] := ⟨by simp, _, h, fun i hi => by
  obtain rfl : i = 0 := by simp at hi; omega
  rfl⟩
theorem b25a : oneB o25 f25 1 1 [6] = true := by decide
theorem c25 : oneC o25 f25 1 1 [0] [6] = [0] := by decide
theorem z25 : oneZ o25 f25 1 1 [6] = [5] := by decide
theorem b25b : oneB o25 f25 1 1 [5] = false := by decide
theorem p25 (w : World) : Calls Try.prog 54 #[.int .i64 7, .int .i64 1, .int .i64 2] w (Ret (.bool true) w) := by
  have := pass_any 7 1 2 (by decide) (by decide) w
  rwa [show decide (passP 7 1 2) = true from by decide] at this
set_option maxHeartbeats 2000000 in
theorem awake25 (w : World) : Calls Try.prog 49 #[] w (Ret (.bool true) w) := by
  go_enter Try.func49, Try.ntmps49
  go_wp2_with fail
  refine (one_any (w := _) (bm := w.heap.size + 1 + 1) (g1 := w.heap.size) (k1 := 1) (g2 := w.heap.size + 1) (k2 := 1) (W := 1) (H := 1) (C := [0]) (Z := [6]) ⟨im25_ok, ?_, arr_one ?_, arr_one ?_, ?_, ?_, ?_⟩ o25 f25 o25_ok f25_ok).mono ?_
  · show Row _ _ #[.int .i64 1, .int .i64 1, sl w.heap.size 1 1, sl (w.heap.size + 1) 1 1] _
    (repeat (first | assumption | with_reducible refine Row.ext ?_ _ | with_reducible refine row_drew ?_ | (with_reducible refine row_last ?_; first | rfl | (simp; done)) | with_reducible refine Row.alloc ?_ _))
  · (repeat (first | assumption | with_reducible refine Row.ext ?_ _ | with_reducible refine row_drew ?_ | (with_reducible refine row_last ?_; first | rfl | (simp; done)) | with_reducible refine Row.alloc ?_ _))
  · (repeat (first | assumption | with_reducible refine Row.ext ?_ _ | with_reducible refine row_drew ?_ | (with_reducible refine row_last ?_; first | rfl | (simp; done)) | with_reducible refine Row.alloc ?_ _))
  · omega
  · omega
  · omega
  rw [b25a, c25, z25]
  rintro _ w1 ⟨rfl, I1, C1⟩
  have O1 := C1.row (b := w.heap.size + 1 + 1 + 1) (c := #[.bool false, .int .i64 0, .int .i64 0, .int .i64 0, .int .i64 0, .bool true, .int .i64 1, .bool true, .bool false, .int .i64 0, .int .i64 0, .bool false, .bool false, .bool false, .bool false]) (T := 64) (by (repeat (first | assumption | with_reducible refine Row.ext ?_ _ | with_reducible refine row_drew ?_ | (with_reducible refine row_last ?_; first | rfl | (simp; done)) | with_reducible refine Row.alloc ?_ _))) (by omega)
  have F1 := C1.row (b := w.heap.size + 1 + 1 + 1 + 1) (c := #[.int .i64 0, .int .i64 0, .int .i64 5, .int .i64 0, .int .i64 0, .int .i64 0, .int .i64 0, .int .i64 64]) (T := 66) (by (repeat (first | assumption | with_reducible refine Row.ext ?_ _ | with_reducible refine row_drew ?_ | (with_reducible refine row_last ?_; first | rfl | (simp; done)) | with_reducible refine Row.alloc ?_ _))) (by omega)
  have B1 : Below w.heap.size w w1 := Below.chg (B := w.heap.size) (by (repeat (first | exact Below.refl _ _ | with_reducible refine Below.drew ?_ | with_reducible refine Below.ext ?_ (by first | exact Nat.le_refl _ | (simp; done) | (simp; omega)) _ | with_reducible refine Below.alloc ?_ (by first | exact Nat.le_refl _ | (simp; done) | (simp; omega)) _ | with_reducible refine Below.setCell ?_ (by first | exact Nat.le_refl _ | (simp; done) | (simp; omega)) _))) C1 (by simp; omega) (fun k hk h => by omega)
  have o0 := O1.cell 0
  have o1 := O1.cell 1
  have o2 := O1.cell 2
  have o3 := O1.cell 3
  have o4 := O1.cell 4
  have o5 := O1.cell 5
  have o6 := O1.cell 6
  have o7 := O1.cell 7
  have o8 := O1.cell 8
  have o9 := O1.cell 9
  have o10 := O1.cell 10
  have o11 := O1.cell 11
  have o12 := O1.cell 12
  have o13 := O1.cell 13
  have o14 := O1.cell 14
  simp at o0 o1 o2 o3 o4 o5 o6 o7 o8 o9 o10 o11 o12 o13 o14
  have f0 := F1.cell 0
  have f1 := F1.cell 1
  have f2 := F1.cell 2
  have f3 := F1.cell 3
  have f4 := F1.cell 4
  have f5 := F1.cell 5
  have f6 := F1.cell 6
  have f7 := F1.cell 7
  simp at f0 f1 f2 f3 f4 f5 f6 f7
  have i0 := I1.row.cell 0
  have i1 := I1.row.cell 1
  have i2 := I1.row.cell 2
  have i3 := I1.row.cell 3
  simp at i0 i1 i2 i3
  have z0 := I1.z.cell (i := 0) (by decide)
  simp only [show elt [5] 0 = 5 from rfl] at z0
  have lz := I1.z.lt
  go_wp2_with fail
  refine (one_any I1 o25 f25 o25_ok f25_ok).mono ?_
  rw [b25b]
  rintro _ w2 ⟨rfl, I2, C2⟩
  have B2 : Below w.heap.size w w2 := Below.chg (B := w.heap.size) B1 C2 B1.size (fun k hk h => by omega)
  go_wp2_with (first | (go_at_call 54; (with_reducible refine (p25 _).mono ?_); rintro _ _ ⟨rfl, X_, rfl⟩))
  go_ret
  exact Ret.of (B2.ext B2.size _)
end Go.Proofs.Ytdbbeggenbhbfaa
