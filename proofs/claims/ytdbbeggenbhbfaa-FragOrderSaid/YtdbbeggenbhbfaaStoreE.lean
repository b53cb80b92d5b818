/- The walks of layer 23 (store): what a pixel has. Conditions: the image may be; its slices read as lists. -/
import Derived.Test.YtdbbeggenbhbfaaStoreB
namespace Go.Proofs.Ytdbbeggenbhbfaa
set_option linter.unusedVariables false
set_option linter.unusedSimpArgs false
open Go.RowKit
theorem ix_in {W H x y : Int} (x0 : 0 ≤ x) (x1 : x < W) (y0 : 0 ≤ y) (y1 : y < H) : 0 ≤ y * W ∧ y * W + x < W * H := by
  have a : 0 ≤ y * W := Int.mul_nonneg y0 (by omega)
  have b : (y + 1) * W ≤ H * W := Int.mul_le_mul_of_nonneg_right (by omega) (by omega)
  rw [Int.add_mul, Int.one_mul, Int.mul_comm H W] at b
  omega
/-- Is a pixel in an image? -/
def inB (W H x y : Int) : Prop := 0 ≤ x ∧ x < W ∧ 0 ≤ y ∧ y < H
instance (W H x y : Int) : Decidable (inB W H x y) := by unfold inB; exact inferInstance
/-- It returns this value, and the world stays as it was. -/
def Still (v : Value) (w : World) (e : Ending) (w' : World) : Prop := e = .returned v ∧ w = w'
theorem in_yes (W H x y : Int) (b : Nat) (w : World) (w0 : 1 ≤ W) (w1 : W ≤ 1024) (h0 : 1 ≤ H) (h1 : H ≤ 1024) (hi : inB W H x y) (cw : w.cell? ⟨b, 0, none⟩ = some (.int .i64 W)) (ch : w.cell? ⟨b, 1, none⟩ = some (.int .i64 H)) :
    Calls Try.prog 61 #[.pointer (some ⟨b, 0, none⟩), .int .i64 x, .int .i64 y] w (Still (.bool true) w) := by
  obtain ⟨x0, x1, y0, y1⟩ := hi
  go_enter Try.func61, Try.ntmps61
  go_wp2
  go_ret
  exact ⟨rfl, rfl⟩
theorem at_yes (W H : Int) (c z : Value) (x y : Int) (w : World) (w0 : 1 ≤ W) (w1 : W ≤ 1024) (h0 : 1 ≤ H) (h1 : H ≤ 1024) (hi : inB W H x y) :
    Calls Try.prog 62 #[Im W H c z, .int .i64 x, .int .i64 y] w (Ret (.int .i64 (y * W + x)) w) := by
  obtain ⟨x0, x1, y0, y1⟩ := hi
  obtain ⟨q0, q1⟩ := ix_in x0 x1 y0 y1
  obtain ⟨a0, a1⟩ := area_01 w0 w1 h0 h1
  go_enter Try.func62, Try.ntmps62
  go_wp2
  go_ret
  exact Ret.of (by (repeat (first | exact Below.refl _ _ | with_reducible refine Below.drew ?_ | with_reducible refine Below.ext ?_ (by first | exact Nat.le_refl _ | (simp; done) | (simp; omega)) _ | with_reducible refine Below.alloc ?_ (by first | exact Nat.le_refl _ | (simp; done) | (simp; omega)) _ | with_reducible refine Below.setCell ?_ (by first | exact Nat.le_refl _ | (simp; done) | (simp; omega)) _)))
set_option maxHeartbeats 2000000 in
theorem get_in (W H : Int) (c z : Value) (C Z : List Int) (x y : Int) (w : World) (hc : Rd w c C) (hz : Rd w z Z) (h : ImOk W H C Z) (hi : inB W H x y) :
    Calls Try.prog 37 #[Im W H c z, .int .i64 x, .int .i64 y] w (Ret (.tuple #[U4 (elt C (y * W + x).toNat), .int .i64 (elt Z (y * W + x).toNat), .bool true]) w) := by
  obtain ⟨w0, w1, h0, h1, lc, lz, cs, zs⟩ := h
  have HI := hi
  obtain ⟨x0, x1, y0, y1⟩ := hi
  obtain ⟨q0, q1⟩ := ix_in x0 x1 y0 y1
  obtain ⟨a0, a1⟩ := area_01 w0 w1 h0 h1
  obtain ⟨-, -, a, cap, rfl, hcap, h3⟩ := hc
  obtain ⟨-, -, a', cap', rfl, hcap', h3'⟩ := hz
  rcases h3 with rfl | ⟨b, off, rfl, hb, hcell⟩
  · simp at lc; omega
  rcases h3' with rfl | ⟨b', off', rfl, hb', hcell'⟩
  · simp at lz; omega
  have q3 : 0 ≤ y * W + x := by omega
  have hb1 : b ≤ w.heap.size := by omega
  have hb2 : b' ≤ w.heap.size := by omega
  have c1 := hcell (y * W + x).toNat (by omega)
  have c2 := hcell' (y * W + x).toNat (by omega)
  obtain ⟨l1, l2⟩ := cs (y * W + x).toNat (by omega)
  obtain ⟨l3, l4⟩ := zs (y * W + x).toNat (by omega)
  have n1 : y * W + x < C.length := by omega
  have n2 : y * W + x < Z.length := by omega
  have n3 : C.length ≤ 1048576 := by omega
  clear lc lz hcell hcell' cs zs
  go_enter Try.func37, Try.ntmps37
  go_wp2_with (first | (go_at_call 61; (with_reducible refine (in_yes W H x y _ _ w0 w1 h0 h1 HI ?_ ?_).mono ?_); go_simp; go_simp; rintro _ _ ⟨rfl, rfl⟩))
  go_region_held3 (fun w' => w'.cell? ⟨w.heap.size, 2, none⟩ = some (.slice (some ⟨b, off, none⟩) C.length cap) ∧ w'.cell? ⟨w.heap.size, 3, none⟩ = some (.slice (some ⟨b', off', none⟩) Z.length cap') ∧ w'.cell? ⟨b, off + (y * W + x).toNat, none⟩ = some (.int .i64 (elt C (y * W + x).toNat)) ∧ w'.cell? ⟨b', off' + (y * W + x).toNat, none⟩ = some (.int .i64 (elt Z (y * W + x).toNat))) (go_simp) ((first | (go_at_call 25; (with_reducible refine (unpack_any _ l1 l2 _).mono ?_); rintro _ _ ⟨rfl, X_, rfl⟩)))
  go_wp2
  exact bodyPost_ret (v := .tuple #[U4 (elt C (y * W + x).toNat), .int .i64 (elt Z (y * W + x).toNat), .bool true]) (by simp [results, Try.results37, go_sem]) rfl (Ret.of (by (repeat (first | exact Below.refl _ _ | with_reducible refine Below.drew ?_ | with_reducible refine Below.ext ?_ (by first | exact Nat.le_refl _ | (simp; done) | (simp; omega)) _ | with_reducible refine Below.alloc ?_ (by first | exact Nat.le_refl _ | (simp; done) | (simp; omega)) _ | with_reducible refine Below.setCell ?_ (by first | exact Nat.le_refl _ | (simp; done) | (simp; omega)) _))))
set_option maxHeartbeats 2000000 in
theorem get_out (W H : Int) (c z : Value) (C Z : List Int) (x y : Int) (w : World) (hc : Rd w c C) (hz : Rd w z Z) (h : ImOk W H C Z) (bx0 : -9223372036854775808 ≤ x) (bx1 : x ≤ 9223372036854775807) (by0 : -9223372036854775808 ≤ y) (by1 : y ≤ 9223372036854775807) (hi : ¬ inB W H x y) :
    Calls Try.prog 37 #[Im W H c z, .int .i64 x, .int .i64 y] w (Ret (.tuple #[C4 0 0 0 0, .int .i64 0, .bool false]) w) := by
  obtain ⟨w0, w1, h0, h1, -, -, -, -⟩ := h
  obtain ⟨-, -, a, cap, rfl, -, -⟩ := hc
  obtain ⟨-, -, a', cap', rfl, -, -⟩ := hz
  by_cases x0 : 0 ≤ x
  · by_cases x1 : x < W
    · by_cases y0 : 0 ≤ y
      · have y1 : ¬ y < H := fun y1 => hi ⟨x0, x1, y0, y1⟩
        clear hi
        go_enter Try.func37, Try.ntmps37
        go_wp2
        exact bodyPost_ret (v := .tuple #[C4 0 0 0 0, .int .i64 0, .bool false]) (by simp [results, Try.results37, go_sem]) rfl (Ret.of (by (repeat (first | exact Below.refl _ _ | with_reducible refine Below.drew ?_ | with_reducible refine Below.ext ?_ (by first | exact Nat.le_refl _ | (simp; done) | (simp; omega)) _ | with_reducible refine Below.alloc ?_ (by first | exact Nat.le_refl _ | (simp; done) | (simp; omega)) _ | with_reducible refine Below.setCell ?_ (by first | exact Nat.le_refl _ | (simp; done) | (simp; omega)) _))))
      · have y1 : decide (IntKind.u64.wrap y < H) = false := by rw [decide_eq_false_iff_not, IntKind.wrap_u64]; omega
        clear hi y0
        go_enter Try.func37, Try.ntmps37
        go_wp2
        exact bodyPost_ret (v := .tuple #[C4 0 0 0 0, .int .i64 0, .bool false]) (by simp [results, Try.results37, go_sem]) rfl (Ret.of (by (repeat (first | exact Below.refl _ _ | with_reducible refine Below.drew ?_ | with_reducible refine Below.ext ?_ (by first | exact Nat.le_refl _ | (simp; done) | (simp; omega)) _ | with_reducible refine Below.alloc ?_ (by first | exact Nat.le_refl _ | (simp; done) | (simp; omega)) _ | with_reducible refine Below.setCell ?_ (by first | exact Nat.le_refl _ | (simp; done) | (simp; omega)) _))))
    · clear hi
      go_enter Try.func37, Try.ntmps37
      go_wp2
      exact bodyPost_ret (v := .tuple #[C4 0 0 0 0, .int .i64 0, .bool false]) (by simp [results, Try.results37, go_sem]) rfl (Ret.of (by (repeat (first | exact Below.refl _ _ | with_reducible refine Below.drew ?_ | with_reducible refine Below.ext ?_ (by first | exact Nat.le_refl _ | (simp; done) | (simp; omega)) _ | with_reducible refine Below.alloc ?_ (by first | exact Nat.le_refl _ | (simp; done) | (simp; omega)) _ | with_reducible refine Below.setCell ?_ (by first | exact Nat.le_refl _ | (simp; done) | (simp; omega)) _))))
  · have x1 : decide (IntKind.u64.wrap x < W) = false := by rw [decide_eq_false_iff_not, IntKind.wrap_u64]; omega
    clear hi x0
    go_enter Try.func37, Try.ntmps37
    go_wp2
    exact bodyPost_ret (v := .tuple #[C4 0 0 0 0, .int .i64 0, .bool false]) (by simp [results, Try.results37, go_sem]) rfl (Ret.of (by (repeat (first | exact Below.refl _ _ | with_reducible refine Below.drew ?_ | with_reducible refine Below.ext ?_ (by first | exact Nat.le_refl _ | (simp; done) | (simp; omega)) _ | with_reducible refine Below.alloc ?_ (by first | exact Nat.le_refl _ | (simp; done) | (simp; omega)) _ | with_reducible refine Below.setCell ?_ (by first | exact Nat.le_refl _ | (simp; done) | (simp; omega)) _))))
set_option maxHeartbeats 2000000 in
theorem rget_in (W H : Int) (c z : Value) (C Z : List Int) (x y : Int) (w : World) (hc : Rd w c C) (hz : Rd w z Z) (h : ImOk W H C Z) (hi : inB W H x y) :
    Calls Try.prog 38 #[Im W H c z, .int .i64 x, .int .i64 y] w (Ret (.tuple #[U4 (elt C (y * W + x).toNat), .int .i64 (elt Z (y * W + x).toNat), .bool true]) w) := by
  obtain ⟨w0, w1, h0, h1, lc, lz, cs, zs⟩ := h
  have HI := hi
  obtain ⟨x0, x1, y0, y1⟩ := hi
  obtain ⟨q0, q1⟩ := ix_in x0 x1 y0 y1
  obtain ⟨a0, a1⟩ := area_01 w0 w1 h0 h1
  obtain ⟨-, -, a, cap, rfl, hcap, h3⟩ := hc
  obtain ⟨-, -, a', cap', rfl, hcap', h3'⟩ := hz
  rcases h3 with rfl | ⟨b, off, rfl, hb, hcell⟩
  · simp at lc; omega
  rcases h3' with rfl | ⟨b', off', rfl, hb', hcell'⟩
  · simp at lz; omega
  have q3 : 0 ≤ y * W + x := by omega
  have hb1 : b ≤ w.heap.size := by omega
  have hb2 : b' ≤ w.heap.size := by omega
  have c1 := hcell (y * W + x).toNat (by omega)
  have c2 := hcell' (y * W + x).toNat (by omega)
  obtain ⟨l1, l2⟩ := cs (y * W + x).toNat (by omega)
  obtain ⟨l3, l4⟩ := zs (y * W + x).toNat (by omega)
  have n1 : y * W + x < C.length := by omega
  have n2 : y * W + x < Z.length := by omega
  have n3 : C.length ≤ 1048576 := by omega
  clear lc lz hcell hcell' cs zs
  go_enter Try.func38, Try.ntmps38
  go_wp2_with (first | (go_at_call 62; (with_reducible refine (at_yes _ _ _ _ _ _ _ w0 w1 h0 h1 HI).mono ?_); rintro _ _ ⟨rfl, X_, rfl⟩))
  go_region_held3 (fun w' => w'.cell? ⟨w.heap.size, 2, none⟩ = some (.slice (some ⟨b, off, none⟩) C.length cap) ∧ w'.cell? ⟨w.heap.size, 3, none⟩ = some (.slice (some ⟨b', off', none⟩) Z.length cap') ∧ w'.cell? ⟨b, off + (y * W + x).toNat, none⟩ = some (.int .i64 (elt C (y * W + x).toNat)) ∧ w'.cell? ⟨b', off' + (y * W + x).toNat, none⟩ = some (.int .i64 (elt Z (y * W + x).toNat))) (go_simp) ((first | (go_at_call 27; (with_reducible refine (runpack_any _ l1 l2 _).mono ?_); rintro _ _ ⟨rfl, X_, rfl⟩)))
  go_wp2
  exact bodyPost_ret (v := .tuple #[U4 (elt C (y * W + x).toNat), .int .i64 (elt Z (y * W + x).toNat), .bool true]) (by simp [results, Try.results38, go_sem]) rfl (Ret.of (by (repeat (first | exact Below.refl _ _ | with_reducible refine Below.drew ?_ | with_reducible refine Below.ext ?_ (by first | exact Nat.le_refl _ | (simp; done) | (simp; omega)) _ | with_reducible refine Below.alloc ?_ (by first | exact Nat.le_refl _ | (simp; done) | (simp; omega)) _ | with_reducible refine Below.setCell ?_ (by first | exact Nat.le_refl _ | (simp; done) | (simp; omega)) _))))
set_option maxHeartbeats 2000000 in
theorem rget_out (W H : Int) (c z : Value) (C Z : List Int) (x y : Int) (w : World) (hc : Rd w c C) (hz : Rd w z Z) (h : ImOk W H C Z) (hi : ¬ inB W H x y) :
    Calls Try.prog 38 #[Im W H c z, .int .i64 x, .int .i64 y] w (Ret (.tuple #[C4 0 0 0 0, .int .i64 0, .bool false]) w) := by
  obtain ⟨w0, w1, h0, h1, -, -, -, -⟩ := h
  obtain ⟨-, -, a, cap, rfl, -, -⟩ := hc
  obtain ⟨-, -, a', cap', rfl, -, -⟩ := hz
  by_cases x0 : 0 ≤ x
  · have u0 : decide (x < 0) = false := by simp; omega
    by_cases x1 : x < W
    · have u1 : decide (W ≤ x) = false := by simp; omega
      by_cases y0 : 0 ≤ y
      · have u2 : decide (y < 0) = false := by simp; omega
        have u3 : decide (H ≤ y) = true := by simp; exact Int.not_lt.1 fun y1 => hi ⟨x0, x1, y0, y1⟩
        clear hi x0 x1 y0
        go_enter Try.func38, Try.ntmps38
        go_wp2
        exact bodyPost_ret (v := .tuple #[C4 0 0 0 0, .int .i64 0, .bool false]) (by simp [results, Try.results38, go_sem]) rfl (Ret.of (by (repeat (first | exact Below.refl _ _ | with_reducible refine Below.drew ?_ | with_reducible refine Below.ext ?_ (by first | exact Nat.le_refl _ | (simp; done) | (simp; omega)) _ | with_reducible refine Below.alloc ?_ (by first | exact Nat.le_refl _ | (simp; done) | (simp; omega)) _ | with_reducible refine Below.setCell ?_ (by first | exact Nat.le_refl _ | (simp; done) | (simp; omega)) _))))
      · have u2 : decide (y < 0) = true := by simp; omega
        clear hi x0 x1 y0
        go_enter Try.func38, Try.ntmps38
        go_wp2
        exact bodyPost_ret (v := .tuple #[C4 0 0 0 0, .int .i64 0, .bool false]) (by simp [results, Try.results38, go_sem]) rfl (Ret.of (by (repeat (first | exact Below.refl _ _ | with_reducible refine Below.drew ?_ | with_reducible refine Below.ext ?_ (by first | exact Nat.le_refl _ | (simp; done) | (simp; omega)) _ | with_reducible refine Below.alloc ?_ (by first | exact Nat.le_refl _ | (simp; done) | (simp; omega)) _ | with_reducible refine Below.setCell ?_ (by first | exact Nat.le_refl _ | (simp; done) | (simp; omega)) _))))
    · have u1 : decide (W ≤ x) = true := by simp; omega
      clear hi x0 x1
      go_enter Try.func38, Try.ntmps38
      go_wp2
      exact bodyPost_ret (v := .tuple #[C4 0 0 0 0, .int .i64 0, .bool false]) (by simp [results, Try.results38, go_sem]) rfl (Ret.of (by (repeat (first | exact Below.refl _ _ | with_reducible refine Below.drew ?_ | with_reducible refine Below.ext ?_ (by first | exact Nat.le_refl _ | (simp; done) | (simp; omega)) _ | with_reducible refine Below.alloc ?_ (by first | exact Nat.le_refl _ | (simp; done) | (simp; omega)) _ | with_reducible refine Below.setCell ?_ (by first | exact Nat.le_refl _ | (simp; done) | (simp; omega)) _))))
  · have u0 : decide (x < 0) = true := by simp; omega
    clear hi x0
    go_enter Try.func38, Try.ntmps38
    go_wp2
    exact bodyPost_ret (v := .tuple #[C4 0 0 0 0, .int .i64 0, .bool false]) (by simp [results, Try.results38, go_sem]) rfl (Ret.of (by (repeat (first | exact Below.refl _ _ | with_reducible refine Below.drew ?_ | with_reducible refine Below.ext ?_ (by first | exact Nat.le_refl _ | (simp; done) | (simp; omega)) _ | with_reducible refine Below.alloc ?_ (by first | exact Nat.le_refl _ | (simp; done) | (simp; omega)) _ | with_reducible refine Below.setCell ?_ (by first | exact Nat.le_refl _ | (simp; done) | (simp; omega)) _))))
end Go.Proofs.Ytdbbeggenbhbfaa
