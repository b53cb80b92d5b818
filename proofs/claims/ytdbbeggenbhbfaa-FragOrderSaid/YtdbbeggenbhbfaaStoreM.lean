/- The walks of layer 23 (store): no pixel, nothing put. Conditions: the image's cells, told one by one. -/
import Derived.Test.YtdbbeggenbhbfaaStoreL
namespace Go.Proofs.Ytdbbeggenbhbfaa
set_option linter.unusedVariables false
set_option linter.unusedSimpArgs false
open Go.RowKit
theorem put_no (bm pc pz oc oz cc cz n : Nat) (W H x y : Int) (a b c d : Int) (m0 m1 m2 m3 : Bool) (w : World) (h : Wr w bm pc pz oc oz cc cz n W H x y) (bx0 : -9223372036854775808 ≤ x) (bx1 : x ≤ 9223372036854775807) (by0 : -9223372036854775808 ≤ y) (by1 : y ≤ 9223372036854775807) (hi : ¬ inB W H x y) :
    Calls Try.prog 40 #[.pointer (some ⟨bm, 0, none⟩), .int .i64 x, .int .i64 y, C4 a b c d, M4 m0 m1 m2 m3] w (Ret (.bool false) w) := by
  obtain ⟨w0, w1, h0, h1, c0, c1, c2, c3, hn, lbm, lpc, lpz⟩ := h
  have HI := Lib.hid hi
  have lbm' : bm ≤ w.heap.size := by omega
  clear hn hi
  go_enter Try.func40, Try.ntmps40
  go_wp2_with (first | (go_at_call 61; (with_reducible refine (in_no W H x y bm _ w0 w1 h0 h1 bx0 bx1 by0 by1 HI.out ?_ ?_).mono ?_); go_simp; go_simp; rintro _ _ ⟨rfl, rfl⟩))
  go_ret
  exact Ret.of (by (repeat (first | exact Below.refl _ _ | with_reducible refine Below.drew ?_ | with_reducible refine Below.ext ?_ (by first | exact Nat.le_refl _ | (simp; done) | (simp; omega)) _ | with_reducible refine Below.alloc ?_ (by first | exact Nat.le_refl _ | (simp; done) | (simp; omega)) _ | with_reducible refine Below.setCell ?_ (by first | exact Nat.le_refl _ | (simp; done) | (simp; omega)) _)))
theorem deep_no (bm pc pz oc oz cc cz n : Nat) (W H x y : Int) (u : Int) (w : World) (h : Wr w bm pc pz oc oz cc cz n W H x y) (bx0 : -9223372036854775808 ≤ x) (bx1 : x ≤ 9223372036854775807) (by0 : -9223372036854775808 ≤ y) (by1 : y ≤ 9223372036854775807) (hi : ¬ inB W H x y) :
    Calls Try.prog 41 #[.pointer (some ⟨bm, 0, none⟩), .int .i64 x, .int .i64 y, .int .i64 u] w (Ret (.bool false) w) := by
  obtain ⟨w0, w1, h0, h1, c0, c1, c2, c3, hn, lbm, lpc, lpz⟩ := h
  have HI := Lib.hid hi
  have lbm' : bm ≤ w.heap.size := by omega
  clear hn hi
  go_enter Try.func41, Try.ntmps41
  go_wp2_with (first | (go_at_call 61; (with_reducible refine (in_no W H x y bm _ w0 w1 h0 h1 bx0 bx1 by0 by1 HI.out ?_ ?_).mono ?_); go_simp; go_simp; rintro _ _ ⟨rfl, rfl⟩))
  go_ret
  exact Ret.of (by (repeat (first | exact Below.refl _ _ | with_reducible refine Below.drew ?_ | with_reducible refine Below.ext ?_ (by first | exact Nat.le_refl _ | (simp; done) | (simp; omega)) _ | with_reducible refine Below.alloc ?_ (by first | exact Nat.le_refl _ | (simp; done) | (simp; omega)) _ | with_reducible refine Below.setCell ?_ (by first | exact Nat.le_refl _ | (simp; done) | (simp; omega)) _)))
theorem rput_no (bm pc pz oc oz cc cz n : Nat) (W H x y : Int) (a b c d : Int) (m0 m1 m2 m3 : Bool) (w : World) (h : Wr w bm pc pz oc oz cc cz n W H x y) (bx0 : -9223372036854775808 ≤ x) (bx1 : x ≤ 9223372036854775807) (by0 : -9223372036854775808 ≤ y) (by1 : y ≤ 9223372036854775807) (hi : ¬ inB W H x y) :
    Calls Try.prog 42 #[.pointer (some ⟨bm, 0, none⟩), .int .i64 x, .int .i64 y, C4 a b c d, M4 m0 m1 m2 m3] w (Ret (.bool false) w) := by
  obtain ⟨w0, w1, h0, h1, c0, c1, c2, c3, hn, lbm, lpc, lpz⟩ := h
  have HI := Lib.hid hi
  have lbm' : bm ≤ w.heap.size := by omega
  clear hn hi
  go_enter Try.func42, Try.ntmps42
  go_wp2_with (first | (go_at_call 62; (with_reducible refine (at_no W H _ _ x y _ HI.out).mono ?_); rintro _ _ ⟨rfl, X_, rfl⟩))
  go_ret
  exact Ret.of (by (repeat (first | exact Below.refl _ _ | with_reducible refine Below.drew ?_ | with_reducible refine Below.ext ?_ (by first | exact Nat.le_refl _ | (simp; done) | (simp; omega)) _ | with_reducible refine Below.alloc ?_ (by first | exact Nat.le_refl _ | (simp; done) | (simp; omega)) _ | with_reducible refine Below.setCell ?_ (by first | exact Nat.le_refl _ | (simp; done) | (simp; omega)) _)))
theorem rdeep_no (bm pc pz oc oz cc cz n : Nat) (W H x y : Int) (u : Int) (w : World) (h : Wr w bm pc pz oc oz cc cz n W H x y) (bx0 : -9223372036854775808 ≤ x) (bx1 : x ≤ 9223372036854775807) (by0 : -9223372036854775808 ≤ y) (by1 : y ≤ 9223372036854775807) (hi : ¬ inB W H x y) :
    Calls Try.prog 43 #[.pointer (some ⟨bm, 0, none⟩), .int .i64 x, .int .i64 y, .int .i64 u] w (Ret (.bool false) w) := by
  obtain ⟨w0, w1, h0, h1, c0, c1, c2, c3, hn, lbm, lpc, lpz⟩ := h
  have HI := Lib.hid hi
  have lbm' : bm ≤ w.heap.size := by omega
  clear hn hi
  go_enter Try.func43, Try.ntmps43
  go_wp2_with (first | (go_at_call 62; (with_reducible refine (at_no W H _ _ x y _ HI.out).mono ?_); rintro _ _ ⟨rfl, X_, rfl⟩))
  go_ret
  exact Ret.of (by (repeat (first | exact Below.refl _ _ | with_reducible refine Below.drew ?_ | with_reducible refine Below.ext ?_ (by first | exact Nat.le_refl _ | (simp; done) | (simp; omega)) _ | with_reducible refine Below.alloc ?_ (by first | exact Nat.le_refl _ | (simp; done) | (simp; omega)) _ | with_reducible refine Below.setCell ?_ (by first | exact Nat.le_refl _ | (simp; done) | (simp; omega)) _)))
end Go.Proofs.Ytdbbeggenbhbfaa
