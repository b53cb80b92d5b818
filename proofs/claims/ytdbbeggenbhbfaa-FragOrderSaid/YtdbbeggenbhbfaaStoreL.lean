/- The walks of layer 23 (store): a pixel's color and depth are put. Conditions: the image's cells, told one by one. -/
import Derived.Test.YtdbbeggenbhbfaaStoreE
import Derived.Test.YtdbbeggenbhbfaaStoreK
namespace Go.Proofs.Ytdbbeggenbhbfaa
set_option linter.unusedVariables false
set_option linter.unusedSimpArgs false
open Go.RowKit
theorem in_no (W H x y : Int) (b : Nat) (w : World) (w0 : 1 ≤ W) (w1 : W ≤ 1024) (h0 : 1 ≤ H) (h1 : H ≤ 1024) (bx0 : -9223372036854775808 ≤ x) (bx1 : x ≤ 9223372036854775807) (by0 : -9223372036854775808 ≤ y) (by1 : y ≤ 9223372036854775807)
    (hi : ¬ inB W H x y) (cw : w.cell? ⟨b, 0, none⟩ = some (.int .i64 W)) (ch : w.cell? ⟨b, 1, none⟩ = some (.int .i64 H)) :
    Calls Try.prog 61 #[.pointer (some ⟨b, 0, none⟩), .int .i64 x, .int .i64 y] w (Still (.bool false) w) := by
  by_cases x0 : 0 ≤ x
  · by_cases x1 : x < W
    · by_cases y0 : 0 ≤ y
      · have y1 : ¬ y < H := fun y1 => hi ⟨x0, x1, y0, y1⟩
        clear hi
        go_enter Try.func61, Try.ntmps61
        go_wp2
        go_ret
        exact ⟨by simp, rfl⟩
      · have y1 : decide (IntKind.u64.wrap y < H) = false := by rw [decide_eq_false_iff_not, IntKind.wrap_u64]; omega
        clear hi y0
        go_enter Try.func61, Try.ntmps61
        go_wp2
        go_ret
        exact ⟨rfl, rfl⟩
    · clear hi
      go_enter Try.func61, Try.ntmps61
      go_wp2
      go_ret
      exact ⟨rfl, rfl⟩
  · have x1 : decide (IntKind.u64.wrap x < W) = false := by rw [decide_eq_false_iff_not, IntKind.wrap_u64]; omega
    clear hi x0
    go_enter Try.func61, Try.ntmps61
    go_wp2
    go_ret
    exact ⟨rfl, rfl⟩
theorem at_no (W H : Int) (c z : Value) (x y : Int) (w : World) (hi : ¬ inB W H x y) :
    Calls Try.prog 62 #[Im W H c z, .int .i64 x, .int .i64 y] w (Ret (.int .i64 (-1)) w) := by
  by_cases x0 : 0 ≤ x
  · have u0 : decide (x < 0) = false := by simp; omega
    by_cases x1 : x < W
    · have u1 : decide (W ≤ x) = false := by simp; omega
      by_cases y0 : 0 ≤ y
      · have u2 : decide (y < 0) = false := by simp; omega
        have u3 : decide (H ≤ y) = true := by simp; exact Int.not_lt.1 fun y1 => hi ⟨x0, x1, y0, y1⟩
        clear hi x0 x1 y0
        go_enter Try.func62, Try.ntmps62
        go_wp2
        go_ret
        exact Ret.of (by (repeat (first | exact Below.refl _ _ | with_reducible refine Below.drew ?_ | with_reducible refine Below.ext ?_ (by first | exact Nat.le_refl _ | (simp; done) | (simp; omega)) _ | with_reducible refine Below.alloc ?_ (by first | exact Nat.le_refl _ | (simp; done) | (simp; omega)) _ | with_reducible refine Below.setCell ?_ (by first | exact Nat.le_refl _ | (simp; done) | (simp; omega)) _)))
      · have u2 : decide (y < 0) = true := by simp; omega
        clear hi x0 x1 y0
        go_enter Try.func62, Try.ntmps62
        go_wp2
        go_ret
        exact Ret.of (by (repeat (first | exact Below.refl _ _ | with_reducible refine Below.drew ?_ | with_reducible refine Below.ext ?_ (by first | exact Nat.le_refl _ | (simp; done) | (simp; omega)) _ | with_reducible refine Below.alloc ?_ (by first | exact Nat.le_refl _ | (simp; done) | (simp; omega)) _ | with_reducible refine Below.setCell ?_ (by first | exact Nat.le_refl _ | (simp; done) | (simp; omega)) _)))
    · have u1 : decide (W ≤ x) = true := by simp; omega
      clear hi x0 x1
      go_enter Try.func62, Try.ntmps62
      go_wp2
      go_ret
      exact Ret.of (by (repeat (first | exact Below.refl _ _ | with_reducible refine Below.drew ?_ | with_reducible refine Below.ext ?_ (by first | exact Nat.le_refl _ | (simp; done) | (simp; omega)) _ | with_reducible refine Below.alloc ?_ (by first | exact Nat.le_refl _ | (simp; done) | (simp; omega)) _ | with_reducible refine Below.setCell ?_ (by first | exact Nat.le_refl _ | (simp; done) | (simp; omega)) _)))
  · have u0 : decide (x < 0) = true := by simp; omega
    clear hi x0
    go_enter Try.func62, Try.ntmps62
    go_wp2
    go_ret
    exact Ret.of (by (repeat (first | exact Below.refl _ _ | with_reducible refine Below.drew ?_ | with_reducible refine Below.ext ?_ (by first | exact Nat.le_refl _ | (simp; done) | (simp; omega)) _ | with_reducible refine Below.alloc ?_ (by first | exact Nat.le_refl _ | (simp; done) | (simp; omega)) _ | with_reducible refine Below.setCell ?_ (by first | exact Nat.le_refl _ | (simp; done) | (simp; omega)) _)))
/-- A packed color, mixed. -/
def mixN (v x y z t : Int) (m0 m1 m2 m3 : Bool) : Int := pk (if m0 then x else up0 v) (if m1 then y else up1 v) (if m2 then z else up2 v) (if m3 then t else up3 v)
theorem mix_may (v x y z t : Int) (m0 m1 m2 m3 : Bool) (k : May x y z t) : May (if m0 then x else up0 v) (if m1 then y else up1 v) (if m2 then z else up2 v) (if m3 then t else up3 v) := by
  obtain ⟨a0, a1, b0, b1, c0, c1, d0, d1⟩ := up_may v
  obtain ⟨x0, x1, y0, y1, z0, z1, t0, t1⟩ := k
  constructor <;> split <;> assumption
/-- What is known of an image that is written to. -/
structure Wr (w : World) (bm pc pz oc oz cc cz n : Nat) (W H : Int) (x y : Int) : Prop where
  w0 : 1 ≤ W
  w1 : W ≤ 1024
  h0 : 1 ≤ H
  h1 : H ≤ 1024
  c0 : w.cell? ⟨bm, 0, none⟩ = some (.int .i64 W)
  c1 : w.cell? ⟨bm, 1, none⟩ = some (.int .i64 H)
  c2 : w.cell? ⟨bm, 2, none⟩ = some (.slice (some ⟨pc, oc, none⟩) n cc)
  c3 : w.cell? ⟨bm, 3, none⟩ = some (.slice (some ⟨pz, oz, none⟩) n cz)
  n0 : (n : Int) = W * H
  bm : bm < w.heap.size
  pc : pc < w.heap.size
  pz : pz < w.heap.size
set_option maxHeartbeats 4000000 in
theorem put_in (bm pc pz oc oz cc cz n : Nat) (W H x y : Int) (a b c d v : Int) (m0 m1 m2 m3 : Bool) (w : World) (h : Wr w bm pc pz oc oz cc cz n W H x y) (hi : inB W H x y) (k : May a b c d) (v0 : 0 ≤ v) (v1 : v ≤ 4294967295)
    (hc : w.cell? ⟨pc, oc + (y * W + x).toNat, none⟩ = some (.int .i64 v)) (hf : w.frozen? ⟨pc, oc + (y * W + x).toNat, none⟩ = false) :
    Calls Try.prog 40 #[.pointer (some ⟨bm, 0, none⟩), .int .i64 x, .int .i64 y, C4 a b c d, M4 m0 m1 m2 m3] w (Ret (.bool true) (w.setCell ⟨pc, oc + (y * W + x).toNat, none⟩ (.int .i64 (mixN v a b c d m0 m1 m2 m3)))) := by
  obtain ⟨w0, w1, h0, h1, c0, c1, c2, c3, hn, lbm, lpc, lpz⟩ := h
  have HI := hi
  obtain ⟨x0, x1, y0, y1⟩ := hi
  obtain ⟨q0, q1⟩ := ix_in x0 x1 y0 y1
  obtain ⟨a0, a1⟩ := area_01 w0 w1 h0 h1
  have q3 : 0 ≤ y * W + x := by omega
  have n1 : y * W + x < n := by omega
  have n3 : n ≤ 1048576 := by omega
  have lbm' : bm ≤ w.heap.size := by omega
  have lpc' : pc ≤ w.heap.size := by omega
  have hput : bits .or .i64 (bits .andNot .i64 v (mk m0 m1 m2 m3)) (bits .and .i64 (pk a b c d) (mk m0 m1 m2 m3)) = mixN v a b c d m0 m1 m2 m3 := by
    have := put_bits (up_may v) k m0 m1 m2 m3
    rwa [pk_up v0 v1] at this
  clear hn
  go_enter Try.func40, Try.ntmps40
  go_wp2_with (first | (go_at_call 61; (with_reducible refine (in_yes W H x y bm _ w0 w1 h0 h1 HI ?_ ?_).mono ?_); go_simp; go_simp; rintro _ _ ⟨rfl, rfl⟩))
  refine wp_region_ext (by kernel_rfl) (by kernel_rfl) ?_
  repeat (go_big_quiet_step ((first | (go_at_call 63; with_reducible exact Calls.quiet_ret (bits_any m0 m1 m2 m3 _)))))
  refine wpQuiet_nil ?_
  intro _ hw_ext
  obtain ⟨X, hw_ext⟩ := hw_ext
  subst hw_ext
  go_wp2
  refine wp_region_ext_tail 12 (by kernel_rfl) (by kernel_rfl) ?_
  simp only [List.take_succ_cons, List.take_zero, List.drop_succ_cons, List.drop_zero]
  repeat (go_big_quiet_step ((first | (go_at_call 28; with_reducible exact Calls.quiet_ret (pack_any _ _ _ _ k _)))))
  refine wpQuiet_nil ?_
  intro _ hw_ext
  obtain ⟨Y, hw_ext⟩ := hw_ext
  subst hw_ext
  go_wp2
  go_ret
  exact Ret.of (by (repeat (first | exact Below.refl _ _ | with_reducible refine Below.drew ?_ | with_reducible refine Below.ext ?_ (by first | exact Nat.le_refl _ | (simp; done) | (simp; omega)) _ | with_reducible refine Below.alloc ?_ (by first | exact Nat.le_refl _ | (simp; done) | (simp; omega)) _ | with_reducible refine Below.setCell ?_ (by first | exact Nat.le_refl _ | (simp; done) | (simp; omega)) _)))
set_option maxHeartbeats 4000000 in
theorem rput_in (bm pc pz oc oz cc cz n : Nat) (W H x y : Int) (a b c d v : Int) (m0 m1 m2 m3 : Bool) (w : World) (h : Wr w bm pc pz oc oz cc cz n W H x y) (hi : inB W H x y) (k : May a b c d) (v0 : 0 ≤ v) (v1 : v ≤ 4294967295)
    (hc : w.cell? ⟨pc, oc + (y * W + x).toNat, none⟩ = some (.int .i64 v)) (hf : w.frozen? ⟨pc, oc + (y * W + x).toNat, none⟩ = false) :
    Calls Try.prog 42 #[.pointer (some ⟨bm, 0, none⟩), .int .i64 x, .int .i64 y, C4 a b c d, M4 m0 m1 m2 m3] w (Ret (.bool true) (w.setCell ⟨pc, oc + (y * W + x).toNat, none⟩ (.int .i64 (mixN v a b c d m0 m1 m2 m3)))) := by
  obtain ⟨w0, w1, h0, h1, c0, c1, c2, c3, hn, lbm, lpc, lpz⟩ := h
  have HI := hi
  obtain ⟨x0, x1, y0, y1⟩ := hi
  obtain ⟨q0, q1⟩ := ix_in x0 x1 y0 y1
  obtain ⟨a0, a1⟩ := area_01 w0 w1 h0 h1
  have q3 : 0 ≤ y * W + x := by omega
  have n1 : y * W + x < n := by omega
  have n3 : n ≤ 1048576 := by omega
  have lbm' : bm ≤ w.heap.size := by omega
  have lpc' : pc ≤ w.heap.size := by omega
  have HM := mix_may v a b c d m0 m1 m2 m3 k
  have hmix := fun w => mixed_any (up0 v) (up1 v) (up2 v) (up3 v) a b c d m0 m1 m2 m3 w
  simp only [mixN]
  generalize (if m0 then a else up0 v) = p0 at hmix HM ⊢
  generalize (if m1 then b else up1 v) = p1 at hmix HM ⊢
  generalize (if m2 then c else up2 v) = p2 at hmix HM ⊢
  generalize (if m3 then d else up3 v) = p3 at hmix HM ⊢
  have HX := Lib.hid hmix
  clear hn hmix
  go_enter Try.func42, Try.ntmps42
  go_wp2_with (first | (go_at_call 62; (with_reducible refine (at_yes _ _ _ _ _ _ _ w0 w1 h0 h1 HI).mono ?_); rintro _ _ ⟨rfl, X_, rfl⟩))
  refine wp_region_ext_tail 18 (by kernel_rfl) (by kernel_rfl) ?_
  simp only [List.take_succ_cons, List.take_zero, List.drop_succ_cons, List.drop_zero]
  repeat (go_big_quiet_step ((first | (go_at_call 27; with_reducible exact Calls.quiet_ret (runpack_any v v0 v1 _)) | (go_at_call 64; with_reducible exact Calls.quiet_ret (HX.out _)) | (go_at_call 30; with_reducible exact Calls.quiet_ret (rpack_any _ _ _ _ HM _)))))
  refine wpQuiet_nil ?_
  intro _ hw_ext
  obtain ⟨Y, hw_ext⟩ := hw_ext
  subst hw_ext
  go_wp2
  go_ret
  exact Ret.of (by (repeat (first | exact Below.refl _ _ | with_reducible refine Below.drew ?_ | with_reducible refine Below.ext ?_ (by first | exact Nat.le_refl _ | (simp; done) | (simp; omega)) _ | with_reducible refine Below.alloc ?_ (by first | exact Nat.le_refl _ | (simp; done) | (simp; omega)) _ | with_reducible refine Below.setCell ?_ (by first | exact Nat.le_refl _ | (simp; done) | (simp; omega)) _)))
set_option maxHeartbeats 4000000 in
theorem deep_in (bm pc pz oc oz cc cz n : Nat) (W H x y : Int) (u v : Int) (w : World) (h : Wr w bm pc pz oc oz cc cz n W H x y) (hi : inB W H x y)
    (hc : w.cell? ⟨pz, oz + (y * W + x).toNat, none⟩ = some (.int .i64 v)) (hf : w.frozen? ⟨pz, oz + (y * W + x).toNat, none⟩ = false) :
    Calls Try.prog 41 #[.pointer (some ⟨bm, 0, none⟩), .int .i64 x, .int .i64 y, .int .i64 u] w (Ret (.bool true) (w.setCell ⟨pz, oz + (y * W + x).toNat, none⟩ (.int .i64 u))) := by
  obtain ⟨w0, w1, h0, h1, c0, c1, c2, c3, hn, lbm, lpc, lpz⟩ := h
  have HI := hi
  obtain ⟨x0, x1, y0, y1⟩ := hi
  obtain ⟨q0, q1⟩ := ix_in x0 x1 y0 y1
  obtain ⟨a0, a1⟩ := area_01 w0 w1 h0 h1
  have q3 : 0 ≤ y * W + x := by omega
  have n1 : y * W + x < n := by omega
  have n3 : n ≤ 1048576 := by omega
  have lbm' : bm ≤ w.heap.size := by omega
  have lpc' : pc ≤ w.heap.size := by omega
  clear hn
  go_enter Try.func41, Try.ntmps41
  go_wp2_with (first | (go_at_call 61; (with_reducible refine (in_yes W H x y bm _ w0 w1 h0 h1 HI ?_ ?_).mono ?_); go_simp; go_simp; rintro _ _ ⟨rfl, rfl⟩))
  go_region
  all_goals go_wp2
  all_goals go_ret
  all_goals exact Ret.of (by (repeat (first | exact Below.refl _ _ | with_reducible refine Below.drew ?_ | with_reducible refine Below.ext ?_ (by first | exact Nat.le_refl _ | (simp; done) | (simp; omega)) _ | with_reducible refine Below.alloc ?_ (by first | exact Nat.le_refl _ | (simp; done) | (simp; omega)) _ | with_reducible refine Below.setCell ?_ (by first | exact Nat.le_refl _ | (simp; done) | (simp; omega)) _)))
set_option maxHeartbeats 4000000 in
theorem rdeep_in (bm pc pz oc oz cc cz n : Nat) (W H x y : Int) (u v : Int) (w : World) (h : Wr w bm pc pz oc oz cc cz n W H x y) (hi : inB W H x y)
    (hc : w.cell? ⟨pz, oz + (y * W + x).toNat, none⟩ = some (.int .i64 v)) (hf : w.frozen? ⟨pz, oz + (y * W + x).toNat, none⟩ = false) :
    Calls Try.prog 43 #[.pointer (some ⟨bm, 0, none⟩), .int .i64 x, .int .i64 y, .int .i64 u] w (Ret (.bool true) (w.setCell ⟨pz, oz + (y * W + x).toNat, none⟩ (.int .i64 u))) := by
  obtain ⟨w0, w1, h0, h1, c0, c1, c2, c3, hn, lbm, lpc, lpz⟩ := h
  have HI := hi
  obtain ⟨x0, x1, y0, y1⟩ := hi
  obtain ⟨q0, q1⟩ := ix_in x0 x1 y0 y1
  obtain ⟨a0, a1⟩ := area_01 w0 w1 h0 h1
  have q3 : 0 ≤ y * W + x := by omega
  have n1 : y * W + x < n := by omega
  have n3 : n ≤ 1048576 := by omega
  have lbm' : bm ≤ w.heap.size := by omega
  have lpc' : pc ≤ w.heap.size := by omega
  clear hn
  go_enter Try.func43, Try.ntmps43
  go_wp2_with (first | (go_at_call 62; (with_reducible refine (at_yes _ _ _ _ _ _ _ w0 w1 h0 h1 HI).mono ?_); rintro _ _ ⟨rfl, X_, rfl⟩))
  go_ret
  exact Ret.of (by (repeat (first | exact Below.refl _ _ | with_reducible refine Below.drew ?_ | with_reducible refine Below.ext ?_ (by first | exact Nat.le_refl _ | (simp; done) | (simp; omega)) _ | with_reducible refine Below.alloc ?_ (by first | exact Nat.le_refl _ | (simp; done) | (simp; omega)) _ | with_reducible refine Below.setCell ?_ (by first | exact Nat.le_refl _ | (simp; done) | (simp; omega)) _)))
end Go.Proofs.Ytdbbeggenbhbfaa
