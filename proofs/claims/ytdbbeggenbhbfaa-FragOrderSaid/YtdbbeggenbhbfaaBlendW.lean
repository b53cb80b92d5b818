/- The walks of layer 24 (blend): what each function of the program and of the reference returns. Conditions: numbers of colors from 0 to 255, factors from 0 to 7. -/
import Derived.Test.YtdbbeggenbhbfaaRegion
namespace Go.Proofs.Ytdbbeggenbhbfaa
set_option linter.unusedVariables false
set_option linter.unusedSimpArgs false
open Go.RowKit
/-- A factor. -/
def facv (k si di s3 : Int) : Int := if k = 0 then 0 else if k = 1 then 255 else if k = 2 then si else if k = 3 then 255 - si else if k = 4 then di else if k = 5 then 255 - di else if k = 6 then s3 else 255 - s3
set_option maxHeartbeats 4000000 in
theorem factor_any (k i : Int) (h0 : 0 ≤ k) (h7 : k ≤ 7) (i0 : 0 ≤ i) (i3 : i ≤ 3) (s0 s1 s2 s3 d0 d1 d2 d3 : Int) (hs : May s0 s1 s2 s3) (hd : May d0 d1 d2 d3) (w : World) :
    Calls Try.prog 19 #[.int .i64 k, C4 s0 s1 s2 s3, C4 d0 d1 d2 d3, .int .i64 i] w (Ret (.int .i64 (facv k (get4 s0 s1 s2 s3 i) (get4 d0 d1 d2 d3 i) s3)) w) := by
  have fs := at4 s0 s1 s2 s3 i0 i3
  have fd := at4 d0 d1 d2 d3 i0 i3
  obtain ⟨p1, p2⟩ := hs.get i0 i3
  obtain ⟨p3, p4⟩ := hd.get i0 i3
  obtain ⟨-, -, -, -, -, -, e0, e1⟩ := hs
  clear hd
  rcases cases8 h0 h7 with rfl | rfl | rfl | rfl | rfl | rfl | rfl | rfl
  all_goals
    clear h0 h7
    go_enter Try.func19, Try.ntmps19
    go_wp2
    go_ret
    exact Ret.of' (by simp [facv]) (((Below.refl _ _).alloc (Nat.le_refl _) _).alloc (by simp) _)
set_option maxHeartbeats 4000000 in
theorem rfactor_any (k i : Int) (h0 : 0 ≤ k) (h7 : k ≤ 7) (i0 : 0 ≤ i) (i3 : i ≤ 3) (s0 s1 s2 s3 d0 d1 d2 d3 : Int) (hs : May s0 s1 s2 s3) (hd : May d0 d1 d2 d3) (w : World) :
    Calls Try.prog 20 #[.int .i64 k, C4 s0 s1 s2 s3, C4 d0 d1 d2 d3, .int .i64 i] w (Ret (.int .i64 (facv k (get4 s0 s1 s2 s3 i) (get4 d0 d1 d2 d3 i) s3)) w) := by
  have fs := at4 s0 s1 s2 s3 i0 i3
  have fd := at4 d0 d1 d2 d3 i0 i3
  have ls := at4l s0 s1 s2 s3 i0 i3
  have gs := at4g s0 s1 s2 s3 i0 i3
  have gd := at4g d0 d1 d2 d3 i0 i3
  have ld := at4l d0 d1 d2 d3 i0 i3
  obtain ⟨p1, p2⟩ := hs.get i0 i3
  obtain ⟨p3, p4⟩ := hd.get i0 i3
  obtain ⟨-, -, -, -, -, -, e0, e1⟩ := hs
  clear hd
  have i4 : i < 4 := by omega
  go_enter Try.func20, Try.ntmps20
  go_wp2
  go_region_held3 (fun w' => w'.cell? ⟨w.heap.size, i.toNat, none⟩ = some (.int .i64 (get4 s0 s1 s2 s3 i)) ∧ w'.cell? ⟨w.heap.size, 3, none⟩ = some (.int .i64 s3) ∧ w'.cell? ⟨w.heap.size + 1, i.toNat, none⟩ = some (.int .i64 (get4 d0 d1 d2 d3 i))) (go_simp) ((fail))
  rcases cases8 h0 h7 with rfl | rfl | rfl | rfl | rfl | rfl | rfl | rfl
  all_goals
    go_wp2
    go_ret
    exact Ret.of' (by simp [facv]) (by (repeat (first | exact Below.refl _ _ | with_reducible refine Below.drew ?_ | with_reducible refine Below.ext ?_ (by first | exact Nat.le_refl _ | (simp; done) | (simp; omega)) _ | with_reducible refine Below.alloc ?_ (by first | exact Nat.le_refl _ | (simp; done) | (simp; omega)) _ | with_reducible refine Below.setCell ?_ (by first | exact Nat.le_refl _ | (simp; done) | (simp; omega)) _)))
theorem factor0 (k : Int) (h0 : 0 ≤ k) (h7 : k ≤ 7) (s0 s1 s2 s3 d0 d1 d2 d3 : Int) (hs : May s0 s1 s2 s3) (hd : May d0 d1 d2 d3) (w : World) :
    Calls Try.prog 19 #[.int .i64 k, C4 s0 s1 s2 s3, C4 d0 d1 d2 d3, .int .i64 0] w (Ret (.int .i64 (facv k s0 d0 s3)) w) :=
  factor_any k 0 h0 h7 (by decide) (by decide) s0 s1 s2 s3 d0 d1 d2 d3 hs hd w
theorem factor1 (k : Int) (h0 : 0 ≤ k) (h7 : k ≤ 7) (s0 s1 s2 s3 d0 d1 d2 d3 : Int) (hs : May s0 s1 s2 s3) (hd : May d0 d1 d2 d3) (w : World) :
    Calls Try.prog 19 #[.int .i64 k, C4 s0 s1 s2 s3, C4 d0 d1 d2 d3, .int .i64 1] w (Ret (.int .i64 (facv k s1 d1 s3)) w) :=
  factor_any k 1 h0 h7 (by decide) (by decide) s0 s1 s2 s3 d0 d1 d2 d3 hs hd w
theorem factor2 (k : Int) (h0 : 0 ≤ k) (h7 : k ≤ 7) (s0 s1 s2 s3 d0 d1 d2 d3 : Int) (hs : May s0 s1 s2 s3) (hd : May d0 d1 d2 d3) (w : World) :
    Calls Try.prog 19 #[.int .i64 k, C4 s0 s1 s2 s3, C4 d0 d1 d2 d3, .int .i64 2] w (Ret (.int .i64 (facv k s2 d2 s3)) w) :=
  factor_any k 2 h0 h7 (by decide) (by decide) s0 s1 s2 s3 d0 d1 d2 d3 hs hd w
theorem factor3 (k : Int) (h0 : 0 ≤ k) (h7 : k ≤ 7) (s0 s1 s2 s3 d0 d1 d2 d3 : Int) (hs : May s0 s1 s2 s3) (hd : May d0 d1 d2 d3) (w : World) :
    Calls Try.prog 19 #[.int .i64 k, C4 s0 s1 s2 s3, C4 d0 d1 d2 d3, .int .i64 3] w (Ret (.int .i64 (facv k s3 d3 s3)) w) :=
  factor_any k 3 h0 h7 (by decide) (by decide) s0 s1 s2 s3 d0 d1 d2 d3 hs hd w
theorem rfactor0 (k : Int) (h0 : 0 ≤ k) (h7 : k ≤ 7) (s0 s1 s2 s3 d0 d1 d2 d3 : Int) (hs : May s0 s1 s2 s3) (hd : May d0 d1 d2 d3) (w : World) :
    Calls Try.prog 20 #[.int .i64 k, C4 s0 s1 s2 s3, C4 d0 d1 d2 d3, .int .i64 0] w (Ret (.int .i64 (facv k s0 d0 s3)) w) :=
  rfactor_any k 0 h0 h7 (by decide) (by decide) s0 s1 s2 s3 d0 d1 d2 d3 hs hd w
theorem rfactor1 (k : Int) (h0 : 0 ≤ k) (h7 : k ≤ 7) (s0 s1 s2 s3 d0 d1 d2 d3 : Int) (hs : May s0 s1 s2 s3) (hd : May d0 d1 d2 d3) (w : World) :
    Calls Try.prog 20 #[.int .i64 k, C4 s0 s1 s2 s3, C4 d0 d1 d2 d3, .int .i64 1] w (Ret (.int .i64 (facv k s1 d1 s3)) w) :=
  rfactor_any k 1 h0 h7 (by decide) (by decide) s0 s1 s2 s3 d0 d1 d2 d3 hs hd w
theorem rfactor2 (k : Int) (h0 : 0 ≤ k) (h7 : k ≤ 7) (s0 s1 s2 s3 d0 d1 d2 d3 : Int) (hs : May s0 s1 s2 s3) (hd : May d0 d1 d2 d3) (w : World) :
    Calls Try.prog 20 #[.int .i64 k, C4 s0 s1 s2 s3, C4 d0 d1 d2 d3, .int .i64 2] w (Ret (.int .i64 (facv k s2 d2 s3)) w) :=
  rfactor_any k 2 h0 h7 (by decide) (by decide) s0 s1 s2 s3 d0 d1 d2 d3 hs hd w
theorem rfactor3 (k : Int) (h0 : 0 ≤ k) (h7 : k ≤ 7) (s0 s1 s2 s3 d0 d1 d2 d3 : Int) (hs : May s0 s1 s2 s3) (hd : May d0 d1 d2 d3) (w : World) :
    Calls Try.prog 20 #[.int .i64 k, C4 s0 s1 s2 s3, C4 d0 d1 d2 d3, .int .i64 3] w (Ret (.int .i64 (facv k s3 d3 s3)) w) :=
  rfactor_any k 3 h0 h7 (by decide) (by decide) s0 s1 s2 s3 d0 d1 d2 d3 hs hd w
theorem facv_01 {k s d a : Int} (h0 : 0 ≤ k) (h7 : k ≤ 7) (hs : 0 ≤ s ∧ s ≤ 255) (hd : 0 ≤ d ∧ d ≤ 255) (ha : 0 ≤ a ∧ a ≤ 255) : 0 ≤ facv k s d a ∧ facv k s d a ≤ 255 := by
  rcases cases8 h0 h7 with rfl | rfl | rfl | rfl | rfl | rfl | rfl | rfl <;> simp [facv] <;> omega
theorem mul_01 {x y : Int} (hx : 0 ≤ x ∧ x ≤ 255) (hy : 0 ≤ y ∧ y ≤ 255) : 0 ≤ x * y ∧ x * y ≤ 65025 :=
  ⟨Int.mul_nonneg hx.1 hy.1, Int.le_trans (Int.mul_le_mul hx.2 hy.2 hy.1 (by omega)) (by decide)⟩
/-- A number of two colors together. -/
def blv (k j s d s3 : Int) : Int := min ((s * facv k s d s3 + d * facv j s d s3) / 255) 255
theorem blv_01 {k j s d a : Int} (h0 : 0 ≤ k) (h7 : k ≤ 7) (j0 : 0 ≤ j) (j7 : j ≤ 7) (hs : 0 ≤ s ∧ s ≤ 255) (hd : 0 ≤ d ∧ d ≤ 255) (ha : 0 ≤ a ∧ a ≤ 255) : 0 ≤ blv k j s d a ∧ blv k j s d a ≤ 255 := by
  have h1 := mul_01 hs (facv_01 h0 h7 hs hd ha)
  have h2 := mul_01 hd (facv_01 j0 j7 hs hd ha)
  unfold blv; omega
theorem bl_01 {k j s d a : Int} (h0 : 0 ≤ k) (h7 : k ≤ 7) (j0 : 0 ≤ j) (j7 : j ≤ 7) (hs : 0 ≤ s ∧ s ≤ 255) (hd : 0 ≤ d ∧ d ≤ 255) (ha : 0 ≤ a ∧ a ≤ 255) :
    0 ≤ s * facv k s d a ∧ s * facv k s d a ≤ 65025 ∧ 0 ≤ d * facv j s d a ∧ d * facv j s d a ≤ 65025 :=
  have h1 := mul_01 hs (facv_01 h0 h7 hs hd ha)
  have h2 := mul_01 hd (facv_01 j0 j7 hs hd ha)
  ⟨h1.1, h1.2, h2.1, h2.2⟩
set_option maxHeartbeats 4000000 in
theorem blend_any (k j : Int) (h0 : 0 ≤ k) (h7 : k ≤ 7) (j0 : 0 ≤ j) (j7 : j ≤ 7) (s0 s1 s2 s3 d0 d1 d2 d3 : Int) (hs : May s0 s1 s2 s3) (hd : May d0 d1 d2 d3) (w : World) :
    Calls Try.prog 21 #[C4 s0 s1 s2 s3, C4 d0 d1 d2 d3, .int .i64 k, .int .i64 j] w (Ret (C4 (blv k j s0 d0 s3) (blv k j s1 d1 s3) (blv k j s2 d2 s3) (blv k j s3 d3 s3)) w) := by
  obtain ⟨p1, p2, p3, p4⟩ := bl_01 h0 h7 j0 j7 hs.at0 hd.at0 hs.at3
  obtain ⟨q1, q2, q3, q4⟩ := bl_01 h0 h7 j0 j7 hs.at1 hd.at1 hs.at3
  obtain ⟨r1, r2, r3, r4⟩ := bl_01 h0 h7 j0 j7 hs.at2 hd.at2 hs.at3
  obtain ⟨t1, t2, t3, t4⟩ := bl_01 h0 h7 j0 j7 hs.at3 hd.at3 hs.at3
  go_enter Try.func21, Try.ntmps21
  go_wp2
  refine wp_loop_rounds 5 ?_
  rw [rounds_succ]
  go_wp2
  refine wp_region_ext (by kernel_rfl) (by kernel_rfl) ?_
  repeat (go_big_quiet_step (((go_at_call 19; first | with_reducible exact Calls.quiet_ret (factor0 _ h0 h7 _ _ _ _ _ _ _ _ hs hd _) | with_reducible exact Calls.quiet_ret (factor0 _ j0 j7 _ _ _ _ _ _ _ _ hs hd _)))))
  refine wpQuiet_nil ?_
  intro _ hw_ext
  obtain ⟨X0, hw_ext⟩ := hw_ext
  subst hw_ext
  go_wp2
  rw [rounds_succ]
  go_wp2
  refine wp_region_ext (by kernel_rfl) (by kernel_rfl) ?_
  repeat (go_big_quiet_step (((go_at_call 19; first | with_reducible exact Calls.quiet_ret (factor1 _ h0 h7 _ _ _ _ _ _ _ _ hs hd _) | with_reducible exact Calls.quiet_ret (factor1 _ j0 j7 _ _ _ _ _ _ _ _ hs hd _)))))
  refine wpQuiet_nil ?_
  intro _ hw_ext
  obtain ⟨X1, hw_ext⟩ := hw_ext
  subst hw_ext
  go_wp2
  rw [rounds_succ]
  go_wp2
  refine wp_region_ext (by kernel_rfl) (by kernel_rfl) ?_
  repeat (go_big_quiet_step (((go_at_call 19; first | with_reducible exact Calls.quiet_ret (factor2 _ h0 h7 _ _ _ _ _ _ _ _ hs hd _) | with_reducible exact Calls.quiet_ret (factor2 _ j0 j7 _ _ _ _ _ _ _ _ hs hd _)))))
  refine wpQuiet_nil ?_
  intro _ hw_ext
  obtain ⟨X2, hw_ext⟩ := hw_ext
  subst hw_ext
  go_wp2
  rw [rounds_succ]
  go_wp2
  refine wp_region_ext (by kernel_rfl) (by kernel_rfl) ?_
  repeat (go_big_quiet_step (((go_at_call 19; first | with_reducible exact Calls.quiet_ret (factor3 _ h0 h7 _ _ _ _ _ _ _ _ hs hd _) | with_reducible exact Calls.quiet_ret (factor3 _ j0 j7 _ _ _ _ _ _ _ _ hs hd _)))))
  refine wpQuiet_nil ?_
  intro _ hw_ext
  obtain ⟨X3, hw_ext⟩ := hw_ext
  subst hw_ext
  go_wp2
  rw [rounds_succ]
  go_wp2
  exact bodyPost_ret (v := C4 (blv k j s0 d0 s3) (blv k j s1 d1 s3) (blv k j s2 d2 s3) (blv k j s3 d3 s3)) (by simp [results, Try.results21, go_sem, blv]) rfl (Ret.of (by (repeat (first | exact Below.refl _ _ | with_reducible refine Below.drew ?_ | with_reducible refine Below.ext ?_ (by first | exact Nat.le_refl _ | (simp; done) | (simp; omega)) _ | with_reducible refine Below.alloc ?_ (by first | exact Nat.le_refl _ | (simp; done) | (simp; omega)) _ | with_reducible refine Below.setCell ?_ (by first | exact Nat.le_refl _ | (simp; done) | (simp; omega)) _))))

set_option maxHeartbeats 4000000 in
theorem rblend_any (k j : Int) (h0 : 0 ≤ k) (h7 : k ≤ 7) (j0 : 0 ≤ j) (j7 : j ≤ 7) (s0 s1 s2 s3 d0 d1 d2 d3 : Int) (hs : May s0 s1 s2 s3) (hd : May d0 d1 d2 d3) (w : World) :
    Calls Try.prog 22 #[C4 s0 s1 s2 s3, C4 d0 d1 d2 d3, .int .i64 k, .int .i64 j] w (Ret (C4 (blv k j s0 d0 s3) (blv k j s1 d1 s3) (blv k j s2 d2 s3) (blv k j s3 d3 s3)) w) := by
  obtain ⟨p1, p2, p3, p4⟩ := bl_01 h0 h7 j0 j7 hs.at0 hd.at0 hs.at3
  obtain ⟨q1, q2, q3, q4⟩ := bl_01 h0 h7 j0 j7 hs.at1 hd.at1 hs.at3
  obtain ⟨r1, r2, r3, r4⟩ := bl_01 h0 h7 j0 j7 hs.at2 hd.at2 hs.at3
  obtain ⟨t1, t2, t3, t4⟩ := bl_01 h0 h7 j0 j7 hs.at3 hd.at3 hs.at3
  go_enter Try.func22, Try.ntmps22
  go_wp2
  refine wp_loop_rounds 5 ?_
  rw [rounds_succ]
  go_wp2
  refine wp_region_ext_tail 23 (by kernel_rfl) (by kernel_rfl) ?_
  simp only [List.take_succ_cons, List.take_zero, List.drop_succ_cons, List.drop_zero]
  repeat (go_big_quiet_step (((go_at_call 20; first | with_reducible exact Calls.quiet_ret (rfactor0 _ h0 h7 _ _ _ _ _ _ _ _ hs hd _) | with_reducible exact Calls.quiet_ret (rfactor0 _ j0 j7 _ _ _ _ _ _ _ _ hs hd _)))))
  refine wpQuiet_nil ?_
  intro _ hw_ext
  obtain ⟨X0, hw_ext⟩ := hw_ext
  subst hw_ext
  go_wp2
  rw [rounds_succ]
  go_wp2
  refine wp_region_ext_tail 23 (by kernel_rfl) (by kernel_rfl) ?_
  simp only [List.take_succ_cons, List.take_zero, List.drop_succ_cons, List.drop_zero]
  repeat (go_big_quiet_step (((go_at_call 20; first | with_reducible exact Calls.quiet_ret (rfactor1 _ h0 h7 _ _ _ _ _ _ _ _ hs hd _) | with_reducible exact Calls.quiet_ret (rfactor1 _ j0 j7 _ _ _ _ _ _ _ _ hs hd _)))))
  refine wpQuiet_nil ?_
  intro _ hw_ext
  obtain ⟨X1, hw_ext⟩ := hw_ext
  subst hw_ext
  go_wp2
  rw [rounds_succ]
  go_wp2
  refine wp_region_ext_tail 23 (by kernel_rfl) (by kernel_rfl) ?_
  simp only [List.take_succ_cons, List.take_zero, List.drop_succ_cons, List.drop_zero]
  repeat (go_big_quiet_step (((go_at_call 20; first | with_reducible exact Calls.quiet_ret (rfactor2 _ h0 h7 _ _ _ _ _ _ _ _ hs hd _) | with_reducible exact Calls.quiet_ret (rfactor2 _ j0 j7 _ _ _ _ _ _ _ _ hs hd _)))))
  refine wpQuiet_nil ?_
  intro _ hw_ext
  obtain ⟨X2, hw_ext⟩ := hw_ext
  subst hw_ext
  go_wp2
  rw [rounds_succ]
  go_wp2
  refine wp_region_ext_tail 23 (by kernel_rfl) (by kernel_rfl) ?_
  simp only [List.take_succ_cons, List.take_zero, List.drop_succ_cons, List.drop_zero]
  repeat (go_big_quiet_step (((go_at_call 20; first | with_reducible exact Calls.quiet_ret (rfactor3 _ h0 h7 _ _ _ _ _ _ _ _ hs hd _) | with_reducible exact Calls.quiet_ret (rfactor3 _ j0 j7 _ _ _ _ _ _ _ _ hs hd _)))))
  refine wpQuiet_nil ?_
  intro _ hw_ext
  obtain ⟨X3, hw_ext⟩ := hw_ext
  subst hw_ext
  go_wp2
  rw [rounds_succ]
  go_wp2
  exact bodyPost_ret (v := C4 (blv k j s0 d0 s3) (blv k j s1 d1 s3) (blv k j s2 d2 s3) (blv k j s3 d3 s3)) (by simp [results, Try.results22, go_sem, blv, Int.min_comm 255]) rfl (Ret.of (by (repeat (first | exact Below.refl _ _ | with_reducible refine Below.drew ?_ | with_reducible refine Below.ext ?_ (by first | exact Nat.le_refl _ | (simp; done) | (simp; omega)) _ | with_reducible refine Below.alloc ?_ (by first | exact Nat.le_refl _ | (simp; done) | (simp; omega)) _ | with_reducible refine Below.setCell ?_ (by first | exact Nat.le_refl _ | (simp; done) | (simp; omega)) _))))

/-- A color that covers a number of samples. -/
def cov (d n : Int) : Int := d * n / 64
theorem cov_mul {d n : Int} (hd : 0 ≤ d ∧ d ≤ 255) (h0 : 0 ≤ n) (h1 : n ≤ 64) : 0 ≤ d * n ∧ d * n ≤ 16320 :=
  ⟨Int.mul_nonneg hd.1 h0, Int.le_trans (Int.mul_le_mul hd.2 h1 h0 (by omega)) (by decide)⟩
theorem cov_01 {d n : Int} (hd : 0 ≤ d ∧ d ≤ 255) (h0 : 0 ≤ n) (h1 : n ≤ 64) : 0 ≤ cov d n ∧ cov d n ≤ d := by
  have h2 := cov_mul hd h0 h1
  have h3 : d * n ≤ d * 64 := Int.mul_le_mul_of_nonneg_left h1 hd.1
  unfold cov; omega
theorem shr6 (x : Int) : x >>> 6 = x / 64 := by rw [Int.shiftRight_eq_div_pow]; rfl
set_option maxHeartbeats 1000000 in
theorem cover_any (a b c d n : Int) (hd : 0 ≤ d ∧ d ≤ 255) (h0 : 0 ≤ n) (h1 : n ≤ 64) (w : World) :
    Calls Try.prog 23 #[C4 a b c d, .int .i64 n] w (Ret (C4 a b c (cov d n)) w) := by
  obtain ⟨p1, p2⟩ := cov_mul hd h0 h1
  obtain ⟨q1, q2⟩ := hd
  go_enter Try.func23, Try.ntmps23
  go_wp2
  exact bodyPost_ret (v := C4 a b c (cov d n)) (by simp [results, Try.results23, go_sem, cov]) rfl (Ret.of (by (repeat (first | exact Below.refl _ _ | with_reducible refine Below.drew ?_ | with_reducible refine Below.ext ?_ (by first | exact Nat.le_refl _ | (simp; done) | (simp; omega)) _ | with_reducible refine Below.alloc ?_ (by first | exact Nat.le_refl _ | (simp; done) | (simp; omega)) _ | with_reducible refine Below.setCell ?_ (by first | exact Nat.le_refl _ | (simp; done) | (simp; omega)) _))))
set_option maxHeartbeats 1000000 in
theorem rcover_any (a b c d n : Int) (hd : 0 ≤ d ∧ d ≤ 255) (h0 : 0 ≤ n) (h1 : n ≤ 64) (w : World) :
    Calls Try.prog 24 #[C4 a b c d, .int .i64 n] w (Ret (C4 a b c (cov d n)) w) := by
  obtain ⟨p1, p2⟩ := cov_mul hd h0 h1
  obtain ⟨q1, q2⟩ := hd
  go_enter Try.func24, Try.ntmps24
  go_wp2
  exact bodyPost_ret (v := C4 a b c (cov d n)) (by simp [results, Try.results24, go_sem, cov]) rfl (Ret.of (by (repeat (first | exact Below.refl _ _ | with_reducible refine Below.drew ?_ | with_reducible refine Below.ext ?_ (by first | exact Nat.le_refl _ | (simp; done) | (simp; omega)) _ | with_reducible refine Below.alloc ?_ (by first | exact Nat.le_refl _ | (simp; done) | (simp; omega)) _ | with_reducible refine Below.setCell ?_ (by first | exact Nat.le_refl _ | (simp; done) | (simp; omega)) _))))
set_option maxHeartbeats 1000000 in
theorem may24_yes (a b c d : Int) (h : May a b c d) (w : World) : Calls Try.prog 17 #[C4 a b c d] w (Ret (.bool true) w) := by
  obtain ⟨a0, a1, b0, b1, c0, c1, e0, e1⟩ := h
  go_enter Try.func17, Try.ntmps17
  go_wp2
  refine wp_loop_rounds 5 ?_
  rw [rounds_succ]
  go_wp2
  rw [rounds_succ]
  go_wp2
  rw [rounds_succ]
  go_wp2
  rw [rounds_succ]
  go_wp2
  rw [rounds_succ]
  go_wp2
  go_ret
  exact Ret.of (by (repeat (first | exact Below.refl _ _ | with_reducible refine Below.drew ?_ | with_reducible refine Below.ext ?_ (by first | exact Nat.le_refl _ | (simp; done) | (simp; omega)) _ | with_reducible refine Below.alloc ?_ (by first | exact Nat.le_refl _ | (simp; done) | (simp; omega)) _ | with_reducible refine Below.setCell ?_ (by first | exact Nat.le_refl _ | (simp; done) | (simp; omega)) _)))
set_option maxHeartbeats 4000000 in
theorem may24_no (a b c d : Int) (h : ¬ May a b c d) (w : World) : Calls Try.prog 17 #[C4 a b c d] w (Ret (.bool false) w) := by
  by_cases a0 : 0 ≤ a
  case neg =>
    clear h
    go_enter Try.func17, Try.ntmps17
    go_wp2
    refine wp_loop_rounds 1 ?_
    rw [rounds_succ]
    go_wp2
    go_ret
    exact Ret.of (by (repeat (first | exact Below.refl _ _ | with_reducible refine Below.drew ?_ | with_reducible refine Below.ext ?_ (by first | exact Nat.le_refl _ | (simp; done) | (simp; omega)) _ | with_reducible refine Below.alloc ?_ (by first | exact Nat.le_refl _ | (simp; done) | (simp; omega)) _ | with_reducible refine Below.setCell ?_ (by first | exact Nat.le_refl _ | (simp; done) | (simp; omega)) _)))
  by_cases a1 : a ≤ 255
  case neg =>
    clear h
    go_enter Try.func17, Try.ntmps17
    go_wp2
    refine wp_loop_rounds 1 ?_
    rw [rounds_succ]
    go_wp2
    go_ret
    exact Ret.of (by (repeat (first | exact Below.refl _ _ | with_reducible refine Below.drew ?_ | with_reducible refine Below.ext ?_ (by first | exact Nat.le_refl _ | (simp; done) | (simp; omega)) _ | with_reducible refine Below.alloc ?_ (by first | exact Nat.le_refl _ | (simp; done) | (simp; omega)) _ | with_reducible refine Below.setCell ?_ (by first | exact Nat.le_refl _ | (simp; done) | (simp; omega)) _)))
  by_cases b0 : 0 ≤ b
  case neg =>
    clear h
    go_enter Try.func17, Try.ntmps17
    go_wp2
    refine wp_loop_rounds 2 ?_
    rw [rounds_succ]
    go_wp2
    rw [rounds_succ]
    go_wp2
    go_ret
    exact Ret.of (by (repeat (first | exact Below.refl _ _ | with_reducible refine Below.drew ?_ | with_reducible refine Below.ext ?_ (by first | exact Nat.le_refl _ | (simp; done) | (simp; omega)) _ | with_reducible refine Below.alloc ?_ (by first | exact Nat.le_refl _ | (simp; done) | (simp; omega)) _ | with_reducible refine Below.setCell ?_ (by first | exact Nat.le_refl _ | (simp; done) | (simp; omega)) _)))
  by_cases b1 : b ≤ 255
  case neg =>
    clear h
    go_enter Try.func17, Try.ntmps17
    go_wp2
    refine wp_loop_rounds 2 ?_
    rw [rounds_succ]
    go_wp2
    rw [rounds_succ]
    go_wp2
    go_ret
    exact Ret.of (by (repeat (first | exact Below.refl _ _ | with_reducible refine Below.drew ?_ | with_reducible refine Below.ext ?_ (by first | exact Nat.le_refl _ | (simp; done) | (simp; omega)) _ | with_reducible refine Below.alloc ?_ (by first | exact Nat.le_refl _ | (simp; done) | (simp; omega)) _ | with_reducible refine Below.setCell ?_ (by first | exact Nat.le_refl _ | (simp; done) | (simp; omega)) _)))
  by_cases c0 : 0 ≤ c
  case neg =>
    clear h
    go_enter Try.func17, Try.ntmps17
    go_wp2
    refine wp_loop_rounds 3 ?_
    rw [rounds_succ]
    go_wp2
    rw [rounds_succ]
    go_wp2
    rw [rounds_succ]
    go_wp2
    go_ret
    exact Ret.of (by (repeat (first | exact Below.refl _ _ | with_reducible refine Below.drew ?_ | with_reducible refine Below.ext ?_ (by first | exact Nat.le_refl _ | (simp; done) | (simp; omega)) _ | with_reducible refine Below.alloc ?_ (by first | exact Nat.le_refl _ | (simp; done) | (simp; omega)) _ | with_reducible refine Below.setCell ?_ (by first | exact Nat.le_refl _ | (simp; done) | (simp; omega)) _)))
  by_cases c1 : c ≤ 255
  case neg =>
    clear h
    go_enter Try.func17, Try.ntmps17
    go_wp2
    refine wp_loop_rounds 3 ?_
    rw [rounds_succ]
    go_wp2
    rw [rounds_succ]
    go_wp2
    rw [rounds_succ]
    go_wp2
    go_ret
    exact Ret.of (by (repeat (first | exact Below.refl _ _ | with_reducible refine Below.drew ?_ | with_reducible refine Below.ext ?_ (by first | exact Nat.le_refl _ | (simp; done) | (simp; omega)) _ | with_reducible refine Below.alloc ?_ (by first | exact Nat.le_refl _ | (simp; done) | (simp; omega)) _ | with_reducible refine Below.setCell ?_ (by first | exact Nat.le_refl _ | (simp; done) | (simp; omega)) _)))
  by_cases d0 : 0 ≤ d
  case neg =>
    clear h
    go_enter Try.func17, Try.ntmps17
    go_wp2
    refine wp_loop_rounds 4 ?_
    rw [rounds_succ]
    go_wp2
    rw [rounds_succ]
    go_wp2
    rw [rounds_succ]
    go_wp2
    rw [rounds_succ]
    go_wp2
    go_ret
    exact Ret.of (by (repeat (first | exact Below.refl _ _ | with_reducible refine Below.drew ?_ | with_reducible refine Below.ext ?_ (by first | exact Nat.le_refl _ | (simp; done) | (simp; omega)) _ | with_reducible refine Below.alloc ?_ (by first | exact Nat.le_refl _ | (simp; done) | (simp; omega)) _ | with_reducible refine Below.setCell ?_ (by first | exact Nat.le_refl _ | (simp; done) | (simp; omega)) _)))
  by_cases d1 : d ≤ 255
  case neg =>
    clear h
    go_enter Try.func17, Try.ntmps17
    go_wp2
    refine wp_loop_rounds 4 ?_
    rw [rounds_succ]
    go_wp2
    rw [rounds_succ]
    go_wp2
    rw [rounds_succ]
    go_wp2
    rw [rounds_succ]
    go_wp2
    go_ret
    exact Ret.of (by (repeat (first | exact Below.refl _ _ | with_reducible refine Below.drew ?_ | with_reducible refine Below.ext ?_ (by first | exact Nat.le_refl _ | (simp; done) | (simp; omega)) _ | with_reducible refine Below.alloc ?_ (by first | exact Nat.le_refl _ | (simp; done) | (simp; omega)) _ | with_reducible refine Below.setCell ?_ (by first | exact Nat.le_refl _ | (simp; done) | (simp; omega)) _)))
  exact absurd ⟨a0, a1, b0, b1, c0, c1, d0, d1⟩ h
theorem mayLit (a b c d : Int) (h : (0 ≤ a ∧ a ≤ 255) ∧ (0 ≤ b ∧ b ≤ 255) ∧ (0 ≤ c ∧ c ≤ 255) ∧ 0 ≤ d ∧ d ≤ 255 := by decide) : May a b c d :=
  ⟨h.1.1, h.1.2, h.2.1.1, h.2.1.2, h.2.2.1.1, h.2.2.1.2, h.2.2.2.1, h.2.2.2.2⟩
set_option maxHeartbeats 1000000 in
theorem awake24 (w : World) : Calls Try.prog 18 #[] w (Ret (.bool true) w) := by
  have m1 := mayLit 200 0 0 0
  have m2 := mayLit 100 0 0 9
  have H1 := Lib.hid m1
  have H2 := Lib.hid m2
  clear m1 m2
  go_enter Try.func18, Try.ntmps18
  go_wp2_with (first | (go_at_call 21; (with_reducible refine (blend_any 1 1 (by decide) (by decide) (by decide) (by decide) _ _ _ _ _ _ _ _ H1.out H2.out _).mono ?_); rintro _ _ ⟨rfl, X_, rfl⟩) | (go_at_call 21; (with_reducible refine (blend_any 6 7 (by decide) (by decide) (by decide) (by decide) _ _ _ _ _ _ _ _ H1.out H2.out _).mono ?_); rintro _ _ ⟨rfl, X_, rfl⟩) | (go_at_call 23; (with_reducible refine (cover_any _ _ _ _ _ (by decide) (by decide) (by decide) _).mono ?_); rintro _ _ ⟨rfl, X_, rfl⟩))
  go_ret
  exact Ret.of (by (repeat (first | exact Below.refl _ _ | with_reducible refine Below.drew ?_ | with_reducible refine Below.ext ?_ (by first | exact Nat.le_refl _ | (simp; done) | (simp; omega)) _ | with_reducible refine Below.alloc ?_ (by first | exact Nat.le_refl _ | (simp; done) | (simp; omega)) _ | with_reducible refine Below.setCell ?_ (by first | exact Nat.le_refl _ | (simp; done) | (simp; omega)) _)))
end Go.Proofs.Ytdbbeggenbhbfaa
