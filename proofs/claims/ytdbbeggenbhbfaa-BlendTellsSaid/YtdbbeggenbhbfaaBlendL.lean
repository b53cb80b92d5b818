/- The laws of layer 24 (blend): each returns true at every input. No condition. -/
import Derived.Test.YtdbbeggenbhbfaaBlendW
namespace Go.Proofs.Ytdbbeggenbhbfaa
set_option linter.unusedVariables false
set_option linter.unusedSimpArgs false
open Go.RowKit
set_option maxHeartbeats 4000000 in
theorem tells_in (s0 s1 s2 s3 d0 d1 d2 d3 k0 k1 k2 : Int) (hs : May s0 s1 s2 s3) (hd : May d0 d1 d2 d3) (a0 : 0 ≤ k0) (a1 : k0 ≤ 255) (b0 : 0 ≤ k1) (b1 : k1 ≤ 255) (c0 : 0 ≤ k2) (c1 : k2 ≤ 255) (w : World) :
    Calls Try.prog 3 #[C4 s0 s1 s2 s3, C4 d0 d1 d2 d3, .agg #[.int .u8 k0, .int .u8 k1, .int .u8 k2]] w (Ret (.bool true) w) := by
  have p0 : 0 ≤ k0 % 8 := by omega
  have p7 : k0 % 8 ≤ 7 := by omega
  have q0 : 0 ≤ k1 % 8 := by omega
  have q7 : k1 % 8 ≤ 7 := by omega
  have r0 : 0 ≤ k2 % 65 := by omega
  have r7 : k2 % 65 ≤ 64 := by omega
  go_enter Try.func3, Try.ntmps3
  go_wp2_with (first | (go_at_call 17; (with_reducible refine (may24_yes _ _ _ _ hs _).mono ?_); rintro _ _ ⟨rfl, X_, rfl⟩) | (go_at_call 17; (with_reducible refine (may24_yes _ _ _ _ hd _).mono ?_); rintro _ _ ⟨rfl, X_, rfl⟩))
  refine wp_region_ext (by kernel_rfl) (by kernel_rfl) ?_
  repeat (go_big_quiet_step ((fail)))
  refine wpQuiet_nil ?_
  intro _ hw_ext
  obtain ⟨X0, hw_ext⟩ := hw_ext
  subst hw_ext
  go_wp2
  refine wp_loop_rounds 5 ?_
  rw [rounds_succ]
  go_wp2
  refine wp_region_ext (by kernel_rfl) (by kernel_rfl) ?_
  repeat (go_big_quiet_step ((first | (go_at_call 19; with_reducible exact Calls.quiet_ret (factor0 _ p0 p7 _ _ _ _ _ _ _ _ hs hd _)) | (go_at_call 20; with_reducible exact Calls.quiet_ret (rfactor0 _ p0 p7 _ _ _ _ _ _ _ _ hs hd _)))))
  refine wpQuiet_nil ?_
  intro _ hw_ext
  obtain ⟨Y0, hw_ext⟩ := hw_ext
  subst hw_ext
  go_wp2
  rw [rounds_succ]
  go_wp2
  refine wp_region_ext (by kernel_rfl) (by kernel_rfl) ?_
  repeat (go_big_quiet_step ((first | (go_at_call 19; with_reducible exact Calls.quiet_ret (factor1 _ p0 p7 _ _ _ _ _ _ _ _ hs hd _)) | (go_at_call 20; with_reducible exact Calls.quiet_ret (rfactor1 _ p0 p7 _ _ _ _ _ _ _ _ hs hd _)))))
  refine wpQuiet_nil ?_
  intro _ hw_ext
  obtain ⟨Y1, hw_ext⟩ := hw_ext
  subst hw_ext
  go_wp2
  rw [rounds_succ]
  go_wp2
  refine wp_region_ext (by kernel_rfl) (by kernel_rfl) ?_
  repeat (go_big_quiet_step ((first | (go_at_call 19; with_reducible exact Calls.quiet_ret (factor2 _ p0 p7 _ _ _ _ _ _ _ _ hs hd _)) | (go_at_call 20; with_reducible exact Calls.quiet_ret (rfactor2 _ p0 p7 _ _ _ _ _ _ _ _ hs hd _)))))
  refine wpQuiet_nil ?_
  intro _ hw_ext
  obtain ⟨Y2, hw_ext⟩ := hw_ext
  subst hw_ext
  go_wp2
  rw [rounds_succ]
  go_wp2
  refine wp_region_ext (by kernel_rfl) (by kernel_rfl) ?_
  repeat (go_big_quiet_step ((first | (go_at_call 19; with_reducible exact Calls.quiet_ret (factor3 _ p0 p7 _ _ _ _ _ _ _ _ hs hd _)) | (go_at_call 20; with_reducible exact Calls.quiet_ret (rfactor3 _ p0 p7 _ _ _ _ _ _ _ _ hs hd _)))))
  refine wpQuiet_nil ?_
  intro _ hw_ext
  obtain ⟨Y3, hw_ext⟩ := hw_ext
  subst hw_ext
  go_wp2
  rw [rounds_succ]
  go_wp2
  refine wp_region_ext (by kernel_rfl) (by kernel_rfl) ?_
  repeat (go_big_quiet_step ((first | (go_at_call 18; with_reducible exact Calls.quiet_ret (awake24 _)) | (go_at_call 21; with_reducible exact Calls.quiet_ret (blend_any _ _ p0 p7 q0 q7 _ _ _ _ _ _ _ _ hs hd _)) | (go_at_call 22; with_reducible exact Calls.quiet_ret (rblend_any _ _ p0 p7 q0 q7 _ _ _ _ _ _ _ _ hs hd _)) | (go_at_call 23; with_reducible exact Calls.quiet_ret (cover_any _ _ _ _ _ hs.at3 r0 r7 _)) | (go_at_call 24; with_reducible exact Calls.quiet_ret (rcover_any _ _ _ _ _ hs.at3 r0 r7 _)))))
  refine wpQuiet_nil ?_
  intro _ hw_ext
  obtain ⟨Y4, hw_ext⟩ := hw_ext
  subst hw_ext
  go_wp2
  go_ret
  exact Ret.of' (by simp) (by (repeat (first | exact Below.refl _ _ | with_reducible refine Below.drew ?_ | with_reducible refine Below.ext ?_ (by first | exact Nat.le_refl _ | (simp; done) | (simp; omega)) _ | with_reducible refine Below.alloc ?_ (by first | exact Nat.le_refl _ | (simp; done) | (simp; omega)) _ | with_reducible refine Below.setCell ?_ (by first | exact Nat.le_refl _ | (simp; done) | (simp; omega)) _)))
set_option maxHeartbeats 1000000 in
theorem blendtells_out1 (s0 s1 s2 s3 d0 d1 d2 d3 : Int) (k0 k1 k2 : Int) (hs : ¬ May s0 s1 s2 s3) (w : World) : Calls Try.prog 3 #[C4 s0 s1 s2 s3, C4 d0 d1 d2 d3, .agg #[.int .u8 k0, .int .u8 k1, .int .u8 k2]] w (Ret (.bool true) w) := by
  go_enter Try.func3, Try.ntmps3
  go_wp2_with (first | (go_at_call 17; (with_reducible refine (may24_no _ _ _ _ hs _).mono ?_); rintro _ _ ⟨rfl, X_, rfl⟩) | (go_at_call 18; (with_reducible refine (awake24 _).mono ?_); rintro _ _ ⟨rfl, X_, rfl⟩))
  go_ret
  exact Ret.of (by (repeat (first | exact Below.refl _ _ | with_reducible refine Below.drew ?_ | with_reducible refine Below.ext ?_ (by first | exact Nat.le_refl _ | (simp; done) | (simp; omega)) _ | with_reducible refine Below.alloc ?_ (by first | exact Nat.le_refl _ | (simp; done) | (simp; omega)) _ | with_reducible refine Below.setCell ?_ (by first | exact Nat.le_refl _ | (simp; done) | (simp; omega)) _)))
set_option maxHeartbeats 1000000 in
theorem blendtells_out2 (s0 s1 s2 s3 d0 d1 d2 d3 : Int) (k0 k1 k2 : Int) (hs : May s0 s1 s2 s3) (hd : ¬ May d0 d1 d2 d3) (w : World) : Calls Try.prog 3 #[C4 s0 s1 s2 s3, C4 d0 d1 d2 d3, .agg #[.int .u8 k0, .int .u8 k1, .int .u8 k2]] w (Ret (.bool true) w) := by
  go_enter Try.func3, Try.ntmps3
  go_wp2_with (first | (go_at_call 17; (with_reducible refine (may24_yes _ _ _ _ hs _).mono ?_); rintro _ _ ⟨rfl, X_, rfl⟩) | (go_at_call 17; (with_reducible refine (may24_no _ _ _ _ hd _).mono ?_); rintro _ _ ⟨rfl, X_, rfl⟩) | (go_at_call 18; (with_reducible refine (awake24 _).mono ?_); rintro _ _ ⟨rfl, X_, rfl⟩))
  go_ret
  exact Ret.of (by (repeat (first | exact Below.refl _ _ | with_reducible refine Below.drew ?_ | with_reducible refine Below.ext ?_ (by first | exact Nat.le_refl _ | (simp; done) | (simp; omega)) _ | with_reducible refine Below.alloc ?_ (by first | exact Nat.le_refl _ | (simp; done) | (simp; omega)) _ | with_reducible refine Below.setCell ?_ (by first | exact Nat.le_refl _ | (simp; done) | (simp; omega)) _)))
set_option maxHeartbeats 1000000 in
theorem blendends_out1 (s0 s1 s2 s3 d0 d1 d2 d3 : Int) (hs : ¬ May s0 s1 s2 s3) (w : World) : Calls Try.prog 4 #[C4 s0 s1 s2 s3, C4 d0 d1 d2 d3] w (Ret (.bool true) w) := by
  go_enter Try.func4, Try.ntmps4
  go_wp2_with (first | (go_at_call 17; (with_reducible refine (may24_no _ _ _ _ hs _).mono ?_); rintro _ _ ⟨rfl, X_, rfl⟩) | (go_at_call 18; (with_reducible refine (awake24 _).mono ?_); rintro _ _ ⟨rfl, X_, rfl⟩))
  go_ret
  exact Ret.of (by (repeat (first | exact Below.refl _ _ | with_reducible refine Below.drew ?_ | with_reducible refine Below.ext ?_ (by first | exact Nat.le_refl _ | (simp; done) | (simp; omega)) _ | with_reducible refine Below.alloc ?_ (by first | exact Nat.le_refl _ | (simp; done) | (simp; omega)) _ | with_reducible refine Below.setCell ?_ (by first | exact Nat.le_refl _ | (simp; done) | (simp; omega)) _)))
set_option maxHeartbeats 1000000 in
theorem blendends_out2 (s0 s1 s2 s3 d0 d1 d2 d3 : Int) (hs : May s0 s1 s2 s3) (hd : ¬ May d0 d1 d2 d3) (w : World) : Calls Try.prog 4 #[C4 s0 s1 s2 s3, C4 d0 d1 d2 d3] w (Ret (.bool true) w) := by
  go_enter Try.func4, Try.ntmps4
  go_wp2_with (first | (go_at_call 17; (with_reducible refine (may24_yes _ _ _ _ hs _).mono ?_); rintro _ _ ⟨rfl, X_, rfl⟩) | (go_at_call 17; (with_reducible refine (may24_no _ _ _ _ hd _).mono ?_); rintro _ _ ⟨rfl, X_, rfl⟩) | (go_at_call 18; (with_reducible refine (awake24 _).mono ?_); rintro _ _ ⟨rfl, X_, rfl⟩))
  go_ret
  exact Ret.of (by (repeat (first | exact Below.refl _ _ | with_reducible refine Below.drew ?_ | with_reducible refine Below.ext ?_ (by first | exact Nat.le_refl _ | (simp; done) | (simp; omega)) _ | with_reducible refine Below.alloc ?_ (by first | exact Nat.le_refl _ | (simp; done) | (simp; omega)) _ | with_reducible refine Below.setCell ?_ (by first | exact Nat.le_refl _ | (simp; done) | (simp; omega)) _)))
set_option maxHeartbeats 1000000 in
theorem blendbetween_out1 (s0 s1 s2 s3 d0 d1 d2 d3 : Int) (hs : ¬ May s0 s1 s2 s3) (w : World) : Calls Try.prog 5 #[C4 s0 s1 s2 s3, C4 d0 d1 d2 d3] w (Ret (.bool true) w) := by
  go_enter Try.func5, Try.ntmps5
  go_wp2_with (first | (go_at_call 17; (with_reducible refine (may24_no _ _ _ _ hs _).mono ?_); rintro _ _ ⟨rfl, X_, rfl⟩) | (go_at_call 18; (with_reducible refine (awake24 _).mono ?_); rintro _ _ ⟨rfl, X_, rfl⟩))
  go_ret
  exact Ret.of (by (repeat (first | exact Below.refl _ _ | with_reducible refine Below.drew ?_ | with_reducible refine Below.ext ?_ (by first | exact Nat.le_refl _ | (simp; done) | (simp; omega)) _ | with_reducible refine Below.alloc ?_ (by first | exact Nat.le_refl _ | (simp; done) | (simp; omega)) _ | with_reducible refine Below.setCell ?_ (by first | exact Nat.le_refl _ | (simp; done) | (simp; omega)) _)))
set_option maxHeartbeats 1000000 in
theorem blendbetween_out2 (s0 s1 s2 s3 d0 d1 d2 d3 : Int) (hs : May s0 s1 s2 s3) (hd : ¬ May d0 d1 d2 d3) (w : World) : Calls Try.prog 5 #[C4 s0 s1 s2 s3, C4 d0 d1 d2 d3] w (Ret (.bool true) w) := by
  go_enter Try.func5, Try.ntmps5
  go_wp2_with (first | (go_at_call 17; (with_reducible refine (may24_yes _ _ _ _ hs _).mono ?_); rintro _ _ ⟨rfl, X_, rfl⟩) | (go_at_call 17; (with_reducible refine (may24_no _ _ _ _ hd _).mono ?_); rintro _ _ ⟨rfl, X_, rfl⟩) | (go_at_call 18; (with_reducible refine (awake24 _).mono ?_); rintro _ _ ⟨rfl, X_, rfl⟩))
  go_ret
  exact Ret.of (by (repeat (first | exact Below.refl _ _ | with_reducible refine Below.drew ?_ | with_reducible refine Below.ext ?_ (by first | exact Nat.le_refl _ | (simp; done) | (simp; omega)) _ | with_reducible refine Below.alloc ?_ (by first | exact Nat.le_refl _ | (simp; done) | (simp; omega)) _ | with_reducible refine Below.setCell ?_ (by first | exact Nat.le_refl _ | (simp; done) | (simp; omega)) _)))
theorem blv_11 {s d a : Int} (hs : 0 ≤ s ∧ s ≤ 255) (hd : 0 ≤ d ∧ d ≤ 255) : blv 1 1 s d a = min 255 (s + d) := by simp [blv, facv]; omega
theorem blv_10 {s d a : Int} (hs : 0 ≤ s ∧ s ≤ 255) (hd : 0 ≤ d ∧ d ≤ 255) : blv 1 0 s d a = s := by simp [blv, facv]; omega
theorem blv_01' {s d a : Int} (hs : 0 ≤ s ∧ s ≤ 255) (hd : 0 ≤ d ∧ d ≤ 255) : blv 0 1 s d a = d := by simp [blv, facv]; omega
theorem blv_00 {s d a : Int} : blv 0 0 s d a = 0 := by simp [blv, facv]; omega
theorem blend_11 (s0 s1 s2 s3 d0 d1 d2 d3 : Int) (hs : May s0 s1 s2 s3) (hd : May d0 d1 d2 d3) (w : World) :
    Calls Try.prog 21 #[C4 s0 s1 s2 s3, C4 d0 d1 d2 d3, .int .i64 1, .int .i64 1] w (Ret (C4 (min 255 (s0 + d0)) (min 255 (s1 + d1)) (min 255 (s2 + d2)) (min 255 (s3 + d3))) w) := by
  have h := blend_any 1 1 (by decide) (by decide) (by decide) (by decide) _ _ _ _ _ _ _ _ hs hd w
  rwa [blv_11 hs.at0 hd.at0, blv_11 hs.at1 hd.at1, blv_11 hs.at2 hd.at2, blv_11 hs.at3 hd.at3] at h
theorem blend_10 (s0 s1 s2 s3 d0 d1 d2 d3 : Int) (hs : May s0 s1 s2 s3) (hd : May d0 d1 d2 d3) (w : World) :
    Calls Try.prog 21 #[C4 s0 s1 s2 s3, C4 d0 d1 d2 d3, .int .i64 1, .int .i64 0] w (Ret (C4 s0 s1 s2 s3) w) := by
  have h := blend_any 1 0 (by decide) (by decide) (by decide) (by decide) _ _ _ _ _ _ _ _ hs hd w
  rwa [blv_10 hs.at0 hd.at0, blv_10 hs.at1 hd.at1, blv_10 hs.at2 hd.at2, blv_10 hs.at3 hd.at3] at h
theorem blend_01 (s0 s1 s2 s3 d0 d1 d2 d3 : Int) (hs : May s0 s1 s2 s3) (hd : May d0 d1 d2 d3) (w : World) :
    Calls Try.prog 21 #[C4 s0 s1 s2 s3, C4 d0 d1 d2 d3, .int .i64 0, .int .i64 1] w (Ret (C4 d0 d1 d2 d3) w) := by
  have h := blend_any 0 1 (by decide) (by decide) (by decide) (by decide) _ _ _ _ _ _ _ _ hs hd w
  rwa [blv_01' hs.at0 hd.at0, blv_01' hs.at1 hd.at1, blv_01' hs.at2 hd.at2, blv_01' hs.at3 hd.at3] at h
theorem blend_00 (s0 s1 s2 s3 d0 d1 d2 d3 : Int) (hs : May s0 s1 s2 s3) (hd : May d0 d1 d2 d3) (w : World) :
    Calls Try.prog 21 #[C4 s0 s1 s2 s3, C4 d0 d1 d2 d3, .int .i64 0, .int .i64 0] w (Ret (C4 0 0 0 0) w) := by
  have h := blend_any 0 0 (by decide) (by decide) (by decide) (by decide) _ _ _ _ _ _ _ _ hs hd w
  rwa [blv_00, blv_00, blv_00, blv_00] at h
set_option maxHeartbeats 4000000 in
theorem ends_in (s0 s1 s2 s3 d0 d1 d2 d3 : Int) (hs : May s0 s1 s2 s3) (hd : May d0 d1 d2 d3) (w : World) :
    Calls Try.prog 4 #[C4 s0 s1 s2 s3, C4 d0 d1 d2 d3] w (Ret (.bool true) w) := by
  obtain ⟨a0, a1, b0, b1, c0, c1, e0, e1⟩ := id hs
  obtain ⟨a0', a1', b0', b1', c0', c1', e0', e1'⟩ := id hd
  have HS := Lib.hid hs
  have HD := Lib.hid hd
  clear hs hd
  go_enter Try.func4, Try.ntmps4
  go_wp2_with (first | (go_at_call 17; (with_reducible refine (may24_yes _ _ _ _ HS.out _).mono ?_); rintro _ _ ⟨rfl, X_, rfl⟩) | (go_at_call 17; (with_reducible refine (may24_yes _ _ _ _ HD.out _).mono ?_); rintro _ _ ⟨rfl, X_, rfl⟩) | (go_at_call 21; (with_reducible refine (blend_11 _ _ _ _ _ _ _ _ HS.out HD.out _).mono ?_); rintro _ _ ⟨rfl, X_, rfl⟩))
  refine wp_loop_rounds 5 ?_
  rw [rounds_succ]
  go_wp2
  refine wp_region_ext (by kernel_rfl) (by kernel_rfl) ?_
  repeat (go_big_quiet_step ((fail)))
  refine wpQuiet_nil ?_
  intro _ hw_ext
  obtain ⟨Y0, hw_ext⟩ := hw_ext
  subst hw_ext
  go_wp2
  rw [rounds_succ]
  go_wp2
  refine wp_region_ext (by kernel_rfl) (by kernel_rfl) ?_
  repeat (go_big_quiet_step ((fail)))
  refine wpQuiet_nil ?_
  intro _ hw_ext
  obtain ⟨Y1, hw_ext⟩ := hw_ext
  subst hw_ext
  go_wp2
  rw [rounds_succ]
  go_wp2
  refine wp_region_ext (by kernel_rfl) (by kernel_rfl) ?_
  repeat (go_big_quiet_step ((fail)))
  refine wpQuiet_nil ?_
  intro _ hw_ext
  obtain ⟨Y2, hw_ext⟩ := hw_ext
  subst hw_ext
  go_wp2
  rw [rounds_succ]
  go_wp2
  refine wp_region_ext (by kernel_rfl) (by kernel_rfl) ?_
  repeat (go_big_quiet_step ((fail)))
  refine wpQuiet_nil ?_
  intro _ hw_ext
  obtain ⟨Y3, hw_ext⟩ := hw_ext
  subst hw_ext
  go_wp2
  rw [rounds_succ]
  go_wp2
  refine wp_region_ext (by kernel_rfl) (by kernel_rfl) ?_
  repeat (go_big_quiet_step ((first | (go_at_call 18; with_reducible exact Calls.quiet_ret (awake24 _)) | (go_at_call 21; with_reducible exact Calls.quiet_ret (blend_10 _ _ _ _ _ _ _ _ HS.out HD.out _)) | (go_at_call 21; with_reducible exact Calls.quiet_ret (blend_01 _ _ _ _ _ _ _ _ HS.out HD.out _)) | (go_at_call 21; with_reducible exact Calls.quiet_ret (blend_00 _ _ _ _ _ _ _ _ HS.out HD.out _)))))
  refine wpQuiet_nil ?_
  intro _ hw_ext
  obtain ⟨Y4, hw_ext⟩ := hw_ext
  subst hw_ext
  go_wp2
  go_ret
  exact Ret.of' (by simp) (by (repeat (first | exact Below.refl _ _ | with_reducible refine Below.drew ?_ | with_reducible refine Below.ext ?_ (by first | exact Nat.le_refl _ | (simp; done) | (simp; omega)) _ | with_reducible refine Below.alloc ?_ (by first | exact Nat.le_refl _ | (simp; done) | (simp; omega)) _ | with_reducible refine Below.setCell ?_ (by first | exact Nat.le_refl _ | (simp; done) | (simp; omega)) _)))
/-- Between. -/
theorem mix_67 {s d a : Int} (hs : 0 ≤ s ∧ s ≤ 255) (hd : 0 ≤ d ∧ d ≤ 255) (ha : 0 ≤ a ∧ a ≤ 255) :
    min s d ≤ blv 6 7 s d a ∧ blv 6 7 s d a ≤ max s d := by
  have h1 : min s d * a ≤ s * a := Int.mul_le_mul_of_nonneg_right (by omega) ha.1
  have h2 : min s d * (255 - a) ≤ d * (255 - a) := Int.mul_le_mul_of_nonneg_right (by omega) (by omega)
  have h3 : s * a ≤ max s d * a := Int.mul_le_mul_of_nonneg_right (by omega) ha.1
  have h4 : d * (255 - a) ≤ max s d * (255 - a) := Int.mul_le_mul_of_nonneg_right (by omega) (by omega)
  have e1 : min s d * a + min s d * (255 - a) = min s d * 255 := by rw [← Int.mul_add]; congr 1; omega
  have e2 : max s d * a + max s d * (255 - a) = max s d * 255 := by rw [← Int.mul_add]; congr 1; omega
  simp only [blv, facv]
  simp
  omega
theorem blv_67s {s d : Int} (hs : 0 ≤ s ∧ s ≤ 255) : blv 6 7 s d 255 = s := by simp [blv, facv]; omega
theorem blv_67d {s d : Int} (hd : 0 ≤ d ∧ d ≤ 255) : blv 6 7 s d 0 = d := by simp [blv, facv]; omega
/-- The walk over what Blend gives by 6 and 7, each number between. -/
def Bet (s d x : Int) : Prop := min s d ≤ x ∧ x ≤ max s d
set_option maxHeartbeats 4000000 in
theorem between_in (s0 s1 s2 s3 d0 d1 d2 d3 x0 x1 x2 x3 : Int) (hs : May s0 s1 s2 s3) (hd : May d0 d1 d2 d3) (q0 : Bet s0 d0 x0) (q1 : Bet s1 d1 x1) (q2 : Bet s2 d2 x2) (q3 : Bet s3 d3 x3)
    (hl : (¬ s3 = 255 ∧ ¬ s3 = 0) ∨ (s3 = 255 ∧ x0 = s0 ∧ x1 = s1 ∧ x2 = s2 ∧ x3 = s3) ∨ (s3 = 0 ∧ x0 = d0 ∧ x1 = d1 ∧ x2 = d2 ∧ x3 = d3))
    (hb : ∀ w, Calls Try.prog 21 #[C4 s0 s1 s2 s3, C4 d0 d1 d2 d3, .int .i64 6, .int .i64 7] w (Ret (C4 x0 x1 x2 x3) w)) (w : World) :
    Calls Try.prog 5 #[C4 s0 s1 s2 s3, C4 d0 d1 d2 d3] w (Ret (.bool true) w) := by
  have l0 : decide (x0 < min s0 d0) = false := by have := q0.1; simp; omega
  have h0 : decide (max s0 d0 < x0) = false := by have := q0.2; simp; omega
  have l1 : decide (x1 < min s1 d1) = false := by have := q1.1; simp; omega
  have h1 : decide (max s1 d1 < x1) = false := by have := q1.2; simp; omega
  have l2 : decide (x2 < min s2 d2) = false := by have := q2.1; simp; omega
  have h2 : decide (max s2 d2 < x2) = false := by have := q2.2; simp; omega
  have l3 : decide (x3 < min s3 d3) = false := by have := q3.1; simp; omega
  have h3 : decide (max s3 d3 < x3) = false := by have := q3.2; simp; omega
  clear q0 q1 q2 q3
  have HS := Lib.hid hs
  have HD := Lib.hid hd
  have HB := Lib.hid hb
  clear hs hd hb
  have HL := Lib.hid hl
  clear hl
  go_enter Try.func5, Try.ntmps5
  go_wp2_with (first | (go_at_call 17; (with_reducible refine (may24_yes _ _ _ _ HS.out _).mono ?_); rintro _ _ ⟨rfl, X_, rfl⟩) | (go_at_call 17; (with_reducible refine (may24_yes _ _ _ _ HD.out _).mono ?_); rintro _ _ ⟨rfl, X_, rfl⟩) | (go_at_call 21; (with_reducible refine (HB.out _).mono ?_); rintro _ _ ⟨rfl, X_, rfl⟩))
  refine wp_loop_rounds 5 ?_
  rw [rounds_succ]
  go_wp2
  refine wp_region_ext (by kernel_rfl) (by kernel_rfl) ?_
  repeat (go_big_quiet_step ((fail)))
  refine wpQuiet_nil ?_
  intro _ hw_ext
  obtain ⟨Y0, hw_ext⟩ := hw_ext
  subst hw_ext
  go_wp2
  rw [rounds_succ]
  go_wp2
  refine wp_region_ext (by kernel_rfl) (by kernel_rfl) ?_
  repeat (go_big_quiet_step ((fail)))
  refine wpQuiet_nil ?_
  intro _ hw_ext
  obtain ⟨Y1, hw_ext⟩ := hw_ext
  subst hw_ext
  go_wp2
  rw [rounds_succ]
  go_wp2
  refine wp_region_ext (by kernel_rfl) (by kernel_rfl) ?_
  repeat (go_big_quiet_step ((fail)))
  refine wpQuiet_nil ?_
  intro _ hw_ext
  obtain ⟨Y2, hw_ext⟩ := hw_ext
  subst hw_ext
  go_wp2
  rw [rounds_succ]
  go_wp2
  refine wp_region_ext (by kernel_rfl) (by kernel_rfl) ?_
  repeat (go_big_quiet_step ((fail)))
  refine wpQuiet_nil ?_
  intro _ hw_ext
  obtain ⟨Y3, hw_ext⟩ := hw_ext
  subst hw_ext
  go_wp2
  rw [rounds_succ]
  have HL2 := HL.out
  clear l0 h0 l1 h1 l2 h2 l3 h3 HL
  rcases HL2 with ⟨hl, hr⟩ | ⟨rfl, rfl, rfl, rfl, rfl⟩ | ⟨rfl, rfl, rfl, rfl, rfl⟩
  · have u1 : (s3 != 255) = true := by simpa using hl
    have u2 : (s3 != 0) = true := by simpa using hr
    have u3 : (s3 == 255) = false := by simpa using hl
    have u4 : (s3 == 0) = false := by simpa using hr
    go_wp2_with (first | (go_at_call 18; (with_reducible refine (awake24 _).mono ?_); rintro _ _ ⟨rfl, X_, rfl⟩))
    go_ret
    exact Ret.of' (by simp) (by (repeat (first | exact Below.refl _ _ | with_reducible refine Below.drew ?_ | with_reducible refine Below.ext ?_ (by first | exact Nat.le_refl _ | (simp; done) | (simp; omega)) _ | with_reducible refine Below.alloc ?_ (by first | exact Nat.le_refl _ | (simp; done) | (simp; omega)) _ | with_reducible refine Below.setCell ?_ (by first | exact Nat.le_refl _ | (simp; done) | (simp; omega)) _)))
  · go_wp2_with (first | (go_at_call 18; (with_reducible refine (awake24 _).mono ?_); rintro _ _ ⟨rfl, X_, rfl⟩))
    go_ret
    exact Ret.of' (by simp) (by (repeat (first | exact Below.refl _ _ | with_reducible refine Below.drew ?_ | with_reducible refine Below.ext ?_ (by first | exact Nat.le_refl _ | (simp; done) | (simp; omega)) _ | with_reducible refine Below.alloc ?_ (by first | exact Nat.le_refl _ | (simp; done) | (simp; omega)) _ | with_reducible refine Below.setCell ?_ (by first | exact Nat.le_refl _ | (simp; done) | (simp; omega)) _)))
  · go_wp2_with (first | (go_at_call 18; (with_reducible refine (awake24 _).mono ?_); rintro _ _ ⟨rfl, X_, rfl⟩))
    go_ret
    exact Ret.of' (by simp) (by (repeat (first | exact Below.refl _ _ | with_reducible refine Below.drew ?_ | with_reducible refine Below.ext ?_ (by first | exact Nat.le_refl _ | (simp; done) | (simp; omega)) _ | with_reducible refine Below.alloc ?_ (by first | exact Nat.le_refl _ | (simp; done) | (simp; omega)) _ | with_reducible refine Below.setCell ?_ (by first | exact Nat.le_refl _ | (simp; done) | (simp; omega)) _)))
end Go.Proofs.Ytdbbeggenbhbfaa
