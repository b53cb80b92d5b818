/- The walk of the reference of layer 21: what stands at a pixel. Conditions: bounds of places. -/
import Derived.Test.YtciooaihobnifaaGreatSlopeH
import Derived.Test.YtciooaihobnifaaGreatPTriA
namespace Go.Proofs.YtciooaihobnifaaGreat
set_option linter.unusedVariables false
set_option linter.unusedSimpArgs false
open Go.RowKit
attribute [local go_sem ↓] Go.wp_at_zero Go.wp_at_succ
theorem mid_turned2 (x y : Int) : midP x y = ⟨256 * x + 128, 256 * y + 128, 0, 0, 0, 0, 0⟩ := by simp only [midP, Int.mul_comm]
set_option maxRecDepth 100000 in
set_option maxHeartbeats 8000000 in
theorem rat21_any (a b c : WinP) (x y : Int) (ha : a.fits) (hb : b.fits) (hc : c.fits) (hx : Near x y) (h : ar a b c ≠ 0) (w : World) :
    Calls Tryz.prog 100 #[a.v, b.v, c.v, .int .i64 x, .int .i64 y] w (Ret (atT a (triB a b c) (triC a b c) (triN a b c) x y) w) := by
  have A := Lib.hid (fun w => rarea_any a b c (nigh3 ha hb hc) w)
  obtain ⟨n1, n2⟩ := tri_pos ha hb hc h
  obtain ⟨fb, fc⟩ := triB_fits (a := a) hb hc
  have eB : triB a b c = if ar a b c < 0 then c else b := rfl
  have eC : triC a b c = if ar a b c < 0 then b else c := rfl
  have eN : triN a b c = if ar a b c < 0 then - ar a b c else ar a b c := rfl
  have ab := (nigh3 ha hb hc).ar
  obtain ⟨m, hm⟩ : ∃ m, ar a b c = m := ⟨_, rfl⟩
  rw [hm] at A eB eC eN ab h
  unfold atT
  generalize triN a b c = n at *
  obtain ⟨B, hB⟩ : ∃ B, triB a b c = B := ⟨_, rfl⟩
  obtain ⟨C, hC⟩ : ∃ C, triC a b c = C := ⟨_, rfl⟩
  rw [hB] at fb eB ⊢
  rw [hC] at fc eC ⊢
  clear hB hC hm
  obtain ⟨a0, a1, a2, a3⟩ := fits_c ha
  obtain ⟨b0, b1, b2, b3⟩ := fits_c fb
  obtain ⟨c0, c1, c2, c3⟩ := fits_c fc
  have R1 := fun w => rarea_any (midP x y) B C (nigh1 fb fc hx) w
  have R2 := fun w => rarea_any a (midP x y) C (nigh2 ha fc hx) w
  have R3 := fun w => rarea_any a B (midP x y) (nigh3m ha fb hx) w
  have s1 := sml_of (nigh1 fb fc hx).ar
  have s2 := sml_of (nigh2 ha fc hx).ar
  have s3 := sml_of (nigh3m ha fb hx).ar
  unfold sW
  obtain ⟨u, hu⟩ : ∃ u, ar (midP x y) B C = u := ⟨_, rfl⟩
  obtain ⟨v, hv⟩ : ∃ u, ar a (midP x y) C = u := ⟨_, rfl⟩
  obtain ⟨t, ht⟩ : ∃ u, ar a B (midP x y) = u := ⟨_, rfl⟩
  simp only [hu, hv, ht] at R1 R2 R3 s1 s2 s3 ⊢
  simp only [mid_turned2] at R1 R2 R3
  have H1 := Lib.hid R1
  have H2 := Lib.hid R2
  have H3 := Lib.hid R3
  have S0 := Lib.hid (fun w => rsum21_any u v t a.z B.z C.z n s1 s2 s3 (fits_z ha) (fits_z fb) (fits_z fc) n1 (by unfold sml; omega) w)
  have S1 := Lib.hid (fun w => rsum21_any u v t a.c0 B.c0 C.c0 n s1 s2 s3 a0 b0 c0 n1 (by unfold sml; omega) w)
  have S2 := Lib.hid (fun w => rsum21_any u v t a.c1 B.c1 C.c1 n s1 s2 s3 a1 b1 c1 n1 (by unfold sml; omega) w)
  have S3 := Lib.hid (fun w => rsum21_any u v t a.c2 B.c2 C.c2 n s1 s2 s3 a2 b2 c2 n1 (by unfold sml; omega) w)
  have S4 := Lib.hid (fun w => rsum21_any u v t a.c3 B.c3 C.c3 n s1 s2 s3 a3 b3 c3 n1 (by unfold sml; omega) w)
  unfold dot3 at S0 S1 S2 S3 S4
  generalize smlV ((u * a.z + v * B.z + t * C.z) / n) = v0 at *
  generalize smlV ((u * a.c0 + v * B.c0 + t * C.c0) / n) = v1 at *
  generalize smlV ((u * a.c1 + v * B.c1 + t * C.c1) / n) = v2 at *
  generalize smlV ((u * a.c2 + v * B.c2 + t * C.c2) / n) = v3 at *
  generalize smlV ((u * a.c3 + v * B.c3 + t * C.c3) / n) = v4 at *
  obtain ⟨x0, x1, y0, y1⟩ := hx
  obtain ⟨ab0, ab1⟩ := ab
  clear R1 R2 R3 hu hv ht s1 s2 s3 a0 a1 a2 a3 b0 b1 b2 b3 c0 c1 c2 c3 ha hb hc fb fc n1 n2
  by_cases h0 : m < 0
  · rw [if_pos h0] at eB eC eN
    subst eB eC eN
    go_enter Tryz.func100, Tryz.ntmps100
    go_upto_region 6 with (first | (go_at_call 72; (with_reducible refine (A.out _).mono ?_); rintro _ _ ⟨rfl, XA, rfl⟩))
    refine wp_region_mix (by kernel_rfl) ?_
    repeat (first | (refine mix_skip rfl ?_; simp only [List.nil_append, List.cons_append]) | (refine mix_ncheck rfl rfl rfl ?_; simp only [Act.put, List.setIfInBounds_toArray, List.set_cons_zero, List.set_cons_succ, List.nil_append, List.cons_append]) | (refine mix_calm rfl rfl ?_; intro K_ hK_; go_big_quiet_op; go_big_quiet_on; simp only [List.nil_append, List.cons_append]) | (refine mix_alloc rfl rfl Tryz.zeroValue184 ?_; simp only [List.nil_append, List.cons_append]) | (refine mix_fill 13 rfl rfl rfl rfl (by simp [Value.oneCell']) (by kernel_rfl) (by simp) rfl rfl rfl rfl ?_; simp only [List.nil_append, List.cons_append]) | (apply mix_call rfl; (intro X_; go_simp; go_at_call 72; with_reducible exact Calls.calm_ret (H1.out _)); simp only [Act.put, List.setIfInBounds_toArray, List.set_cons_zero, List.set_cons_succ, List.nil_append, List.cons_append]) | (apply mix_call rfl; (intro X_; go_simp; go_at_call 72; with_reducible exact Calls.calm_ret (H2.out _)); simp only [Act.put, List.setIfInBounds_toArray, List.set_cons_zero, List.set_cons_succ, List.nil_append, List.cons_append]) | (apply mix_call rfl; (intro X_; go_simp; go_at_call 72; with_reducible exact Calls.calm_ret (H3.out _)); simp only [Act.put, List.setIfInBounds_toArray, List.set_cons_zero, List.set_cons_succ, List.nil_append, List.cons_append]))
    refine mix_nil (mix_end1 13 14 ⟨by kernel_rfl, by kernel_rfl⟩ rfl rfl rfl rfl rfl (by kernel_rfl) ?_)
    intro X q h1
    have c_h1 := h1.cell
    have f_h1 := h1.frozen
    have g_h1 := h1.gap
    have b_h1 := Lib.hid h1.block
    simp only [World.size_ext, World.size_alloc, World.size_drew, World.size_setCell] at g_h1
    have d_h1 := h1.cellD
    have e_h1 := h1.frozenD
    simp only [World.size_ext, World.size_alloc, World.size_drew, World.size_setCell] at d_h1 e_h1
    clear h1
    simp only [Act.put, List.setIfInBounds_toArray, List.set_cons_zero, List.set_cons_succ, ptr]
    go_wp2
    have rq := (show Row _ q #[.int .i64 u, .int .i64 v, .int .i64 t] 184 from b_h1.out)
    have gq := g_h1.1
    have gq2 := g_h1.2
    refine wp_abs (F := fun w1 => ∃ D, D = w.heap.size + 1 + 1 + 1 + 1 + XA.sz + 1 + X.sz ∧ (w.heap.size + 4 ≤ q ∧ q < D ∧ w.heap.size + 4 ≤ D) ∧ Row w1 q #[.int .i64 u, .int .i64 v, .int .i64 t] 184 ∧ Row w1 w.heap.size #[.int .i64 a.x, .int .i64 a.y, .int .i64 a.z, .int .i64 a.c0, .int .i64 a.c1, .int .i64 a.c2, .int .i64 a.c3] 41 ∧ Row w1 (w.heap.size + 1) #[.int .i64 B.x, .int .i64 B.y, .int .i64 B.z, .int .i64 B.c0, .int .i64 B.c1, .int .i64 B.c2, .int .i64 B.c3] 41 ∧ Row w1 (w.heap.size + 1 + 1) #[.int .i64 C.x, .int .i64 C.y, .int .i64 C.z, .int .i64 C.c0, .int .i64 C.c1, .int .i64 C.c2, .int .i64 C.c3] 41 ∧ Row w1 D #[.int .i64 0, .int .i64 0, .int .i64 0, .int .i64 0] 39 ∧ Row w1 (w.heap.size + 1 + 1 + 1) #[.int .i64 0, .int .i64 0, .int .i64 0, .int .i64 0] 39 ∧ ∃ X, w1 = w.ext X) ⟨_, rfl, by omega, by (repeat (first | assumption | with_reducible refine Row.ext ?_ _ | with_reducible refine row_drew ?_ | (with_reducible refine row_last ?_; first | rfl | (simp; done)) | with_reducible refine Row.alloc ?_ _)), by (repeat (first | assumption | with_reducible refine Row.ext ?_ _ | with_reducible refine row_drew ?_ | (with_reducible refine row_last ?_; first | rfl | (simp; done)) | with_reducible refine Row.alloc ?_ _)), by (repeat (first | assumption | with_reducible refine Row.ext ?_ _ | with_reducible refine row_drew ?_ | (with_reducible refine row_last ?_; first | rfl | (simp; done)) | with_reducible refine Row.alloc ?_ _)), by (repeat (first | assumption | with_reducible refine Row.ext ?_ _ | with_reducible refine row_drew ?_ | (with_reducible refine row_last ?_; first | rfl | (simp; done)) | with_reducible refine Row.alloc ?_ _)), by (repeat (first | assumption | with_reducible refine Row.ext ?_ _ | with_reducible refine row_drew ?_ | (with_reducible refine row_last ?_; first | rfl | (simp; done)) | with_reducible refine Row.alloc ?_ _)), by (repeat (first | assumption | with_reducible refine Row.ext ?_ _ | with_reducible refine row_drew ?_ | (with_reducible refine row_last ?_; first | rfl | (simp; done)) | with_reducible refine Row.alloc ?_ _)), RowKit.Below.toExt (by (repeat (first | exact Below.refl _ _ | with_reducible refine Below.drew ?_ | with_reducible refine Below.ext ?_ (by first | exact Nat.le_refl _ | (simp; done) | (simp; omega)) _ | with_reducible refine Below.alloc ?_ (by first | exact Nat.le_refl _ | (simp; done) | (simp; omega)) _ | with_reducible refine Below.setCell ?_ (by first | exact Nat.le_refl _ | (simp; done) | (simp; omega)) _)))⟩ ?_
    clear c_h1 f_h1 d_h1 e_h1 g_h1 b_h1 rq gq gq2
    rintro w1 ⟨D, hD, ⟨q0, q1, q2⟩, r1, r2, r3, r4, r5, r6, hX⟩
    rw [← hD]
    have HX := Lib.hid hX
    have R6 := Lib.hid r6
    have x1 := r1.cell
    have x2 := r1.frozen
    have x3 := r1.lt
    have y1 := r2.cell
    have y2 := r2.frozen
    have y3 := r2.lt
    have z1 := r3.cell
    have z2 := r3.frozen
    have z3 := r3.lt
    have p1 := r4.cell
    have p2 := r4.frozen
    have p3 := r4.lt
    have k1 := r5.cell
    have k2 := r5.frozen
    have k3 := r5.lt
    have j1 := r6.cell
    have j2 := r6.frozen
    have j3 := r6.lt
    have e1 : ¬ q = D := by omega
    have e2 : ¬ w.heap.size = D := by omega
    have e3 : ¬ w.heap.size + 1 = D := by omega
    have e4 : ¬ w.heap.size + 1 + 1 = D := by omega
    have e5 : ¬ w.heap.size + 1 + 1 + 1 = D := by omega
    have e6 : ¬ D = w.heap.size + 1 + 1 + 1 := by omega
    clear hD hX r1 r2 r3 r4 r5 r6
    refine wp_loop_rounds 5 ?_
    iterate 4
      rw [rounds_succ]; go_wp2
      refine wp_region_ext_tail 18 (by kernel_rfl) (by kernel_rfl) ?_
      simp only [List.take_succ_cons, List.take_zero, List.drop_succ_cons, List.drop_zero]
      repeat (go_big_quiet_step ((first | (go_at_call 167; with_reducible exact Calls.quiet_ret (S1.out _)) | (go_at_call 167; with_reducible exact Calls.quiet_ret (S2.out _)) | (go_at_call 167; with_reducible exact Calls.quiet_ret (S3.out _)) | (go_at_call 167; with_reducible exact Calls.quiet_ret (S4.out _)))))
      refine wpQuiet_nil ?_
      intro _ hw_ext
      obtain ⟨X, hw_ext⟩ := hw_ext
      subst hw_ext
      go_wp2
      try simp only [World.ext_ext]
      generalize Xt.mk _ _ = Y
    rw [rounds_succ]; go_wp2
    refine wp_region_ext_tail 12 (by kernel_rfl) (by kernel_rfl) ?_
    simp only [List.take_succ_cons, List.take_zero, List.drop_succ_cons, List.drop_zero]
    repeat (go_big_quiet_step ((first | (go_at_call 167; with_reducible exact Calls.quiet_ret (S0.out _)))))
    refine wpQuiet_nil ?_
    intro _ hw_ext
    obtain ⟨X, hw_ext⟩ := hw_ext
    subst hw_ext
    go_wp2
    refine body_abs2 (F := fun w9 => Row w9 (w.heap.size + 1 + 1 + 1) #[.int .i64 v1, .int .i64 v2, .int .i64 v3, .int .i64 v4] 39 ∧ ∃ X, w9 = w.ext X) ⟨?_, ?_⟩ ?_
    · have R5 := (((((((R6.out.other e5 0 (.int .i64 v1)).other e5 1 (.int .i64 v2)).other e5 2 (.int .i64 v3)).other e5 3 (.int .i64 v4)).set 0 (.int .i64 v1)).set 1 (.int .i64 v2)).set 2 (.int .i64 v3)).set 3 (.int .i64 v4)
      simp only [List.setIfInBounds_toArray, List.set_cons_zero, List.set_cons_succ] at R5
      (repeat (first | with_reducible assumption | with_reducible refine Row.ext ?_ _ | with_reducible refine row_drew ?_ | (with_reducible refine row_last ?_; first | rfl | (simp; done)) | with_reducible refine Row.alloc ?_ _ | with_reducible refine Row.other ?_ (by first | omega | (simp; omega)) _ _))
    · obtain ⟨X0, hX0⟩ := HX.out
      subst hX0
      exact RowKit.Below.toExt (by (repeat (first | with_reducible assumption | with_reducible exact Below.refl _ _ | with_reducible refine Below.drew ?_ | with_reducible refine Below.ext ?_ (by first | exact Nat.le_refl _ | omega | (simp; done) | (simp; omega)) _ | with_reducible refine Below.alloc ?_ (by first | exact Nat.le_refl _ | omega | (simp; done) | (simp; omega)) _ | with_reducible refine Below.setCell ?_ (by first | exact Nat.le_refl _ | omega | (simp; done) | (simp; omega)) _)))
    rintro w9 ⟨r9, X8, rfl⟩
    have c9 := r9.cell
    refine bodyPost_ret (v := .tuple #[.int .i64 v0, C4 v1 v2 v3 v4]) (by simp [results, Tryz.results100, go_sem, c9]) rfl (Ret.of (by (repeat (first | exact Below.refl _ _ | with_reducible refine Below.drew ?_ | with_reducible refine Below.ext ?_ (by first | exact Nat.le_refl _ | (simp; done) | (simp; omega)) _ | with_reducible refine Below.alloc ?_ (by first | exact Nat.le_refl _ | (simp; done) | (simp; omega)) _ | with_reducible refine Below.setCell ?_ (by first | exact Nat.le_refl _ | (simp; done) | (simp; omega)) _))))
  · rw [if_neg h0] at eB eC eN
    subst eB eC eN
    go_enter Tryz.func100, Tryz.ntmps100
    go_upto_region 6 with (first | (go_at_call 72; (with_reducible refine (A.out _).mono ?_); rintro _ _ ⟨rfl, XA, rfl⟩))
    refine wp_region_mix (by kernel_rfl) ?_
    repeat (first | (refine mix_skip rfl ?_; simp only [List.nil_append, List.cons_append]) | (refine mix_ncheck rfl rfl rfl ?_; simp only [Act.put, List.setIfInBounds_toArray, List.set_cons_zero, List.set_cons_succ, List.nil_append, List.cons_append]) | (refine mix_calm rfl rfl ?_; intro K_ hK_; go_big_quiet_op; go_big_quiet_on; simp only [List.nil_append, List.cons_append]) | (refine mix_alloc rfl rfl Tryz.zeroValue184 ?_; simp only [List.nil_append, List.cons_append]) | (refine mix_fill 13 rfl rfl rfl rfl (by simp [Value.oneCell']) (by kernel_rfl) (by simp) rfl rfl rfl rfl ?_; simp only [List.nil_append, List.cons_append]) | (apply mix_call rfl; (intro X_; go_simp; go_at_call 72; with_reducible exact Calls.calm_ret (H1.out _)); simp only [Act.put, List.setIfInBounds_toArray, List.set_cons_zero, List.set_cons_succ, List.nil_append, List.cons_append]) | (apply mix_call rfl; (intro X_; go_simp; go_at_call 72; with_reducible exact Calls.calm_ret (H2.out _)); simp only [Act.put, List.setIfInBounds_toArray, List.set_cons_zero, List.set_cons_succ, List.nil_append, List.cons_append]) | (apply mix_call rfl; (intro X_; go_simp; go_at_call 72; with_reducible exact Calls.calm_ret (H3.out _)); simp only [Act.put, List.setIfInBounds_toArray, List.set_cons_zero, List.set_cons_succ, List.nil_append, List.cons_append]))
    refine mix_nil (mix_end1 13 14 ⟨by kernel_rfl, by kernel_rfl⟩ rfl rfl rfl rfl rfl (by kernel_rfl) ?_)
    intro X q h1
    have c_h1 := h1.cell
    have f_h1 := h1.frozen
    have g_h1 := h1.gap
    have b_h1 := Lib.hid h1.block
    simp only [World.size_ext, World.size_alloc, World.size_drew, World.size_setCell] at g_h1
    have d_h1 := h1.cellD
    have e_h1 := h1.frozenD
    simp only [World.size_ext, World.size_alloc, World.size_drew, World.size_setCell] at d_h1 e_h1
    clear h1
    simp only [Act.put, List.setIfInBounds_toArray, List.set_cons_zero, List.set_cons_succ, ptr]
    go_wp2
    have rq := (show Row _ q #[.int .i64 u, .int .i64 v, .int .i64 t] 184 from b_h1.out)
    have gq := g_h1.1
    have gq2 := g_h1.2
    refine wp_abs (F := fun w1 => ∃ D, D = w.heap.size + 1 + 1 + 1 + 1 + XA.sz + 1 + X.sz ∧ (w.heap.size + 4 ≤ q ∧ q < D ∧ w.heap.size + 4 ≤ D) ∧ Row w1 q #[.int .i64 u, .int .i64 v, .int .i64 t] 184 ∧ Row w1 w.heap.size #[.int .i64 a.x, .int .i64 a.y, .int .i64 a.z, .int .i64 a.c0, .int .i64 a.c1, .int .i64 a.c2, .int .i64 a.c3] 41 ∧ Row w1 (w.heap.size + 1) #[.int .i64 B.x, .int .i64 B.y, .int .i64 B.z, .int .i64 B.c0, .int .i64 B.c1, .int .i64 B.c2, .int .i64 B.c3] 41 ∧ Row w1 (w.heap.size + 1 + 1) #[.int .i64 C.x, .int .i64 C.y, .int .i64 C.z, .int .i64 C.c0, .int .i64 C.c1, .int .i64 C.c2, .int .i64 C.c3] 41 ∧ Row w1 D #[.int .i64 0, .int .i64 0, .int .i64 0, .int .i64 0] 39 ∧ Row w1 (w.heap.size + 1 + 1 + 1) #[.int .i64 0, .int .i64 0, .int .i64 0, .int .i64 0] 39 ∧ ∃ X, w1 = w.ext X) ⟨_, rfl, by omega, by (repeat (first | assumption | with_reducible refine Row.ext ?_ _ | with_reducible refine row_drew ?_ | (with_reducible refine row_last ?_; first | rfl | (simp; done)) | with_reducible refine Row.alloc ?_ _)), by (repeat (first | assumption | with_reducible refine Row.ext ?_ _ | with_reducible refine row_drew ?_ | (with_reducible refine row_last ?_; first | rfl | (simp; done)) | with_reducible refine Row.alloc ?_ _)), by (repeat (first | assumption | with_reducible refine Row.ext ?_ _ | with_reducible refine row_drew ?_ | (with_reducible refine row_last ?_; first | rfl | (simp; done)) | with_reducible refine Row.alloc ?_ _)), by (repeat (first | assumption | with_reducible refine Row.ext ?_ _ | with_reducible refine row_drew ?_ | (with_reducible refine row_last ?_; first | rfl | (simp; done)) | with_reducible refine Row.alloc ?_ _)), by (repeat (first | assumption | with_reducible refine Row.ext ?_ _ | with_reducible refine row_drew ?_ | (with_reducible refine row_last ?_; first | rfl | (simp; done)) | with_reducible refine Row.alloc ?_ _)), by (repeat (first | assumption | with_reducible refine Row.ext ?_ _ | with_reducible refine row_drew ?_ | (with_reducible refine row_last ?_; first | rfl | (simp; done)) | with_reducible refine Row.alloc ?_ _)), RowKit.Below.toExt (by (repeat (first | exact Below.refl _ _ | with_reducible refine Below.drew ?_ | with_reducible refine Below.ext ?_ (by first | exact Nat.le_refl _ | (simp; done) | (simp; omega)) _ | with_reducible refine Below.alloc ?_ (by first | exact Nat.le_refl _ | (simp; done) | (simp; omega)) _ | with_reducible refine Below.setCell ?_ (by first | exact Nat.le_refl _ | (simp; done) | (simp; omega)) _)))⟩ ?_
    clear c_h1 f_h1 d_h1 e_h1 g_h1 b_h1 rq gq gq2
    rintro w1 ⟨D, hD, ⟨q0, q1, q2⟩, r1, r2, r3, r4, r5, r6, hX⟩
    rw [← hD]
    have HX := Lib.hid hX
    have R6 := Lib.hid r6
    have x1 := r1.cell
    have x2 := r1.frozen
    have x3 := r1.lt
    have y1 := r2.cell
    have y2 := r2.frozen
    have y3 := r2.lt
    have z1 := r3.cell
    have z2 := r3.frozen
    have z3 := r3.lt
    have p1 := r4.cell
    have p2 := r4.frozen
    have p3 := r4.lt
    have k1 := r5.cell
    have k2 := r5.frozen
    have k3 := r5.lt
    have j1 := r6.cell
    have j2 := r6.frozen
    have j3 := r6.lt
    have e1 : ¬ q = D := by omega
    have e2 : ¬ w.heap.size = D := by omega
    have e3 : ¬ w.heap.size + 1 = D := by omega
    have e4 : ¬ w.heap.size + 1 + 1 = D := by omega
    have e5 : ¬ w.heap.size + 1 + 1 + 1 = D := by omega
    have e6 : ¬ D = w.heap.size + 1 + 1 + 1 := by omega
    clear hD hX r1 r2 r3 r4 r5 r6
    refine wp_loop_rounds 5 ?_
    iterate 4
      rw [rounds_succ]; go_wp2
      refine wp_region_ext_tail 18 (by kernel_rfl) (by kernel_rfl) ?_
      simp only [List.take_succ_cons, List.take_zero, List.drop_succ_cons, List.drop_zero]
      repeat (go_big_quiet_step ((first | (go_at_call 167; with_reducible exact Calls.quiet_ret (S1.out _)) | (go_at_call 167; with_reducible exact Calls.quiet_ret (S2.out _)) | (go_at_call 167; with_reducible exact Calls.quiet_ret (S3.out _)) | (go_at_call 167; with_reducible exact Calls.quiet_ret (S4.out _)))))
      refine wpQuiet_nil ?_
      intro _ hw_ext
      obtain ⟨X, hw_ext⟩ := hw_ext
      subst hw_ext
      go_wp2
      try simp only [World.ext_ext]
      generalize Xt.mk _ _ = Y
    rw [rounds_succ]; go_wp2
    refine wp_region_ext_tail 12 (by kernel_rfl) (by kernel_rfl) ?_
    simp only [List.take_succ_cons, List.take_zero, List.drop_succ_cons, List.drop_zero]
    repeat (go_big_quiet_step ((first | (go_at_call 167; with_reducible exact Calls.quiet_ret (S0.out _)))))
    refine wpQuiet_nil ?_
    intro _ hw_ext
    obtain ⟨X, hw_ext⟩ := hw_ext
    subst hw_ext
    go_wp2
    refine body_abs2 (F := fun w9 => Row w9 (w.heap.size + 1 + 1 + 1) #[.int .i64 v1, .int .i64 v2, .int .i64 v3, .int .i64 v4] 39 ∧ ∃ X, w9 = w.ext X) ⟨?_, ?_⟩ ?_
    · have R5 := (((((((R6.out.other e5 0 (.int .i64 v1)).other e5 1 (.int .i64 v2)).other e5 2 (.int .i64 v3)).other e5 3 (.int .i64 v4)).set 0 (.int .i64 v1)).set 1 (.int .i64 v2)).set 2 (.int .i64 v3)).set 3 (.int .i64 v4)
      simp only [List.setIfInBounds_toArray, List.set_cons_zero, List.set_cons_succ] at R5
      (repeat (first | with_reducible assumption | with_reducible refine Row.ext ?_ _ | with_reducible refine row_drew ?_ | (with_reducible refine row_last ?_; first | rfl | (simp; done)) | with_reducible refine Row.alloc ?_ _ | with_reducible refine Row.other ?_ (by first | omega | (simp; omega)) _ _))
    · obtain ⟨X0, hX0⟩ := HX.out
      subst hX0
      exact RowKit.Below.toExt (by (repeat (first | with_reducible assumption | with_reducible exact Below.refl _ _ | with_reducible refine Below.drew ?_ | with_reducible refine Below.ext ?_ (by first | exact Nat.le_refl _ | omega | (simp; done) | (simp; omega)) _ | with_reducible refine Below.alloc ?_ (by first | exact Nat.le_refl _ | omega | (simp; done) | (simp; omega)) _ | with_reducible refine Below.setCell ?_ (by first | exact Nat.le_refl _ | omega | (simp; done) | (simp; omega)) _)))
    rintro w9 ⟨r9, X8, rfl⟩
    have c9 := r9.cell
    refine bodyPost_ret (v := .tuple #[.int .i64 v0, C4 v1 v2 v3 v4]) (by simp [results, Tryz.results100, go_sem, c9]) rfl (Ret.of (by (repeat (first | exact Below.refl _ _ | with_reducible refine Below.drew ?_ | with_reducible refine Below.ext ?_ (by first | exact Nat.le_refl _ | (simp; done) | (simp; omega)) _ | with_reducible refine Below.alloc ?_ (by first | exact Nat.le_refl _ | (simp; done) | (simp; omega)) _ | with_reducible refine Below.setCell ?_ (by first | exact Nat.le_refl _ | (simp; done) | (simp; omega)) _))))
end Go.Proofs.YtciooaihobnifaaGreat
