/- SmoothMoves: whatever the input, the law returns true and leaves its arguments as they read. No condition. -/
import Derived.Test.YtamfjfnceeagiaaSmoK
import Derived.Test.YtamfjfnceeagiaaSpanG
import Derived.Test.YtamfjfnceeagiaaESmoothMoves
import Derived.BigRegion
namespace Go.Proofs.Ytamfjfnceeagiaa
set_option linter.unusedVariables false
set_option linter.unusedSimpArgs false
open Go.RowKit
set_option maxRecDepth 100000 in
set_option maxHeartbeats 4000000 in
theorem moves18_no (a b : WinP) (n x0 y0 x1 y1 d0 d1 : Int) (h : ¬ rightP x0 y0 x1 y1 ∨ 600 < areaP x0 y0 x1 y1 ∨ 63 < n) (w : World) : Calls Try.prog 10 #[lineV a b n x0 y0 x1 y1, .agg #[.int .i8 d0, .int .i8 d1]] w (Ret (.bool true) w) := by
  have R := fun w => rrect_right x0 y0 x1 y1 w
  have A := Lib.hid (fun w => rrect_area x0 y0 x1 y1 w)
  by_cases hr : rightP x0 y0 x1 y1
  · simp only [hr, decide_true] at R
    have h1 := h.resolve_left fun k => k hr
    generalize areaP x0 y0 x1 y1 = ar at *
    have HR := Lib.hid R
    clear R hr h
    by_cases c : 600 < ar
    · clear h1
      go_enter Try.func10, Try.ntmps10
      go_wp2_with (first | (go_at_call 35; (with_reducible refine (HR.out _).mono ?_); rintro _ _ ⟨rfl, X_, rfl⟩) | (go_at_call 36; (with_reducible refine (A.out _).mono ?_); rintro _ _ ⟨rfl, X_, rfl⟩) | (go_at_call 27; (with_reducible refine (awake18 _).mono ?_); rintro _ _ ⟨rfl, X_, rfl⟩))
      go_ret
      exact Ret.of' rfl (by (repeat (first | exact Below.refl _ _ | with_reducible refine Below.drew ?_ | with_reducible refine Below.ext ?_ (by first | exact Nat.le_refl _ | (simp; done) | (simp; omega)) _ | with_reducible refine Below.alloc ?_ (by first | exact Nat.le_refl _ | (simp; done) | (simp; omega)) _ | with_reducible refine Below.setCell ?_ (by first | exact Nat.le_refl _ | (simp; done) | (simp; omega)) _)))
    · have c2 : 63 < n := by omega
      clear h1
      go_enter Try.func10, Try.ntmps10
      go_wp2_with (first | (go_at_call 35; (with_reducible refine (HR.out _).mono ?_); rintro _ _ ⟨rfl, X_, rfl⟩) | (go_at_call 36; (with_reducible refine (A.out _).mono ?_); rintro _ _ ⟨rfl, X_, rfl⟩) | (go_at_call 27; (with_reducible refine (awake18 _).mono ?_); rintro _ _ ⟨rfl, X_, rfl⟩))
      go_ret
      exact Ret.of' rfl (by (repeat (first | exact Below.refl _ _ | with_reducible refine Below.drew ?_ | with_reducible refine Below.ext ?_ (by first | exact Nat.le_refl _ | (simp; done) | (simp; omega)) _ | with_reducible refine Below.alloc ?_ (by first | exact Nat.le_refl _ | (simp; done) | (simp; omega)) _ | with_reducible refine Below.setCell ?_ (by first | exact Nat.le_refl _ | (simp; done) | (simp; omega)) _)))
  · simp only [hr, decide_false] at R
    have HR := Lib.hid R
    clear R hr h
    go_enter Try.func10, Try.ntmps10
    go_wp2_with (first | (go_at_call 35; (with_reducible refine (HR.out _).mono ?_); rintro _ _ ⟨rfl, X_, rfl⟩) | (go_at_call 27; (with_reducible refine (awake18 _).mono ?_); rintro _ _ ⟨rfl, X_, rfl⟩))
    go_ret
    exact Ret.of' rfl (by (repeat (first | exact Below.refl _ _ | with_reducible refine Below.drew ?_ | with_reducible refine Below.ext ?_ (by first | exact Nat.le_refl _ | (simp; done) | (simp; omega)) _ | with_reducible refine Below.alloc ?_ (by first | exact Nat.le_refl _ | (simp; done) | (simp; omega)) _ | with_reducible refine Below.setCell ?_ (by first | exact Nat.le_refl _ | (simp; done) | (simp; omega)) _)))
theorem smL4_move {a b : WinP} {n x0 y0 x1 y1 d0 d1 u0 v0 u1 v1 : Int} (h : smoP a b n) (h' : smoP ⟨u0, v0, a.z, a.c0, a.c1, a.c2, a.c3⟩ ⟨u1, v1, b.z, b.c0, b.c1, b.c2, b.c3⟩ n) (hr : rightP x0 y0 x1 y1) (hr' : rightP (x0 + d0) (y0 + d1) (x1 + d0) (y1 + d1))
    (e0 : u0 = a.x + 256 * d0) (e1 : v0 = a.y + 256 * d1) (e2 : u1 = b.x + 256 * d0) (e3 : v1 = b.y + 256 * d1) :
    smL4 ⟨u0, v0, a.z, a.c0, a.c1, a.c2, a.c3⟩ ⟨u1, v1, b.z, b.c0, b.c1, b.c2, b.c3⟩ n (x0 + d0) (y0 + d1) (x1 + d0) (y1 + d1) = (smL4 a b n x0 y0 x1 y1).map (FrP.move d0 d1) := by
  unfold smL4
  rw [if_pos ⟨h', hr'⟩, if_pos ⟨h, hr⟩]
  exact Moved.to (a' := ⟨u0, v0, a.z, a.c0, a.c1, a.c2, a.c3⟩) (b' := ⟨u1, v1, b.z, b.c0, b.c1, b.c2, b.c3⟩) ⟨e0, e1, e2, e3⟩ ⟨rfl, rfl, rfl, rfl, rfl⟩ ⟨rfl, rfl, rfl, rfl, rfl⟩ n x0 y0 x1 y1
theorem smL4_wider {a b : WinP} {n x0 y0 x1 y1 : Int} {f : FrP} (hn : n ≤ 63) (h : f ∈ smL4 a b n x0 y0 x1 y1) : f.cov ≤ cover a b (n + 1) f.x f.y := by
  unfold smL4 at h
  split at h
  · rename_i k
    obtain ⟨x, y, -, -, rfl⟩ := smTo_mem.1 h
    obtain ⟨h1, h2, h3⟩ := k.1
    unfold widthP at h3
    unfold cover
    rw [if_pos ⟨h1, h2, by unfold widthP; omega⟩]
    have := covN_wider (a := a) (b := b) (n := n) (m := n + 1) (by omega) (by omega) x y
    simp only [smFr]
    omega
  · cases h
set_option maxRecDepth 100000 in
set_option maxHeartbeats 8000000 in
theorem moves18_in (a b : WinP) (n x0 y0 x1 y1 d0 d1 : Int) (ha : a.wide) (hb : b.wide) (hd0 : -128 ≤ d0 ∧ d0 ≤ 127) (hd1 : -128 ≤ d1 ∧ d1 ≤ 127) (hr : rightP x0 y0 x1 y1) (har : areaP x0 y0 x1 y1 ≤ 600) (hn : n ≤ 63) (w : World) : Calls Try.prog 10 #[lineV a b n x0 y0 x1 y1, .agg #[.int .i8 d0, .int .i8 d1]] w (Ret (.bool true) w) := by
  have R := fun w => rrect_right x0 y0 x1 y1 w
  simp only [hr, decide_true] at R
  have HR := Lib.hid R
  have HAr := Lib.hid (fun w => rrect_area x0 y0 x1 y1 w)
  have hrr := hr
  unfold rightP at hrr
  obtain ⟨⟨r0, r1⟩, ⟨r2, r3⟩, ⟨r4, r5⟩, ⟨r6, r7⟩, rx, ry⟩ := hrr
  obtain ⟨d00, d01⟩ := hd0
  obtain ⟨d10, d11⟩ := hd1
  have HAR := Lib.hid har
  have HRI := Lib.hid hr
  have WA := Lib.hid ha
  have WB := Lib.hid hb
  obtain ⟨ar, hAR⟩ : ∃ z, areaP x0 y0 x1 y1 = z := ⟨_, rfl⟩
  rw [hAR] at HAr har
  clear R hr ha hb hAR
  go_enter Try.func10, Try.ntmps10
  go_upto_region 4 with (first | (go_at_call 35; (with_reducible refine (HR.out _).mono ?_); rintro _ _ ⟨rfl, X_, rfl⟩) | (go_at_call 36; (with_reducible refine (HAr.out _).mono ?_); rintro _ _ ⟨rfl, X_, rfl⟩))
  refine wp_region_ext (by kernel_rfl) (by kernel_rfl) ?_
  repeat (go_big_quiet_step ((fail)))
  refine wpQuiet_nil ?_
  intro _ hw_ext
  obtain ⟨X3, hw_ext⟩ := hw_ext
  subst hw_ext
  go_wp2
  refine wp_region_mix (by kernel_rfl) ?_
  repeat (first | (refine mix_skip rfl ?_; simp only [List.nil_append, List.cons_append]) | (refine mix_ncheck rfl rfl rfl ?_; simp only [Act.put, List.setIfInBounds_toArray, List.set_cons_zero, List.set_cons_succ, List.nil_append, List.cons_append]) | (refine mix_calm rfl rfl ?_; intro K_ hK_; go_big_quiet_op; go_big_quiet_on; simp only [List.nil_append, List.cons_append]) | (refine mix_alloc rfl rfl Try.zeroValue25 ?_; simp only [List.nil_append, List.cons_append]) | (refine mix_alloc rfl rfl Try.zeroValue39 ?_; simp only [List.nil_append, List.cons_append]) | (refine mix_fill 6 rfl rfl rfl rfl (by simp [Value.oneCell']) (by kernel_rfl) (by simp) rfl rfl rfl rfl ?_; simp only [List.nil_append, List.cons_append]) | (refine mix_fill 7 rfl rfl rfl rfl (by simp [Value.oneCell']) (by kernel_rfl) (by simp) rfl rfl rfl rfl ?_; simp only [List.nil_append, List.cons_append]) | (refine mix_fill 8 rfl rfl rfl rfl (by simp [Value.oneCell']) (by kernel_rfl) (by simp) rfl rfl rfl rfl ?_; simp only [List.nil_append, List.cons_append]))
  refine mix_nil (mix_end3 6 7 8 9 10 11 ⟨by kernel_rfl, by kernel_rfl⟩ rfl rfl rfl rfl rfl (by kernel_rfl) rfl rfl rfl rfl (by kernel_rfl) rfl rfl rfl rfl (by kernel_rfl) ?_)
  intro X p q r hp hq hr ne_p_q ne_p_r ne_q_r
  have c_hp := hp.cell
  have f_hp := hp.frozen
  have g_hp := hp.gap
  have b_hp := Lib.hid hp.block
  simp only [World.size_ext, World.size_alloc, World.size_drew, World.size_setCell] at g_hp
  clear hp
  have c_hq := hq.cell
  have f_hq := hq.frozen
  have g_hq := hq.gap
  have b_hq := Lib.hid hq.block
  simp only [World.size_ext, World.size_alloc, World.size_drew, World.size_setCell] at g_hq
  clear hq
  have c_hr := hr.cell
  have f_hr := hr.frozen
  have g_hr := hr.gap
  have b_hr := Lib.hid hr.block
  simp only [World.size_ext, World.size_alloc, World.size_drew, World.size_setCell] at g_hr
  clear hr
  simp only [Act.put, List.setIfInBounds_toArray, List.set_cons_zero, List.set_cons_succ, ptr]
  go_upto_region 5 with fail
  have gp := g_hp.1
  have gq := g_hq.1
  have gr := g_hr.1
  refine wp_abs (F := fun wx => Row wx p #[.int .i64 a.x, .int .i64 a.y, .int .i64 a.z, .int .i64 a.c0, .int .i64 a.c1, .int .i64 a.c2, .int .i64 a.c3] 25 ∧ Row wx q #[.int .i64 b.x, .int .i64 b.y, .int .i64 b.z, .int .i64 b.c0, .int .i64 b.c1, .int .i64 b.c2, .int .i64 b.c3] 25 ∧ Row wx r #[.int .i64 x0, .int .i64 y0, .int .i64 x1, .int .i64 y1] 39 ∧ Row wx w.heap.size #[.int .i64 a.x, .int .i64 a.y, .int .i64 a.z, .int .i64 a.c0, .int .i64 a.c1, .int .i64 a.c2, .int .i64 a.c3, .int .i64 b.x, .int .i64 b.y, .int .i64 b.z, .int .i64 b.c0, .int .i64 b.c1, .int .i64 b.c2, .int .i64 b.c3, .int .i64 n, .int .i64 x0, .int .i64 y0, .int .i64 x1, .int .i64 y1] 41 ∧ ∃ X, wx = w.ext X) ⟨by (repeat (first | exact b_hp.out | with_reducible refine Row.ext ?_ _ | with_reducible refine row_drew ?_)), by (repeat (first | exact b_hq.out | with_reducible refine Row.ext ?_ _ | with_reducible refine row_drew ?_)), by (repeat (first | exact b_hr.out | with_reducible refine Row.ext ?_ _ | with_reducible refine row_drew ?_)), by (repeat (first | assumption | with_reducible refine Row.ext ?_ _ | with_reducible refine row_drew ?_ | (with_reducible refine row_last ?_; first | rfl | (simp; done)) | with_reducible refine Row.alloc ?_ _)), RowKit.Below.toExt (by (repeat (first | exact Below.refl _ _ | with_reducible refine Below.drew ?_ | with_reducible refine Below.ext ?_ (by first | exact Nat.le_refl _ | (simp; done) | (simp; omega)) _ | with_reducible refine Below.alloc ?_ (by first | exact Nat.le_refl _ | (simp; done) | (simp; omega)) _ | with_reducible refine Below.setCell ?_ (by first | exact Nat.le_refl _ | (simp; done) | (simp; omega)) _)))⟩ ?_
  rintro wx ⟨Rp, Rq, Rr, Rl, hX⟩
  have HX := Lib.hid hX
  have lp := Rp.lt
  have lq := Rq.lt
  have lr := Rr.lt
  have ll := Rl.lt
  have cp := Rp.cell
  have cq := Rq.cell
  have cr := Rr.cell
  have cl := Rl.cell
  have fp := Rp.frozen
  have fq := Rq.frozen
  have fr := Rr.frozen
  have fl := Rl.frozen
  have ne_q_p := ne_p_q.symm
  have ne_r_p := ne_p_r.symm
  have ne_r_q := ne_q_r.symm
  clear c_hp c_hq c_hr f_hp f_hq f_hr g_hp g_hq g_hr b_hp b_hq b_hr hX
  have np : w.heap.size ≠ p := by omega
  have nq : w.heap.size ≠ q := by omega
  have nr : w.heap.size ≠ r := by omega
  go_region
  go_upto_region 7 with fail
  obtain ⟨u0, hu0⟩ : ∃ u, wrap64 (a.x + 256 * d0) = u := ⟨_, rfl⟩
  obtain ⟨v0, hv0⟩ : ∃ u, wrap64 (a.y + 256 * d1) = u := ⟨_, rfl⟩
  obtain ⟨u1, hu1⟩ : ∃ u, wrap64 (b.x + 256 * d0) = u := ⟨_, rfl⟩
  obtain ⟨v1, hv1⟩ : ∃ u, wrap64 (b.y + 256 * d1) = u := ⟨_, rfl⟩
  rw [hu0, hv0, hu1, hv1]
  have W64 : (w64 u0 ∧ w64 v0) ∧ w64 u1 ∧ w64 v1 := by
    unfold w64
    unfold wrap64 at hu0 hv0 hu1 hv1
    omega
  have HU := Lib.hid (show smoP a b n → (u0 = a.x + 256 * d0 ∧ v0 = a.y + 256 * d1) ∧ u1 = b.x + 256 * d0 ∧ v1 = b.y + 256 * d1 from fun h => by
    obtain ⟨h1, h2, -⟩ := h
    unfold WinP.fitsP at h1 h2
    rw [← hu0, ← hv0, ← hu1, ← hv1, IntWalk.wrap64_in _ (by omega), IntWalk.wrap64_in _ (by omega), IntWalk.wrap64_in _ (by omega), IntWalk.wrap64_in _ (by omega)]
    exact ⟨⟨rfl, rfl⟩, rfl, rfl⟩)
  refine wp_abs (F := fun wy => Row wy p #[.int .i64 u0, .int .i64 v0, .int .i64 a.z, .int .i64 a.c0, .int .i64 a.c1, .int .i64 a.c2, .int .i64 a.c3] 25 ∧ Row wy q #[.int .i64 u1, .int .i64 v1, .int .i64 b.z, .int .i64 b.c0, .int .i64 b.c1, .int .i64 b.c2, .int .i64 b.c3] 25 ∧ Row wy r #[.int .i64 (x0 + d0), .int .i64 (y0 + d1), .int .i64 (x1 + d0), .int .i64 (y1 + d1)] 39 ∧ Row wy w.heap.size #[.int .i64 a.x, .int .i64 a.y, .int .i64 a.z, .int .i64 a.c0, .int .i64 a.c1, .int .i64 a.c2, .int .i64 a.c3, .int .i64 b.x, .int .i64 b.y, .int .i64 b.z, .int .i64 b.c0, .int .i64 b.c1, .int .i64 b.c2, .int .i64 b.c3, .int .i64 n, .int .i64 x0, .int .i64 y0, .int .i64 x1, .int .i64 y1] 41 ∧ ∃ X, wy = w.ext X) ⟨?_, ?_, ?_, ?_, ?_⟩ ?_
  · have r1 : Row (wx.setCell ⟨p, 0, none⟩ (.int .i64 u0)) p #[.int .i64 u0, .int .i64 a.y, .int .i64 a.z, .int .i64 a.c0, .int .i64 a.c1, .int .i64 a.c2, .int .i64 a.c3] 25 := Rp.set 0 _
    have r2 : Row ((wx.setCell ⟨p, 0, none⟩ (.int .i64 u0)).setCell ⟨p, 1, none⟩ (.int .i64 v0)) p #[.int .i64 u0, .int .i64 v0, .int .i64 a.z, .int .i64 a.c0, .int .i64 a.c1, .int .i64 a.c2, .int .i64 a.c3] 25 := r1.set 1 _
    (repeat (first | with_reducible exact r2 | with_reducible refine row_drew ?_ | with_reducible refine Row.other ?_ (by assumption) _ _))
  · have r0 : Row ((wx.setCell ⟨p, 0, none⟩ (.int .i64 u0)).setCell ⟨p, 1, none⟩ (.int .i64 v0)) q #[.int .i64 b.x, .int .i64 b.y, .int .i64 b.z, .int .i64 b.c0, .int .i64 b.c1, .int .i64 b.c2, .int .i64 b.c3] 25 := by (repeat (first | with_reducible exact Rq | with_reducible refine row_drew ?_ | with_reducible refine Row.other ?_ (by assumption) _ _))
    have r1 : Row (((wx.setCell ⟨p, 0, none⟩ (.int .i64 u0)).setCell ⟨p, 1, none⟩ (.int .i64 v0)).setCell ⟨q, 0, none⟩ (.int .i64 u1)) q #[.int .i64 u1, .int .i64 b.y, .int .i64 b.z, .int .i64 b.c0, .int .i64 b.c1, .int .i64 b.c2, .int .i64 b.c3] 25 := r0.set 0 _
    have r2 : Row ((((wx.setCell ⟨p, 0, none⟩ (.int .i64 u0)).setCell ⟨p, 1, none⟩ (.int .i64 v0)).setCell ⟨q, 0, none⟩ (.int .i64 u1)).setCell ⟨q, 1, none⟩ (.int .i64 v1)) q #[.int .i64 u1, .int .i64 v1, .int .i64 b.z, .int .i64 b.c0, .int .i64 b.c1, .int .i64 b.c2, .int .i64 b.c3] 25 := r1.set 1 _
    (repeat (first | with_reducible exact r2 | with_reducible refine row_drew ?_ | with_reducible refine Row.other ?_ (by assumption) _ _))
  · have r0 : Row ((((wx.setCell ⟨p, 0, none⟩ (.int .i64 u0)).setCell ⟨p, 1, none⟩ (.int .i64 v0)).setCell ⟨q, 0, none⟩ (.int .i64 u1)).setCell ⟨q, 1, none⟩ (.int .i64 v1)) r #[.int .i64 x0, .int .i64 y0, .int .i64 x1, .int .i64 y1] 39 := by (repeat (first | with_reducible exact Rr | with_reducible refine row_drew ?_ | with_reducible refine Row.other ?_ (by assumption) _ _))
    have r1 : Row (((((wx.setCell ⟨p, 0, none⟩ (.int .i64 u0)).setCell ⟨p, 1, none⟩ (.int .i64 v0)).setCell ⟨q, 0, none⟩ (.int .i64 u1)).setCell ⟨q, 1, none⟩ (.int .i64 v1)).setCell ⟨r, 0, none⟩ (.int .i64 (x0 + d0))) r #[.int .i64 (x0 + d0), .int .i64 y0, .int .i64 x1, .int .i64 y1] 39 := r0.set 0 _
    have r2 : Row ((((((wx.setCell ⟨p, 0, none⟩ (.int .i64 u0)).setCell ⟨p, 1, none⟩ (.int .i64 v0)).setCell ⟨q, 0, none⟩ (.int .i64 u1)).setCell ⟨q, 1, none⟩ (.int .i64 v1)).setCell ⟨r, 0, none⟩ (.int .i64 (x0 + d0))).setCell ⟨r, 1, none⟩ (.int .i64 (y0 + d1))) r #[.int .i64 (x0 + d0), .int .i64 (y0 + d1), .int .i64 x1, .int .i64 y1] 39 := r1.set 1 _
    have r3 : Row (((((((wx.setCell ⟨p, 0, none⟩ (.int .i64 u0)).setCell ⟨p, 1, none⟩ (.int .i64 v0)).setCell ⟨q, 0, none⟩ (.int .i64 u1)).setCell ⟨q, 1, none⟩ (.int .i64 v1)).setCell ⟨r, 0, none⟩ (.int .i64 (x0 + d0))).setCell ⟨r, 1, none⟩ (.int .i64 (y0 + d1))).setCell ⟨r, 2, none⟩ (.int .i64 (x1 + d0))) r #[.int .i64 (x0 + d0), .int .i64 (y0 + d1), .int .i64 (x1 + d0), .int .i64 y1] 39 := r2.set 2 _
    have r4 : Row ((((((((wx.setCell ⟨p, 0, none⟩ (.int .i64 u0)).setCell ⟨p, 1, none⟩ (.int .i64 v0)).setCell ⟨q, 0, none⟩ (.int .i64 u1)).setCell ⟨q, 1, none⟩ (.int .i64 v1)).setCell ⟨r, 0, none⟩ (.int .i64 (x0 + d0))).setCell ⟨r, 1, none⟩ (.int .i64 (y0 + d1))).setCell ⟨r, 2, none⟩ (.int .i64 (x1 + d0))).setCell ⟨r, 3, none⟩ (.int .i64 (y1 + d1))) r #[.int .i64 (x0 + d0), .int .i64 (y0 + d1), .int .i64 (x1 + d0), .int .i64 (y1 + d1)] 39 := r3.set 3 _
    (repeat (first | with_reducible exact r4 | with_reducible refine row_drew ?_ | with_reducible refine Row.other ?_ (by assumption) _ _))
  · (repeat (first | with_reducible exact Rl | with_reducible refine row_drew ?_ | with_reducible refine Row.other ?_ (by assumption) _ _))
  · obtain ⟨X0, hX0⟩ := HX.out
    subst hX0
    exact RowKit.Below.toExt (by (repeat (first | with_reducible assumption | with_reducible exact Below.refl _ _ | with_reducible refine Below.drew ?_ | with_reducible refine Below.ext ?_ (by first | exact Nat.le_refl _ | omega | (simp; done) | (simp; omega)) _ | with_reducible refine Below.alloc ?_ (by first | exact Nat.le_refl _ | omega | (simp; done) | (simp; omega)) _ | with_reducible refine Below.setCell ?_ (by first | exact Nat.le_refl _ | omega | (simp; done) | (simp; omega)) _)))
  clear lp lq lr ll cp cq cr cl fp fq fr fl HX Rp Rq Rr Rl hu0 hv0 hu1 hv1 np nq nr
  rintro wy ⟨Rp, Rq, Rr, Rl, hX⟩
  have HX := Lib.hid hX
  have lp := Rp.lt
  have lq := Rq.lt
  have lr := Rr.lt
  have ll := Rl.lt
  have cp := Rp.cell
  have cq := Rq.cell
  have cr := Rr.cell
  have cl := Rl.cell
  have fp := Rp.frozen
  have fq := Rq.frozen
  have fr := Rr.frozen
  have fl := Rl.frozen
  have HRl := Lib.hid Rl
  obtain ⟨⟨w0, w1⟩, w2, w3⟩ := W64
  have WA' : (⟨u0, v0, a.z, a.c0, a.c1, a.c2, a.c3⟩ : WinP).wide := ⟨w0, w1, WA.out.z, WA.out.c0, WA.out.c1, WA.out.c2, WA.out.c3⟩
  have WB' : (⟨u1, v1, b.z, b.c0, b.c1, b.c2, b.c3⟩ : WinP).wide := ⟨w2, w3, WB.out.z, WB.out.c0, WB.out.c1, WB.out.c2, WB.out.c3⟩
  clear hX Rp Rq Rr Rl w0 w1 w2 w3
  have R1 := fun w => rsmooth_right a b n w
  have R2 := fun w => rsmooth_right ⟨u0, v0, a.z, a.c0, a.c1, a.c2, a.c3⟩ ⟨u1, v1, b.z, b.c0, b.c1, b.c2, b.c3⟩ n w
  have R3 := fun w => rrect_right (x0 + d0) (y0 + d1) (x1 + d0) (y1 + d1) w
  by_cases h1 : smoP a b n
  case neg =>
    simp only [h1, decide_false] at R1
    have H1 := Lib.hid R1
    clear R1 R2 R3 h1 WA' WB'
    go_wp2_with (first | (go_at_call 29; (with_reducible refine (H1.out _).mono ?_); rintro _ _ ⟨rfl, X_, rfl⟩) | (go_at_call 27; (with_reducible refine (awake18 _).mono ?_); rintro _ _ ⟨rfl, X_, rfl⟩))
    go_ret
    obtain ⟨X0, hX0⟩ := HX.out
    subst hX0
    exact Ret.of' rfl (by (repeat (first | with_reducible assumption | with_reducible exact Below.refl _ _ | with_reducible refine Below.drew ?_ | with_reducible refine Below.ext ?_ (by first | exact Nat.le_refl _ | omega | (simp; done) | (simp; omega)) _ | with_reducible refine Below.alloc ?_ (by first | exact Nat.le_refl _ | omega | (simp; done) | (simp; omega)) _ | with_reducible refine Below.setCell ?_ (by first | exact Nat.le_refl _ | omega | (simp; done) | (simp; omega)) _)))
  by_cases h2 : smoP ⟨u0, v0, a.z, a.c0, a.c1, a.c2, a.c3⟩ ⟨u1, v1, b.z, b.c0, b.c1, b.c2, b.c3⟩ n
  case neg =>
    simp only [h1, h2, decide_true, decide_false] at R1 R2
    have H1 := Lib.hid R1
    have H2 := Lib.hid R2
    clear R1 R2 R3 h1 h2 WA' WB'
    go_wp2_with (first | (go_at_call 29; (first | (with_reducible refine (H1.out _).mono ?_) | (with_reducible refine (H2.out _).mono ?_)); rintro _ _ ⟨rfl, X_, rfl⟩) | (go_at_call 27; (with_reducible refine (awake18 _).mono ?_); rintro _ _ ⟨rfl, X_, rfl⟩))
    go_ret
    obtain ⟨X0, hX0⟩ := HX.out
    subst hX0
    exact Ret.of' rfl (by (repeat (first | with_reducible assumption | with_reducible exact Below.refl _ _ | with_reducible refine Below.drew ?_ | with_reducible refine Below.ext ?_ (by first | exact Nat.le_refl _ | omega | (simp; done) | (simp; omega)) _ | with_reducible refine Below.alloc ?_ (by first | exact Nat.le_refl _ | omega | (simp; done) | (simp; omega)) _ | with_reducible refine Below.setCell ?_ (by first | exact Nat.le_refl _ | omega | (simp; done) | (simp; omega)) _)))
  by_cases h3 : rightP (x0 + d0) (y0 + d1) (x1 + d0) (y1 + d1)
  case neg =>
    simp only [h1, h2, h3, decide_true, decide_false] at R1 R2 R3
    have H1 := Lib.hid R1
    have H2 := Lib.hid R2
    have H3 := Lib.hid R3
    clear R1 R2 R3 h1 h2 h3 WA' WB'
    go_wp2_with (first | (go_at_call 29; (first | (with_reducible refine (H1.out _).mono ?_) | (with_reducible refine (H2.out _).mono ?_)); rintro _ _ ⟨rfl, X_, rfl⟩) | (go_at_call 35; (with_reducible refine (H3.out _).mono ?_); rintro _ _ ⟨rfl, X_, rfl⟩) | (go_at_call 27; (with_reducible refine (awake18 _).mono ?_); rintro _ _ ⟨rfl, X_, rfl⟩))
    go_ret
    obtain ⟨X0, hX0⟩ := HX.out
    subst hX0
    exact Ret.of' rfl (by (repeat (first | with_reducible assumption | with_reducible exact Below.refl _ _ | with_reducible refine Below.drew ?_ | with_reducible refine Below.ext ?_ (by first | exact Nat.le_refl _ | omega | (simp; done) | (simp; omega)) _ | with_reducible refine Below.alloc ?_ (by first | exact Nat.le_refl _ | omega | (simp; done) | (simp; omega)) _ | with_reducible refine Below.setCell ?_ (by first | exact Nat.le_refl _ | omega | (simp; done) | (simp; omega)) _)))
  obtain ⟨⟨eu0, ev0⟩, eu1, ev1⟩ := HU.out h1
  have hM := smL4_move h1 h2 HRI.out h3 eu0 ev0 eu1 ev1
  have har2 : areaP (x0 + d0) (y0 + d1) (x1 + d0) (y1 + d1) ≤ 600 := by
    have := HAR.out
    unfold areaP at this ⊢
    rw [if_pos HRI.out] at this
    rw [if_pos h3, show x1 + d0 - (x0 + d0) = x1 - x0 by omega, show y1 + d1 - (y0 + d1) = y1 - y0 by omega]
    exact this
  have W1 := Lib.hid (fun w => line_any a b n x0 y0 x1 y1 WA.out WB.out (by have := HAR.out; omega) w)
  have W2 := fun w => line_any ⟨u0, v0, a.z, a.c0, a.c1, a.c2, a.c3⟩ ⟨u1, v1, b.z, b.c0, b.c1, b.c2, b.c3⟩ n (x0 + d0) (y0 + d1) (x1 + d0) (y1 + d1) WA' WB' (by omega) w
  rw [hM] at W2
  have HW2 := Lib.hid W2
  have HB := Lib.hid (fun f (hf : f ∈ smL4 a b n x0 y0 x1 y1) => smL4_has hf)
  have HWd := Lib.hid (fun f (hf : f ∈ smL4 a b n x0 y0 x1 y1) => smL4_wider hn hf)
  have HC := Lib.hid (fun x y (k0 : -4194304 ≤ x) (k1 : x ≤ 4194304) (k2 : -4194304 ≤ y) (k3 : y ≤ 4194304) w => scover_any a b (n + 1) x y WA.out WB.out k0 k1 k2 k3 w)
  have hLen : (smL4 a b n x0 y0 x1 y1).length ≤ 600 := by have := smL4_len a b n x0 y0 x1 y1; have := HAR.out; omega
  have hn0 : 1 ≤ n := h1.2.2.1
  simp only [h1, h2, h3, decide_true] at R1 R2 R3
  have H1 := Lib.hid R1
  have H2 := Lib.hid R2
  have H3 := Lib.hid R3
  generalize smL4 a b n x0 y0 x1 y1 = L at *
  clear R1 R2 R3 h1 h2 h3 WA' WB' W2 hM har2 HU eu0 ev0 eu1 ev1
  go_upto_region 9 with (first | (go_at_call 29; (first | (with_reducible refine (H1.out _).mono ?_) | (with_reducible refine (H2.out _).mono ?_)); rintro _ _ ⟨rfl, X_, rfl⟩) | (go_at_call 35; (with_reducible refine (H3.out _).mono ?_); rintro _ _ ⟨rfl, X_, rfl⟩))
  refine wp_region_rel 15 [none, none, none, none, none, none, none, none, some ([], srR frK L), none, none, none, none, none, some ([], srR frK (L.map (FrP.move d0 d1)))] (by kernel_rfl) (by kernel_rfl) ?_
  simp only [List.take_succ_cons, List.take_zero, List.drop_succ_cons, List.drop_zero]
  (repeat (first | (refine rel_none ?_; intro K_ hK_; go_big_quiet_op; go_big_quiet_on) | simp only [Act.put, List.setIfInBounds_toArray, List.set_cons_zero, List.set_cons_succ]))
  refine rel_some rfl (fun w_ hw_ hk_ K_ hK_ => ?_) (fun v113 f113 => ?_)
  · obtain ⟨X_, rfl⟩ := hw_
    go_simp
    go_at_call 31
    refine (W1.out _).mono ?_
    rintro _ _ ⟨v, rfl, h1, h2⟩
    exact hK_ _ _ h1 h2
  obtain ⟨a113, k113, rfl⟩ := f113
  (repeat (first | (refine rel_none ?_; intro K_ hK_; go_big_quiet_op; go_big_quiet_on) | simp only [Act.put, List.setIfInBounds_toArray, List.set_cons_zero, List.set_cons_succ]))
  refine rel_some rfl (fun w_ hw_ hk_ K_ hK_ => ?_) (fun v119 f119 => ?_)
  · obtain ⟨X_, rfl⟩ := hw_
    go_simp
    go_at_call 31
    refine (HW2.out _).mono ?_
    rintro _ _ ⟨v, rfl, h1, h2⟩
    exact hK_ _ _ h1 h2
  obtain ⟨a119, k119, rfl⟩ := f119
  (repeat (first | (refine rel_none ?_; intro K_ hK_; go_big_quiet_op; go_big_quiet_on) | simp only [Act.put, List.setIfInBounds_toArray, List.set_cons_zero, List.set_cons_succ]))
  refine rel_nil ?_
  intro w_ hw_ kk
  obtain ⟨X, rfl⟩ := hw_
  have g1 := (kk (8, _) (by repeat (first | exact List.mem_cons_self | refine List.mem_cons_of_mem _ ?_)))
  have g2 := (kk (14, _) (by repeat (first | exact List.mem_cons_self | refine List.mem_cons_of_mem _ ?_)))
  clear kk
  go_upto_region 10 with fail
  rw [List.length_map]
  refine wp_abs (F := fun wz => Row wz w.heap.size #[.int .i64 a.x, .int .i64 a.y, .int .i64 a.z, .int .i64 a.c0, .int .i64 a.c1, .int .i64 a.c2, .int .i64 a.c3, .int .i64 b.x, .int .i64 b.y, .int .i64 b.z, .int .i64 b.c0, .int .i64 b.c1, .int .i64 b.c2, .int .i64 b.c3, .int .i64 n, .int .i64 x0, .int .i64 y0, .int .i64 x1, .int .i64 y1] 41 ∧ Recs frK wz (.slice a113 L.length k113) L ∧ Recs frK wz (.slice a119 L.length k119) (L.map (FrP.move d0 d1)) ∧ ∃ X, wz = w.ext X) ⟨by (repeat (first | exact HRl.out | with_reducible refine Row.ext ?_ _ | with_reducible refine row_drew ?_)), g1, by have h : Recs frK _ (.slice a119 (L.map (FrP.move d0 d1)).length k119) (L.map (FrP.move d0 d1)) := g2; rw [List.length_map] at h; exact h, by obtain ⟨X0, hX0⟩ := HX.out; subst hX0; exact RowKit.Below.toExt (by (repeat (first | with_reducible assumption | with_reducible exact Below.refl _ _ | with_reducible refine Below.drew ?_ | with_reducible refine Below.ext ?_ (by first | exact Nat.le_refl _ | omega | (simp; done) | (simp; omega)) _ | with_reducible refine Below.alloc ?_ (by first | exact Nat.le_refl _ | omega | (simp; done) | (simp; omega)) _ | with_reducible refine Below.setCell ?_ (by first | exact Nat.le_refl _ | omega | (simp; done) | (simp; omega)) _)))⟩ ?_
  clear lp lq lr ll cp cq cr cl fp fq fr fl HX HRl
  rintro wz ⟨Rl, gL, gM, hX⟩
  have HX := Lib.hid hX
  have ll := Rl.lt
  have cl := Rl.cell
  have fl := Rl.frozen
  have ll' : w.heap.size ≤ wz.heap.size := by omega
  obtain ⟨-, av, cap, hq, -, hcl⟩ := gL
  obtain ⟨rfl, rfl⟩ : a113 = av ∧ k113 = cap := by simpa using hq
  obtain ⟨-, au, caq, hq2, -, hcm⟩ := gM
  obtain ⟨rfl, rfl⟩ : a119 = au ∧ k119 = caq := by simpa using hq2
  have HCL := Lib.hid hcl
  have HCM := Lib.hid hcm
  clear hq hq2 hX hcl hcm g1 g2 W1 HW2 H1 H2 H3 Rl
  go_wp2
  go_loopw [12] (fun i wr => ∃ (k : Nat), k ≤ L.length ∧ i = .int .i64 k ∧ ∃ X, wr = wz.ext X)
    (fun i _ => L.length - (intOf i).toNat)
  case atStart => exact ⟨0, by omega, rfl, ⟨#[], wz.drawn⟩, (ext_none' _).symm⟩
  case round =>
    obtain ⟨k, hk, rfl, X, rfl⟩ := hrel
    by_cases hlt : k < L.length
    · have HKL := Lib.hid (show k + 1 ≤ L.length from hlt)
      obtain ⟨f, hf, hfm⟩ : ∃ f, L[k]? = some f ∧ f ∈ L := ⟨L[k]'hlt, List.getElem?_eq_getElem hlt, List.getElem_mem hlt⟩
      have hf2 : (L.map (FrP.move d0 d1))[k]? = some (f.move d0 d1) := by rw [List.getElem?_map, hf]; rfl
      have hh := HB.out f hfm
      have hwd := HWd.out f hfm
      unfold hasP rightP at hh
      rcases HCL.out with rfl | ⟨lb, lo, rfl, hlb, hcl⟩
      · simp at hlt
      rcases HCM.out with hm | ⟨mb, mo, rfl, hmb, hcm⟩
      · rw [hm] at hf2; simp at hf2
      obtain ⟨fx, fy, fz, q1', q2', q3', q4', q5'⟩ := f
      simp only [FrP.move] at hf2 hh hwd
      have g0 : wz.cell? ⟨lb, lo + k * 8, none⟩ = some (.int .i64 fx) := hcl k _ hf 0 _ rfl
      have g1 : wz.cell? ⟨lb, lo + k * 8 + 1, none⟩ = some (.int .i64 fy) := hcl k _ hf 1 _ rfl
      have g2 : wz.cell? ⟨lb, lo + k * 8 + 2, none⟩ = some (.int .i64 fz) := hcl k _ hf 2 _ rfl
      have g3 : wz.cell? ⟨lb, lo + k * 8 + 3, none⟩ = some (.int .i64 q1') := hcl k _ hf 3 _ rfl
      have g4 : wz.cell? ⟨lb, lo + k * 8 + 4, none⟩ = some (.int .i64 q2') := hcl k _ hf 4 _ rfl
      have g5 : wz.cell? ⟨lb, lo + k * 8 + 5, none⟩ = some (.int .i64 q3') := hcl k _ hf 5 _ rfl
      have g6 : wz.cell? ⟨lb, lo + k * 8 + 6, none⟩ = some (.int .i64 q4') := hcl k _ hf 6 _ rfl
      have g7 : wz.cell? ⟨lb, lo + k * 8 + 7, none⟩ = some (.int .i64 q5') := hcl k _ hf 7 _ rfl
      have m0 : wz.cell? ⟨mb, mo + k * 8, none⟩ = some (.int .i64 (fx + d0)) := hcm k _ hf2 0 _ rfl
      have m1 : wz.cell? ⟨mb, mo + k * 8 + 1, none⟩ = some (.int .i64 (fy + d1)) := hcm k _ hf2 1 _ rfl
      have m2 : wz.cell? ⟨mb, mo + k * 8 + 2, none⟩ = some (.int .i64 fz) := hcm k _ hf2 2 _ rfl
      have m3 : wz.cell? ⟨mb, mo + k * 8 + 3, none⟩ = some (.int .i64 q1') := hcm k _ hf2 3 _ rfl
      have m4 : wz.cell? ⟨mb, mo + k * 8 + 4, none⟩ = some (.int .i64 q2') := hcm k _ hf2 4 _ rfl
      have m5 : wz.cell? ⟨mb, mo + k * 8 + 5, none⟩ = some (.int .i64 q3') := hcm k _ hf2 5 _ rfl
      have m6 : wz.cell? ⟨mb, mo + k * 8 + 6, none⟩ = some (.int .i64 q4') := hcm k _ hf2 6 _ rfl
      have m7 : wz.cell? ⟨mb, mo + k * 8 + 7, none⟩ = some (.int .i64 q5') := hcm k _ hf2 7 _ rfl
      have hlb' : lb ≤ wz.heap.size := by omega
      have hmb' : mb ≤ wz.heap.size := by omega
      have C0 := HC.out fx fy (by omega) (by omega) (by omega) (by omega)
      obtain ⟨cc, hcc⟩ : ∃ c, cover a b (n + 1) fx fy = c := ⟨_, rfl⟩
      rw [hcc] at C0 hwd
      have HC0 := Lib.hid C0
      have tz : decide (cc < q5') = false := by simp; omega
      have hki : (k : Int) < L.length := by omega
      obtain ⟨-, s1, s2, s3, s4⟩ := hh
      have s5 : fx + d0 - d0 = fx := by omega
      have s6 : fy + d1 - d1 = fy := by omega
      clear hcl hcm hf hf2 hfm hwd C0 hcc
      go_wp2
      refine wp_region_ext (by kernel_rfl) (by kernel_rfl) ?_
      repeat (go_big_quiet_step ((first | (go_at_call 33; with_reducible exact Calls.quiet_ret (HC0.out _)))))
      refine wpQuiet_nil ?_
      intro _ hw_ext
      obtain ⟨Y, hw_ext⟩ := hw_ext
      subst hw_ext
      go_wp2
      go_roundw
      case rel => exact ⟨k + 1, HKL.out, by go_num, RowKit.Below.toExt (by (repeat (first | with_reducible assumption | with_reducible exact Below.refl _ _ | with_reducible refine Below.drew ?_ | with_reducible refine Below.ext ?_ (by first | exact Nat.le_refl _ | omega | (simp; done) | (simp; omega)) _ | with_reducible refine Below.alloc ?_ (by first | exact Nat.le_refl _ | omega | (simp; done) | (simp; omega)) _ | with_reducible refine Below.setCell ?_ (by first | exact Nat.le_refl _ | omega | (simp; done) | (simp; omega)) _)))⟩
      case measure => have := HKL.out; simp [intOf]; omega
    · obtain rfl : k = L.length := by omega
      go_wp2_with (first | (go_at_call 27; (with_reducible refine (awake18 _).mono ?_); rintro _ _ ⟨rfl, X_, rfl⟩))
      go_ret
      obtain ⟨X0, hX0⟩ := HX.out
      subst hX0
      exact Ret.of' (by simp) (by (repeat (first | exact Below.refl _ _ | with_reducible refine Below.drew ?_ | with_reducible refine Below.ext ?_ (by first | exact Nat.le_refl _ | (simp; done) | (simp; omega)) _ | with_reducible refine Below.alloc ?_ (by first | exact Nat.le_refl _ | (simp; done) | (simp; omega)) _ | with_reducible refine Below.setCell ?_ (by first | exact Nat.le_refl _ | (simp; done) | (simp; omega)) _)))
theorem SmoothMoves_all : SmoothMoves_stmt := by
  rintro aX aY aZ aC0 aC1 aC2 aC3 bX bY bZ bC0 bC1 bC2 bC3 n x0 y0 x1 y1 d0 d1 w ⟨h1, h2, h3, h4, h5, h6, h7, g1, g2, g3, g4, g5, g6, g7, -⟩ ⟨e0, e1⟩
  by_cases h : ¬ rightP x0 y0 x1 y1 ∨ 600 < areaP x0 y0 x1 y1 ∨ 63 < n
  · exact moves18_no ⟨aX, aY, aZ, aC0, aC1, aC2, aC3⟩ ⟨bX, bY, bZ, bC0, bC1, bC2, bC3⟩ n x0 y0 x1 y1 d0 d1 h w
  · exact moves18_in ⟨aX, aY, aZ, aC0, aC1, aC2, aC3⟩ ⟨bX, bY, bZ, bC0, bC1, bC2, bC3⟩ n x0 y0 x1 y1 d0 d1 ⟨h1, h2, h3, h4, h5, h6, h7⟩ ⟨g1, g2, g3, g4, g5, g6, g7⟩ e0 e1 (Classical.byContradiction fun k => h (.inl k)) (by omega) (by omega) w
theorem SmoothMoves_holds : Rows.SmoothMovesSaid := SmoothMoves_end SmoothMoves_all
end Go.Proofs.Ytamfjfnceeagiaa
