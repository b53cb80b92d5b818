/- LerpRises: whatever the input, the law returns true and leaves its arguments as they read. No condition. -/
import Derived.Test.YtmlhbbkgfffmcaaLerpD
import Derived.Test.YtmlhbbkgfffmcaaELerpRises
import Derived.Test.YtmlhbbkgfffmcaaMixB
import Derived.Outline
namespace Go.Proofs.Ytmlhbbkgfffmcaa
set_option linter.unusedVariables false
set_option linter.unusedSimpArgs false
open Go.RowKit
/-- The pixel further on, one way. -/
def goby (W x d : Int) : Int := if W < 0 then x - d else x + d
theorem mul_step {x c W d : Int} (hd : 0 ≤ d) : c * W + (x * 256 + 128) * W ≤ c * W + (goby W x d * 256 + 128) * W := by
  unfold goby
  split
  · rename_i h
    have := Int.mul_nonneg (show 0 ≤ 256 * d by omega) (show 0 ≤ -W by omega)
    have e : ((x - d) * 256 + 128) * W = (x * 256 + 128) * W + 256 * d * -W := by grind
    omega
  · rename_i h
    have := Int.mul_nonneg (show 0 ≤ 256 * d by omega) (show 0 ≤ W by omega)
    have e : ((x + d) * 256 + 128) * W = (x * 256 + 128) * W + 256 * d * W := by grind
    omega
theorem ac_step (a b : WinP) (x y d e : Int) (hd : 0 ≤ d) (he : 0 ≤ e) : acN a b x y ≤ acN a b (goby (b.x - a.x) x d) (goby (b.y - a.y) y e) := by
  unfold acN
  have h1 := mul_step (x := x) (c := -a.x) (W := b.x - a.x) hd
  have h2 := mul_step (x := y) (c := -a.y) (W := b.y - a.y) he
  have e1 : (x * 256 + 128 - a.x) * (b.x - a.x) = -a.x * (b.x - a.x) + (x * 256 + 128) * (b.x - a.x) := by grind
  have e2 : (y * 256 + 128 - a.y) * (b.y - a.y) = -a.y * (b.y - a.y) + (y * 256 + 128) * (b.y - a.y) := by grind
  have e3 : (goby (b.x - a.x) x d * 256 + 128 - a.x) * (b.x - a.x) = -a.x * (b.x - a.x) + (goby (b.x - a.x) x d * 256 + 128) * (b.x - a.x) := by grind
  have e4 : (goby (b.y - a.y) y e * 256 + 128 - a.y) * (b.y - a.y) = -a.y * (b.y - a.y) + (goby (b.y - a.y) y e * 256 + 128) * (b.y - a.y) := by grind
  omega
theorem al_step (a b : WinP) (x y d e : Int) (hd : 0 ≤ d) (he : 0 ≤ e) : alN a b x y ≤ alN a b (goby (b.x - a.x) x d) (goby (b.y - a.y) y e) := by
  unfold alN goby
  split
  · split <;> omega
  · split <;> omega
set_option maxRecDepth 100000 in
set_option maxHeartbeats 8000000 in
theorem rises_in (a b : WinP) (x y d e : Int) (ha : a.fitsP) (hb : b.fitsP) (hx : nearP x y) (d0 : 0 ≤ d) (d1 : d ≤ 1048576) (e0 : 0 ≤ e) (e1 : e ≤ 1048576) (w : World) :
    Calls Try.prog 14 #[.agg #[.int .i64 a.x, .int .i64 a.y, .int .i64 a.z, .int .i64 a.c0, .int .i64 a.c1, .int .i64 a.c2, .int .i64 a.c3, .int .i64 b.x, .int .i64 b.y, .int .i64 b.z, .int .i64 b.c0, .int .i64 b.c1, .int .i64 b.c2, .int .i64 b.c3, .int .i64 x, .int .i64 y, .int .i64 d, .int .i64 e]] w (Ret (.bool true) w) := by
  have F1 := Lib.hid (fun w => fits16_any a w)
  have F2 := Lib.hid (fun w => fits16_any b w)
  have F3 := Lib.hid (fun w => near16_any x y w)
  simp only [ha, hb, hx, decide_true] at F1 F2 F3
  go_enter Try.func14, Try.ntmps14
  go_wp2
  refine wp_region_mix (by kernel_rfl) ?_
  repeat (first | (refine mix_skip rfl ?_; simp only [List.nil_append, List.cons_append]) | (refine mix_ncheck rfl rfl rfl ?_; simp only [Act.put, List.setIfInBounds_toArray, List.set_cons_zero, List.set_cons_succ, List.nil_append, List.cons_append]) | (refine mix_calm rfl rfl ?_; intro K_ hK_; go_big_quiet_op; go_big_quiet_on; simp only [List.nil_append, List.cons_append]) | (refine mix_alloc rfl rfl Try.zeroValue86 ?_; simp only [List.nil_append, List.cons_append]) | (refine mix_alloc rfl rfl Try.zeroValue45 ?_; simp only [List.nil_append, List.cons_append]) | (refine mix_fill 8 rfl rfl rfl rfl (by simp [Value.oneCell']) (by kernel_rfl) (by simp) rfl rfl rfl rfl ?_; simp only [List.nil_append, List.cons_append]) | (refine mix_fill 9 rfl rfl rfl rfl (by simp [Value.oneCell']) (by kernel_rfl) (by simp) rfl rfl rfl rfl ?_; simp only [List.nil_append, List.cons_append]) | (refine mix_fill 10 rfl rfl rfl rfl (by simp [Value.oneCell']) (by kernel_rfl) (by simp) rfl rfl rfl rfl ?_; simp only [List.nil_append, List.cons_append]) | (refine mix_fill 11 rfl rfl rfl rfl (by simp [Value.oneCell']) (by kernel_rfl) (by simp) rfl rfl rfl rfl ?_; simp only [List.nil_append, List.cons_append]))
  refine mix_nil (mix_end4 8 9 10 11 12 13 14 15 ⟨by kernel_rfl, by kernel_rfl⟩ rfl rfl rfl rfl rfl (by kernel_rfl) rfl rfl rfl rfl (by kernel_rfl) rfl rfl rfl rfl (by kernel_rfl) rfl rfl rfl rfl (by kernel_rfl) ?_)
  intro X p q r s hp hq hr hs ne_p_q ne_p_r ne_p_s ne_q_r ne_q_s ne_r_s
  have c_hp := hp.cell
  have f_hp := hp.frozen
  have g_hp := hp.gap
  have b_hp := Lib.hid hp.block
  simp only [World.size_ext, World.size_alloc, World.size_drew, World.size_setCell] at g_hp
  clear hp
  have c_hq := hq.cell
  have f_hq := hq.frozen
  have g_hq := hq.gap
  have b_hq := Lib.hid hq.block
  simp only [World.size_ext, World.size_alloc, World.size_drew, World.size_setCell] at g_hq
  clear hq
  have c_hr := hr.cell
  have f_hr := hr.frozen
  have g_hr := hr.gap
  have b_hr := Lib.hid hr.block
  simp only [World.size_ext, World.size_alloc, World.size_drew, World.size_setCell] at g_hr
  clear hr
  have c_hs := hs.cell
  have f_hs := hs.frozen
  have g_hs := hs.gap
  have b_hs := Lib.hid hs.block
  simp only [World.size_ext, World.size_alloc, World.size_drew, World.size_setCell] at g_hs
  clear hs
  simp only [Act.put, List.setIfInBounds_toArray, List.set_cons_zero, List.set_cons_succ, ptr]
  go_wp2_with (first | (go_at_call 56; (with_reducible refine (F1.out _).mono ?_); rintro _ _ ⟨rfl, X_, rfl⟩) | (go_at_call 56; (with_reducible refine (F2.out _).mono ?_); rintro _ _ ⟨rfl, X_, rfl⟩) | (go_at_call 57; (with_reducible refine (F3.out _).mono ?_); rintro _ _ ⟨rfl, X_, rfl⟩))
  have hf := ha.f
  have hg := hb.f
  have hnx := hx.f
  obtain ⟨ax0, ax1, ay0, ay1, -, -, -⟩ := ha.f
  obtain ⟨bx0, bx1, by0, by1, -, -, -⟩ := hb.f
  obtain ⟨x0, x1, y0, y1⟩ := hx.f
  refine wp_region_ext (by kernel_rfl) (by kernel_rfl) ?_
  repeat (go_big_quiet_step ((fail)))
  refine wpQuiet_nil ?_
  intro _ hw_ext
  obtain ⟨Y, hw_ext⟩ := hw_ext
  subst hw_ext
  go_upto_region 5 with fail
  refine wp_abs (F := fun wx => Row wx p #[.int .i64 a.x, .int .i64 a.y, .int .i64 a.z, .int .i64 a.c0, .int .i64 a.c1, .int .i64 a.c2, .int .i64 a.c3] 86 ∧ Row wx q #[.int .i64 b.x, .int .i64 b.y, .int .i64 b.z, .int .i64 b.c0, .int .i64 b.c1, .int .i64 b.c2, .int .i64 b.c3] 86 ∧ Row wx r #[.int .i64 x, .int .i64 y] 45 ∧ Row wx s #[.int .i64 d, .int .i64 e] 45 ∧ Chg (fun _ => False) w wx) ⟨by (repeat (first | exact b_hp.out | with_reducible refine Row.ext ?_ _ | with_reducible refine row_drew ?_)), by (repeat (first | exact b_hq.out | with_reducible refine Row.ext ?_ _ | with_reducible refine row_drew ?_)), by (repeat (first | exact b_hr.out | with_reducible refine Row.ext ?_ _ | with_reducible refine row_drew ?_)), by (repeat (first | exact b_hs.out | with_reducible refine Row.ext ?_ _ | with_reducible refine row_drew ?_)), by (repeat (first | exact Chg.refl | with_reducible refine Chg.drew ?_ | with_reducible refine Chg.ext ?_ _ | with_reducible refine Chg.alloc ?_ _ | (with_reducible refine Chg.setCell ?_ (fun hlt_ => absurd hlt_ (by first | omega | (simp; omega))) _)))⟩ ?_
  intro wx ⟨Rp, Rq, Rr, Rs, CH⟩
  have BB : Below w.heap.size w wx := CH.below (fun _ _ h => h) (Nat.le_refl _)
  have sz := CH.size
  have lp := Rp.lt
  have lq := Rq.lt
  have lr := Rr.lt
  have ls := Rs.lt
  have lp' := Nat.le_of_lt lp
  have lq' := Nat.le_of_lt lq
  have lr' := Nat.le_of_lt lr
  have ls' := Nat.le_of_lt ls
  clear c_hp c_hq c_hr c_hs f_hp f_hq f_hr f_hs b_hp b_hq b_hr b_hs g_hp g_hq g_hr g_hs
  have p0 := Rp.cell 0
  have q0 := Rq.cell 0
  have p1 := Rp.cell 1
  have q1 := Rq.cell 1
  have p2 := Rp.cell 2
  have q2 := Rq.cell 2
  have p3 := Rp.cell 3
  have q3 := Rq.cell 3
  have p4 := Rp.cell 4
  have q4 := Rq.cell 4
  have p5 := Rp.cell 5
  have q5 := Rq.cell 5
  have p6 := Rp.cell 6
  have q6 := Rq.cell 6
  have r0 := Rr.cell 0
  have r1 := Rr.cell 1
  have s0 := Rs.cell 0
  have s1 := Rs.cell 1
  simp at p0 q0 p1 q1 p2 q2 p3 q3 p4 q4 p5 q5 p6 q6 r0 r1 s0 s1
  go_upto_region 6 with fail
  have A1 := Lib.hid (fun w => along_any a b x y hf hg hnx w)
  have B1 := Lib.hid (fun w => across_any a b x y hf hg hnx w)
  have SA := al_step a b x y d e d0 e0
  have SB := ac_step a b x y d e d0 e0
  have MA := mid_mono (p := a.z) (q := b.z) (d := alD a b) SA
  have MB := mid_mono (p := a.z) (q := b.z) (d := acD a b) SB
  clear SA SB ha hb hx F1 F2 F3
  by_cases sW : b.x - a.x < 0 <;> by_cases sH : b.y - a.y < 0
  all_goals
    simp only [goby, sW, sH, if_true, if_false] at MA MB
  · by_cases hn : nearP (x - d) (y - e)
    · have F4 := Lib.hid (fun w => near16_any (x - d) (y - e) w)
      simp only [hn, decide_true] at F4
      have A2 := Lib.hid (fun w => along_any a b (x - d) (y - e) hf hg hn.f w)
      have B2 := Lib.hid (fun w => across_any a b (x - d) (y - e) hf hg hn.f w)
      unfold mixed at A1 A2 B1 B2
      generalize mid a.z b.z (alN a b x y) (alD a b) = Z1 at *
      generalize mid a.z b.z (alN a b (x - d) (y - e)) (alD a b) = Z2 at *
      generalize mid a.z b.z (acN a b x y) (acD a b) = Y1 at *
      generalize mid a.z b.z (acN a b (x - d) (y - e)) (acD a b) = Y2 at *
      clear hn hf hg hnx
      by_cases hz : a.z ≤ b.z
      · have k1 := MA.1 hz
        have k2 := MB.1 hz
        clear MA MB
        go_wp2_with (first | (go_at_call 57; (with_reducible refine (F4.out _).mono ?_); rintro _ _ ⟨rfl, X_, rfl⟩) | (go_at_call 58; (with_reducible refine (A1.out _).mono ?_); rintro _ _ ⟨rfl, X_, rfl⟩) | (go_at_call 58; (with_reducible refine (A2.out _).mono ?_); rintro _ _ ⟨rfl, X_, rfl⟩) | (go_at_call 60; (with_reducible refine (B1.out _).mono ?_); rintro _ _ ⟨rfl, X_, rfl⟩) | (go_at_call 60; (with_reducible refine (B2.out _).mono ?_); rintro _ _ ⟨rfl, X_, rfl⟩) | (go_at_call 33; (with_reducible refine (awake16 _).mono ?_); rintro _ _ ⟨rfl, X_, rfl⟩))
        go_ret
        exact Ret.of' (by simp) (by (repeat (first | assumption | exact Below.refl _ _ | with_reducible refine Below.drew ?_ | with_reducible refine Below.ext ?_ (by first | exact Nat.le_refl _ | omega | (simp; done) | (simp; omega)) _ | with_reducible refine Below.alloc ?_ (by first | exact Nat.le_refl _ | omega | (simp; done) | (simp; omega)) _ | with_reducible refine Below.setCell ?_ (by first | exact Nat.le_refl _ | omega | (simp; done) | (simp; omega)) _)))
      · have k1 := MA.2 (by omega)
        have k2 := MB.2 (by omega)
        clear MA MB
        go_wp2_with (first | (go_at_call 57; (with_reducible refine (F4.out _).mono ?_); rintro _ _ ⟨rfl, X_, rfl⟩) | (go_at_call 58; (with_reducible refine (A1.out _).mono ?_); rintro _ _ ⟨rfl, X_, rfl⟩) | (go_at_call 58; (with_reducible refine (A2.out _).mono ?_); rintro _ _ ⟨rfl, X_, rfl⟩) | (go_at_call 60; (with_reducible refine (B1.out _).mono ?_); rintro _ _ ⟨rfl, X_, rfl⟩) | (go_at_call 60; (with_reducible refine (B2.out _).mono ?_); rintro _ _ ⟨rfl, X_, rfl⟩) | (go_at_call 33; (with_reducible refine (awake16 _).mono ?_); rintro _ _ ⟨rfl, X_, rfl⟩))
        go_ret
        exact Ret.of' (by simp) (by (repeat (first | assumption | exact Below.refl _ _ | with_reducible refine Below.drew ?_ | with_reducible refine Below.ext ?_ (by first | exact Nat.le_refl _ | omega | (simp; done) | (simp; omega)) _ | with_reducible refine Below.alloc ?_ (by first | exact Nat.le_refl _ | omega | (simp; done) | (simp; omega)) _ | with_reducible refine Below.setCell ?_ (by first | exact Nat.le_refl _ | omega | (simp; done) | (simp; omega)) _)))
    · have F4 := Lib.hid (fun w => near16_any (x - d) (y - e) w)
      simp only [hn, decide_false] at F4
      clear hn hf hg hnx MA MB A1 B1
      go_wp2_with (first | (go_at_call 57; (with_reducible refine (F4.out _).mono ?_); rintro _ _ ⟨rfl, X_, rfl⟩) | (go_at_call 33; (with_reducible refine (awake16 _).mono ?_); rintro _ _ ⟨rfl, X_, rfl⟩))
      go_ret
      exact Ret.of' (by simp) (by (repeat (first | assumption | exact Below.refl _ _ | with_reducible refine Below.drew ?_ | with_reducible refine Below.ext ?_ (by first | exact Nat.le_refl _ | omega | (simp; done) | (simp; omega)) _ | with_reducible refine Below.alloc ?_ (by first | exact Nat.le_refl _ | omega | (simp; done) | (simp; omega)) _ | with_reducible refine Below.setCell ?_ (by first | exact Nat.le_refl _ | omega | (simp; done) | (simp; omega)) _)))
  · by_cases hn : nearP (x - d) (y + e)
    · have F4 := Lib.hid (fun w => near16_any (x - d) (y + e) w)
      simp only [hn, decide_true] at F4
      have A2 := Lib.hid (fun w => along_any a b (x - d) (y + e) hf hg hn.f w)
      have B2 := Lib.hid (fun w => across_any a b (x - d) (y + e) hf hg hn.f w)
      unfold mixed at A1 A2 B1 B2
      generalize mid a.z b.z (alN a b x y) (alD a b) = Z1 at *
      generalize mid a.z b.z (alN a b (x - d) (y + e)) (alD a b) = Z2 at *
      generalize mid a.z b.z (acN a b x y) (acD a b) = Y1 at *
      generalize mid a.z b.z (acN a b (x - d) (y + e)) (acD a b) = Y2 at *
      clear hn hf hg hnx
      by_cases hz : a.z ≤ b.z
      · have k1 := MA.1 hz
        have k2 := MB.1 hz
        clear MA MB
        go_wp2_with (first | (go_at_call 57; (with_reducible refine (F4.out _).mono ?_); rintro _ _ ⟨rfl, X_, rfl⟩) | (go_at_call 58; (with_reducible refine (A1.out _).mono ?_); rintro _ _ ⟨rfl, X_, rfl⟩) | (go_at_call 58; (with_reducible refine (A2.out _).mono ?_); rintro _ _ ⟨rfl, X_, rfl⟩) | (go_at_call 60; (with_reducible refine (B1.out _).mono ?_); rintro _ _ ⟨rfl, X_, rfl⟩) | (go_at_call 60; (with_reducible refine (B2.out _).mono ?_); rintro _ _ ⟨rfl, X_, rfl⟩) | (go_at_call 33; (with_reducible refine (awake16 _).mono ?_); rintro _ _ ⟨rfl, X_, rfl⟩))
        go_ret
        exact Ret.of' (by simp) (by (repeat (first | assumption | exact Below.refl _ _ | with_reducible refine Below.drew ?_ | with_reducible refine Below.ext ?_ (by first | exact Nat.le_refl _ | omega | (simp; done) | (simp; omega)) _ | with_reducible refine Below.alloc ?_ (by first | exact Nat.le_refl _ | omega | (simp; done) | (simp; omega)) _ | with_reducible refine Below.setCell ?_ (by first | exact Nat.le_refl _ | omega | (simp; done) | (simp; omega)) _)))
      · have k1 := MA.2 (by omega)
        have k2 := MB.2 (by omega)
        clear MA MB
        go_wp2_with (first | (go_at_call 57; (with_reducible refine (F4.out _).mono ?_); rintro _ _ ⟨rfl, X_, rfl⟩) | (go_at_call 58; (with_reducible refine (A1.out _).mono ?_); rintro _ _ ⟨rfl, X_, rfl⟩) | (go_at_call 58; (with_reducible refine (A2.out _).mono ?_); rintro _ _ ⟨rfl, X_, rfl⟩) | (go_at_call 60; (with_reducible refine (B1.out _).mono ?_); rintro _ _ ⟨rfl, X_, rfl⟩) | (go_at_call 60; (with_reducible refine (B2.out _).mono ?_); rintro _ _ ⟨rfl, X_, rfl⟩) | (go_at_call 33; (with_reducible refine (awake16 _).mono ?_); rintro _ _ ⟨rfl, X_, rfl⟩))
        go_ret
        exact Ret.of' (by simp) (by (repeat (first | assumption | exact Below.refl _ _ | with_reducible refine Below.drew ?_ | with_reducible refine Below.ext ?_ (by first | exact Nat.le_refl _ | omega | (simp; done) | (simp; omega)) _ | with_reducible refine Below.alloc ?_ (by first | exact Nat.le_refl _ | omega | (simp; done) | (simp; omega)) _ | with_reducible refine Below.setCell ?_ (by first | exact Nat.le_refl _ | omega | (simp; done) | (simp; omega)) _)))
    · have F4 := Lib.hid (fun w => near16_any (x - d) (y + e) w)
      simp only [hn, decide_false] at F4
      clear hn hf hg hnx MA MB A1 B1
      go_wp2_with (first | (go_at_call 57; (with_reducible refine (F4.out _).mono ?_); rintro _ _ ⟨rfl, X_, rfl⟩) | (go_at_call 33; (with_reducible refine (awake16 _).mono ?_); rintro _ _ ⟨rfl, X_, rfl⟩))
      go_ret
      exact Ret.of' (by simp) (by (repeat (first | assumption | exact Below.refl _ _ | with_reducible refine Below.drew ?_ | with_reducible refine Below.ext ?_ (by first | exact Nat.le_refl _ | omega | (simp; done) | (simp; omega)) _ | with_reducible refine Below.alloc ?_ (by first | exact Nat.le_refl _ | omega | (simp; done) | (simp; omega)) _ | with_reducible refine Below.setCell ?_ (by first | exact Nat.le_refl _ | omega | (simp; done) | (simp; omega)) _)))
  · by_cases hn : nearP (x + d) (y - e)
    · have F4 := Lib.hid (fun w => near16_any (x + d) (y - e) w)
      simp only [hn, decide_true] at F4
      have A2 := Lib.hid (fun w => along_any a b (x + d) (y - e) hf hg hn.f w)
      have B2 := Lib.hid (fun w => across_any a b (x + d) (y - e) hf hg hn.f w)
      unfold mixed at A1 A2 B1 B2
      generalize mid a.z b.z (alN a b x y) (alD a b) = Z1 at *
      generalize mid a.z b.z (alN a b (x + d) (y - e)) (alD a b) = Z2 at *
      generalize mid a.z b.z (acN a b x y) (acD a b) = Y1 at *
      generalize mid a.z b.z (acN a b (x + d) (y - e)) (acD a b) = Y2 at *
      clear hn hf hg hnx
      by_cases hz : a.z ≤ b.z
      · have k1 := MA.1 hz
        have k2 := MB.1 hz
        clear MA MB
        go_wp2_with (first | (go_at_call 57; (with_reducible refine (F4.out _).mono ?_); rintro _ _ ⟨rfl, X_, rfl⟩) | (go_at_call 58; (with_reducible refine (A1.out _).mono ?_); rintro _ _ ⟨rfl, X_, rfl⟩) | (go_at_call 58; (with_reducible refine (A2.out _).mono ?_); rintro _ _ ⟨rfl, X_, rfl⟩) | (go_at_call 60; (with_reducible refine (B1.out _).mono ?_); rintro _ _ ⟨rfl, X_, rfl⟩) | (go_at_call 60; (with_reducible refine (B2.out _).mono ?_); rintro _ _ ⟨rfl, X_, rfl⟩) | (go_at_call 33; (with_reducible refine (awake16 _).mono ?_); rintro _ _ ⟨rfl, X_, rfl⟩))
        go_ret
        exact Ret.of' (by simp) (by (repeat (first | assumption | exact Below.refl _ _ | with_reducible refine Below.drew ?_ | with_reducible refine Below.ext ?_ (by first | exact Nat.le_refl _ | omega | (simp; done) | (simp; omega)) _ | with_reducible refine Below.alloc ?_ (by first | exact Nat.le_refl _ | omega | (simp; done) | (simp; omega)) _ | with_reducible refine Below.setCell ?_ (by first | exact Nat.le_refl _ | omega | (simp; done) | (simp; omega)) _)))
      · have k1 := MA.2 (by omega)
        have k2 := MB.2 (by omega)
        clear MA MB
        go_wp2_with (first | (go_at_call 57; (with_reducible refine (F4.out _).mono ?_); rintro _ _ ⟨rfl, X_, rfl⟩) | (go_at_call 58; (with_reducible refine (A1.out _).mono ?_); rintro _ _ ⟨rfl, X_, rfl⟩) | (go_at_call 58; (with_reducible refine (A2.out _).mono ?_); rintro _ _ ⟨rfl, X_, rfl⟩) | (go_at_call 60; (with_reducible refine (B1.out _).mono ?_); rintro _ _ ⟨rfl, X_, rfl⟩) | (go_at_call 60; (with_reducible refine (B2.out _).mono ?_); rintro _ _ ⟨rfl, X_, rfl⟩) | (go_at_call 33; (with_reducible refine (awake16 _).mono ?_); rintro _ _ ⟨rfl, X_, rfl⟩))
        go_ret
        exact Ret.of' (by simp) (by (repeat (first | assumption | exact Below.refl _ _ | with_reducible refine Below.drew ?_ | with_reducible refine Below.ext ?_ (by first | exact Nat.le_refl _ | omega | (simp; done) | (simp; omega)) _ | with_reducible refine Below.alloc ?_ (by first | exact Nat.le_refl _ | omega | (simp; done) | (simp; omega)) _ | with_reducible refine Below.setCell ?_ (by first | exact Nat.le_refl _ | omega | (simp; done) | (simp; omega)) _)))
    · have F4 := Lib.hid (fun w => near16_any (x + d) (y - e) w)
      simp only [hn, decide_false] at F4
      clear hn hf hg hnx MA MB A1 B1
      go_wp2_with (first | (go_at_call 57; (with_reducible refine (F4.out _).mono ?_); rintro _ _ ⟨rfl, X_, rfl⟩) | (go_at_call 33; (with_reducible refine (awake16 _).mono ?_); rintro _ _ ⟨rfl, X_, rfl⟩))
      go_ret
      exact Ret.of' (by simp) (by (repeat (first | assumption | exact Below.refl _ _ | with_reducible refine Below.drew ?_ | with_reducible refine Below.ext ?_ (by first | exact Nat.le_refl _ | omega | (simp; done) | (simp; omega)) _ | with_reducible refine Below.alloc ?_ (by first | exact Nat.le_refl _ | omega | (simp; done) | (simp; omega)) _ | with_reducible refine Below.setCell ?_ (by first | exact Nat.le_refl _ | omega | (simp; done) | (simp; omega)) _)))
  · by_cases hn : nearP (x + d) (y + e)
    · have F4 := Lib.hid (fun w => near16_any (x + d) (y + e) w)
      simp only [hn, decide_true] at F4
      have A2 := Lib.hid (fun w => along_any a b (x + d) (y + e) hf hg hn.f w)
      have B2 := Lib.hid (fun w => across_any a b (x + d) (y + e) hf hg hn.f w)
      unfold mixed at A1 A2 B1 B2
      generalize mid a.z b.z (alN a b x y) (alD a b) = Z1 at *
      generalize mid a.z b.z (alN a b (x + d) (y + e)) (alD a b) = Z2 at *
      generalize mid a.z b.z (acN a b x y) (acD a b) = Y1 at *
      generalize mid a.z b.z (acN a b (x + d) (y + e)) (acD a b) = Y2 at *
      clear hn hf hg hnx
      by_cases hz : a.z ≤ b.z
      · have k1 := MA.1 hz
        have k2 := MB.1 hz
        clear MA MB
        go_wp2_with (first | (go_at_call 57; (with_reducible refine (F4.out _).mono ?_); rintro _ _ ⟨rfl, X_, rfl⟩) | (go_at_call 58; (with_reducible refine (A1.out _).mono ?_); rintro _ _ ⟨rfl, X_, rfl⟩) | (go_at_call 58; (with_reducible refine (A2.out _).mono ?_); rintro _ _ ⟨rfl, X_, rfl⟩) | (go_at_call 60; (with_reducible refine (B1.out _).mono ?_); rintro _ _ ⟨rfl, X_, rfl⟩) | (go_at_call 60; (with_reducible refine (B2.out _).mono ?_); rintro _ _ ⟨rfl, X_, rfl⟩) | (go_at_call 33; (with_reducible refine (awake16 _).mono ?_); rintro _ _ ⟨rfl, X_, rfl⟩))
        go_ret
        exact Ret.of' (by simp) (by (repeat (first | assumption | exact Below.refl _ _ | with_reducible refine Below.drew ?_ | with_reducible refine Below.ext ?_ (by first | exact Nat.le_refl _ | omega | (simp; done) | (simp; omega)) _ | with_reducible refine Below.alloc ?_ (by first | exact Nat.le_refl _ | omega | (simp; done) | (simp; omega)) _ | with_reducible refine Below.setCell ?_ (by first | exact Nat.le_refl _ | omega | (simp; done) | (simp; omega)) _)))
      · have k1 := MA.2 (by omega)
        have k2 := MB.2 (by omega)
        clear MA MB
        go_wp2_with (first | (go_at_call 57; (with_reducible refine (F4.out _).mono ?_); rintro _ _ ⟨rfl, X_, rfl⟩) | (go_at_call 58; (with_reducible refine (A1.out _).mono ?_); rintro _ _ ⟨rfl, X_, rfl⟩) | (go_at_call 58; (with_reducible refine (A2.out _).mono ?_); rintro _ _ ⟨rfl, X_, rfl⟩) | (go_at_call 60; (with_reducible refine (B1.out _).mono ?_); rintro _ _ ⟨rfl, X_, rfl⟩) | (go_at_call 60; (with_reducible refine (B2.out _).mono ?_); rintro _ _ ⟨rfl, X_, rfl⟩) | (go_at_call 33; (with_reducible refine (awake16 _).mono ?_); rintro _ _ ⟨rfl, X_, rfl⟩))
        go_ret
        exact Ret.of' (by simp) (by (repeat (first | assumption | exact Below.refl _ _ | with_reducible refine Below.drew ?_ | with_reducible refine Below.ext ?_ (by first | exact Nat.le_refl _ | omega | (simp; done) | (simp; omega)) _ | with_reducible refine Below.alloc ?_ (by first | exact Nat.le_refl _ | omega | (simp; done) | (simp; omega)) _ | with_reducible refine Below.setCell ?_ (by first | exact Nat.le_refl _ | omega | (simp; done) | (simp; omega)) _)))
    · have F4 := Lib.hid (fun w => near16_any (x + d) (y + e) w)
      simp only [hn, decide_false] at F4
      clear hn hf hg hnx MA MB A1 B1
      go_wp2_with (first | (go_at_call 57; (with_reducible refine (F4.out _).mono ?_); rintro _ _ ⟨rfl, X_, rfl⟩) | (go_at_call 33; (with_reducible refine (awake16 _).mono ?_); rintro _ _ ⟨rfl, X_, rfl⟩))
      go_ret
      exact Ret.of' (by simp) (by (repeat (first | assumption | exact Below.refl _ _ | with_reducible refine Below.drew ?_ | with_reducible refine Below.ext ?_ (by first | exact Nat.le_refl _ | omega | (simp; done) | (simp; omega)) _ | with_reducible refine Below.alloc ?_ (by first | exact Nat.le_refl _ | omega | (simp; done) | (simp; omega)) _ | with_reducible refine Below.setCell ?_ (by first | exact Nat.le_refl _ | omega | (simp; done) | (simp; omega)) _)))
set_option maxRecDepth 100000 in
set_option maxHeartbeats 8000000 in
theorem rises_out (a b : WinP) (x y d e : Int) (h : ¬ (a.fitsP ∧ b.fitsP ∧ nearP x y ∧ 0 ≤ d ∧ d ≤ 1048576 ∧ 0 ≤ e ∧ e ≤ 1048576)) (w : World) :
    Calls Try.prog 14 #[.agg #[.int .i64 a.x, .int .i64 a.y, .int .i64 a.z, .int .i64 a.c0, .int .i64 a.c1, .int .i64 a.c2, .int .i64 a.c3, .int .i64 b.x, .int .i64 b.y, .int .i64 b.z, .int .i64 b.c0, .int .i64 b.c1, .int .i64 b.c2, .int .i64 b.c3, .int .i64 x, .int .i64 y, .int .i64 d, .int .i64 e]] w (Ret (.bool true) w) := by
  have F1 := Lib.hid (fun w => fits16_any a w)
  have F2 := Lib.hid (fun w => fits16_any b w)
  have F3 := Lib.hid (fun w => near16_any x y w)
  go_enter Try.func14, Try.ntmps14
  go_wp2
  refine wp_region_mix (by kernel_rfl) ?_
  repeat (first | (refine mix_skip rfl ?_; simp only [List.nil_append, List.cons_append]) | (refine mix_ncheck rfl rfl rfl ?_; simp only [Act.put, List.setIfInBounds_toArray, List.set_cons_zero, List.set_cons_succ, List.nil_append, List.cons_append]) | (refine mix_calm rfl rfl ?_; intro K_ hK_; go_big_quiet_op; go_big_quiet_on; simp only [List.nil_append, List.cons_append]) | (refine mix_alloc rfl rfl Try.zeroValue86 ?_; simp only [List.nil_append, List.cons_append]) | (refine mix_alloc rfl rfl Try.zeroValue45 ?_; simp only [List.nil_append, List.cons_append]) | (refine mix_fill 8 rfl rfl rfl rfl (by simp [Value.oneCell']) (by kernel_rfl) (by simp) rfl rfl rfl rfl ?_; simp only [List.nil_append, List.cons_append]) | (refine mix_fill 9 rfl rfl rfl rfl (by simp [Value.oneCell']) (by kernel_rfl) (by simp) rfl rfl rfl rfl ?_; simp only [List.nil_append, List.cons_append]) | (refine mix_fill 10 rfl rfl rfl rfl (by simp [Value.oneCell']) (by kernel_rfl) (by simp) rfl rfl rfl rfl ?_; simp only [List.nil_append, List.cons_append]) | (refine mix_fill 11 rfl rfl rfl rfl (by simp [Value.oneCell']) (by kernel_rfl) (by simp) rfl rfl rfl rfl ?_; simp only [List.nil_append, List.cons_append]))
  refine mix_nil (mix_end4 8 9 10 11 12 13 14 15 ⟨by kernel_rfl, by kernel_rfl⟩ rfl rfl rfl rfl rfl (by kernel_rfl) rfl rfl rfl rfl (by kernel_rfl) rfl rfl rfl rfl (by kernel_rfl) rfl rfl rfl rfl (by kernel_rfl) ?_)
  intro X p q r s hp hq hr hs ne_p_q ne_p_r ne_p_s ne_q_r ne_q_s ne_r_s
  have c_hp := hp.cell
  have f_hp := hp.frozen
  have g_hp := hp.gap
  have b_hp := Lib.hid hp.block
  simp only [World.size_ext, World.size_alloc, World.size_drew, World.size_setCell] at g_hp
  clear hp
  have c_hq := hq.cell
  have f_hq := hq.frozen
  have g_hq := hq.gap
  have b_hq := Lib.hid hq.block
  simp only [World.size_ext, World.size_alloc, World.size_drew, World.size_setCell] at g_hq
  clear hq
  have c_hr := hr.cell
  have f_hr := hr.frozen
  have g_hr := hr.gap
  have b_hr := Lib.hid hr.block
  simp only [World.size_ext, World.size_alloc, World.size_drew, World.size_setCell] at g_hr
  clear hr
  have c_hs := hs.cell
  have f_hs := hs.frozen
  have g_hs := hs.gap
  have b_hs := Lib.hid hs.block
  simp only [World.size_ext, World.size_alloc, World.size_drew, World.size_setCell] at g_hs
  clear hs
  simp only [Act.put, List.setIfInBounds_toArray, List.set_cons_zero, List.set_cons_succ, ptr]
  by_cases ha : a.fitsP
  · by_cases hb : b.fitsP
    · by_cases hx : nearP x y
      · have h2 : ¬ (0 ≤ d ∧ d ≤ 1048576 ∧ 0 ≤ e ∧ e ≤ 1048576) := fun hh => h ⟨ha, hb, hx, hh⟩
        simp only [ha, hb, hx, decide_true] at F1 F2 F3
        clear h ha hb hx
        go_wp2_with (first | (go_at_call 56; (with_reducible refine (F1.out _).mono ?_); rintro _ _ ⟨rfl, X_, rfl⟩) | (go_at_call 56; (with_reducible refine (F2.out _).mono ?_); rintro _ _ ⟨rfl, X_, rfl⟩) | (go_at_call 57; (with_reducible refine (F3.out _).mono ?_); rintro _ _ ⟨rfl, X_, rfl⟩) | (go_at_call 33; (with_reducible refine (awake16 _).mono ?_); rintro _ _ ⟨rfl, X_, rfl⟩))
        all_goals first
          | (exfalso; omega)
          | (go_ret; exact Ret.of' (by simp) (by (repeat (first | exact Below.refl _ _ | with_reducible refine Below.drew ?_ | with_reducible refine Below.ext ?_ (by first | exact Nat.le_refl _ | (simp; done) | (simp; omega)) _ | with_reducible refine Below.alloc ?_ (by first | exact Nat.le_refl _ | (simp; done) | (simp; omega)) _ | with_reducible refine Below.setCell ?_ (by first | exact Nat.le_refl _ | (simp; done) | (simp; omega)) _))))
      · simp only [ha, hb, hx, decide_true, decide_false] at F1 F2 F3
        clear h ha hb hx
        go_wp2_with (first | (go_at_call 56; (with_reducible refine (F1.out _).mono ?_); rintro _ _ ⟨rfl, X_, rfl⟩) | (go_at_call 56; (with_reducible refine (F2.out _).mono ?_); rintro _ _ ⟨rfl, X_, rfl⟩) | (go_at_call 57; (with_reducible refine (F3.out _).mono ?_); rintro _ _ ⟨rfl, X_, rfl⟩) | (go_at_call 33; (with_reducible refine (awake16 _).mono ?_); rintro _ _ ⟨rfl, X_, rfl⟩))
        go_ret
        exact Ret.of' (by simp) (by (repeat (first | exact Below.refl _ _ | with_reducible refine Below.drew ?_ | with_reducible refine Below.ext ?_ (by first | exact Nat.le_refl _ | (simp; done) | (simp; omega)) _ | with_reducible refine Below.alloc ?_ (by first | exact Nat.le_refl _ | (simp; done) | (simp; omega)) _ | with_reducible refine Below.setCell ?_ (by first | exact Nat.le_refl _ | (simp; done) | (simp; omega)) _)))
    · simp only [ha, hb, decide_true, decide_false] at F1 F2
      clear h ha hb
      go_wp2_with (first | (go_at_call 56; (with_reducible refine (F1.out _).mono ?_); rintro _ _ ⟨rfl, X_, rfl⟩) | (go_at_call 56; (with_reducible refine (F2.out _).mono ?_); rintro _ _ ⟨rfl, X_, rfl⟩) | (go_at_call 33; (with_reducible refine (awake16 _).mono ?_); rintro _ _ ⟨rfl, X_, rfl⟩))
      go_ret
      exact Ret.of' (by simp) (by (repeat (first | exact Below.refl _ _ | with_reducible refine Below.drew ?_ | with_reducible refine Below.ext ?_ (by first | exact Nat.le_refl _ | (simp; done) | (simp; omega)) _ | with_reducible refine Below.alloc ?_ (by first | exact Nat.le_refl _ | (simp; done) | (simp; omega)) _ | with_reducible refine Below.setCell ?_ (by first | exact Nat.le_refl _ | (simp; done) | (simp; omega)) _)))
  · simp only [ha, decide_false] at F1
    clear h ha
    go_wp2_with (first | (go_at_call 56; (with_reducible refine (F1.out _).mono ?_); rintro _ _ ⟨rfl, X_, rfl⟩) | (go_at_call 33; (with_reducible refine (awake16 _).mono ?_); rintro _ _ ⟨rfl, X_, rfl⟩))
    go_ret
    exact Ret.of' (by simp) (by (repeat (first | exact Below.refl _ _ | with_reducible refine Below.drew ?_ | with_reducible refine Below.ext ?_ (by first | exact Nat.le_refl _ | (simp; done) | (simp; omega)) _ | with_reducible refine Below.alloc ?_ (by first | exact Nat.le_refl _ | (simp; done) | (simp; omega)) _ | with_reducible refine Below.setCell ?_ (by first | exact Nat.le_refl _ | (simp; done) | (simp; omega)) _)))
theorem LerpRises_all : LerpRises_stmt := by
  intro aX aY aZ aC0 aC1 aC2 aC3 bX bY bZ bC0 bC1 bC2 bC3 c0 c1 d0 d1 w hh
  let a : WinP := ⟨aX, aY, aZ, aC0, aC1, aC2, aC3⟩
  let b : WinP := ⟨bX, bY, bZ, bC0, bC1, bC2, bC3⟩
  by_cases h : a.fitsP ∧ b.fitsP ∧ nearP c0 c1 ∧ 0 ≤ d0 ∧ d0 ≤ 1048576 ∧ 0 ≤ d1 ∧ d1 ≤ 1048576
  · obtain ⟨h1, h2, h3, h4, h5, h6, h7⟩ := h
    exact rises_in a b c0 c1 d0 d1 h1 h2 h3 h4 h5 h6 h7 w
  · exact rises_out a b c0 c1 d0 d1 h w
theorem LerpRises_holds : Rows.LerpRisesSaid := LerpRises_end LerpRises_all
end Go.Proofs.Ytmlhbbkgfffmcaa
