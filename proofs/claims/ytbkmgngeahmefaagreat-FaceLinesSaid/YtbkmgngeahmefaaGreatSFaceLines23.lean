/- Parts of the proof of FaceLines, laid together. Conditions: at each. -/
import Derived.Test.YtbkmgngeahmefaaGreatSFaceLines04
import Derived.Test.YtbkmgngeahmefaaGreatSFaceLines22
set_option linter.unusedVariables false
set_option linter.unusedSimpArgs false
section
section
namespace Go.Proofs.YtbkmgngeahmefaaGreat
open Go.RowKit
set_option maxRecDepth 100000 in
set_option maxHeartbeats 4000000 in
theorem rmul_any (a b : Int) (ha : sml a) (hb : sml b) (w : World) : Calls Tryz.prog 92 #[.int .i64 a, .int .i64 b] w (Ret (I2 (a * b)) w) := by
  have hm := mul_in ha hb
  have TO := Lib.hid (fun v n w h => to_any v (a * b) n w h)
  rw [i2b_yes hm] at TO
  clear hm
  go_enter Tryz.func92, Tryz.ntmps92
  go_wp2_with (first
    | (go_at_call 162; (with_reducible refine Calls.mono (rnum_any a ha _) ?_); (repeat (first | assumption | exact N1.out | exact N2.out | exact N3.out | exact N4.out | with_reducible refine RN.ext ?_ _ | with_reducible refine RN.alloc ?_ _ | with_reducible refine RN.drew ?_)); rintro _ _ ⟨v_N1, rfl, g_N1, ⟨Y_N1, rfl⟩⟩; obtain ⟨m_N1, a_N1, k_N1, c_N1, rfl⟩ := g_N1.form; have N1 := Lib.hid g_N1; clear g_N1)
    | (go_at_call 162; (with_reducible refine Calls.mono (rnum_any b hb _) ?_); (repeat (first | assumption | exact N1.out | exact N2.out | exact N3.out | exact N4.out | with_reducible refine RN.ext ?_ _ | with_reducible refine RN.alloc ?_ _ | with_reducible refine RN.drew ?_)); rintro _ _ ⟨v_N2, rfl, g_N2, ⟨Y_N2, rfl⟩⟩; obtain ⟨m_N2, a_N2, k_N2, c_N2, rfl⟩ := g_N2.form; have N2 := Lib.hid g_N2; clear g_N2)
    | (go_at_call 161; (with_reducible refine Calls.mono (prod_any _ _ a b 129 129 _ ?_ ?_ (by decide)) ?_); (repeat (first | assumption | exact N1.out | exact N2.out | exact N3.out | exact N4.out | with_reducible refine RN.ext ?_ _ | with_reducible refine RN.alloc ?_ _ | with_reducible refine RN.drew ?_)); rintro _ _ ⟨v_N3, rfl, g_N3, ⟨Y_N3, rfl⟩⟩; obtain ⟨m_N3, a_N3, k_N3, c_N3, rfl⟩ := g_N3.form; have N3 := Lib.hid g_N3; clear g_N3)
    | (go_at_call 93; (with_reducible refine (TO.out _ _ _ N3.out).mono ?_); rintro _ _ ⟨rfl, X_, rfl⟩))
  refine bodyPost_ret (v := I2 (a * b)) (by simp [results, Tryz.results92, go_sem]) rfl (Ret.of (by exact bl_))
theorem rsmall_any (z : Int) (hz : inR z) (w : World) : Calls Tryz.prog 94 #[I2 z] w (Ret (.tuple #[.int .i64 (smlV z), .bool (decide (sml z))]) w) := by
  obtain ⟨e, l0, l1⟩ := hilo z
  obtain ⟨h0, h1⟩ := hiR hz
  have hw : sml (wrap64 (loN z)) := by unfold sml wrap64; omega
  have O := Lib.hid (fun w => rof_any (wrap64 (loN z)) hw w)
  by_cases hs : sml z
  · have t2 : wrap64 (loN z) = z := by unfold sml at hs; unfold wrap64; omega
    rw [t2] at O
    rw [smlV_yes hs, show decide (sml z) = true by simp [hs]]
    clear hs e hw
    go_enter Tryz.func94, Tryz.ntmps94
    go_wp2
    refine wp_region_ext (by kernel_rfl) (by kernel_rfl) ?_
    repeat (go_big_quiet_step (((go_at_call 67; with_reducible exact Calls.quiet_ret (O.out _)))))
    refine wpQuiet_nil ?_
    intro _ hw_ext
    obtain ⟨X, hw_ext⟩ := hw_ext
    subst hw_ext
    go_wp2
    refine bodyPost_ret (v := .tuple #[.int .i64 z, .bool true]) (by simp [results, Tryz.results94, go_sem, t2]) rfl (Ret.of (by exact bl_))
  · rw [smlV_no hs, show decide (sml z) = false by simp [hs]]
    have hne : ¬ hiN (wrap64 (loN z)) = hiN z := by
      intro h
      apply hs
      obtain ⟨e', l0', l1'⟩ := hilo (wrap64 (loN z))
      have : wrap64 (loN z) % 18446744073709551616 = loN z := by unfold wrap64; omega
      have : loN (wrap64 (loN z)) = loN z := this
      unfold sml at *; omega
    have d1 : (hiN (wrap64 (loN z)) == hiN z) = false := by simp [hne]
    clear hs e hw hne
    go_enter Tryz.func94, Tryz.ntmps94
    go_wp2
    refine wp_region_ext (by kernel_rfl) (by kernel_rfl) ?_
    repeat (go_big_quiet_step (((go_at_call 67; with_reducible exact Calls.quiet_ret (O.out _)))))
    refine wpQuiet_nil ?_
    intro _ hw_ext
    obtain ⟨X, hw_ext⟩ := hw_ext
    subst hw_ext
    go_wp2
    refine bodyPost_ret (v := .tuple #[.int .i64 0, .bool false]) (by simp [results, Tryz.results94, go_sem]) rfl (Ret.of (by exact bl_))
set_option maxRecDepth 100000 in
set_option maxHeartbeats 4000000 in
theorem rmid08_any (p q n d : Int) (hp : tame p) (hq : tame q) (hn0 : 0 ≤ n) (hnd : n ≤ d) (hd : 1 ≤ d) (hds : sml d) (w : World) : Calls Tryz.prog 248 #[.int .i64 p, .int .i64 q, .int .i64 n, .int .i64 d] w (Ret (.int .i64 (p + (q - p) * n / d)) w) := by
  obtain ⟨hp0, hp1⟩ := hp
  obtain ⟨hq0, hq1⟩ := hq
  obtain ⟨hd0, hd1⟩ := hds
  have s1 : sml p := by unfold sml; omega
  have s2 : sml (d - n) := by unfold sml; omega
  have s3 : sml q := by unfold sml; omega
  have s4 : sml n := by unfold sml; omega
  have hz : (p * (d - n) + q * n) / d = p + (q - p) * n / d := by
    have e : p * (d - n) + q * n = (q - p) * n + d * p := by grind
    rw [e, Int.add_mul_ediv_left _ _ (by omega)]; omega
  have hb : tame (p + (q - p) * n / d) := by
    have := mid_between p q n d
    by_cases h1 : n ≤ 0
    · obtain rfl : n = 0 := by omega
      unfold tame; simp; omega
    · by_cases h2 : d ≤ n
      · obtain rfl : n = d := by omega
        rw [Int.mul_ediv_cancel _ (by omega)]; unfold tame; omega
      · rw [mid_m (by omega) h2] at this
        unfold tame; omega
  have hsm : sml (p + (q - p) * n / d) := by unfold sml; unfold tame at hb; omega
  have M1 := Lib.hid (fun w => rmul_any p (d - n) s1 s2 w)
  have M2 := Lib.hid (fun w => rmul_any q n s3 s4 w)
  have F1 := Lib.hid (fun w => from_any (p * (d - n)) (mul_in s1 s2) w)
  have F2 := Lib.hid (fun w => from_any (q * n) (mul_in s3 s4) w)
  have O := Lib.hid (fun w => rof_any d ⟨hd0, hd1⟩ w)
  have F3 := Lib.hid (fun w => from_any d (sml_in ⟨hd0, hd1⟩) w)
  have FL := Lib.hid (fun v u (j k : Nat) w h1 h2 h3 => floor_any v u (p * (d - n) + q * n) d j k w h1 h2 hd h3)
  rw [hz] at FL
  have TO := Lib.hid (fun v (k : Nat) w h => to_any v (p + (q - p) * n / d) k w h)
  rw [i2b_yes (sml_in hsm)] at TO
  have SM := Lib.hid (fun w => rsmall_any (p + (q - p) * n / d) (sml_in hsm) w)
  rw [smlV_yes hsm, show decide (sml (p + (q - p) * n / d)) = true by simp [hsm]] at SM
  generalize p + (q - p) * n / d = Z at *
  clear hz hb hsm s1 s2 s3 s4
  go_enter Tryz.func248, Tryz.ntmps248
  go_wp2_with (first
    | (go_at_call 92; (with_reducible refine (M1.out _).mono ?_); rintro _ _ ⟨rfl, X_, rfl⟩)
    | (go_at_call 92; (with_reducible refine (M2.out _).mono ?_); rintro _ _ ⟨rfl, X_, rfl⟩)
    | (go_at_call 66; (with_reducible refine Calls.mono (F1.out _) ?_); (repeat (first | assumption | exact N1.out | exact N2.out | exact N3.out | exact N4.out | with_reducible refine RN.ext ?_ _ | with_reducible refine RN.alloc ?_ _ | with_reducible refine RN.drew ?_)); rintro _ _ ⟨v_N1, rfl, g_N1, ⟨Y_N1, rfl⟩⟩; obtain ⟨m_N1, a_N1, k_N1, c_N1, rfl⟩ := g_N1.form; have N1 := Lib.hid g_N1; clear g_N1)
    | (go_at_call 66; (with_reducible refine Calls.mono (F2.out _) ?_); (repeat (first | assumption | exact N1.out | exact N2.out | exact N3.out | exact N4.out | with_reducible refine RN.ext ?_ _ | with_reducible refine RN.alloc ?_ _ | with_reducible refine RN.drew ?_)); rintro _ _ ⟨v_N2, rfl, g_N2, ⟨Y_N2, rfl⟩⟩; obtain ⟨m_N2, a_N2, k_N2, c_N2, rfl⟩ := g_N2.form; have N2 := Lib.hid g_N2; clear g_N2)
    | (go_at_call 65; (with_reducible refine Calls.mono (sum_any _ _ (p * (d - n)) (q * n) 129 129 _ ?_ ?_ (by decide) (by decide)) ?_); (repeat (first | assumption | exact N1.out | exact N2.out | exact N3.out | exact N4.out | with_reducible refine RN.ext ?_ _ | with_reducible refine RN.alloc ?_ _ | with_reducible refine RN.drew ?_)); rintro _ _ ⟨v_N3, rfl, g_N3, ⟨Y_N3, rfl⟩⟩; obtain ⟨m_N3, a_N3, k_N3, c_N3, rfl⟩ := g_N3.form; have N3 := Lib.hid g_N3; clear g_N3)
    | (go_at_call 67; (with_reducible refine (O.out _).mono ?_); rintro _ _ ⟨rfl, X_, rfl⟩)
    | (go_at_call 66; (with_reducible refine Calls.mono (F3.out _) ?_); (repeat (first | assumption | exact N1.out | exact N2.out | exact N3.out | exact N4.out | with_reducible refine RN.ext ?_ _ | with_reducible refine RN.alloc ?_ _ | with_reducible refine RN.drew ?_)); rintro _ _ ⟨v_N4, rfl, g_N4, ⟨Y_N4, rfl⟩⟩; obtain ⟨m_N4, a_N4, k_N4, c_N4, rfl⟩ := g_N4.form; have N4 := Lib.hid g_N4; clear g_N4)
    | (go_at_call 91; (with_reducible refine (FL.out _ _ 130 129 _ ?_ ?_ (by decide)).mono ?_); (repeat (first | assumption | exact N1.out | exact N2.out | exact N3.out | exact N4.out | with_reducible refine RN.ext ?_ _ | with_reducible refine RN.alloc ?_ _ | with_reducible refine RN.drew ?_)); rintro _ _ ⟨v_, rfl, ⟨qv, rv, rfl, gq, gr⟩, ⟨Y_, rfl⟩⟩; obtain ⟨mq, aq, kq, cq, rfl⟩ := gq.form; obtain ⟨mr, ar, kr, cr, rfl⟩ := gr.form; clear N1 N2 N3 N4 gr; have N1 := Lib.hid gq; clear gq)
    | (go_at_call 93; (with_reducible refine (TO.out _ 132 _ ?_).mono ?_); (repeat (first | assumption | exact N1.out | exact N2.out | exact N3.out | exact N4.out | with_reducible refine RN.ext ?_ _ | with_reducible refine RN.alloc ?_ _ | with_reducible refine RN.drew ?_)); rintro _ _ ⟨rfl, X_, rfl⟩)
    | (go_at_call 94; (with_reducible refine (SM.out _).mono ?_); rintro _ _ ⟨rfl, X_, rfl⟩))
  go_ret
  exact Ret.of (by exact bl_)
end Go.Proofs.YtbkmgngeahmefaaGreat
end
section
namespace Go.Proofs.YtbkmgngeahmefaaGreat
open Go.RowKit
def srV (c : Value) : SR Grows := ⟨fun v w => v = c, fun v w w' h _ => h, fun v => v = c, c, rfl, fun v w h => h⟩
end Go.Proofs.YtbkmgngeahmefaaGreat
end
section
namespace Go.Proofs.YtbkmgngeahmefaaGreat
open Go.RowKit
end Go.Proofs.YtbkmgngeahmefaaGreat
end
section
namespace Go.Proofs.YtbkmgngeahmefaaGreat
open Go.RowKit
end Go.Proofs.YtbkmgngeahmefaaGreat
end
end
section
section
namespace Go.Proofs.YtbkmgngeahmefaaGreat
open Go.RowKit
end Go.Proofs.YtbkmgngeahmefaaGreat
end
section
namespace Go.Proofs.YtbkmgngeahmefaaGreat
open Go.RowKit
end Go.Proofs.YtbkmgngeahmefaaGreat
end
section
namespace Go.Proofs.YtbkmgngeahmefaaGreat
open Go.RowKit
end Go.Proofs.YtbkmgngeahmefaaGreat
end
section
namespace Go.Proofs.YtbkmgngeahmefaaGreat
open Go.RowKit
attribute [local go_sem ↓] Go.wp_at_zero Go.wp_at_succ
theorem rmid_any (p q n d : Int) (hp : tame p) (hq : tame q) (hn : sml n) (hd : sml d) (w : World) : Calls Tryz.prog 227 #[.int .i64 p, .int .i64 q, .int .i64 n, .int .i64 d] w (Ret (.int .i64 (mid p q n d)) w) := by
  obtain ⟨hp0, hp1⟩ := hp
  obtain ⟨hq0, hq1⟩ := hq
  by_cases h : d < 1
  · rw [mid_p (.inl h)]
    go_enter Tryz.func227, Tryz.ntmps227
    go_wp2
    go_ret
    exact Ret.of (by exact bl_)
  · have hr : p + (q - p) * (max 0 (min n d)) / d = mid p q n d := by
      by_cases h1 : n ≤ 0
      · rw [mid_p (.inr h1), show max 0 (min n d) = 0 by omega]; simp
      · by_cases h2 : d ≤ n
        · rw [mid_q (by omega) h2, show max 0 (min n d) = d by omega, Int.mul_ediv_cancel _ (by omega)]; omega
        · rw [mid_m (by omega) h2, show max 0 (min n d) = n by omega]
    have R := Lib.hid (fun w => rmid08_any p q (max 0 (min n d)) d ⟨hp0, hp1⟩ ⟨hq0, hq1⟩ (by omega) (by omega) (by omega) hd w)
    rw [hr] at R
    clear hr
    go_enter Tryz.func227, Tryz.ntmps227
    go_wp2_with (first | (go_at_call 248; (with_reducible refine (R.out _).mono ?_); rintro _ _ ⟨rfl, X_, rfl⟩))
    go_ret
    exact Ret.of (by exact bl_)
set_option maxRecDepth 100000 in
set_option maxHeartbeats 4000000 in
theorem rboth_any (a b : WinP) (n d : Int) (ha : a.tame) (hb : b.tame) (hn : sml n) (hd : sml d) (w : World) : Calls Tryz.prog 183 #[a.v, b.v, .int .i64 n, .int .i64 d] w (Ret (mixed a b n d) w) := by
  have M := Lib.hid (fun p q hp hq w => rmid_any p q n d hp hq hn hd w)
  obtain ⟨az, a0, a1, a2, a3⟩ := ha
  obtain ⟨bz, b0, b1, b2, b3⟩ := hb
  go_enter Tryz.func183, Tryz.ntmps183
  go_wp2
  refine wp_loop_rounds 5 ?_
  iterate 4
    rw [rounds_succ]
    go_wp2
    refine wp_region_ext_tail 12 (by kernel_rfl) (by kernel_rfl) ?_
    simp only [List.take_succ_cons, List.take_zero, List.drop_succ_cons, List.drop_zero]
    repeat (go_big_quiet_step ((go_at_call 227; (with_reducible refine Calls.quiet_ret (M.out _ _ ?_ ?_ _)); assumption; assumption)))
    refine wpQuiet_nil ?_
    intro _ hw_ext
    obtain ⟨X, hw_ext⟩ := hw_ext
    subst hw_ext
    go_wp2_with fail
  rw [rounds_succ]
  go_wp2
  refine wp_region_ext_tail 9 (by kernel_rfl) (by kernel_rfl) ?_
  simp only [List.take_succ_cons, List.take_zero, List.drop_succ_cons, List.drop_zero]
  repeat (go_big_quiet_step ((go_at_call 227; (with_reducible refine Calls.quiet_ret (M.out _ _ ?_ ?_ _)); assumption; assumption)))
  refine wpQuiet_nil ?_
  intro _ hw_ext
  obtain ⟨X, hw_ext⟩ := hw_ext
  subst hw_ext
  go_wp2
  refine bodyPost_ret (v := mixed a b n d) ?_ rfl (Ret.of ?_)
  · simp [results, Tryz.results183, go_sem]
  · exact bl_
theorem mixed_congr {a b : WinP} {n d n' d' : Int} (h1 : n = n') (h2 : d = d') : mixed a b n d = mixed a b n' d' := by rw [h1, h2]
set_option maxRecDepth 100000 in
set_option maxHeartbeats 4000000 in
theorem ralong_any (a b : WinP) (x y : Int) (ha : a.fits) (hb : b.fits) (hx : Near x y) (w : World) : Calls Tryz.prog 127 #[a.v, b.v, .int .i64 x, .int .i64 y] w (Ret (mixed a b (alN a b x y) (alD a b)) w) := by
  obtain ⟨x0, x1, y0, y1⟩ := hx
  have B := Lib.hid (fun n d hn hd w => rboth_any a b n d ha.t hb.t hn hd w)
  obtain ⟨ax0, ax1, ay0, ay1, -, -, -⟩ := ha
  obtain ⟨bx0, bx1, by0, by1, -, -, -⟩ := hb
  go_enter Tryz.func127, Tryz.ntmps127
  go_wp2
  refine wp_region_ext (by kernel_rfl) (by kernel_rfl) ?_
  repeat (go_big_quiet_step ((fail)))
  refine wpQuiet_nil ?_
  intro _ hw_ext
  obtain ⟨X, hw_ext⟩ := hw_ext
  subst hw_ext
  go_wp2_with (first | (go_at_call 183; (with_reducible refine (B.out _ _ ?_ ?_ _).mono ?_); (unfold sml; omega); (unfold sml; omega); rintro _ _ ⟨rfl, X_, rfl⟩))
  all_goals
    refine bodyPost_ret (v := mixed a b _ _) (by simp [results, Tryz.results127, go_sem]; exact ⟨rfl, rfl, rfl, rfl, rfl⟩) rfl (Ret.of' (mixed_congr ?_ ?_) (by exact bl_))
    · unfold alN
      repeat' split
      all_goals omega
    · unfold alD
      repeat' split
      all_goals omega
set_option maxRecDepth 100000 in
set_option maxHeartbeats 4000000 in
theorem racross_any (a b : WinP) (x y : Int) (ha : a.fits) (hb : b.fits) (hx : Near x y) (w : World) : Calls Tryz.prog 119 #[a.v, b.v, .int .i64 x, .int .i64 y] w (Ret (mixed a b (acN a b x y) (acD a b)) w) := by
  obtain ⟨x0, x1, y0, y1⟩ := hx
  have B := Lib.hid (fun n d hn hd w => rboth_any a b n d ha.t hb.t hn hd w)
  obtain ⟨ax0, ax1, ay0, ay1, -, -, -⟩ := ha
  obtain ⟨bx0, bx1, by0, by1, -, -, -⟩ := hb
  obtain ⟨W, hW⟩ : ∃ W, b.x - a.x = W := ⟨_, rfl⟩
  obtain ⟨H, hH⟩ : ∃ H, b.y - a.y = H := ⟨_, rfl⟩
  obtain ⟨U, hU⟩ : ∃ U, 256 * x + 128 - a.x = U := ⟨_, rfl⟩
  obtain ⟨V, hV⟩ : ∃ V, 256 * y + 128 - a.y = V := ⟨_, rfl⟩
  have e1 : acN a b x y = U * W + V * H := by unfold acN; rw [Int.mul_comm x 256, Int.mul_comm y 256, hW, hH, hU, hV]
  have e2 : acD a b = W * W + H * H := by unfold acD; rw [hW, hH]
  rw [e1, e2]
  have m1 := mul_bds (u := U) (v := W) (U := 1342177408) (V := 536870912) (by omega) (by omega) (by omega) (by omega) (by omega) (by omega)
  have m2 := mul_bds (u := V) (v := H) (U := 1342177408) (V := 536870912) (by omega) (by omega) (by omega) (by omega) (by omega) (by omega)
  have m3 := mul_bds (u := W) (v := W) (U := 536870912) (V := 536870912) (by omega) (by omega) (by omega) (by omega) (by omega) (by omega)
  have m4 := mul_bds (u := H) (v := H) (U := 536870912) (V := 536870912) (by omega) (by omega) (by omega) (by omega) (by omega) (by omega)
  have sn : sml (U * W + V * H) := by unfold sml; omega
  have sd : sml (W * W + H * H) := by unfold sml; omega
  have k1 : IntKind.i64.wrap (256 * x) = 256 * x := IntWalk.i64_in _ (by omega)
  have k2 : IntKind.i64.wrap (256 * x + 128) = 256 * x + 128 := IntWalk.i64_in _ (by omega)
  have k3 : IntKind.i64.wrap (256 * x + 128 - a.x) = U := by rw [hU]; exact IntWalk.i64_in _ (by omega)
  have k4 : IntKind.i64.wrap (256 * y) = 256 * y := IntWalk.i64_in _ (by omega)
  have k5 : IntKind.i64.wrap (256 * y + 128) = 256 * y + 128 := IntWalk.i64_in _ (by omega)
  have k6 : IntKind.i64.wrap (256 * y + 128 - a.y) = V := by rw [hV]; exact IntWalk.i64_in _ (by omega)
  have k7 : IntKind.i64.wrap (U * W) = U * W := IntWalk.i64_in _ (by omega)
  have k8 : IntKind.i64.wrap (V * H) = V * H := IntWalk.i64_in _ (by omega)
  have k9 : IntKind.i64.wrap (U * W + V * H) = U * W + V * H := IntWalk.i64_in _ (by omega)
  have l1 : IntKind.i64.wrap (W * W) = W * W := IntWalk.i64_in _ (by omega)
  have l2 : IntKind.i64.wrap (H * H) = H * H := IntWalk.i64_in _ (by omega)
  have l3 : IntKind.i64.wrap (W * W + H * H) = W * W + H * H := IntWalk.i64_in _ (by omega)
  have j1 : IntKind.i64.wrap (b.x - a.x) = W := by rw [hW]; exact IntWalk.i64_in _ (by omega)
  have j2 : IntKind.i64.wrap (b.y - a.y) = H := by rw [hH]; exact IntWalk.i64_in _ (by omega)
  clear m1 m2 m3 m4 e1 e2 hW hH hU hV
  go_enter Tryz.func119, Tryz.ntmps119
  go_wp2
  refine wp_region_ext (by kernel_rfl) (by kernel_rfl) ?_
  repeat (go_big_quiet_step ((fail)))
  refine wpQuiet_nil ?_
  intro _ hw_ext
  obtain ⟨X, hw_ext⟩ := hw_ext
  subst hw_ext
  go_wp2_with (first | (go_at_call 183; (with_reducible refine (B.out _ _ sn sd _).mono ?_); rintro _ _ ⟨rfl, X_, rfl⟩))
  refine bodyPost_ret (v := mixed a b _ _) (by simp [results, Tryz.results119, go_sem]) rfl (Ret.of (by exact bl_))
end Go.Proofs.YtbkmgngeahmefaaGreat
end
end
