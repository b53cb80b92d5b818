/- Parts of the proofs, laid together: LerpE, LerpBX, LerpBY, LerpF. Conditions: at each. -/
import Derived.Test.YtamfjfnceeagiaaPLerpA
import Derived.Test.YtamfjfnceeagiaaPNumC
section
/- LerpBetween's parts: a line from its other end. Conditions: such as is promised anything. -/
namespace Go.Proofs.Ytamfjfnceeagiaa
set_option linter.unusedVariables false
set_option linter.unusedSimpArgs false
open Go.RowKit
theorem mid_mm (p q n d : Int) : min p q ≤ mid p q n d ∧ mid p q n d ≤ max p q := by
  have := mid_between p q n d; omega
theorem along_back (a b : WinP) (x y : Int) (ha : a.fits) (hb : b.fits) (hx : Near x y) (h : ¬ (a.x = b.x ∧ a.y = b.y)) (w : World) : Calls Try.prog 95 #[b.v, a.v, .int .i64 x, .int .i64 y] w (Ret (mixed a b (alN a b x y) (alD a b)) w) := by
  have k := along_any b a x y hb ha hx w
  obtain ⟨h1, h2, h3⟩ := al_turn x y h
  rw [h2, h3] at k
  unfold mixed
  simp only [mid_turn (n := alN a b x y) h1]
  exact k
theorem across_back (a b : WinP) (x y : Int) (ha : a.fits) (hb : b.fits) (hx : Near x y) (h : ¬ (a.x = b.x ∧ a.y = b.y)) (w : World) : Calls Try.prog 83 #[b.v, a.v, .int .i64 x, .int .i64 y] w (Ret (mixed a b (acN a b x y) (acD a b)) w) := by
  have k := across_any b a x y hb ha hx w
  obtain ⟨h1, h2, h3⟩ := ac_turn x y h
  rw [h2, h3] at k
  unfold mixed
  simp only [mid_turn (n := acN a b x y) h1]
  exact k
end Go.Proofs.Ytamfjfnceeagiaa
end
section
/- LerpBetween's walk, ends of unlike X. Conditions: such as is promised anything. -/
namespace Go.Proofs.Ytamfjfnceeagiaa
set_option linter.unusedVariables false
set_option linter.unusedSimpArgs false
open Go.RowKit
end Go.Proofs.Ytamfjfnceeagiaa
end
section
/- LerpBetween's walk, ends of unlike Y. Conditions: such as is promised anything. -/
namespace Go.Proofs.Ytamfjfnceeagiaa
set_option linter.unusedVariables false
set_option linter.unusedSimpArgs false
open Go.RowKit
end Go.Proofs.Ytamfjfnceeagiaa
end
section
/- The walks of the reference of layer 16: depth and color of a line. Conditions: such vertices and pixels as are promised anything. -/
namespace Go.Proofs.Ytamfjfnceeagiaa
set_option linter.unusedVariables false
set_option linter.unusedSimpArgs false
open Go.RowKit
attribute [local go_sem ↓] Go.wp_at_zero Go.wp_at_succ
theorem rmid_any (p q n d : Int) (hp : tame p) (hq : tame q) (hn : sml n) (hd : sml d) (w : World) : Calls Try.prog 151 #[.int .i64 p, .int .i64 q, .int .i64 n, .int .i64 d] w (Ret (.int .i64 (mid p q n d)) w) := by
  obtain ⟨hp0, hp1⟩ := hp
  obtain ⟨hq0, hq1⟩ := hq
  by_cases h : d < 1
  · rw [mid_p (.inl h)]
    go_enter Try.func151, Try.ntmps151
    go_wp2
    go_ret
    exact Ret.of (by (repeat (first | exact Below.refl _ _ | with_reducible refine Below.drew ?_ | with_reducible refine Below.ext ?_ (by first | exact Nat.le_refl _ | (simp; done) | (simp; omega)) _ | with_reducible refine Below.alloc ?_ (by first | exact Nat.le_refl _ | (simp; done) | (simp; omega)) _ | with_reducible refine Below.setCell ?_ (by first | exact Nat.le_refl _ | (simp; done) | (simp; omega)) _)))
  · have hr : p + (q - p) * (max 0 (min n d)) / d = mid p q n d := by
      by_cases h1 : n ≤ 0
      · rw [mid_p (.inr h1), show max 0 (min n d) = 0 by omega]; simp
      · by_cases h2 : d ≤ n
        · rw [mid_q (by omega) h2, show max 0 (min n d) = d by omega, Int.mul_ediv_cancel _ (by omega)]; omega
        · rw [mid_m (by omega) h2, show max 0 (min n d) = n by omega]
    have R := Lib.hid (fun w => rmid08_any p q (max 0 (min n d)) d ⟨hp0, hp1⟩ ⟨hq0, hq1⟩ (by omega) (by omega) (by omega) hd w)
    rw [hr] at R
    clear hr
    go_enter Try.func151, Try.ntmps151
    go_wp2_with (first | (go_at_call 164; (with_reducible refine (R.out _).mono ?_); rintro _ _ ⟨rfl, X_, rfl⟩))
    go_ret
    exact Ret.of (by (repeat (first | exact Below.refl _ _ | with_reducible refine Below.drew ?_ | with_reducible refine Below.ext ?_ (by first | exact Nat.le_refl _ | (simp; done) | (simp; omega)) _ | with_reducible refine Below.alloc ?_ (by first | exact Nat.le_refl _ | (simp; done) | (simp; omega)) _ | with_reducible refine Below.setCell ?_ (by first | exact Nat.le_refl _ | (simp; done) | (simp; omega)) _)))
set_option maxRecDepth 100000 in
set_option maxHeartbeats 4000000 in
theorem rboth_any (a b : WinP) (n d : Int) (ha : a.tame) (hb : b.tame) (hn : sml n) (hd : sml d) (w : World) : Calls Try.prog 127 #[a.v, b.v, .int .i64 n, .int .i64 d] w (Ret (mixed a b n d) w) := by
  have M := Lib.hid (fun p q hp hq w => rmid_any p q n d hp hq hn hd w)
  obtain ⟨az, a0, a1, a2, a3⟩ := ha
  obtain ⟨bz, b0, b1, b2, b3⟩ := hb
  go_enter Try.func127, Try.ntmps127
  go_wp2
  refine wp_loop_rounds 5 ?_
  iterate 4
    rw [rounds_succ]
    go_wp2
    refine wp_region_ext_tail 12 (by kernel_rfl) (by kernel_rfl) ?_
    simp only [List.take_succ_cons, List.take_zero, List.drop_succ_cons, List.drop_zero]
    repeat (go_big_quiet_step ((go_at_call 151; (with_reducible refine Calls.quiet_ret (M.out _ _ ?_ ?_ _)); assumption; assumption)))
    refine wpQuiet_nil ?_
    intro _ hw_ext
    obtain ⟨X, hw_ext⟩ := hw_ext
    subst hw_ext
    go_wp2_with fail
  rw [rounds_succ]
  go_wp2
  refine wp_region_ext_tail 9 (by kernel_rfl) (by kernel_rfl) ?_
  simp only [List.take_succ_cons, List.take_zero, List.drop_succ_cons, List.drop_zero]
  repeat (go_big_quiet_step ((go_at_call 151; (with_reducible refine Calls.quiet_ret (M.out _ _ ?_ ?_ _)); assumption; assumption)))
  refine wpQuiet_nil ?_
  intro _ hw_ext
  obtain ⟨X, hw_ext⟩ := hw_ext
  subst hw_ext
  go_wp2
  refine bodyPost_ret (v := mixed a b n d) ?_ rfl (Ret.of ?_)
  · simp [results, Try.results127, go_sem]
  · (repeat (first | exact Below.refl _ _ | with_reducible refine Below.drew ?_ | with_reducible refine Below.ext ?_ (by first | exact Nat.le_refl _ | (simp; done) | (simp; omega)) _ | with_reducible refine Below.alloc ?_ (by first | exact Nat.le_refl _ | (simp; done) | (simp; omega)) _ | with_reducible refine Below.setCell ?_ (by first | exact Nat.le_refl _ | (simp; done) | (simp; omega)) _))
theorem mixed_congr {a b : WinP} {n d n' d' : Int} (h1 : n = n') (h2 : d = d') : mixed a b n d = mixed a b n' d' := by rw [h1, h2]
set_option maxRecDepth 100000 in
set_option maxHeartbeats 4000000 in
theorem ralong_any (a b : WinP) (x y : Int) (ha : a.fits) (hb : b.fits) (hx : Near x y) (w : World) : Calls Try.prog 98 #[a.v, b.v, .int .i64 x, .int .i64 y] w (Ret (mixed a b (alN a b x y) (alD a b)) w) := by
  obtain ⟨x0, x1, y0, y1⟩ := hx
  have B := Lib.hid (fun n d hn hd w => rboth_any a b n d ha.t hb.t hn hd w)
  obtain ⟨ax0, ax1, ay0, ay1, -, -, -⟩ := ha
  obtain ⟨bx0, bx1, by0, by1, -, -, -⟩ := hb
  go_enter Try.func98, Try.ntmps98
  go_wp2
  refine wp_region_ext (by kernel_rfl) (by kernel_rfl) ?_
  repeat (go_big_quiet_step ((fail)))
  refine wpQuiet_nil ?_
  intro _ hw_ext
  obtain ⟨X, hw_ext⟩ := hw_ext
  subst hw_ext
  go_wp2_with (first | (go_at_call 127; (with_reducible refine (B.out _ _ ?_ ?_ _).mono ?_); (unfold sml; omega); (unfold sml; omega); rintro _ _ ⟨rfl, X_, rfl⟩))
  all_goals
    refine bodyPost_ret (v := mixed a b _ _) (by simp [results, Try.results98, go_sem]; exact ⟨rfl, rfl, rfl, rfl, rfl⟩) rfl (Ret.of' (mixed_congr ?_ ?_) (by (repeat (first | exact Below.refl _ _ | with_reducible refine Below.drew ?_ | with_reducible refine Below.ext ?_ (by first | exact Nat.le_refl _ | (simp; done) | (simp; omega)) _ | with_reducible refine Below.alloc ?_ (by first | exact Nat.le_refl _ | (simp; done) | (simp; omega)) _ | with_reducible refine Below.setCell ?_ (by first | exact Nat.le_refl _ | (simp; done) | (simp; omega)) _))))
    · unfold alN
      repeat' split
      all_goals omega
    · unfold alD
      repeat' split
      all_goals omega
set_option maxRecDepth 100000 in
set_option maxHeartbeats 4000000 in
theorem racross_any (a b : WinP) (x y : Int) (ha : a.fits) (hb : b.fits) (hx : Near x y) (w : World) : Calls Try.prog 84 #[a.v, b.v, .int .i64 x, .int .i64 y] w (Ret (mixed a b (acN a b x y) (acD a b)) w) := by
  obtain ⟨x0, x1, y0, y1⟩ := hx
  have B := Lib.hid (fun n d hn hd w => rboth_any a b n d ha.t hb.t hn hd w)
  obtain ⟨ax0, ax1, ay0, ay1, -, -, -⟩ := ha
  obtain ⟨bx0, bx1, by0, by1, -, -, -⟩ := hb
  obtain ⟨W, hW⟩ : ∃ W, b.x - a.x = W := ⟨_, rfl⟩
  obtain ⟨H, hH⟩ : ∃ H, b.y - a.y = H := ⟨_, rfl⟩
  obtain ⟨U, hU⟩ : ∃ U, 256 * x + 128 - a.x = U := ⟨_, rfl⟩
  obtain ⟨V, hV⟩ : ∃ V, 256 * y + 128 - a.y = V := ⟨_, rfl⟩
  have e1 : acN a b x y = U * W + V * H := by unfold acN; rw [Int.mul_comm x 256, Int.mul_comm y 256, hW, hH, hU, hV]
  have e2 : acD a b = W * W + H * H := by unfold acD; rw [hW, hH]
  rw [e1, e2]
  have m1 := mul_bds (u := U) (v := W) (U := 1342177408) (V := 536870912) (by omega) (by omega) (by omega) (by omega) (by omega) (by omega)
  have m2 := mul_bds (u := V) (v := H) (U := 1342177408) (V := 536870912) (by omega) (by omega) (by omega) (by omega) (by omega) (by omega)
  have m3 := mul_bds (u := W) (v := W) (U := 536870912) (V := 536870912) (by omega) (by omega) (by omega) (by omega) (by omega) (by omega)
  have m4 := mul_bds (u := H) (v := H) (U := 536870912) (V := 536870912) (by omega) (by omega) (by omega) (by omega) (by omega) (by omega)
  have sn : sml (U * W + V * H) := by unfold sml; omega
  have sd : sml (W * W + H * H) := by unfold sml; omega
  have k1 : IntKind.i64.wrap (256 * x) = 256 * x := IntWalk.i64_in _ (by omega)
  have k2 : IntKind.i64.wrap (256 * x + 128) = 256 * x + 128 := IntWalk.i64_in _ (by omega)
  have k3 : IntKind.i64.wrap (256 * x + 128 - a.x) = U := by rw [hU]; exact IntWalk.i64_in _ (by omega)
  have k4 : IntKind.i64.wrap (256 * y) = 256 * y := IntWalk.i64_in _ (by omega)
  have k5 : IntKind.i64.wrap (256 * y + 128) = 256 * y + 128 := IntWalk.i64_in _ (by omega)
  have k6 : IntKind.i64.wrap (256 * y + 128 - a.y) = V := by rw [hV]; exact IntWalk.i64_in _ (by omega)
  have k7 : IntKind.i64.wrap (U * W) = U * W := IntWalk.i64_in _ (by omega)
  have k8 : IntKind.i64.wrap (V * H) = V * H := IntWalk.i64_in _ (by omega)
  have k9 : IntKind.i64.wrap (U * W + V * H) = U * W + V * H := IntWalk.i64_in _ (by omega)
  have l1 : IntKind.i64.wrap (W * W) = W * W := IntWalk.i64_in _ (by omega)
  have l2 : IntKind.i64.wrap (H * H) = H * H := IntWalk.i64_in _ (by omega)
  have l3 : IntKind.i64.wrap (W * W + H * H) = W * W + H * H := IntWalk.i64_in _ (by omega)
  have j1 : IntKind.i64.wrap (b.x - a.x) = W := by rw [hW]; exact IntWalk.i64_in _ (by omega)
  have j2 : IntKind.i64.wrap (b.y - a.y) = H := by rw [hH]; exact IntWalk.i64_in _ (by omega)
  clear m1 m2 m3 m4 e1 e2 hW hH hU hV
  go_enter Try.func84, Try.ntmps84
  go_wp2
  refine wp_region_ext (by kernel_rfl) (by kernel_rfl) ?_
  repeat (go_big_quiet_step ((fail)))
  refine wpQuiet_nil ?_
  intro _ hw_ext
  obtain ⟨X, hw_ext⟩ := hw_ext
  subst hw_ext
  go_wp2_with (first | (go_at_call 127; (with_reducible refine (B.out _ _ sn sd _).mono ?_); rintro _ _ ⟨rfl, X_, rfl⟩))
  refine bodyPost_ret (v := mixed a b _ _) (by simp [results, Try.results84, go_sem]) rfl (Ret.of (by (repeat (first | exact Below.refl _ _ | with_reducible refine Below.drew ?_ | with_reducible refine Below.ext ?_ (by first | exact Nat.le_refl _ | (simp; done) | (simp; omega)) _ | with_reducible refine Below.alloc ?_ (by first | exact Nat.le_refl _ | (simp; done) | (simp; omega)) _ | with_reducible refine Below.setCell ?_ (by first | exact Nat.le_refl _ | (simp; done) | (simp; omega)) _))))
end Go.Proofs.Ytamfjfnceeagiaa
end
