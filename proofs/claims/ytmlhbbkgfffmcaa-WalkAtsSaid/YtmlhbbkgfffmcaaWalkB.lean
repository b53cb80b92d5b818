/- The walks of the reference of layer 13: does a line meet a diamond; does it exit. Conditions: bounds of points and pixels. -/
import Derived.Test.YtmlhbbkgfffmcaaWalkA
import Derived.Deep.DeepCutAuto
namespace Go.Proofs.Ytmlhbbkgfffmcaa
set_option linter.unusedVariables false
set_option linter.unusedSimpArgs false
open Go.RowKit
/-- Does a line, seen from the middle of a pixel, meet its diamond? -/
def mtP (px py qx qy : Int) : Prop := min (px + py) (qx + qy) ≤ 128 ∧ -128 < max (px + py) (qx + qy) ∧ min (px - py) (qx - qy) ≤ 128 ∧ -128 < max (px - py) (qx - qy) ∧
  ((px = qx ∧ py = qy) ∨ (sgn3 ((qx - px) * py - (qy - py) * px - 128 * max (max (qx - px) (-(qx - px))) (max (qy - py) (-(qy - py)))) (qy - py) (-(qx - px)) < 0 ∧ 0 < sgn3 ((qx - px) * py - (qy - py) * px + 128 * max (max (qx - px) (-(qx - px))) (max (qy - py) (-(qy - py)))) (qy - py) (-(qx - px))))
instance (px py qx qy : Int) : Decidable (mtP px py qx qy) := by unfold mtP; exact inferInstance
set_option maxRecDepth 100000 in
set_option maxHeartbeats 16000000 in
theorem rmeets_any (ax ay bx by' x y : Int) (ha : MayP ax ay) (hb : MayP bx by') (hx : FarP x y) (w : World) :
    Calls Try.prog 114 #[P2 ax ay, P2 bx by', .int .i64 x, .int .i64 y] w (Ret (.bool (decide (mtP (ax - 256 * x - 128) (ay - 256 * y - 128) (bx - 256 * x - 128) (by' - 256 * y - 128)))) w) := by
  obtain ⟨a0, a1, a2, a3⟩ := ha
  obtain ⟨b0, b1, b2, b3⟩ := hb
  obtain ⟨x0, x1, x2, x3⟩ := hx
  obtain ⟨px, hpx⟩ : ∃ u, ax - 256 * x - 128 = u := ⟨_, rfl⟩
  obtain ⟨py, hpy⟩ : ∃ u, ay - 256 * y - 128 = u := ⟨_, rfl⟩
  obtain ⟨qx, hqx⟩ : ∃ u, bx - 256 * x - 128 = u := ⟨_, rfl⟩
  obtain ⟨qy, hqy⟩ : ∃ u, by' - 256 * y - 128 = u := ⟨_, rfl⟩
  rw [hpx, hpy, hqx, hqy]
  have hab : (ax = bx ↔ px = qx) ∧ (ay = by' ↔ py = qy) := by omega
  obtain ⟨W, hW⟩ : ∃ u, qx - px = u := ⟨_, rfl⟩
  obtain ⟨H, hH⟩ : ∃ u, qy - py = u := ⟨_, rfl⟩
  have c1 : -2684354688 ≤ px ∧ px ≤ 2684354688 := by omega
  have c2 : -2684354688 ≤ py ∧ py ≤ 2684354688 := by omega
  have c3 : -2684354688 ≤ qx ∧ qx ≤ 2684354688 := by omega
  have c4 : -2684354688 ≤ qy ∧ qy ≤ 2684354688 := by omega
  have c5 : -1073741824 ≤ W ∧ W ≤ 1073741824 := by omega
  have c6 : -1073741824 ≤ H ∧ H ≤ 1073741824 := by omega
  have m1 := mul_bd2 (u := W) (v := py) (U := 1073741824) (V := 2684354688) (by omega) (by omega) (by omega) (by omega) (by omega) (by omega)
  have m2 := mul_bd2 (u := H) (v := px) (U := 1073741824) (V := 2684354688) (by omega) (by omega) (by omega) (by omega) (by omega) (by omega)
  obtain ⟨c10, c11⟩ := c1
  obtain ⟨c20, c21⟩ := c2
  obtain ⟨c30, c31⟩ := c3
  obtain ⟨c40, c41⟩ := c4
  obtain ⟨c50, c51⟩ := c5
  obtain ⟨c60, c61⟩ := c6
  have k1 : IntKind.i64.wrap (W * py) = W * py := IntWalk.i64_in _ (by omega)
  have k2 : IntKind.i64.wrap (H * px) = H * px := IntWalk.i64_in _ (by omega)
  obtain ⟨o, ho⟩ : ∃ o, W * py - H * px = o := ⟨_, rfl⟩
  have k3 : IntKind.i64.wrap (W * py - H * px) = o := by rw [ho]; exact IntWalk.i64_in _ (by omega)
  have ob : -5764607819907760128 - 1073741824 ≤ o ∧ o ≤ 5764607819907760128 + 1073741824 := by omega
  obtain ⟨ob0, ob1⟩ := ob
  obtain ⟨aW, haW⟩ : ∃ u, max W (-W) = u := ⟨_, rfl⟩
  obtain ⟨aH, haH⟩ : ∃ u, max H (-H) = u := ⟨_, rfl⟩
  have AW := Lib.hid (show ∀ w, Calls Try.prog 141 #[.int .i64 W] w (Ret (.int .i64 aW) w) from fun w => by rw [← haW]; exact abs13_any W (by omega) (by omega) w)
  have AH := Lib.hid (show ∀ w, Calls Try.prog 141 #[.int .i64 H] w (Ret (.int .i64 aH) w) from fun w => by rw [← haH]; exact abs13_any H (by omega) (by omega) w)
  have c7 : 0 ≤ aW ∧ aW ≤ 1073741824 := by omega
  have c8 : 0 ≤ aH ∧ aH ≤ 1073741824 := by omega
  obtain ⟨c70, c71⟩ := c7
  obtain ⟨c80, c81⟩ := c8
  have MT : mtP px py qx qy ↔ (min (px + py) (qx + qy) ≤ 128 ∧ -128 < max (px + py) (qx + qy) ∧ min (px - py) (qx - qy) ≤ 128 ∧ -128 < max (px - py) (qx - qy) ∧ ((px = qx ∧ py = qy) ∨ (sgn3 (o - 128 * max aW aH) H (-W) < 0 ∧ 0 < sgn3 (o + 128 * max aW aH) H (-W)))) := by
    unfold mtP; rw [hW, hH, haW, haH, ho]
  have HMT := Lib.hid MT
  have S1 := Lib.hid (sgn3_m (min (px + py) (qx + qy) - 128) (-1))
  have S2 := Lib.hid (sgn3_m (max (px + py) (qx + qy) + 128) (-1))
  have S3 := Lib.hid (sgn3_m (min (px - py) (qx - qy) - 128) 1)
  have S4 := Lib.hid (sgn3_m (max (px - py) (qx - qy) + 128) 1)
  have HAB := Lib.hid hab
  clear MT m1 m2 hab ho haW haH
  go_enter Try.func114, Try.ntmps114
  go_wp2
  refine wp_region_mix (by kernel_rfl) ?_
  repeat (first | (refine mix_skip rfl ?_; simp only [List.nil_append, List.cons_append]) | (refine mix_ncheck rfl rfl rfl ?_; simp only [Act.put, List.setIfInBounds_toArray, List.set_cons_zero, List.set_cons_succ, List.nil_append, List.cons_append]) | (refine mix_calm rfl rfl ?_; intro K_ hK_; go_big_quiet_op; go_big_quiet_on; simp only [List.nil_append, List.cons_append]) | (refine mix_alloc rfl rfl Try.zeroValue50 ?_; simp only [List.nil_append, List.cons_append]) | (refine mix_fill 26 rfl rfl rfl rfl (by simp [Value.oneCell']) (by kernel_rfl) (by simp) rfl rfl rfl rfl ?_; simp only [List.nil_append, List.cons_append]) | (refine mix_fill 27 rfl rfl rfl rfl (by simp [Value.oneCell']) (by kernel_rfl) (by simp) rfl rfl rfl rfl ?_; simp only [List.nil_append, List.cons_append]))
  refine mix_nil (mix_end2 26 27 28 29 ⟨by kernel_rfl, by kernel_rfl⟩ rfl rfl rfl rfl rfl (by kernel_rfl) rfl rfl rfl rfl (by kernel_rfl) ?_)
  intro X p q hp hq ne_hp
  have c_hp := hp.cell
  have f_hp := hp.frozen
  have g_hp := hp.gap
  have b_hp := Lib.hid hp.block
  simp only [World.size_ext, World.size_alloc, World.size_drew, World.size_setCell] at g_hp
  clear hp
  have c_hq := hq.cell
  have f_hq := hq.frozen
  have g_hq := hq.gap
  have b_hq := Lib.hid hq.block
  simp only [World.size_ext, World.size_alloc, World.size_drew, World.size_setCell] at g_hq
  clear hq
  simp only [Act.put, List.setIfInBounds_toArray, List.set_cons_zero, List.set_cons_succ, ptr]
  have K1 := Lib.hid k1
  have K2 := Lib.hid k2
  have K3 := Lib.hid k3
  clear a0 a1 a2 a3 b0 b1 b2 b3 x0 x1 x2 x3 hpx hpy hqx hqy k1 k2 k3
  by_cases e1 : min (px + py) (qx + qy) ≤ 128
  · have d1 : decide (0 ≤ sgn3 (min (px + py) (qx + qy) - 128) (-1) (-1)) = false := by have := S1.out; simp; omega
    by_cases e2 : -128 < max (px + py) (qx + qy)
    · have d2 : decide (sgn3 (max (px + py) (qx + qy) + 128) (-1) (-1) ≤ 0) = false := by have := S2.out; simp; omega
      have E1 := Lib.hid e1
      have E2 := Lib.hid e2
      clear e1 e2
      go_upto_region 4 with (first | (go_at_call 140; (with_reducible refine (sign13_any _ _ _ _).mono ?_); rintro _ _ ⟨rfl, X_, rfl⟩))
      by_cases e3 : min (px - py) (qx - qy) ≤ 128
      · have d3 : decide (0 ≤ sgn3 (min (px - py) (qx - qy) - 128) (-1) 1) = false := by have := S3.out; simp; omega
        by_cases e4 : -128 < max (px - py) (qx - qy)
        · have d4 : decide (sgn3 (max (px - py) (qx - qy) + 128) (-1) 1 ≤ 0) = false := by have := S4.out; simp; omega
          have E3 := Lib.hid e3
          have E4 := Lib.hid e4
          clear e3 e4
          go_upto_region 6 with (first | (go_at_call 140; (with_reducible refine (sign13_any _ _ _ _).mono ?_); rintro _ _ ⟨rfl, X_, rfl⟩))
          by_cases ee : px = qx ∧ py = qy
          · have d5 : (ax == bx) = true := by simp; exact HAB.out.1.2 ee.1
            have d6 : (ay == by') = true := by simp; exact HAB.out.2.2 ee.2
            have EE := Lib.hid ee
            clear ee
            go_wp2
            go_ret
            exact Ret.of' (bool_t (HMT.out.2 ⟨E1.out, E2.out, E3.out, E4.out, .inl EE.out⟩)) (by (repeat (first | assumption | exact Below.refl _ _ | with_reducible refine Below.drew ?_ | with_reducible refine Below.ext ?_ (by first | exact Nat.le_refl _ | omega | (simp; done) | (simp; omega)) _ | with_reducible refine Below.alloc ?_ (by first | exact Nat.le_refl _ | omega | (simp; done) | (simp; omega)) _ | with_reducible refine Below.setCell ?_ (by first | exact Nat.le_refl _ | omega | (simp; done) | (simp; omega)) _)))
          · have EE := Lib.hid ee
            have dd : (ax == bx) = false ∨ ((ax == bx) = true ∧ (ay == by') = false) := by
              by_cases g : ax = bx
              · right
                refine ⟨by simp [g], ?_⟩
                simp
                intro g2
                exact ee ⟨HAB.out.1.1 g, HAB.out.2.1 g2⟩
              · left; simp [g]
            clear ee
            obtain ⟨F, hF⟩ : ∃ F, 128 * max aW aH = F := ⟨_, rfl⟩
            have fb : 0 ≤ F ∧ F ≤ 137438953472 := by omega
            obtain ⟨fb0, fb1⟩ := fb
            have HMT2 := Lib.hid (show mtP px py qx qy ↔ _ from by rw [HMT.out, hF])
            have HF := Lib.hid hF
            clear hF
            rcases dd with d5 | ⟨d5, d6⟩
            all_goals
              go_upto_region 8 with fail
              refine wp_region_ext (by kernel_rfl) (by kernel_rfl) ?_
              repeat (go_big_quiet_step ((fail)))
              refine wpQuiet_nil ?_
              intro _ hw_ext
              obtain ⟨X2, hw_ext⟩ := hw_ext
              subst hw_ext
              go_upto_region 9 with fail
              have k1 := K1.out
              have k2 := K2.out
              have k3 := K3.out
              refine wp_region_ext (by kernel_rfl) (by kernel_rfl) ?_
              repeat (go_big_quiet_step ((first | (go_at_call 141; with_reducible exact Calls.quiet_ret (AW.out _)) | (go_at_call 141; with_reducible exact Calls.quiet_ret (AH.out _)))))
              refine wpQuiet_nil ?_
              intro _ hw_ext
              obtain ⟨X3, hw_ext⟩ := hw_ext
              subst hw_ext
              clear k1 k2 k3
              go_upto_region 10 with fail
              try simp only [HF.out]
              by_cases e7 : sgn3 (o - F) H (-W) < 0
              · have d7 : decide (sgn3 (o - F) H (-W) < 0) = true := by simp [e7]
                by_cases e8 : 0 < sgn3 (o + F) H (-W)
                · have d8 : decide (0 < sgn3 (o + F) H (-W)) = true := by simp [e8]
                  have E7 := Lib.hid e7
                  have E8 := Lib.hid e8
                  clear e7 e8
                  go_wp2_with (first | (go_at_call 140; (with_reducible refine (sign13_any _ _ _ _).mono ?_); rintro _ _ ⟨rfl, X_, rfl⟩))
                  go_ret
                  exact Ret.of' (bool_t (HMT2.out.2 ⟨E1.out, E2.out, E3.out, E4.out, .inr ⟨E7.out, E8.out⟩⟩)) (by (repeat (first | assumption | exact Below.refl _ _ | with_reducible refine Below.drew ?_ | with_reducible refine Below.ext ?_ (by first | exact Nat.le_refl _ | omega | (simp; done) | (simp; omega)) _ | with_reducible refine Below.alloc ?_ (by first | exact Nat.le_refl _ | omega | (simp; done) | (simp; omega)) _ | with_reducible refine Below.setCell ?_ (by first | exact Nat.le_refl _ | omega | (simp; done) | (simp; omega)) _)))
                · have d8 : decide (0 < sgn3 (o + F) H (-W)) = false := by simp; omega
                  have E8 := Lib.hid (show sgn3 (o + F) H (-W) ≤ 0 by omega)
                  clear e7 e8
                  go_wp2_with (first | (go_at_call 140; (with_reducible refine (sign13_any _ _ _ _).mono ?_); rintro _ _ ⟨rfl, X_, rfl⟩))
                  go_ret
                  exact Ret.of' (bool_f (fun h => by
                    obtain ⟨-, -, -, -, g5⟩ := HMT2.out.1 h
                    rcases g5 with g5 | g5
                    · exact EE.out g5
                    · exact Int.not_lt.2 E8.out g5.2)) (by (repeat (first | assumption | exact Below.refl _ _ | with_reducible refine Below.drew ?_ | with_reducible refine Below.ext ?_ (by first | exact Nat.le_refl _ | omega | (simp; done) | (simp; omega)) _ | with_reducible refine Below.alloc ?_ (by first | exact Nat.le_refl _ | omega | (simp; done) | (simp; omega)) _ | with_reducible refine Below.setCell ?_ (by first | exact Nat.le_refl _ | omega | (simp; done) | (simp; omega)) _)))
              · have d7 : decide (sgn3 (o - F) H (-W) < 0) = false := by simp; omega
                have E7 := Lib.hid (show 0 ≤ sgn3 (o - F) H (-W) by omega)
                clear e7
                go_wp2_with (first | (go_at_call 140; (with_reducible refine (sign13_any _ _ _ _).mono ?_); rintro _ _ ⟨rfl, X_, rfl⟩))
                go_ret
                exact Ret.of' (bool_f (fun h => by
                  obtain ⟨-, -, -, -, g5⟩ := HMT2.out.1 h
                  rcases g5 with g5 | g5
                  · exact EE.out g5
                  · exact Int.not_lt.2 E7.out g5.1)) (by (repeat (first | assumption | exact Below.refl _ _ | with_reducible refine Below.drew ?_ | with_reducible refine Below.ext ?_ (by first | exact Nat.le_refl _ | omega | (simp; done) | (simp; omega)) _ | with_reducible refine Below.alloc ?_ (by first | exact Nat.le_refl _ | omega | (simp; done) | (simp; omega)) _ | with_reducible refine Below.setCell ?_ (by first | exact Nat.le_refl _ | omega | (simp; done) | (simp; omega)) _)))
        · have d4 : decide (sgn3 (max (px - py) (qx - qy) + 128) (-1) 1 ≤ 0) = true := by have := S4.out; simp; omega
          go_wp2_with (first | (go_at_call 140; (with_reducible refine (sign13_any _ _ _ _).mono ?_); rintro _ _ ⟨rfl, X_, rfl⟩))
          go_ret
          exact Ret.of' (bool_f (fun h => by obtain ⟨g1, g2, g3, g4, -⟩ := HMT.out.1 h; omega)) (by (repeat (first | assumption | exact Below.refl _ _ | with_reducible refine Below.drew ?_ | with_reducible refine Below.ext ?_ (by first | exact Nat.le_refl _ | omega | (simp; done) | (simp; omega)) _ | with_reducible refine Below.alloc ?_ (by first | exact Nat.le_refl _ | omega | (simp; done) | (simp; omega)) _ | with_reducible refine Below.setCell ?_ (by first | exact Nat.le_refl _ | omega | (simp; done) | (simp; omega)) _)))
      · have d3 : decide (0 ≤ sgn3 (min (px - py) (qx - qy) - 128) (-1) 1) = true := by have := S3.out; simp; omega
        go_wp2_with (first | (go_at_call 140; (with_reducible refine (sign13_any _ _ _ _).mono ?_); rintro _ _ ⟨rfl, X_, rfl⟩))
        go_ret
        exact Ret.of' (bool_f (fun h => by obtain ⟨g1, g2, g3, g4, -⟩ := HMT.out.1 h; omega)) (by (repeat (first | assumption | exact Below.refl _ _ | with_reducible refine Below.drew ?_ | with_reducible refine Below.ext ?_ (by first | exact Nat.le_refl _ | omega | (simp; done) | (simp; omega)) _ | with_reducible refine Below.alloc ?_ (by first | exact Nat.le_refl _ | omega | (simp; done) | (simp; omega)) _ | with_reducible refine Below.setCell ?_ (by first | exact Nat.le_refl _ | omega | (simp; done) | (simp; omega)) _)))
    · have d2 : decide (sgn3 (max (px + py) (qx + qy) + 128) (-1) (-1) ≤ 0) = true := by have := S2.out; simp; omega
      go_wp2_with (first | (go_at_call 140; (with_reducible refine (sign13_any _ _ _ _).mono ?_); rintro _ _ ⟨rfl, X_, rfl⟩))
      go_ret
      exact Ret.of' (bool_f (fun h => by obtain ⟨g1, g2, g3, g4, -⟩ := HMT.out.1 h; omega)) (by (repeat (first | assumption | exact Below.refl _ _ | with_reducible refine Below.drew ?_ | with_reducible refine Below.ext ?_ (by first | exact Nat.le_refl _ | omega | (simp; done) | (simp; omega)) _ | with_reducible refine Below.alloc ?_ (by first | exact Nat.le_refl _ | omega | (simp; done) | (simp; omega)) _ | with_reducible refine Below.setCell ?_ (by first | exact Nat.le_refl _ | omega | (simp; done) | (simp; omega)) _)))
  · have d1 : decide (0 ≤ sgn3 (min (px + py) (qx + qy) - 128) (-1) (-1)) = true := by have := S1.out; simp; omega
    go_wp2_with (first | (go_at_call 140; (with_reducible refine (sign13_any _ _ _ _).mono ?_); rintro _ _ ⟨rfl, X_, rfl⟩))
    go_ret
    exact Ret.of' (bool_f (fun h => by obtain ⟨g1, g2, g3, g4, -⟩ := HMT.out.1 h; omega)) (by (repeat (first | assumption | exact Below.refl _ _ | with_reducible refine Below.drew ?_ | with_reducible refine Below.ext ?_ (by first | exact Nat.le_refl _ | omega | (simp; done) | (simp; omega)) _ | with_reducible refine Below.alloc ?_ (by first | exact Nat.le_refl _ | omega | (simp; done) | (simp; omega)) _ | with_reducible refine Below.setCell ?_ (by first | exact Nat.le_refl _ | omega | (simp; done) | (simp; omega)) _)))
end Go.Proofs.Ytmlhbbkgfffmcaa
