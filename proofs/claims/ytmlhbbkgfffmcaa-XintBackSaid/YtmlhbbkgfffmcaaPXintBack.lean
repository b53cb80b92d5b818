/- XintBack: whatever the input, the law returns true and leaves its arguments as they read. No condition. -/
import Derived.Test.YtmlhbbkgfffmcaaXintM
import Derived.Test.YtmlhbbkgfffmcaaMix
import Derived.Test.YtmlhbbkgfffmcaaEXintBack
namespace Go.Proofs.Ytmlhbbkgfffmcaa
set_option linter.unusedVariables false
set_option linter.unusedSimpArgs false
open Go.RowKit
set_option maxHeartbeats 4000000 in
theorem back_no (a d : Int) (ha : inR a) (h : d < 1) (w : World) : Calls Try.prog 17 #[I2 a, .int .i64 d] w (Ret (.bool true) w) := by
  have D := Lib.hid (fun w => div_no a d h w)
  go_enter Try.func17, Try.ntmps17
  go_wp2_with (first | (go_at_call 43; (with_reducible refine (D.out _).mono ?_); rintro _ _ ⟨rfl, X_, rfl⟩) | (go_at_call 47; (with_reducible refine (awake02 _).mono ?_); rintro _ _ ⟨rfl, X_, rfl⟩))
  go_ret
  exact Ret.of' (by simp) (by (repeat (first | exact Below.refl _ _ | with_reducible refine Below.drew ?_ | with_reducible refine Below.ext ?_ (by first | exact Nat.le_refl _ | (simp; done) | (simp; omega)) _ | with_reducible refine Below.alloc ?_ (by first | exact Nat.le_refl _ | (simp; done) | (simp; omega)) _ | with_reducible refine Below.setCell ?_ (by first | exact Nat.le_refl _ | (simp; done) | (simp; omega)) _)))
set_option maxHeartbeats 8000000 in
theorem back_yes (a d : Int) (ha : inR a) (h : 1 ≤ d) (hd : sml d) (w : World) : Calls Try.prog 17 #[I2 a, .int .i64 d] w (Ret (.bool true) w) := by
  have D := Lib.hid (fun w => div_any a d ha h hd w)
  have em := Int.emod_add_mul_ediv a d
  have r0 := Int.emod_nonneg a (show d ≠ 0 by omega)
  have r1 := Int.emod_lt_of_pos a (show 0 < d by omega)
  have hq := div_in ha h
  have hr : sml (a % d) := by unfold sml at *; omega
  have er : sml 1 := by decide
  obtain ⟨q, hq1⟩ : ∃ q, q = a / d := ⟨_, rfl⟩
  obtain ⟨r, hr1⟩ : ∃ r, r = a % d := ⟨_, rfl⟩
  rw [← hq1, ← hr1] at D
  rw [← hq1] at hq
  rw [← hr1] at hr
  rw [← hq1, ← hr1, Int.mul_comm d q] at em
  rw [← hr1] at r0 r1
  clear hq1 hr1
  by_cases hp : inR (q * d)
  · have T := Lib.hid (fun w => times_in q d hq hd hp w)
    have O := Lib.hid (fun w => of_any r hr w)
    have A := Lib.hid (fun w => add_in (q * d) r hp (sml_in hr) (by rw [show q * d + r = a by omega]; exact ha) w)
    rw [show q * d + r = a by omega] at A
    clear em hq hr hp ha hd
    go_enter Try.func17, Try.ntmps17
    go_wp2_with (first | (go_at_call 43; (with_reducible refine (D.out _).mono ?_); rintro _ _ ⟨rfl, X_, rfl⟩) | (go_at_call 66; (with_reducible refine (T.out _).mono ?_); rintro _ _ ⟨rfl, X_, rfl⟩))
    refine wp_region_mix (by kernel_rfl) ?_
    repeat (first | (refine mix_skip rfl ?_; simp only [List.nil_append, List.cons_append]) | (refine mix_ncheck rfl rfl rfl ?_; simp only [Act.put, List.setIfInBounds_toArray, List.set_cons_zero, List.set_cons_succ, List.nil_append, List.cons_append]) | (refine mix_calm rfl rfl ?_; intro K_ hK_; go_big_quiet_op; go_big_quiet_on; simp only [List.nil_append, List.cons_append]) | (apply mix_call rfl; (intro X_; go_simp; go_at_call 65; with_reducible exact Calls.calm_ret (O.out _)); simp only [Act.put, List.setIfInBounds_toArray, List.set_cons_zero, List.set_cons_succ, List.nil_append, List.cons_append]) | (apply mix_call rfl; (intro X_; go_simp; go_at_call 64; with_reducible exact Calls.calm_ret (A.out _)); simp only [Act.put, List.setIfInBounds_toArray, List.set_cons_zero, List.set_cons_succ, List.nil_append, List.cons_append]) | (refine mix_alloc rfl rfl Try.zeroValue69 ?_; simp only [List.nil_append, List.cons_append]) | (refine mix_fill 7 rfl rfl rfl rfl (by simp [Value.oneCell']) (by kernel_rfl) (by simp) rfl rfl rfl rfl ?_; simp only [List.nil_append, List.cons_append]))
    refine mix_nil (mix_end1 7 8 ⟨by kernel_rfl, by kernel_rfl⟩ rfl rfl rfl rfl rfl (by kernel_rfl) ?_)
    intro Y p h
    have c_h := h.cell
    have f_h := h.frozen
    have g_h := h.gap
    have b_h := Lib.hid h.block
    simp only [World.size_ext, World.size_alloc, World.size_drew, World.size_setCell] at g_h
    clear h
    simp only [Act.put, List.setIfInBounds_toArray, List.set_cons_zero, List.set_cons_succ, ptr]
    go_wp2_with (first | (go_at_call 47; (with_reducible refine (awake02 _).mono ?_); rintro _ _ ⟨rfl, X_, rfl⟩))
    go_ret
    exact Ret.of' (by simp) (by (repeat (first | exact Below.refl _ _ | with_reducible refine Below.drew ?_ | with_reducible refine Below.ext ?_ (by first | exact Nat.le_refl _ | (simp; done) | (simp; omega)) _ | with_reducible refine Below.alloc ?_ (by first | exact Nat.le_refl _ | (simp; done) | (simp; omega)) _ | with_reducible refine Below.setCell ?_ (by first | exact Nat.le_refl _ | (simp; done) | (simp; omega)) _)))
  · have T := Lib.hid (fun w => times_no q d hq hd hp w)
    have T1 := Lib.hid (fun w => times_in q 1 hq er (by rw [Int.mul_one]; exact hq) w)
    rw [Int.mul_one] at T1
    have hneg : q < 0 := by
      apply Int.not_le.1
      intro h0
      have := Int.mul_nonneg h0 (show 0 ≤ d by omega)
      unfold inR at *; omega
    have hrp : 0 < r := by unfold inR at *; omega
    have SG := Lib.hid (fun w => sign_any q hq w)
    rw [sgn_neg hneg] at SG
    clear em hq hr hp ha hd hneg
    go_enter Try.func17, Try.ntmps17
    go_wp2_with (first | (go_at_call 43; (with_reducible refine (D.out _).mono ?_); rintro _ _ ⟨rfl, X_, rfl⟩) | (go_at_call 66; (with_reducible refine (T.out _).mono ?_); rintro _ _ ⟨rfl, X_, rfl⟩) | (go_at_call 66; (with_reducible refine (T1.out _).mono ?_); rintro _ _ ⟨rfl, X_, rfl⟩) | (go_at_call 47; (with_reducible refine (awake02 _).mono ?_); rintro _ _ ⟨rfl, X_, rfl⟩) | (go_at_call 62; (with_reducible refine (SG.out _).mono ?_); rintro _ _ ⟨rfl, X_, rfl⟩))
    go_ret
    exact Ret.of' (by simp) (by (repeat (first | exact Below.refl _ _ | with_reducible refine Below.drew ?_ | with_reducible refine Below.ext ?_ (by first | exact Nat.le_refl _ | (simp; done) | (simp; omega)) _ | with_reducible refine Below.alloc ?_ (by first | exact Nat.le_refl _ | (simp; done) | (simp; omega)) _ | with_reducible refine Below.setCell ?_ (by first | exact Nat.le_refl _ | (simp; done) | (simp; omega)) _)))
theorem XintBack_all : XintBack_stmt := by
  intro a0 a1 b w ha hb
  obtain ⟨⟨h0, h1⟩, l0, l1⟩ := ha
  rw [i2_val a0 a1 l0 l1]
  have hin := i2_inR h0 h1 l0 l1
  by_cases h : 1 ≤ b
  · exact back_yes _ b hin h hb w
  · exact back_no _ b hin (by omega) w
theorem XintBack_holds : Rows.XintBackSaid := XintBack_end XintBack_all
end Go.Proofs.Ytmlhbbkgfffmcaa
