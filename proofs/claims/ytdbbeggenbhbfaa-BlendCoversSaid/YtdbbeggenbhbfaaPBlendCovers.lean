/- BlendCovers: whatever the input, the law returns true and leaves its arguments as they read. No condition. -/
import Derived.Test.YtdbbeggenbhbfaaBlendW
import Derived.Test.YtdbbeggenbhbfaaMix
import Derived.Test.YtdbbeggenbhbfaaEBlendCovers
namespace Go.Proofs.Ytdbbeggenbhbfaa
set_option linter.unusedVariables false
set_option linter.unusedSimpArgs false
open Go.RowKit
theorem cov_le {d m n : Int} (hd : 0 ≤ d) (h : m ≤ n) : cov d m ≤ cov d n := by
  have := Int.mul_le_mul_of_nonneg_left h hd
  unfold cov; omega
set_option maxHeartbeats 4000000 in
theorem covers_in (a b c d k j : Int) (h : May a b c d) (k0 : 0 ≤ k) (k1 : k ≤ 255) (j0 : 0 ≤ j) (j1 : j ≤ 255) (w : World) :
    Calls Try.prog 6 #[C4 a b c d, .int .u8 k, .int .u8 j] w (Ret (.bool true) w) := by
  have l1 : decide (cov d (min (min k j % 65) (max k j % 65)) ≤ cov d (max (min k j % 65) (max k j % 65))) = true := by
    rw [decide_eq_true_eq]; exact cov_le h.d0 (by omega)
  have l2 : decide (cov d (max (min k j % 65) (max k j % 65)) ≤ d) = true := by
    rw [decide_eq_true_eq]; exact (cov_01 h.at3 (by omega) (by omega)).2
  have e1 : cov d 64 = d := by have := h.at3; unfold cov; omega
  have e2 : cov d 0 = 0 := by unfold cov; omega
  go_enter Try.func6, Try.ntmps6
  go_wp2_with (first | (go_at_call 17; (with_reducible refine (may24_yes _ _ _ _ h _).mono ?_); rintro _ _ ⟨rfl, X_, rfl⟩))
  refine wp_region_mix (by kernel_rfl) ?_
  repeat (first | (refine mix_skip rfl ?_; simp only [List.nil_append, List.cons_append]) | (refine mix_calm rfl rfl ?_; intro K_ hK_; go_big_quiet_op; go_big_quiet_on; simp only [List.nil_append, List.cons_append]) | (apply mix_call rfl; (intro X_; go_simp; go_at_call 23; with_reducible exact Calls.calm_ret (cover_any _ _ _ _ _ h.at3 (by omega) (by omega) _)); simp only [Act.put, List.setIfInBounds_toArray, List.set_cons_zero, List.set_cons_succ, List.nil_append, List.cons_append]) | (refine mix_alloc rfl rfl Try.zeroValue23 ?_; simp only [List.nil_append, List.cons_append]) | (refine mix_fill 10 rfl rfl rfl rfl (by simp [Value.oneCell']) (by kernel_rfl) (by simp) rfl rfl rfl rfl ?_; simp only [List.nil_append, List.cons_append]) | (refine mix_fill 11 rfl rfl rfl rfl (by simp [Value.oneCell']) (by kernel_rfl) (by simp) rfl rfl rfl rfl ?_; simp only [List.nil_append, List.cons_append]))
  refine mix_nil (mix_end2 10 11 12 13 ⟨by kernel_rfl, by kernel_rfl⟩ rfl rfl rfl rfl rfl (by kernel_rfl) rfl rfl rfl rfl (by kernel_rfl) ?_)
  intro X p q hp hq ne_hp
  have c_hp := hp.cell
  have f_hp := hp.frozen
  have g_hp := hp.gap
  simp only [World.size_ext, World.size_alloc, World.size_drew, World.size_setCell] at g_hp
  clear hp
  have c_hq := hq.cell
  have f_hq := hq.frozen
  have g_hq := hq.gap
  simp only [World.size_ext, World.size_alloc, World.size_drew, World.size_setCell] at g_hq
  clear hq
  simp only [Act.put, List.setIfInBounds_toArray, List.set_cons_zero, List.set_cons_succ, ptr]
  go_wp2
  refine wp_region_ext (by kernel_rfl) (by kernel_rfl) ?_
  repeat (go_big_quiet_step ((first | (go_at_call 18; with_reducible exact Calls.quiet_ret (awake24 _)) | (go_at_call 23; with_reducible exact Calls.quiet_ret (cover_any _ _ _ _ _ h.at3 (by omega) (by omega) _)))))
  refine wpQuiet_nil ?_
  intro _ hw_ext
  obtain ⟨Y, hw_ext⟩ := hw_ext
  subst hw_ext
  go_wp2
  go_ret
  exact Ret.of' (by simp) (by (repeat (first | exact Below.refl _ _ | with_reducible refine Below.drew ?_ | with_reducible refine Below.ext ?_ (by first | exact Nat.le_refl _ | (simp; done) | (simp; omega)) _ | with_reducible refine Below.alloc ?_ (by first | exact Nat.le_refl _ | (simp; done) | (simp; omega)) _ | with_reducible refine Below.setCell ?_ (by first | exact Nat.le_refl _ | (simp; done) | (simp; omega)) _)))
theorem covers_out (a b c d k j : Int) (h : ¬ May a b c d) (w : World) : Calls Try.prog 6 #[C4 a b c d, .int .u8 k, .int .u8 j] w (Ret (.bool true) w) := by
  go_enter Try.func6, Try.ntmps6
  go_wp2_with (first | (go_at_call 17; (with_reducible refine (may24_no _ _ _ _ h _).mono ?_); rintro _ _ ⟨rfl, X_, rfl⟩) | (go_at_call 18; (with_reducible refine (awake24 _).mono ?_); rintro _ _ ⟨rfl, X_, rfl⟩))
  go_ret
  exact Ret.of' (by simp) (by (repeat (first | exact Below.refl _ _ | with_reducible refine Below.drew ?_ | with_reducible refine Below.ext ?_ (by first | exact Nat.le_refl _ | (simp; done) | (simp; omega)) _ | with_reducible refine Below.alloc ?_ (by first | exact Nat.le_refl _ | (simp; done) | (simp; omega)) _ | with_reducible refine Below.setCell ?_ (by first | exact Nat.le_refl _ | (simp; done) | (simp; omega)) _)))
theorem BlendCovers_all : BlendCovers_stmt := by
  intro a0 a1 a2 a3 b c w _ hb hc
  by_cases hs : May a0 a1 a2 a3
  · exact covers_in _ _ _ _ _ _ hs hb.1 hb.2 hc.1 hc.2 w
  · exact covers_out _ _ _ _ _ _ hs w
theorem BlendCovers_holds : Rows.BlendCoversSaid := BlendCovers_end BlendCovers_all
end Go.Proofs.Ytdbbeggenbhbfaa
