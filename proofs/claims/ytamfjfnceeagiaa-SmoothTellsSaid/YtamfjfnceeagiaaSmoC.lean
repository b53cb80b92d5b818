/- The walk of layer 18 (smooth): a line's strip. Conditions: bounds of places. -/
import Derived.Test.YtamfjfnceeagiaaSmoB
import Derived.Test.YtamfjfnceeagiaaPTriA
import Derived.Test.YtamfjfnceeagiaaSmoA
namespace Go.Proofs.Ytamfjfnceeagiaa
set_option linter.unusedVariables false
set_option linter.unusedSimpArgs false
open Go.RowKit
theorem smroot_ex (n : Nat) : ∃ R : Int, 0 ≤ R ∧ R * R ≤ n ∧ (n : Int) < (R + 1) * (R + 1) := by
  induction n with
  | zero => exact ⟨0, by decide, by decide, by decide⟩
  | succ n ih =>
    obtain ⟨R, h0, h1, h2⟩ := ih
    by_cases h : ((n + 1 : Nat) : Int) < (R + 1) * (R + 1)
    · exact ⟨R, h0, by omega, h⟩
    · refine ⟨R + 1, by omega, by omega, ?_⟩
      have e : (R + 1 + 1) * (R + 1 + 1) = (R + 1) * (R + 1) + 2 * (R + 1) + 1 := by grind
      omega
theorem smK_in {a b : WinP} {n : Int} (ha : a.fits) (hb : b.fits) (hn : widthP n) : 0 ≤ smK a b n ∧ smK a b n ≤ 38685626227668133590597632 := by
  obtain ⟨l0, l1⟩ := smL_in ha hb
  obtain ⟨n0, n1⟩ := hn
  have m := mul_bds (U := 64) (V := 64) (by omega) (by omega) (show -64 ≤ n by omega) n1 (show -64 ≤ n by omega) n1
  have p := smq_nn n
  have e : 128 * n * 128 * n = 16384 * (n * n) := by grind
  unfold smK
  rw [e]
  have q0 := Int.mul_nonneg l0 (show 0 ≤ 16384 * (n * n) by omega)
  have q1 := Int.mul_le_mul l1 (show 16384 * (n * n) ≤ 67108864 by omega) (by omega) (by omega)
  omega
theorem across_ex {a b : WinP} {n : Int} (ha : a.fits) (hb : b.fits) (hn : widthP n) : ∃ R B, Across (smK a b n) R B ∧ R ≤ 9007199254740992 := by
  obtain ⟨k0, k1⟩ := smK_in ha hb hn
  obtain ⟨R, h0, h1, h2⟩ := smroot_ex (smK a b n).toNat
  rw [Int.toNat_of_nonneg k0] at h1 h2
  refine ⟨R, _, ⟨h0, h1, h2, rfl⟩, ?_⟩
  apply Classical.byContradiction; intro k
  have := smq_le (a := 9007199254740992) (b := R) (by omega) (by omega)
  omega
set_option maxRecDepth 100000 in
set_option maxHeartbeats 4000000 in
theorem newStrip_any (a b : WinP) (n R B : Int) (ha : a.fits) (hb : b.fits) (hn : widthP n) (hA : Across (smK a b n) R B) (hR : R ≤ 9007199254740992) (w : World) : Calls Try.prog 80 #[a.v, b.v, .int .i64 n] w (Ret (strpV a b R B) w) := by
  have lb := smL_in ha hb
  have kb := smK_in ha hb hn
  obtain ⟨r0, rlo, rhi, rb⟩ := hA
  obtain ⟨a0, a1, a2, a3, -, -, -⟩ := ha
  obtain ⟨c0, c1, c2, c3, -, -, -⟩ := hb
  obtain ⟨n0, n1⟩ := hn
  unfold strpV
  have eK : smK a b n = smL a b * (n * n * 16384) := by
    unfold smK
    rw [show 128 * n * 128 * n = n * n * 16384 by grind]
  have eL : smL a b = (b.x - a.x) * (b.x - a.x) + (b.y - a.y) * (b.y - a.y) := rfl
  have w1 : -536870912 ≤ b.x - a.x ∧ b.x - a.x ≤ 536870912 := by omega
  have w2 : -536870912 ≤ b.y - a.y ∧ b.y - a.y ≤ 536870912 := by omega
  obtain ⟨W, hW⟩ : ∃ W, b.x - a.x = W := ⟨_, rfl⟩
  obtain ⟨H, hH⟩ : ∃ H, b.y - a.y = H := ⟨_, rfl⟩
  have s1 : IntKind.i64.wrap (b.x - a.x) = W := by rw [hW]; exact IntWalk.i64_in _ (by omega)
  have s2 : IntKind.i64.wrap (b.y - a.y) = H := by rw [hH]; exact IntWalk.i64_in _ (by omega)
  simp only [hW, hH] at w1 w2 eL ⊢
  have m1 := mul_bds (U := 536870912) (V := 536870912) (by omega) (by omega) w1.1 w1.2 w1.1 w1.2
  have m2 := mul_bds (U := 536870912) (V := 536870912) (by omega) (by omega) w2.1 w2.2 w2.1 w2.2
  have m3 := mul_bds (U := 64) (V := 64) (by omega) (by omega) (show -64 ≤ n by omega) n1 (show -64 ≤ n by omega) n1
  have k1 : IntKind.i64.wrap (W * W) = W * W := IntWalk.i64_in _ (by omega)
  have k2 : IntKind.i64.wrap (H * H) = H * H := IntWalk.i64_in _ (by omega)
  have k3 : IntKind.i64.wrap (W * W + H * H) = smL a b := by rw [eL]; exact IntWalk.i64_in _ (by omega)
  have k4 : IntKind.i64.wrap (n * n) = n * n := IntWalk.i64_in _ (by omega)
  have pn := smq_nn n
  obtain ⟨nn, hnn⟩ : ∃ m, n * n = m := ⟨_, rfl⟩
  have k5 : IntKind.i64.wrap (n * n) = nn := by rw [k4, hnn]
  rw [hnn] at m3 pn eK
  generalize smK a b n = K at *
  generalize smL a b = l at *
  have O := Lib.hid (fun w => of_any l (by unfold sml; omega) w)
  have T := Lib.hid (fun w => times_in l (nn * 16384) (by unfold inR; omega) (by unfold sml; omega) (by rw [← eK]; unfold inR; omega) w)
  rw [← eK] at T
  have RT := Lib.hid (fun w => root_yes K R (by omega) (by omega) r0 rlo rhi w)
  have M := Lib.hid (fun w => mul_any R R (by unfold sml; omega) (by unfold sml; omega) w)
  have rr := mul_bds (U := 9007199254740992) (V := 9007199254740992) (by omega) (by omega) (show -9007199254740992 ≤ R by omega) hR (show -9007199254740992 ≤ R by omega) hR
  have C := Lib.hid (fun w => cmp_any (R * R) K (by unfold inR; omega) (by unfold inR; omega) w)
  have sg := sgn_01 (R * R - K)
  obtain ⟨g, hg⟩ : ∃ g, sgn (R * R - K) = g := ⟨_, rfl⟩
  rw [hg] at C sg
  obtain ⟨w10, w11⟩ := w1
  obtain ⟨w20, w21⟩ := w2
  obtain ⟨p0, p1⟩ : 0 ≤ nn ∧ nn ≤ 4096 := by omega
  have RBH := Lib.hid rb
  by_cases h : R * R = K
  · have hg0 : g = 0 := by omega
    have hB : B = R - 1 := by rw [RBH.out, if_pos h]
    subst hg0 hB
    clear rb RBH h eK eL hW hH m1 m2 m3 k4 hnn pn rr hg sg kb lb rlo rhi
    go_enter Try.func80, Try.ntmps80
    go_upto_region 6 with (first | (go_at_call 61; (with_reducible refine (O.out _).mono ?_); rintro _ _ ⟨rfl, X_, rfl⟩) | (go_at_call 121; (with_reducible refine (T.out _).mono ?_); rintro _ _ ⟨rfl, X_, rfl⟩) | (go_at_call 122; (with_reducible refine (RT.out _).mono ?_); rintro _ _ ⟨rfl, X_, rfl⟩))
    refine wp_region_ext (by kernel_rfl) (by kernel_rfl) ?_
    repeat (go_big_quiet_step ((first | (go_at_call 59; with_reducible exact Calls.quiet_ret (M.out _)) | (go_at_call 62; with_reducible exact Calls.quiet_ret (C.out _)))))
    refine wpQuiet_nil ?_
    intro _ hw_ext
    obtain ⟨X, hw_ext⟩ := hw_ext
    subst hw_ext
    go_wp2
    refine bodyPost_ret (v := .agg #[.int .i64 a.x, .int .i64 a.y, .int .i64 W, .int .i64 H, .int .i64 l, .int .i64 (R - 1), .int .i64 R]) (by simp [results, Try.results80, go_sem]) rfl (Ret.of (by (repeat (first | exact Below.refl _ _ | with_reducible refine Below.drew ?_ | with_reducible refine Below.ext ?_ (by first | exact Nat.le_refl _ | (simp; done) | (simp; omega)) _ | with_reducible refine Below.alloc ?_ (by first | exact Nat.le_refl _ | (simp; done) | (simp; omega)) _ | with_reducible refine Below.setCell ?_ (by first | exact Nat.le_refl _ | (simp; done) | (simp; omega)) _))))
  · have hg0 : (g == 0) = false := by simp; omega
    have hB : B = R := by rw [RBH.out, if_neg h]
    subst hB
    clear rb RBH h eK eL hW hH m1 m2 m3 k4 hnn pn rr hg sg kb lb rlo rhi
    go_enter Try.func80, Try.ntmps80
    go_upto_region 6 with (first | (go_at_call 61; (with_reducible refine (O.out _).mono ?_); rintro _ _ ⟨rfl, X_, rfl⟩) | (go_at_call 121; (with_reducible refine (T.out _).mono ?_); rintro _ _ ⟨rfl, X_, rfl⟩) | (go_at_call 122; (with_reducible refine (RT.out _).mono ?_); rintro _ _ ⟨rfl, X_, rfl⟩))
    refine wp_region_ext (by kernel_rfl) (by kernel_rfl) ?_
    repeat (go_big_quiet_step ((first | (go_at_call 59; with_reducible exact Calls.quiet_ret (M.out _)) | (go_at_call 62; with_reducible exact Calls.quiet_ret (C.out _)))))
    refine wpQuiet_nil ?_
    intro _ hw_ext
    obtain ⟨X, hw_ext⟩ := hw_ext
    subst hw_ext
    go_wp2
    refine bodyPost_ret (v := .agg #[.int .i64 a.x, .int .i64 a.y, .int .i64 W, .int .i64 H, .int .i64 l, .int .i64 B, .int .i64 B]) (by simp [results, Try.results80, go_sem]) rfl (Ret.of (by (repeat (first | exact Below.refl _ _ | with_reducible refine Below.drew ?_ | with_reducible refine Below.ext ?_ (by first | exact Nat.le_refl _ | (simp; done) | (simp; omega)) _ | with_reducible refine Below.alloc ?_ (by first | exact Nat.le_refl _ | (simp; done) | (simp; omega)) _ | with_reducible refine Below.setCell ?_ (by first | exact Nat.le_refl _ | (simp; done) | (simp; omega)) _))))
end Go.Proofs.Ytamfjfnceeagiaa
