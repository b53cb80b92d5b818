/- WideCounts: whatever the input, the law returns true and leaves its arguments as they read. No condition. -/
import Derived.Test.YtciooaihobnifaaWidP
import Derived.Test.YtciooaihobnifaaWidQ
import Derived.Test.YtciooaihobnifaaEWideCounts
import Derived.BigRegion
namespace Go.Proofs.Ytciooaihobnifaa
set_option linter.unusedVariables false
set_option linter.unusedSimpArgs false
open Go.RowKit
set_option maxRecDepth 100000 in
set_option maxHeartbeats 4000000 in
theorem counts17_no (a b : WinP) (n : Int) (dd : Bool) (p r c x0 y0 x1 y1 : Int) (h : ¬ lineP a b n p r c) (w : World) : Calls Try.prog 5 #[wlineV a b n dd p r c x0 y0 x1 y1] w (Ret (.bool true) w) := by
  have R := fun w => rline_right a b n p r c w
  simp only [h, decide_false] at R
  have HR := Lib.hid R
  clear R h
  go_enter Try.func5, Try.ntmps5
  go_wp2_with (first | (go_at_call 22; (with_reducible refine (HR.out _).mono ?_); rintro _ _ ⟨rfl, X_, rfl⟩) | (go_at_call 20; (with_reducible refine (awake17 _).mono ?_); rintro _ _ ⟨rfl, X_, rfl⟩))
  go_ret
  exact Ret.of' rfl (by (repeat (first | exact Below.refl _ _ | with_reducible refine Below.drew ?_ | with_reducible refine Below.ext ?_ (by first | exact Nat.le_refl _ | (simp; done) | (simp; omega)) _ | with_reducible refine Below.alloc ?_ (by first | exact Nat.le_refl _ | (simp; done) | (simp; omega)) _ | with_reducible refine Below.setCell ?_ (by first | exact Nat.le_refl _ | (simp; done) | (simp; omega)) _)))
theorem tmod_near (z : Int) : -4000 < z.tmod 4000 ∧ z.tmod 4000 < 4000 := by
  have h2 := Int.tmod_lt_of_pos z (show (0 : Int) < 4000 by omega)
  have h3 := Int.tmod_lt_of_pos (-z) (show (0 : Int) < 4000 by omega)
  rw [Int.neg_tmod] at h3
  omega
theorem quo_near (p : Int) : -256 < p - 256 * p.tdiv 256 ∧ p - 256 * p.tdiv 256 < 256 := by
  have h1 := Int.tdiv_mul_add_tmod p 256
  have h2 := Int.tmod_lt_of_pos p (show (0 : Int) < 256 by omega)
  have h3 := Int.tmod_lt_of_pos (-p) (show (0 : Int) < 256 by omega)
  rw [Int.neg_tmod] at h3
  omega
set_option maxRecDepth 100000 in
set_option maxHeartbeats 8000000 in
theorem counts17_in (a b : WinP) (n : Int) (dd : Bool) (p r c x0 y0 x1 y1 : Int) (ha : a.wide) (hb : b.wide) (hp : w64 p) (hc : w64 c) (h : lineP a b n p r c) (w : World) : Calls Try.prog 5 #[wlineV a b n dd p r c x0 y0 x1 y1] w (Ret (.bool true) w) := by
  have R := fun w => rline_right a b n p r c w
  simp only [h, decide_true] at R
  have HR := Lib.hid R
  obtain ⟨tx, htx⟩ : ∃ t, (b.x - a.x).tmod 4000 = t := ⟨_, rfl⟩
  obtain ⟨ty, hty⟩ : ∃ t, (b.y - a.y).tmod 4000 = t := ⟨_, rfl⟩
  obtain ⟨u, hu⟩ : ∃ t, a.x.tdiv 256 = t := ⟨_, rfl⟩
  obtain ⟨v, hv⟩ : ∃ t, a.y.tdiv 256 = t := ⟨_, rfl⟩
  have tx0 := tmod_near (b.x - a.x)
  have ty0 := tmod_near (b.y - a.y)
  have u0 := quo_near a.x
  have v0 := quo_near a.y
  rw [hu] at u0
  rw [hv] at v0
  rw [htx] at tx0
  rw [hty] at ty0
  obtain ⟨tx1, tx2⟩ := tx0
  obtain ⟨ty1, ty2⟩ := ty0
  obtain ⟨fa, fb, hn, hd⟩ := h
  have ffa := fa
  have ffb := fb
  unfold WinP.fitsP at ffa ffb
  obtain ⟨-, -, -, -, ⟨ax0, ax1⟩, ⟨ay0, ay1⟩, -, -⟩ := ffa
  obtain ⟨-, -, -, -, ⟨bx0, bx1⟩, ⟨by0, by1⟩, -, -⟩ := ffb
  have hnn := hn
  unfold widthP at hnn
  obtain ⟨nn0, nn1⟩ := hnn
  have hb2 : (⟨a.x + tx, a.y + ty, b.z, b.c0, b.c1, b.c2, b.c3⟩ : WinP).wide := by
    obtain ⟨-, -, g3, g4, g5, g6, g7⟩ := hb
    exact ⟨by simp only [w64]; omega, by simp only [w64]; omega, g3, g4, g5, g6, g7⟩
  have R2 := Lib.hid (fun w => rline_right a ⟨a.x + tx, a.y + ty, b.z, b.c0, b.c1, b.c2, b.c3⟩ n p r c w)
  clear R
  go_enter Try.func5, Try.ntmps5
  go_upto_region 3 with (first | (go_at_call 22; (with_reducible refine (HR.out _).mono ?_); rintro _ _ ⟨rfl, X_, rfl⟩))
  refine wp_abs (F := fun w1 => Row w1 w.heap.size #[.int .i64 a.x, .int .i64 a.y, .int .i64 a.z, .int .i64 a.c0, .int .i64 a.c1, .int .i64 a.c2, .int .i64 a.c3, .int .i64 b.x, .int .i64 b.y, .int .i64 b.z, .int .i64 b.c0, .int .i64 b.c1, .int .i64 b.c2, .int .i64 b.c3, .int .i64 n, .bool dd, .int .i64 p, .int .i64 r, .int .i64 c, .int .i64 x0, .int .i64 y0, .int .i64 x1, .int .i64 y1] 64 ∧ ∃ X, w1 = w.ext X) ⟨by (repeat (first | assumption | with_reducible refine Row.ext ?_ _ | with_reducible refine row_drew ?_ | (with_reducible refine row_last ?_; first | rfl | (simp; done)) | with_reducible refine Row.alloc ?_ _)), RowKit.Below.toExt (by (repeat (first | exact Below.refl _ _ | with_reducible refine Below.drew ?_ | with_reducible refine Below.ext ?_ (by first | exact Nat.le_refl _ | (simp; done) | (simp; omega)) _ | with_reducible refine Below.alloc ?_ (by first | exact Nat.le_refl _ | (simp; done) | (simp; omega)) _ | with_reducible refine Below.setCell ?_ (by first | exact Nat.le_refl _ | (simp; done) | (simp; omega)) _)))⟩ ?_
  rintro w1 ⟨Rl, hX⟩
  have HX := Lib.hid hX
  have HRl := Lib.hid Rl
  have cl := Rl.cell
  have fl := Rl.frozen
  have ll := Rl.lt
  clear Rl hX
  go_upto_region 4 with fail
  refine wp_abs (F := fun wz => Row wz w.heap.size #[.int .i64 a.x, .int .i64 a.y, .int .i64 a.z, .int .i64 a.c0, .int .i64 a.c1, .int .i64 a.c2, .int .i64 a.c3, .int .i64 b.x, .int .i64 b.y, .int .i64 b.z, .int .i64 b.c0, .int .i64 b.c1, .int .i64 b.c2, .int .i64 b.c3, .int .i64 n, .bool dd, .int .i64 p, .int .i64 r, .int .i64 c, .int .i64 x0, .int .i64 y0, .int .i64 x1, .int .i64 y1] 64 ∧ Row wz w1.heap.size #[.int .i64 b.x, .int .i64 b.y, .int .i64 b.z, .int .i64 b.c0, .int .i64 b.c1, .int .i64 b.c2, .int .i64 b.c3] 56 ∧ ∃ X, wz = w.ext X) ⟨by (repeat (first | with_reducible exact HRl.out | with_reducible refine Row.ext ?_ _ | with_reducible refine row_drew ?_ | with_reducible refine Row.alloc ?_ _)), by (repeat (first | assumption | with_reducible refine Row.ext ?_ _ | with_reducible refine row_drew ?_ | (with_reducible refine row_last ?_; first | rfl | (simp; done)) | with_reducible refine Row.alloc ?_ _)), by obtain ⟨X0, hX0⟩ := HX.out; subst hX0; exact RowKit.Below.toExt (by (repeat (first | with_reducible assumption | with_reducible exact Below.refl _ _ | with_reducible refine Below.drew ?_ | with_reducible refine Below.ext ?_ (by first | exact Nat.le_refl _ | omega | (simp; done) | (simp; omega)) _ | with_reducible refine Below.alloc ?_ (by first | exact Nat.le_refl _ | omega | (simp; done) | (simp; omega)) _ | with_reducible refine Below.setCell ?_ (by first | exact Nat.le_refl _ | omega | (simp; done) | (simp; omega)) _)))⟩ ?_
  obtain ⟨Bb, hBb⟩ : ∃ B, w1.heap.size = B := ⟨_, rfl⟩
  rw [hBb]
  have hb0 : w.heap.size < Bb := by omega
  clear hBb cl fl ll HRl HX HR
  rintro wz ⟨Rl, Rb, hX⟩
  have HX := Lib.hid hX
  have HRl := Lib.hid Rl
  have cl := Rl.cell
  have fl := Rl.frozen
  have ll := Rl.lt
  have cb := Rb.cell
  have fb := Rb.frozen
  have lb := Rb.lt
  have nlb : w.heap.size ≠ Bb := by omega
  have nbl : Bb ≠ w.heap.size := by omega
  clear Rl hX
  go_region
  as_aux_lemma =>
    go_upto_region 5 with fail
    clear htx hty
    have HU := Lib.hid hu
    have HV := Lib.hid hv
    clear hu hv
    obtain ⟨b2, hbb⟩ : ∃ b2 : WinP, b2 = ⟨a.x + tx, a.y + ty, b.z, b.c0, b.c1, b.c2, b.c3⟩ := ⟨_, rfl⟩
    refine wp_abs (F := fun w2 => Row w2 w.heap.size #[.int .i64 a.x, .int .i64 a.y, .int .i64 a.z, .int .i64 a.c0, .int .i64 a.c1, .int .i64 a.c2, .int .i64 a.c3, .int .i64 b.x, .int .i64 b.y, .int .i64 b.z, .int .i64 b.c0, .int .i64 b.c1, .int .i64 b.c2, .int .i64 b.c3, .int .i64 n, .bool dd, .int .i64 p, .int .i64 r, .int .i64 c, .int .i64 x0, .int .i64 y0, .int .i64 x1, .int .i64 y1] 64 ∧ Row w2 Bb #[.int .i64 b2.x, .int .i64 b2.y, .int .i64 b2.z, .int .i64 b2.c0, .int .i64 b2.c1, .int .i64 b2.c2, .int .i64 b2.c3] 56 ∧ ∃ X, w2 = w.ext X) ⟨by (repeat (first | with_reducible exact HRl.out | with_reducible refine row_drew ?_ | with_reducible refine Row.other ?_ (by assumption) _ _)), ?_, by obtain ⟨X0, hX0⟩ := HX.out; subst hX0; exact RowKit.Below.toExt (by (repeat (first | with_reducible assumption | with_reducible exact Below.refl _ _ | with_reducible refine Below.drew ?_ | with_reducible refine Below.ext ?_ (by first | exact Nat.le_refl _ | omega | (simp; done) | (simp; omega)) _ | with_reducible refine Below.alloc ?_ (by first | exact Nat.le_refl _ | omega | (simp; done) | (simp; omega)) _ | with_reducible refine Below.setCell ?_ (by first | exact Nat.le_refl _ | omega | (simp; done) | (simp; omega)) _)))⟩ ?_
    · rw [hbb]
      have r1 : Row (wz.setCell ⟨Bb, 0, none⟩ (.int .i64 (a.x + tx))) Bb #[.int .i64 (a.x + tx), .int .i64 b.y, .int .i64 b.z, .int .i64 b.c0, .int .i64 b.c1, .int .i64 b.c2, .int .i64 b.c3] 56 := Rb.set 0 _
      have r2 : Row ((wz.setCell ⟨Bb, 0, none⟩ (.int .i64 (a.x + tx))).setCell ⟨Bb, 1, none⟩ (.int .i64 (a.y + ty))) Bb #[.int .i64 (a.x + tx), .int .i64 (a.y + ty), .int .i64 b.z, .int .i64 b.c0, .int .i64 b.c1, .int .i64 b.c2, .int .i64 b.c3] 56 := r1.set 1 _
      (repeat (first | with_reducible exact r2 | with_reducible refine row_drew ?_))
    clear cl fl ll cb fb lb HRl HX Rb nlb nbl
    have hbx : b2.x = a.x + tx := by rw [hbb]
    have hby : b2.y = a.y + ty := by rw [hbb]
    have HBX := Lib.hid hbx
    have HBY := Lib.hid hby
    have hb2 : b2.wide := by rw [hbb]; exact hb2
    have R2 := Lib.hid (fun w => rline_right a b2 n p r c w)
    clear hbb hbx hby
    rintro w2 ⟨Rl, Rb, hX⟩
    have HX := Lib.hid hX
    have HRl := Lib.hid Rl
    have HRb := Lib.hid Rb
    have cl := Rl.cell
    have fl := Rl.frozen
    have ll := Rl.lt
    have cb := Rb.cell
    have fb := Rb.frozen
    have lb := Rb.lt
    clear Rl Rb hX
    by_cases h2 : lineP a b2 n p r c
    case neg =>
      have R3 := R2.out
      simp only [h2, decide_false] at R3
      have HR3 := Lib.hid R3
      clear R3 R2 h2
      go_wp2_with (first | (go_at_call 22; (with_reducible refine (HR3.out _).mono ?_); rintro _ _ ⟨rfl, X_, rfl⟩) | (go_at_call 20; (with_reducible refine (awake17 _).mono ?_); rintro _ _ ⟨rfl, X_, rfl⟩))
      go_ret
      obtain ⟨X0, hX0⟩ := HX.out
      subst hX0
      exact Ret.of' rfl (by (repeat (first | with_reducible assumption | with_reducible exact Below.refl _ _ | with_reducible refine Below.drew ?_ | with_reducible refine Below.ext ?_ (by first | exact Nat.le_refl _ | omega | (simp; done) | (simp; omega)) _ | with_reducible refine Below.alloc ?_ (by first | exact Nat.le_refl _ | omega | (simp; done) | (simp; omega)) _ | with_reducible refine Below.setCell ?_ (by first | exact Nat.le_refl _ | omega | (simp; done) | (simp; omega)) _)))
    have R3 := R2.out
    simp only [h2, decide_true] at R3
    have HR3 := Lib.hid R3
    clear R3 R2
    obtain ⟨N, F, hN, hN80, hF0, hF1, hFk, hL1, hL2⟩ := counts17_plain a b2 n p r c u v h2 (by rw [HBX.out]; omega) (by rw [HBY.out]; omega) u0 v0
    have HCore := Lib.hid (fun w => rcore_any a b2 n fa.f h2.2.1.f hn w)
    obtain ⟨m1, m2⟩ := core_may (a := a) (b := b2) (n := n) fa h2.2.1 hn
    have CN := fun w => rcount_any _ _ _ _ m1 m2 w
    rw [show (lineL (corX a b2 n a.x) (corY a b2 n a.y) (corX a b2 n b2.x) (corY a b2 n b2.y)).length = N from hN] at CN
    have HCN := Lib.hid CN
    have har : areaP (u - 150) (v - 150) (u + 150) (v + 150) ≤ 1048576 := by
      unfold areaP
      split
      · rw [show u + 150 - (u - 150) = 300 by omega, show v + 150 - (v - 150) = 300 by omega]; decide
      · decide
    have W1 := fun w => wline_any a b2 n false p r c (u - 150) (v - 150) (u + 150) (v + 150) ha hb2 hp hc har w
    have W2 := fun w => wline_any a b2 n true p r c (u - 150) (v - 150) (u + 150) (v + 150) ha hb2 hp hc har w
    have W3 := fun w => wline_any a a n false p r c (u - 150) (v - 150) (u + 150) (v + 150) ha ha hp hc har w
    simp only [wdL_self] at W3
    simp only [show wdC a b2 n true p r c = (c + N) % (r * 16) from by unfold wdC nextC; rw [if_pos h2, if_pos rfl, hN]] at W2
    generalize wdC a b2 n false p r c = cc1 at W1
    generalize wdC a a n false p r c = cc3 at W3
    generalize wdL a b2 n false p r c (u - 150) (v - 150) (u + 150) (v + 150) = L1 at *
    generalize wdL a b2 n true p r c (u - 150) (v - 150) (u + 150) (v + 150) = L2 at *
    have HW1 := Lib.hid W1
    have HW2 := Lib.hid W2
    have HW3 := Lib.hid W3
    have HLit := Lib.hid (fun (k : Int) (k0 : 0 ≤ k) (k1 : k ≤ 1099511627776) w => rlit_any p r c k hd k0 k1 w)
    have HNx := Lib.hid (fun w => rnext_any p r c N hd (by omega) (by omega) w)
    have q1 : (0 : Int) ≤ N * n := Int.mul_nonneg (by omega) (by omega)
    have q2 : (N : Int) * n ≤ 80 * 64 := Int.mul_le_mul (by omega) nn1 (by omega) (by omega)
    have q3 : (0 : Int) ≤ F N * n := Int.mul_nonneg (by omega) (by omega)
    have q4 : (F N : Int) * n ≤ 80 * 64 := Int.mul_le_mul (by have := hFk N (Nat.le_refl _); omega) nn1 (by omega) (by omega)
    have hE1 : ((L1.length : Int) == N * n) = true := by simp; exact hL1
    have hE2 : ((L2.length : Int) == F N * n) = true := by simp; exact hL2
    have HF0 := Lib.hid hF0
    have HF1 := Lib.hid hF1
    have HFk := Lib.hid hFk
    obtain ⟨MA, hMA⟩ : ∃ z, (N : Int) * n = z := ⟨_, rfl⟩
    obtain ⟨MB, hMB⟩ : ∃ z, (F N : Int) * n = z := ⟨_, rfl⟩
    have HMA := Lib.hid hMA
    have HMB := Lib.hid hMB
    rw [hMA] at q1 q2 hE1
    rw [hMB] at q3 q4 hE2
    clear hMA hMB hL1 hL2 hF0 hF1 hFk W1 W2 W3 CN m1 m2 har hN h2 hn hd hb2 ha hb hp hc fa fb
    have HU0 := Lib.hid u0
    have HV0 := Lib.hid v0
    clear u0 v0 bx0 bx1 by0 by1
    generalize (corX a b2 n a.x) = e1 at *
    generalize (corY a b2 n a.y) = e2 at *
    generalize (corX a b2 n b2.x) = e3 at *
    generalize (corY a b2 n b2.y) = e4 at *
    go_upto_region 9 with (first | (go_at_call 22; (with_reducible refine (HR3.out _).mono ?_); rintro _ _ ⟨rfl, X_, rfl⟩) | (go_at_call 23; (with_reducible refine (HCore.out _).mono ?_); rintro _ _ ⟨rfl, X_, rfl⟩) | (go_at_call 24; (with_reducible refine (HCN.out _).mono ?_); rintro _ _ ⟨rfl, X_, rfl⟩))
    refine wp_abs (F := fun w3 => Row w3 w.heap.size #[.int .i64 a.x, .int .i64 a.y, .int .i64 a.z, .int .i64 a.c0, .int .i64 a.c1, .int .i64 a.c2, .int .i64 a.c3, .int .i64 b.x, .int .i64 b.y, .int .i64 b.z, .int .i64 b.c0, .int .i64 b.c1, .int .i64 b.c2, .int .i64 b.c3, .int .i64 n, .bool dd, .int .i64 p, .int .i64 r, .int .i64 c, .int .i64 x0, .int .i64 y0, .int .i64 x1, .int .i64 y1] 64 ∧ Row w3 Bb #[.int .i64 b2.x, .int .i64 b2.y, .int .i64 b2.z, .int .i64 b2.c0, .int .i64 b2.c1, .int .i64 b2.c2, .int .i64 b2.c3] 56 ∧ ∃ X, w3 = w.ext X) ⟨by (repeat (first | with_reducible exact HRl.out | with_reducible refine Row.ext ?_ _ | with_reducible refine row_drew ?_ | with_reducible refine Row.alloc ?_ _)), by (repeat (first | with_reducible exact HRb.out | with_reducible refine Row.ext ?_ _ | with_reducible refine row_drew ?_ | with_reducible refine Row.alloc ?_ _)), by obtain ⟨X0, hX0⟩ := HX.out; subst hX0; exact RowKit.Below.toExt (by (repeat (first | with_reducible assumption | with_reducible exact Below.refl _ _ | with_reducible refine Below.drew ?_ | with_reducible refine Below.ext ?_ (by first | exact Nat.le_refl _ | omega | (simp; done) | (simp; omega)) _ | with_reducible refine Below.alloc ?_ (by first | exact Nat.le_refl _ | omega | (simp; done) | (simp; omega)) _ | with_reducible refine Below.setCell ?_ (by first | exact Nat.le_refl _ | omega | (simp; done) | (simp; omega)) _)))⟩ ?_
    clear cl fl ll cb fb lb HRl HRb HX
    rintro w3 ⟨Rl, Rb, hX⟩
    have HX := Lib.hid hX
    have HRl := Lib.hid Rl
    have HRb := Lib.hid Rb
    have cl := Rl.cell
    have fl := Rl.frozen
    have ll := Rl.lt
    have cb := Rb.cell
    have fb := Rb.frozen
    have lb := Rb.lt
    clear Rl Rb hX
    have hu := HU.out
    have hv := HV.out
    refine wp_region_ext (by kernel_rfl) (by kernel_rfl) ?_
    repeat (go_big_quiet_step ((fail)))
    refine wpQuiet_nil ?_
    intro _ hw_ext
    obtain ⟨X9, hw_ext⟩ := hw_ext
    subst hw_ext
    go_upto_region 10 with fail
    clear hu hv
    have u0 := HU0.out
    have v0 := HV0.out
    have wu : wrap64 u = u := IntWalk.wrap64_in _ (by omega)
    have wv : wrap64 v = v := IntWalk.wrap64_in _ (by omega)
    rw [wu, wv]
    clear wu wv
    refine wp_abs (F := fun w4 => Row w4 w.heap.size #[.int .i64 a.x, .int .i64 a.y, .int .i64 a.z, .int .i64 a.c0, .int .i64 a.c1, .int .i64 a.c2, .int .i64 a.c3, .int .i64 b.x, .int .i64 b.y, .int .i64 b.z, .int .i64 b.c0, .int .i64 b.c1, .int .i64 b.c2, .int .i64 b.c3, .int .i64 n, .bool dd, .int .i64 p, .int .i64 r, .int .i64 c, .int .i64 x0, .int .i64 y0, .int .i64 x1, .int .i64 y1] 64 ∧ Row w4 Bb #[.int .i64 b2.x, .int .i64 b2.y, .int .i64 b2.z, .int .i64 b2.c0, .int .i64 b2.c1, .int .i64 b2.c2, .int .i64 b2.c3] 56 ∧ ∃ X, w4 = w.ext X) ⟨by (repeat (first | with_reducible exact HRl.out | with_reducible refine Row.ext ?_ _ | with_reducible refine row_drew ?_ | with_reducible refine Row.alloc ?_ _)), by (repeat (first | with_reducible exact HRb.out | with_reducible refine Row.ext ?_ _ | with_reducible refine row_drew ?_ | with_reducible refine Row.alloc ?_ _)), by obtain ⟨X0, hX0⟩ := HX.out; subst hX0; exact RowKit.Below.toExt (by (repeat (first | with_reducible assumption | with_reducible exact Below.refl _ _ | with_reducible refine Below.drew ?_ | with_reducible refine Below.ext ?_ (by first | exact Nat.le_refl _ | omega | (simp; done) | (simp; omega)) _ | with_reducible refine Below.alloc ?_ (by first | exact Nat.le_refl _ | omega | (simp; done) | (simp; omega)) _ | with_reducible refine Below.setCell ?_ (by first | exact Nat.le_refl _ | omega | (simp; done) | (simp; omega)) _)))⟩ ?_
    clear cl fl ll cb fb lb HRl HRb HX
    rintro w4 ⟨Rl, Rb, hX⟩
    have HX := Lib.hid hX
    have HRl := Lib.hid Rl
    have HRb := Lib.hid Rb
    have cl := Rl.cell
    have fl := Rl.frozen
    have ll := Rl.lt
    have cb := Rb.cell
    have fb := Rb.frozen
    have lb := Rb.lt
    clear Rl Rb hX
    have u1 : -1048577 ≤ u ∧ u ≤ 1048577 := by omega
    have v1 : -1048577 ≤ v ∧ v ≤ 1048577 := by omega
    obtain ⟨u1, u2⟩ := u1
    obtain ⟨v1, v2⟩ := v1
    go_upto_region 11 with fail
    refine wp_abs (F := fun w5 => Row w5 w.heap.size #[.int .i64 a.x, .int .i64 a.y, .int .i64 a.z, .int .i64 a.c0, .int .i64 a.c1, .int .i64 a.c2, .int .i64 a.c3, .int .i64 b.x, .int .i64 b.y, .int .i64 b.z, .int .i64 b.c0, .int .i64 b.c1, .int .i64 b.c2, .int .i64 b.c3, .int .i64 n, .bool dd, .int .i64 p, .int .i64 r, .int .i64 c, .int .i64 x0, .int .i64 y0, .int .i64 x1, .int .i64 y1] 64 ∧ Row w5 Bb #[.int .i64 b2.x, .int .i64 b2.y, .int .i64 b2.z, .int .i64 b2.c0, .int .i64 b2.c1, .int .i64 b2.c2, .int .i64 b2.c3] 56 ∧ Row w5 w4.heap.size #[.int .i64 (u - 150), .int .i64 (v - 150), .int .i64 (u + 150), .int .i64 (v + 150)] 26 ∧ ∃ X, w5 = w.ext X) ⟨by (repeat (first | with_reducible exact HRl.out | with_reducible refine Row.ext ?_ _ | with_reducible refine row_drew ?_ | with_reducible refine Row.alloc ?_ _)), by (repeat (first | with_reducible exact HRb.out | with_reducible refine Row.ext ?_ _ | with_reducible refine row_drew ?_ | with_reducible refine Row.alloc ?_ _)), by (repeat (first | assumption | with_reducible refine Row.ext ?_ _ | with_reducible refine row_drew ?_ | (with_reducible refine row_last ?_; first | rfl | (simp; done)) | with_reducible refine Row.alloc ?_ _)), by obtain ⟨X0, hX0⟩ := HX.out; subst hX0; exact RowKit.Below.toExt (by (repeat (first | with_reducible assumption | with_reducible exact Below.refl _ _ | with_reducible refine Below.drew ?_ | with_reducible refine Below.ext ?_ (by first | exact Nat.le_refl _ | omega | (simp; done) | (simp; omega)) _ | with_reducible refine Below.alloc ?_ (by first | exact Nat.le_refl _ | omega | (simp; done) | (simp; omega)) _ | with_reducible refine Below.setCell ?_ (by first | exact Nat.le_refl _ | omega | (simp; done) | (simp; omega)) _)))⟩ ?_
    obtain ⟨Br, hBr⟩ : ∃ B, w4.heap.size = B := ⟨_, rfl⟩
    rw [hBr]
    have hr0 : w.heap.size < Br := by omega
    clear hBr cl fl ll cb fb lb HRl HRb HX
    rintro w5 ⟨Rl, Rb, Rr, hX⟩
    have HX := Lib.hid hX
    have HRl := Lib.hid Rl
    have HRb := Lib.hid Rb
    have HRr := Lib.hid Rr
    have cl := Rl.cell
    have fl := Rl.frozen
    have ll := Rl.lt
    have cb := Rb.cell
    have fb := Rb.frozen
    have lb := Rb.lt
    have cr := Rr.cell
    have fr := Rr.frozen
    have lr := Rr.lt
    clear Rl Rb Rr hX
    go_upto_region 12 with (first
      | (go_at_call 21; (with_reducible refine (HW1.out _).mono ?_); rintro _ _ ⟨v1, rfl, hv1, ⟨XF, rfl⟩⟩; obtain ⟨-, ax, kx, rfl, -, -⟩ := hv1))
    refine wp_abs (F := fun w6 => Row w6 w.heap.size #[.int .i64 a.x, .int .i64 a.y, .int .i64 a.z, .int .i64 a.c0, .int .i64 a.c1, .int .i64 a.c2, .int .i64 a.c3, .int .i64 b.x, .int .i64 b.y, .int .i64 b.z, .int .i64 b.c0, .int .i64 b.c1, .int .i64 b.c2, .int .i64 b.c3, .int .i64 n, .bool dd, .int .i64 p, .int .i64 r, .int .i64 c, .int .i64 x0, .int .i64 y0, .int .i64 x1, .int .i64 y1] 64 ∧ Row w6 Bb #[.int .i64 b2.x, .int .i64 b2.y, .int .i64 b2.z, .int .i64 b2.c0, .int .i64 b2.c1, .int .i64 b2.c2, .int .i64 b2.c3] 56 ∧ Row w6 Br #[.int .i64 (u - 150), .int .i64 (v - 150), .int .i64 (u + 150), .int .i64 (v + 150)] 26 ∧ ∃ X, w6 = w.ext X) ⟨by (repeat (first | with_reducible exact HRl.out | with_reducible refine Row.ext ?_ _ | with_reducible refine row_drew ?_ | with_reducible refine Row.alloc ?_ _)), by (repeat (first | with_reducible exact HRb.out | with_reducible refine Row.ext ?_ _ | with_reducible refine row_drew ?_ | with_reducible refine Row.alloc ?_ _)), by (repeat (first | with_reducible exact HRr.out | with_reducible refine Row.ext ?_ _ | with_reducible refine row_drew ?_ | with_reducible refine Row.alloc ?_ _)), by obtain ⟨X0, hX0⟩ := HX.out; subst hX0; exact RowKit.Below.toExt (by (repeat (first | with_reducible assumption | with_reducible exact Below.refl _ _ | with_reducible refine Below.drew ?_ | with_reducible refine Below.ext ?_ (by first | exact Nat.le_refl _ | omega | (simp; done) | (simp; omega)) _ | with_reducible refine Below.alloc ?_ (by first | exact Nat.le_refl _ | omega | (simp; done) | (simp; omega)) _ | with_reducible refine Below.setCell ?_ (by first | exact Nat.le_refl _ | omega | (simp; done) | (simp; omega)) _)))⟩ ?_
    generalize w5.heap.size + XF.sz = B1
    clear cl fl ll cb fb lb cr fr lr HRl HRb HRr HX HW1
    rintro w6 ⟨Rl, Rb, Rr, hX⟩
    have HX := Lib.hid hX
    have HRl := Lib.hid Rl
    have HRb := Lib.hid Rb
    have HRr := Lib.hid Rr
    have cl := Rl.cell
    have fl := Rl.frozen
    have ll := Rl.lt
    clear Rl Rb Rr hX
    go_wp2
    go_loopw [13, 12] (fun i o wr => ∃ (k m : Nat), k ≤ N ∧ i = .int .i64 k ∧ o = .int .i64 m ∧ Hid (m = F k) ∧ m ≤ k ∧ ∃ X, wr = w6.ext X)
      (fun i _ _ => N - (intOf i).toNat)
    case atStart => exact ⟨0, 0, by omega, rfl, rfl, Lib.hid HF0.out.symm, by omega, _, ext_self _⟩
    case round =>
      obtain ⟨k, m, hk, rfl, rfl, hm, hmk, X, rfl⟩ := hrel
      by_cases hlt : k < N
      · have HKL := Lib.hid (show k + 1 ≤ N from hlt)
        have hki : (k : Int) < N := by omega
        have hkh : (k : Int) < 100 := by omega
        have hf := HF1.out k hlt
        have HL := fun w => HLit.out k (by omega) (by omega) w
        by_cases hp : litP p r c k
        · simp only [hp, decide_true] at HL
          rw [if_pos hp] at hf
          have HQ := Lib.hid HL
          have nxt := Lib.hid (show m + 1 = F (k + 1) by rw [hf, hm.out])
          clear HL hf hp hm
          go_wp2_with (first | (go_at_call 25; (with_reducible refine (HQ.out _).mono ?_); rintro _ _ ⟨rfl, X_, rfl⟩))
          go_roundw
          case rel => exact ⟨k + 1, m + 1, HKL.out, by go_num, by go_num, nxt, by omega, by first | exact ⟨_, World.ext_ext⟩ | exact RowKit.Below.toExt (by (repeat (first | with_reducible assumption | with_reducible exact Below.refl _ _ | with_reducible refine Below.drew ?_ | with_reducible refine Below.ext ?_ (by first | exact Nat.le_refl _ | omega | (simp; done) | (simp; omega)) _ | with_reducible refine Below.alloc ?_ (by first | exact Nat.le_refl _ | omega | (simp; done) | (simp; omega)) _ | with_reducible refine Below.setCell ?_ (by first | exact Nat.le_refl _ | omega | (simp; done) | (simp; omega)) _)))⟩
          case measure => have := HKL.out; simp [intOf]; omega
        · simp only [hp, decide_false] at HL
          rw [if_neg hp] at hf
          have HQ := Lib.hid HL
          have nxt := Lib.hid (show m = F (k + 1) by rw [hf, hm.out]; rfl)
          clear HL hf hp hm
          go_wp2_with (first | (go_at_call 25; (with_reducible refine (HQ.out _).mono ?_); rintro _ _ ⟨rfl, X_, rfl⟩))
          go_roundw
          case rel => exact ⟨k + 1, m, HKL.out, by go_num, rfl, nxt, by omega, by first | exact ⟨_, World.ext_ext⟩ | exact RowKit.Below.toExt (by (repeat (first | with_reducible assumption | with_reducible exact Below.refl _ _ | with_reducible refine Below.drew ?_ | with_reducible refine Below.ext ?_ (by first | exact Nat.le_refl _ | omega | (simp; done) | (simp; omega)) _ | with_reducible refine Below.alloc ?_ (by first | exact Nat.le_refl _ | omega | (simp; done) | (simp; omega)) _ | with_reducible refine Below.setCell ?_ (by first | exact Nat.le_refl _ | omega | (simp; done) | (simp; omega)) _)))⟩
          case measure => have := HKL.out; simp [intOf]; omega
      · obtain rfl : k = N := by omega
        have e := hm.out
        subst e
        have hp1 := HMA.out
        have hp2 := HMB.out
        go_upto_region 18 with fail
        refine wp_abs (F := fun w7 => Row w7 w.heap.size #[.int .i64 a.x, .int .i64 a.y, .int .i64 a.z, .int .i64 a.c0, .int .i64 a.c1, .int .i64 a.c2, .int .i64 a.c3, .int .i64 b.x, .int .i64 b.y, .int .i64 b.z, .int .i64 b.c0, .int .i64 b.c1, .int .i64 b.c2, .int .i64 b.c3, .int .i64 n, .bool dd, .int .i64 p, .int .i64 r, .int .i64 c, .int .i64 x0, .int .i64 y0, .int .i64 x1, .int .i64 y1] 64 ∧ Row w7 Bb #[.int .i64 b2.x, .int .i64 b2.y, .int .i64 b2.z, .int .i64 b2.c0, .int .i64 b2.c1, .int .i64 b2.c2, .int .i64 b2.c3] 56 ∧ Row w7 Br #[.int .i64 (u - 150), .int .i64 (v - 150), .int .i64 (u + 150), .int .i64 (v + 150)] 26 ∧ ∃ X, w7 = w.ext X) ⟨by (repeat (first | with_reducible exact HRl.out | with_reducible refine Row.ext ?_ _ | with_reducible refine row_drew ?_ | with_reducible refine Row.alloc ?_ _)), by (repeat (first | with_reducible exact HRb.out | with_reducible refine Row.ext ?_ _ | with_reducible refine row_drew ?_ | with_reducible refine Row.alloc ?_ _)), by (repeat (first | with_reducible exact HRr.out | with_reducible refine Row.ext ?_ _ | with_reducible refine row_drew ?_ | with_reducible refine Row.alloc ?_ _)), by obtain ⟨X0, hX0⟩ := HX.out; subst hX0; exact RowKit.Below.toExt (by (repeat (first | with_reducible assumption | with_reducible exact Below.refl _ _ | with_reducible refine Below.drew ?_ | with_reducible refine Below.ext ?_ (by first | exact Nat.le_refl _ | omega | (simp; done) | (simp; omega)) _ | with_reducible refine Below.alloc ?_ (by first | exact Nat.le_refl _ | omega | (simp; done) | (simp; omega)) _ | with_reducible refine Below.setCell ?_ (by first | exact Nat.le_refl _ | omega | (simp; done) | (simp; omega)) _)))⟩ ?_
        clear HRl HRb HRr HX cl fl ll
        rintro w7 ⟨Rl, Rb, Rr, hX⟩
        have HX := Lib.hid hX
        have HRl := Lib.hid Rl
        have HRb := Lib.hid Rb
        have HRr := Lib.hid Rr
        have cl := Rl.cell
        have fl := Rl.frozen
        have ll := Rl.lt
        have cb := Rb.cell
        have fb := Rb.frozen
        have lb := Rb.lt
        have cr := Rr.cell
        have fr := Rr.frozen
        have lr := Rr.lt
        clear Rl Rb Rr hX
        go_upto_region 19 with (first
          | (go_at_call 21; (with_reducible refine (HW2.out _).mono ?_); rintro _ _ ⟨v2, rfl, hv2, ⟨XG, rfl⟩⟩; obtain ⟨-, ay, ky, rfl, -, -⟩ := hv2))
        refine wp_abs (F := fun w8 => Row w8 w.heap.size #[.int .i64 a.x, .int .i64 a.y, .int .i64 a.z, .int .i64 a.c0, .int .i64 a.c1, .int .i64 a.c2, .int .i64 a.c3, .int .i64 b.x, .int .i64 b.y, .int .i64 b.z, .int .i64 b.c0, .int .i64 b.c1, .int .i64 b.c2, .int .i64 b.c3, .int .i64 n, .bool dd, .int .i64 p, .int .i64 r, .int .i64 c, .int .i64 x0, .int .i64 y0, .int .i64 x1, .int .i64 y1] 64 ∧ Row w8 Br #[.int .i64 (u - 150), .int .i64 (v - 150), .int .i64 (u + 150), .int .i64 (v + 150)] 26 ∧ Row w8 (w7.heap.size + XG.sz) #[.int .i64 p, .int .i64 r, .int .i64 ((c + (k : Int)) % (r * 16))] 51 ∧ ∃ X, w8 = w.ext X) ⟨by (repeat (first | with_reducible exact HRl.out | with_reducible refine Row.ext ?_ _ | with_reducible refine row_drew ?_ | with_reducible refine Row.alloc ?_ _)), by (repeat (first | with_reducible exact HRr.out | with_reducible refine Row.ext ?_ _ | with_reducible refine row_drew ?_ | with_reducible refine Row.alloc ?_ _)), by (repeat (first | assumption | with_reducible refine Row.ext ?_ _ | with_reducible refine row_drew ?_ | (with_reducible refine row_last ?_; first | rfl | (simp; done)) | with_reducible refine Row.alloc ?_ _)), by obtain ⟨X0, hX0⟩ := HX.out; subst hX0; exact RowKit.Below.toExt (by (repeat (first | with_reducible assumption | with_reducible exact Below.refl _ _ | with_reducible refine Below.drew ?_ | with_reducible refine Below.ext ?_ (by first | exact Nat.le_refl _ | omega | (simp; done) | (simp; omega)) _ | with_reducible refine Below.alloc ?_ (by first | exact Nat.le_refl _ | omega | (simp; done) | (simp; omega)) _ | with_reducible refine Below.setCell ?_ (by first | exact Nat.le_refl _ | omega | (simp; done) | (simp; omega)) _)))⟩ ?_
        obtain ⟨B2, hB2⟩ : ∃ B, w7.heap.size + XG.sz = B := ⟨_, rfl⟩
        rw [hB2]
        clear hB2 cl fl ll cb fb lb cr fr lr HRl HRb HRr HX HW2
        rintro w8 ⟨Rl, Rr, Rd, hX⟩
        have HX := Lib.hid hX
        have HRl := Lib.hid Rl
        have HRd := Lib.hid Rd
        have cl := Rl.cell
        have fl := Rl.frozen
        have ll := Rl.lt
        have cr := Rr.cell
        have fr := Rr.frozen
        have lr := Rr.lt
        clear Rl Rr hX Rd
        go_upto_region 20 with (first
          | (go_at_call 21; (with_reducible refine (HW3.out _).mono ?_); rintro _ _ ⟨v3, rfl, hv3, ⟨XH, rfl⟩⟩; obtain ⟨-, az, kz, rfl, -, -⟩ := hv3))
        refine wp_abs (F := fun w9 => Row w9 w.heap.size #[.int .i64 a.x, .int .i64 a.y, .int .i64 a.z, .int .i64 a.c0, .int .i64 a.c1, .int .i64 a.c2, .int .i64 a.c3, .int .i64 b.x, .int .i64 b.y, .int .i64 b.z, .int .i64 b.c0, .int .i64 b.c1, .int .i64 b.c2, .int .i64 b.c3, .int .i64 n, .bool dd, .int .i64 p, .int .i64 r, .int .i64 c, .int .i64 x0, .int .i64 y0, .int .i64 x1, .int .i64 y1] 64 ∧ Row w9 B2 #[.int .i64 p, .int .i64 r, .int .i64 ((c + (k : Int)) % (r * 16))] 51 ∧ ∃ X, w9 = w.ext X) ⟨by (repeat (first | with_reducible exact HRl.out | with_reducible refine Row.ext ?_ _ | with_reducible refine row_drew ?_ | with_reducible refine Row.alloc ?_ _)), by (repeat (first | with_reducible exact HRd.out | with_reducible refine Row.ext ?_ _ | with_reducible refine row_drew ?_ | with_reducible refine Row.alloc ?_ _)), by obtain ⟨X0, hX0⟩ := HX.out; subst hX0; exact RowKit.Below.toExt (by (repeat (first | with_reducible assumption | with_reducible exact Below.refl _ _ | with_reducible refine Below.drew ?_ | with_reducible refine Below.ext ?_ (by first | exact Nat.le_refl _ | omega | (simp; done) | (simp; omega)) _ | with_reducible refine Below.alloc ?_ (by first | exact Nat.le_refl _ | omega | (simp; done) | (simp; omega)) _ | with_reducible refine Below.setCell ?_ (by first | exact Nat.le_refl _ | omega | (simp; done) | (simp; omega)) _)))⟩ ?_
        generalize w8.heap.size + XH.sz = B3
        clear cl fl ll cr fr lr HRl HRd HX HW3
        rintro w9 ⟨Rl, Rd, hX⟩
        have HX := Lib.hid hX
        have cl := Rl.cell
        have fl := Rl.frozen
        have ll := Rl.lt
        have cd := Rd.cell
        have fd := Rd.frozen
        have ld := Rd.lt
        clear Rl Rd hX
        refine wp_region_ext (by kernel_rfl) (by kernel_rfl) ?_
        repeat (go_big_quiet_step ((first | (go_at_call 20; with_reducible exact Calls.quiet_ret (awake17 _)) | (go_at_call 26; with_reducible exact Calls.quiet_ret (HNx.out _)))))
        refine wpQuiet_nil ?_
        intro _ hw_ext
        obtain ⟨X20, hw_ext⟩ := hw_ext
        subst hw_ext
        go_wp2
        go_ret
        obtain ⟨X0, hX0⟩ := HX.out
        subst hX0
        exact Ret.of' (by simp) (by (repeat (first | with_reducible assumption | with_reducible exact Below.refl _ _ | with_reducible refine Below.drew ?_ | with_reducible refine Below.ext ?_ (by first | exact Nat.le_refl _ | omega | (simp; done) | (simp; omega)) _ | with_reducible refine Below.alloc ?_ (by first | exact Nat.le_refl _ | omega | (simp; done) | (simp; omega)) _ | with_reducible refine Below.setCell ?_ (by first | exact Nat.le_refl _ | omega | (simp; done) | (simp; omega)) _)))
theorem WideCounts_all : WideCounts_stmt := by
  rintro aX aY aZ aC0 aC1 aC2 aC3 bX bY bZ bC0 bC1 bC2 bC3 n dd p r c x0 y0 x1 y1 w ⟨h1, h2, h3, h4, h5, h6, h7, g1, g2, g3, g4, g5, g6, g7, -, e1, e2, e3, -⟩
  by_cases h : lineP ⟨aX, aY, aZ, aC0, aC1, aC2, aC3⟩ ⟨bX, bY, bZ, bC0, bC1, bC2, bC3⟩ n p r c
  · exact counts17_in ⟨aX, aY, aZ, aC0, aC1, aC2, aC3⟩ ⟨bX, bY, bZ, bC0, bC1, bC2, bC3⟩ n dd p r c x0 y0 x1 y1 ⟨h1, h2, h3, h4, h5, h6, h7⟩ ⟨g1, g2, g3, g4, g5, g6, g7⟩ e1 e3 h w
  · exact counts17_no ⟨aX, aY, aZ, aC0, aC1, aC2, aC3⟩ ⟨bX, bY, bZ, bC0, bC1, bC2, bC3⟩ n dd p r c x0 y0 x1 y1 h w
theorem WideCounts_holds : Rows.WideCountsSaid := WideCounts_end WideCounts_all
end Go.Proofs.Ytciooaihobnifaa
