/- The walks of layer 14 (walk): At, where there is such a pixel. Conditions: the points' bounds. -/
import Derived.Test.YtmlhbbkgfffmcaaWalkG
namespace Go.Proofs.Ytmlhbbkgfffmcaa
set_option linter.unusedVariables false
set_option linter.unusedSimpArgs false
open Go.RowKit
theorem body_abs {P : Program} {f : Func} {R : Ending → World → Prop} {e : Exit} {a : Act} {w : World} (F : World → Prop) (h : F w) (k : ∀ w1, F w1 → bodyPost P f R e a w1) : bodyPost P f R e a w := k w h
theorem way_du {ax ay bx y2 : Int} (c : ¬ (ax = bx ∧ ay = y2)) : 0 < (mkWay ax ay bx y2).du := by
  unfold mkWay; rw [ended_eq _ rfl rfl]
  have h : ∀ z, 0 < (wayZ (decide (turnP ax ay bx y2)) (backOf ax ay bx y2) ax ay bx y2 z).du := fun z => Slope.pos (wayZ_good ax ay bx y2 z c)
  exact h 0

/-- Where the middles of a way lie. -/
theorem mid_in (W : Way) (ok : W.Ok) (n : Int) (n0 : 0 ≤ n) (n1 : n ≤ W.size) : -2097153 ≤ W.first + n * W.step ∧ W.first + n * W.step ≤ 2097153 ∧ (-4194306 ≤ n * W.step ∧ n * W.step ≤ 4194306) := by
  obtain ⟨_, _, _, _, _, _, _, _, _, _, f0, f1, l0, l1⟩ := ok
  unfold Way.size at n1
  unfold Way.step
  split
  · rw [show n * (-1 : Int) = -n from by omega]; omega
  · rw [Int.mul_one]; omega
theorem atL_some {ax ay bx y2 k : Int} (c : ¬ (ax = bx ∧ ay = y2)) (k0 : 0 ≤ k) (k1 : k < ((lineL ax ay bx y2).length : Nat)) : atL ax ay bx y2 k = some ((mkWay ax ay bx y2).nth k) := by
  unfold atL
  rw [if_neg (by omega), ← mkWay_line ax ay bx y2 c]
  exact line_get _ (mkWay_len _ _ _ _) k k0 (by rw [mkWay_count ax ay bx y2 c]; exact k1)
set_option maxHeartbeats 4000000 in
theorem walk_at_in (ax ay bx y2 k : Int) (ha : MayP ax ay) (hb : MayP bx y2) (c : ¬ (ax = bx ∧ ay = y2)) (k0 : 0 ≤ k) (k1 : k < ((lineL ax ay bx y2).length : Nat)) (w : World) : Calls Try.prog 52 #[P2 ax ay, P2 bx y2, .int .i64 k] w (Ret (atV (atL ax ay bx y2 k)) w) := by
  rw [atL_some c k0 k1]
  have hn := mkWay_count ax ay bx y2 c
  have hle := mkWay_len ax ay bx y2
  have hdu := way_du c
  obtain ⟨W, hW⟩ : ∃ W, W = mkWay ax ay bx y2 := ⟨_, rfl⟩
  have ok : W.Ok := hW ▸ mkWay_ok ax ay bx y2 ha hb
  rw [← hW] at hn hle hdu ⊢
  have hkn : k < W.count := by omega
  obtain ⟨n, hcn⟩ : ∃ n, W.count = n := ⟨_, rfl⟩
  have OK := Lib.hid ok
  have HN := Lib.hid (fun w => show Calls Try.prog 91 #[P2 ax ay, P2 bx y2] w (Comes w W) from hW ▸ way_new ax ay bx y2 ha hb c w)
  have HC := Lib.hid (fun w p (h : WayAt w p W) => hcn ▸ way_count ok h)
  have HP := Lib.hid (fun w p u v (h : WayAt w p W) => way_pixel h u v)
  have HS := Lib.hid (fun w p (h : WayAt w p W) => way_step h ok)
  have HA := Lib.hid (fun w p u u0 u1 (h : WayAt w p W) => way_across ok h u u0 u1 hdu)
  have hcount : n = W.len + (if W.extra = true then 1 else 0) := by rw [← hcn]; rfl
  have hsz : W.len ≤ W.size := by unfold Way.len; split <;> omega
  have hsb : W.size ≤ 4194306 := by have := ok.f0; have := ok.f1; have := ok.l0; have := ok.l1; unfold Way.size; omega
  have hk9 : k ≤ 8388608 := by rw [hcn] at hkn; split at hcount <;> omega
  obtain ⟨s, hs⟩ : ∃ s, W.step = s := ⟨_, rfl⟩
  have s01 := step_is W
  have mI := mid_in W ok
  rw [hs] at s01 mI
  have HSS := Lib.hid hs
  rw [hs] at HS
  have hz := ne_bools c
  have f0 := ok.f0; have f1 := ok.f1
  rw [hcn] at hkn
  clear hn hW ok ha hb hcn c k1 hs
  simp only [ptr] at HC HP HS HA
  cases he : W.extra
  · rw [he] at hcount
    simp only [Bool.false_eq_true, if_false, Int.add_zero] at hcount
    obtain ⟨U0, hU⟩ : ∃ U, W.first + k * s = U := ⟨_, rfl⟩
    have hV : W.nth k = ⟨k, W.px U0 (W.across U0), W.py U0 (W.across U0)⟩ := by
      unfold Way.nth; rw [if_neg (fun q => by rw [he] at q; cases q.1), he, HSS.out]; unfold Way.cell; simp [hU]
    rw [hV]
    obtain ⟨m0, m1, m2, m3⟩ := mI k k0 (by omega)
    rw [hU] at m0 m1
    obtain ⟨A, hA⟩ : ∃ A, W.across U0 = A := ⟨_, rfl⟩
    have HA1 := Lib.hid (fun w p h => hA ▸ HA.out w p U0 (by omega) (by omega) h)
    have HP1 := Lib.hid (fun w p h => HP.out w p U0 A h)
    rw [hA] at hV ⊢
    obtain ⟨x, hx⟩ : ∃ x, W.px U0 A = x := ⟨_, rfl⟩
    obtain ⟨y, hy⟩ : ∃ y, W.py U0 A = y := ⟨_, rfl⟩
    rw [hx, hy] at HP1 ⊢
    clear hV hA hx hy HA HP mI hle hcount hsz
    rcases hz with hz1 | ⟨hz1, hz2⟩
    all_goals
      go_enter Try.func52, Try.ntmps52
      go_upto_region 4 with (first | (go_at_call 91; (with_reducible refine (HN.out _).mono ?_); rintro _ w3 ⟨p, rfl, h3, hp, X3, rfl⟩; have H3 := Lib.hid h3; clear h3; have HPP := Lib.hid hp; clear hp))
      refine wp_abs (F := fun w1 => WayAt w1 p W ∧ w.heap.size + 3 ≤ p ∧ Row w1 (w.heap.size + 1 + 1) #[.int .i64 0, .int .i64 0, .int .i64 0] 62 ∧ ∃ X, w1 = w.ext X) ⟨H3.out, by have := HPP.out; simp at this; omega, by (repeat (first | assumption | with_reducible refine Row.ext ?_ _ | with_reducible refine row_drew ?_ | (with_reducible refine row_last ?_; first | rfl | (simp; done)) | with_reducible refine Row.alloc ?_ _)), RowKit.Below.toExt (by (repeat (first | exact Below.refl _ _ | with_reducible refine Below.drew ?_ | with_reducible refine Below.ext ?_ (by first | exact Nat.le_refl _ | (simp; done) | (simp; omega)) _ | with_reducible refine Below.alloc ?_ (by first | exact Nat.le_refl _ | (simp; done) | (simp; omega)) _ | with_reducible refine Below.setCell ?_ (by first | exact Nat.le_refl _ | (simp; done) | (simp; omega)) _)))⟩ ?_
      rintro w1 ⟨h1, hp, rs, hX⟩
      have H1 := Lib.hid h1
      have RS := Lib.hid rs
      have HX := Lib.hid hX
      clear H3 HPP
      have hc := h1.cell
      simp only [Way.cells, he] at hc
      have hf := h1.frozen
      have hl := h1.lt
      have hcs := rs.cell
      have hfs := rs.frozen
      have hls := rs.lt
      clear hX rs
      go_upto_region 12 with (first | (go_at_call 100; (with_reducible refine (HC.out _ _ H1.out).mono ?_); rintro _ _ ⟨rfl, X_, rfl⟩))
      refine wp_region_ext (by kernel_rfl) (by kernel_rfl) ?_
      repeat (go_big_quiet_step ((first | (go_at_call 95; with_reducible refine Calls.quiet_ret (HS.out _ _ ?_); (repeat (first | assumption | with_reducible refine Row.ext ?_ _ | with_reducible refine row_drew ?_ | (with_reducible refine row_last ?_; first | rfl | (simp; done)) | with_reducible refine Row.alloc ?_ _))))))
      refine wpQuiet_nil ?_
      intro _ hw_ext
      obtain ⟨X4, hw_ext⟩ := hw_ext
      subst hw_ext
      go_wp2_with (first | (go_at_call 112; (with_reducible refine (HA1.out _ _ ?_).mono ?_); (repeat (first | assumption | with_reducible refine Row.ext ?_ _ | with_reducible refine row_drew ?_ | (with_reducible refine row_last ?_; first | rfl | (simp; done)) | with_reducible refine Row.alloc ?_ _)); rintro _ _ ⟨rfl, X_, rfl⟩) | (go_at_call 92; (with_reducible refine (HP1.out _ _ ?_).mono ?_); (repeat (first | assumption | with_reducible refine Row.ext ?_ _ | with_reducible refine row_drew ?_ | (with_reducible refine row_last ?_; first | rfl | (simp; done)) | with_reducible refine Row.alloc ?_ _)); rintro _ _ ⟨rfl, X_, rfl⟩))
      obtain ⟨X9, hX9⟩ := HX.out
      have R3 := ((RS.out.set 0 (.int .i64 k)).set 1 (.int .i64 x)).set 2 (.int .i64 y)
      simp only [List.setIfInBounds_toArray, List.set_cons_zero, List.set_cons_succ] at R3
      refine body_abs (F := fun w9 => Row w9 (w.heap.size + 1 + 1) #[.int .i64 k, .int .i64 x, .int .i64 y] 62 ∧ ∃ X, w9 = w.ext X) ⟨by (repeat (first | assumption | with_reducible refine Row.ext ?_ _ | with_reducible refine row_drew ?_ | (with_reducible refine row_last ?_; first | rfl | (simp; done)) | with_reducible refine Row.alloc ?_ _)), by subst hX9; exact RowKit.Below.toExt (by (repeat (first | exact Below.refl _ _ | with_reducible refine Below.drew ?_ | with_reducible refine Below.ext ?_ (by first | exact Nat.le_refl _ | (simp; done) | (simp; omega)) _ | with_reducible refine Below.alloc ?_ (by first | exact Nat.le_refl _ | (simp; done) | (simp; omega)) _ | with_reducible refine Below.setCell ?_ (by first | exact Nat.le_refl _ | (simp; done) | (simp; omega)) _)))⟩ ?_
      rintro w9 ⟨r9, X8, rfl⟩
      have c9 := r9.cell
      refine bodyPost_ret (v := atV (some ⟨_, _, _⟩)) (by simp [results, Try.results52, go_sem, c9]; rfl) rfl ?_
      exact Ret.of (by (repeat (first | exact Below.refl _ _ | with_reducible refine Below.drew ?_ | with_reducible refine Below.ext ?_ (by first | exact Nat.le_refl _ | (simp; done) | (simp; omega)) _ | with_reducible refine Below.alloc ?_ (by first | exact Nat.le_refl _ | (simp; done) | (simp; omega)) _ | with_reducible refine Below.setCell ?_ (by first | exact Nat.le_refl _ | (simp; done) | (simp; omega)) _)))
  · rw [he] at hcount
    simp only [if_true] at hcount
    by_cases hk0 : k = 0
    · subst hk0
      have hV : W.nth 0 = ⟨0, W.px W.u W.v, W.py W.u W.v⟩ := by
        unfold Way.nth; rw [if_pos ⟨he, rfl⟩]
      rw [hV]
      obtain ⟨x, hx⟩ : ∃ x, W.px W.u W.v = x := ⟨_, rfl⟩
      obtain ⟨y, hy⟩ : ∃ y, W.py W.u W.v = y := ⟨_, rfl⟩
      have HP1 := Lib.hid (fun w p h => HP.out w p W.u W.v h)
      rw [hx, hy] at HP1 ⊢
      clear hV hx hy HA HP mI hle hcount hsz
      rcases hz with hz1 | ⟨hz1, hz2⟩
      all_goals
        go_enter Try.func52, Try.ntmps52
        go_upto_region 4 with (first | (go_at_call 91; (with_reducible refine (HN.out _).mono ?_); rintro _ w3 ⟨p, rfl, h3, hp, X3, rfl⟩; have H3 := Lib.hid h3; clear h3; have HPP := Lib.hid hp; clear hp))
        refine wp_abs (F := fun w1 => WayAt w1 p W ∧ w.heap.size + 3 ≤ p ∧ Row w1 (w.heap.size + 1 + 1) #[.int .i64 0, .int .i64 0, .int .i64 0] 62 ∧ ∃ X, w1 = w.ext X) ⟨H3.out, by have := HPP.out; simp at this; omega, by (repeat (first | assumption | with_reducible refine Row.ext ?_ _ | with_reducible refine row_drew ?_ | (with_reducible refine row_last ?_; first | rfl | (simp; done)) | with_reducible refine Row.alloc ?_ _)), RowKit.Below.toExt (by (repeat (first | exact Below.refl _ _ | with_reducible refine Below.drew ?_ | with_reducible refine Below.ext ?_ (by first | exact Nat.le_refl _ | (simp; done) | (simp; omega)) _ | with_reducible refine Below.alloc ?_ (by first | exact Nat.le_refl _ | (simp; done) | (simp; omega)) _ | with_reducible refine Below.setCell ?_ (by first | exact Nat.le_refl _ | (simp; done) | (simp; omega)) _)))⟩ ?_
        rintro w1 ⟨h1, hp, rs, hX⟩
        have H1 := Lib.hid h1
        have RS := Lib.hid rs
        have HX := Lib.hid hX
        clear H3 HPP
        have hc := h1.cell
        simp only [Way.cells, he] at hc
        have hf := h1.frozen
        have hl := h1.lt
        have hcs := rs.cell
        have hfs := rs.frozen
        have hls := rs.lt
        clear hX rs
        go_upto_region 9 with (first | (go_at_call 100; (with_reducible refine (HC.out _ _ H1.out).mono ?_); rintro _ _ ⟨rfl, X_, rfl⟩))
        refine wp_region_ext (by kernel_rfl) (by kernel_rfl) ?_
        repeat (go_big_quiet_step ((first | (go_at_call 92; with_reducible refine Calls.quiet_ret (HP1.out _ _ ?_); (repeat (first | assumption | with_reducible refine Row.ext ?_ _ | with_reducible refine row_drew ?_ | (with_reducible refine row_last ?_; first | rfl | (simp; done)) | with_reducible refine Row.alloc ?_ _))))))
        refine wpQuiet_nil ?_
        intro _ hw_ext
        obtain ⟨X4, hw_ext⟩ := hw_ext
        subst hw_ext
        go_wp2
        obtain ⟨X9, hX9⟩ := HX.out
        have R3 := ((RS.out.set 0 (.int .i64 0)).set 1 (.int .i64 x)).set 2 (.int .i64 y)
        simp only [List.setIfInBounds_toArray, List.set_cons_zero, List.set_cons_succ] at R3
        refine body_abs (F := fun w9 => Row w9 (w.heap.size + 1 + 1) #[.int .i64 0, .int .i64 x, .int .i64 y] 62 ∧ ∃ X, w9 = w.ext X) ⟨by (repeat (first | assumption | with_reducible refine Row.ext ?_ _ | with_reducible refine row_drew ?_ | (with_reducible refine row_last ?_; first | rfl | (simp; done)) | with_reducible refine Row.alloc ?_ _)), by subst hX9; exact RowKit.Below.toExt (by (repeat (first | exact Below.refl _ _ | with_reducible refine Below.drew ?_ | with_reducible refine Below.ext ?_ (by first | exact Nat.le_refl _ | (simp; done) | (simp; omega)) _ | with_reducible refine Below.alloc ?_ (by first | exact Nat.le_refl _ | (simp; done) | (simp; omega)) _ | with_reducible refine Below.setCell ?_ (by first | exact Nat.le_refl _ | (simp; done) | (simp; omega)) _)))⟩ ?_
        rintro w9 ⟨r9, X8, rfl⟩
        have c9 := r9.cell
        refine bodyPost_ret (v := atV (some ⟨_, _, _⟩)) (by simp [results, Try.results52, go_sem, c9]; rfl) rfl ?_
        exact Ret.of (by (repeat (first | exact Below.refl _ _ | with_reducible refine Below.drew ?_ | with_reducible refine Below.ext ?_ (by first | exact Nat.le_refl _ | (simp; done) | (simp; omega)) _ | with_reducible refine Below.alloc ?_ (by first | exact Nat.le_refl _ | (simp; done) | (simp; omega)) _ | with_reducible refine Below.setCell ?_ (by first | exact Nat.le_refl _ | (simp; done) | (simp; omega)) _)))
    · obtain ⟨U0, hU⟩ : ∃ U, W.first + (k - 1) * s = U := ⟨_, rfl⟩
      have hV : W.nth k = ⟨k, W.px U0 (W.across U0), W.py U0 (W.across U0)⟩ := by
        unfold Way.nth; rw [if_neg (fun q => hk0 q.2), he, HSS.out]; unfold Way.cell; simp [hU]
      rw [hV]
      obtain ⟨m0, m1, m2, m3⟩ := mI (k - 1) (by omega) (by omega)
      rw [hU] at m0 m1
      have hk1 : (k == 0) = false := by simp [hk0]
      obtain ⟨A, hA⟩ : ∃ A, W.across U0 = A := ⟨_, rfl⟩
      have HA1 := Lib.hid (fun w p h => hA ▸ HA.out w p U0 (by omega) (by omega) h)
      have HP1 := Lib.hid (fun w p h => HP.out w p U0 A h)
      rw [hA] at hV ⊢
      obtain ⟨x, hx⟩ : ∃ x, W.px U0 A = x := ⟨_, rfl⟩
      obtain ⟨y, hy⟩ : ∃ y, W.py U0 A = y := ⟨_, rfl⟩
      rw [hx, hy] at HP1 ⊢
      clear hV hA hx hy HA HP mI hle hcount hsz
      rcases hz with hz1 | ⟨hz1, hz2⟩
      all_goals
        go_enter Try.func52, Try.ntmps52
        go_upto_region 4 with (first | (go_at_call 91; (with_reducible refine (HN.out _).mono ?_); rintro _ w3 ⟨p, rfl, h3, hp, X3, rfl⟩; have H3 := Lib.hid h3; clear h3; have HPP := Lib.hid hp; clear hp))
        refine wp_abs (F := fun w1 => WayAt w1 p W ∧ w.heap.size + 3 ≤ p ∧ Row w1 (w.heap.size + 1 + 1) #[.int .i64 0, .int .i64 0, .int .i64 0] 62 ∧ ∃ X, w1 = w.ext X) ⟨H3.out, by have := HPP.out; simp at this; omega, by (repeat (first | assumption | with_reducible refine Row.ext ?_ _ | with_reducible refine row_drew ?_ | (with_reducible refine row_last ?_; first | rfl | (simp; done)) | with_reducible refine Row.alloc ?_ _)), RowKit.Below.toExt (by (repeat (first | exact Below.refl _ _ | with_reducible refine Below.drew ?_ | with_reducible refine Below.ext ?_ (by first | exact Nat.le_refl _ | (simp; done) | (simp; omega)) _ | with_reducible refine Below.alloc ?_ (by first | exact Nat.le_refl _ | (simp; done) | (simp; omega)) _ | with_reducible refine Below.setCell ?_ (by first | exact Nat.le_refl _ | (simp; done) | (simp; omega)) _)))⟩ ?_
        rintro w1 ⟨h1, hp, rs, hX⟩
        have H1 := Lib.hid h1
        have RS := Lib.hid rs
        have HX := Lib.hid hX
        clear H3 HPP
        have hc := h1.cell
        simp only [Way.cells, he] at hc
        have hf := h1.frozen
        have hl := h1.lt
        have hcs := rs.cell
        have hfs := rs.frozen
        have hls := rs.lt
        clear hX rs
        go_upto_region 12 with (first | (go_at_call 100; (with_reducible refine (HC.out _ _ H1.out).mono ?_); rintro _ _ ⟨rfl, X_, rfl⟩))
        refine wp_region_ext (by kernel_rfl) (by kernel_rfl) ?_
        repeat (go_big_quiet_step ((first | (go_at_call 95; with_reducible refine Calls.quiet_ret (HS.out _ _ ?_); (repeat (first | assumption | with_reducible refine Row.ext ?_ _ | with_reducible refine row_drew ?_ | (with_reducible refine row_last ?_; first | rfl | (simp; done)) | with_reducible refine Row.alloc ?_ _))))))
        refine wpQuiet_nil ?_
        intro _ hw_ext
        obtain ⟨X4, hw_ext⟩ := hw_ext
        subst hw_ext
        go_wp2_with (first | (go_at_call 112; (with_reducible refine (HA1.out _ _ ?_).mono ?_); (repeat (first | assumption | with_reducible refine Row.ext ?_ _ | with_reducible refine row_drew ?_ | (with_reducible refine row_last ?_; first | rfl | (simp; done)) | with_reducible refine Row.alloc ?_ _)); rintro _ _ ⟨rfl, X_, rfl⟩) | (go_at_call 92; (with_reducible refine (HP1.out _ _ ?_).mono ?_); (repeat (first | assumption | with_reducible refine Row.ext ?_ _ | with_reducible refine row_drew ?_ | (with_reducible refine row_last ?_; first | rfl | (simp; done)) | with_reducible refine Row.alloc ?_ _)); rintro _ _ ⟨rfl, X_, rfl⟩))
        obtain ⟨X9, hX9⟩ := HX.out
        have R3 := ((RS.out.set 0 (.int .i64 k)).set 1 (.int .i64 x)).set 2 (.int .i64 y)
        simp only [List.setIfInBounds_toArray, List.set_cons_zero, List.set_cons_succ] at R3
        refine body_abs (F := fun w9 => Row w9 (w.heap.size + 1 + 1) #[.int .i64 k, .int .i64 x, .int .i64 y] 62 ∧ ∃ X, w9 = w.ext X) ⟨by (repeat (first | assumption | with_reducible refine Row.ext ?_ _ | with_reducible refine row_drew ?_ | (with_reducible refine row_last ?_; first | rfl | (simp; done)) | with_reducible refine Row.alloc ?_ _)), by subst hX9; exact RowKit.Below.toExt (by (repeat (first | exact Below.refl _ _ | with_reducible refine Below.drew ?_ | with_reducible refine Below.ext ?_ (by first | exact Nat.le_refl _ | (simp; done) | (simp; omega)) _ | with_reducible refine Below.alloc ?_ (by first | exact Nat.le_refl _ | (simp; done) | (simp; omega)) _ | with_reducible refine Below.setCell ?_ (by first | exact Nat.le_refl _ | (simp; done) | (simp; omega)) _)))⟩ ?_
        rintro w9 ⟨r9, X8, rfl⟩
        have c9 := r9.cell
        refine bodyPost_ret (v := atV (some ⟨_, _, _⟩)) (by simp [results, Try.results52, go_sem, c9]; rfl) rfl ?_
        exact Ret.of (by (repeat (first | exact Below.refl _ _ | with_reducible refine Below.drew ?_ | with_reducible refine Below.ext ?_ (by first | exact Nat.le_refl _ | (simp; done) | (simp; omega)) _ | with_reducible refine Below.alloc ?_ (by first | exact Nat.le_refl _ | (simp; done) | (simp; omega)) _ | with_reducible refine Below.setCell ?_ (by first | exact Nat.le_refl _ | (simp; done) | (simp; omega)) _)))
theorem walk_at (ax ay bx y2 k : Int) (ha : MayP ax ay) (hb : MayP bx y2) (w : World) : Calls Try.prog 52 #[P2 ax ay, P2 bx y2, .int .i64 k] w (Ret (atV (atL ax ay bx y2 k)) w) := by
  by_cases c : ax = bx ∧ ay = y2
  · obtain ⟨rfl, rfl⟩ := c; exact walk_at_same ax ay k w
  · by_cases k0 : k < 0
    · exact walk_at_below ax ay bx y2 k c k0 w
    · by_cases k1 : k < ((lineL ax ay bx y2).length : Nat)
      · exact walk_at_in ax ay bx y2 k ha hb c (by omega) k1 w
      · exact walk_at_over ax ay bx y2 k ha hb c (by omega) w
end Go.Proofs.Ytmlhbbkgfffmcaa
