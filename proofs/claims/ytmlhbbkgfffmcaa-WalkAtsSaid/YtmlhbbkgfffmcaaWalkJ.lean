/- The walk of layer 14's iterator (walk.way.from's function), for every loop body that keeps its word. Conditions: the way's bounds. -/
import Derived.Test.YtmlhbbkgfffmcaaWalkI
namespace Go.Proofs.Ytmlhbbkgfffmcaa
set_option linter.unusedVariables false
set_option linter.unusedSimpArgs false
open Go.RowKit
/-- What the iterator asks of its caller's invariant. -/
structure Bears (W : Way) (p B1 B2 B3 : Nat) (m : Int) (J : Nat → World → Prop) : Prop where
  put : ∀ k w v, J k w → J k (w.setCell ⟨B2, 0, none⟩ (.int .i64 v))
  ext : ∀ k w X, J k w → J k (w.ext X)
  way : ∀ k w, J k w → WayAt w p W
  box1 : ∀ k w, J k w → Row w B1 #[.pointer (some ⟨p, 0, none⟩)] 118
  box2 : ∀ k w, J k w → ∃ u : Int, Row w B2 #[.int .i64 u] 3
  box3 : ∀ k w, J k w → Row w B3 #[.int .i64 m] 3
theorem row_cell0 {w : World} {b : Nat} {u v : Int} (h : Row w b #[.int .i64 u] 3) (hc : w.cell? ⟨b, 0, none⟩ = some (.int .i64 v)) : Row w b #[.int .i64 v] 3 := by
  have := h.cell 0
  rw [hc] at this
  simp at this
  rw [this]; exact h
set_option maxRecDepth 100000 in
set_option maxHeartbeats 8000000 in
theorem way_from1 {W : Way} (ok : W.Ok) (hdu : 0 < W.du) (hσ : W.dv * W.step = W.bv - W.av) {p B1 B2 B3 l N : Nat} (u0 m : Int) (m0 : 0 ≤ m) (m1 : m ≤ 8388608)
    (ub : ∀ k : Int, 0 ≤ k → k ≤ m → -8388600 ≤ u0 + k * W.step ∧ u0 + k * W.step ≤ 8388600)
    (J : Nat → World → Prop) (hJ : Bears W p B1 B2 B3 m J) (n1 : B2 ≠ p) (n2 : B2 ≠ B1) (n3 : B2 ≠ B3)
    (hY : ∀ (k : Nat) w, J k w → (k : Int) < m → w.cell? ⟨B2, 0, none⟩ = some (.int .i64 (u0 + (k : Int) * W.step)) →
      YieldAt Fence.wide N Try.prog l #[.int .i64 (u0 + (k : Int) * W.step), .int .i64 (W.across (u0 + (k : Int) * W.step))] w (fun e w' => e = .returned (.bool true) ∧ J (k + 1) w' ∧ w'.cell? ⟨B2, 0, none⟩ = w.cell? ⟨B2, 0, none⟩))
    (w : World) (h0 : J 0 w) (hu : w.cell? ⟨B2, 0, none⟩ = some (.int .i64 u0)) :
    Calls Try.prog 130 #[.func (.yield l) #[] #[], .pointer (some ⟨B1, 0, none⟩), .pointer (some ⟨B2, 0, none⟩), .pointer (some ⟨B3, 0, none⟩)] w (fun e w' => (∃ v, e = .returned v) ∧ J m.toNat w') := by
  have hden : 0 < W.den := by unfold Way.den; omega
  have HY := Lib.hid hY
  have HJ := Lib.hid hJ
  have H0 := Lib.hid h0
  have UB := Lib.hid ub
  have OK := Lib.hid ok
  have NX := Lib.hid (across_next W hden hσ)
  have NS := Lib.hid (num_step W hσ)
  have RS := Lib.hid (fun u => across_rest W u hden)
  obtain ⟨s, hs⟩ : ∃ s, W.step = s := ⟨_, rfl⟩
  have s01 := step_is W
  have HS := Lib.hid (fun w (h : WayAt w p W) => way_step h ok)
  have HU := Lib.hid (fun w u u0 u1 (h : WayAt w p W) => way_under ok h u u0 u1)
  have HA := Lib.hid (fun w u u0 u1 (h : WayAt w p W) => way_across ok h u u0 u1 hdu)
  simp only [hs] at HY UB NX NS s01 HS
  -- bounds
  have db : W.den ≤ 274877906944 := by
    have := ok.au0; have := ok.au1; have := ok.bu0; have := ok.bu1
    unfold Way.den Way.du; split <;> omega
  have w1 := hJ.way 0 w h0
  have b1 := hJ.box1 0 w h0
  have b2 := row_cell0 (hJ.box2 0 w h0).choose_spec hu
  have b3 := hJ.box3 0 w h0
  have ha0 := ok.av0; have ha1 := ok.av1; have hb0 := ok.bv0; have hb1 := ok.bv1
  have nb : ∀ u, -8388608 ≤ u → u ≤ 8388608 → -5188146770730811392 ≤ W.num u ∧ W.num u ≤ 5188146770730811392 := by
    intro u u0 u1
    obtain ⟨a0, a1, a2, a3, b0, b1, b2, b3, k0, k1, f0, f1, l0, l1⟩ := ok
    have d0 : -1073741824 ≤ W.du ∧ W.du ≤ 1073741824 := by unfold Way.du; split <;> omega
    have d1 : -1073741824 ≤ W.dv ∧ W.dv ≤ 1073741824 := by unfold Way.dv; split <;> omega
    have m1 := mul_bd2 (u := W.av) (v := W.du) (U := 536870912) (V := 1073741824) (by omega) (by omega) (by omega) (by omega) (by omega) (by omega)
    have m2 := mul_bd2 (u := W.dv) (v := 256 * u + 128 - W.au) (U := 1073741824) (V := 2684354688) (by omega) (by omega) (by omega) (by omega) (by omega) (by omega)
    unfold Way.num; omega
  have vb : ∀ u, -8388608 ≤ u → u ≤ 8388608 → -5188146770730811392 - 274877906944 ≤ W.across u * W.den ∧ W.across u * W.den ≤ 5188146770730811392 ∧ -5188146770730811392 - 274877906944 ≤ W.across u ∧ W.across u ≤ 5188146770730811392 := by
    intro u u0 u1
    have r := across_rest W u hden
    have n := nb u u0 u1
    have k : -5188146770730811392 - 274877906944 ≤ W.across u * W.den ∧ W.across u * W.den ≤ 5188146770730811392 := by omega
    refine ⟨k.1, k.2, ?_⟩
    by_cases c : 0 ≤ W.across u
    · have := Int.mul_le_mul_of_nonneg_left (show (1 : Int) ≤ W.den by omega) c
      omega
    · have := Int.mul_le_mul_of_nonpos_left (show W.across u ≤ 0 by omega) (show (1 : Int) ≤ W.den by omega)
      omega
  have NB := Lib.hid nb
  have VB := Lib.hid vb
  have ab : -274877906944 ≤ 256 * (W.bv - W.av) ∧ 256 * (W.bv - W.av) ≤ 274877906944 := by omega
  have qb : -274877906944 ≤ (256 * (W.bv - W.av)).tdiv W.den ∧ (256 * (W.bv - W.av)).tdiv W.den ≤ 274877906944 := by
    have := Int.natAbs_tdiv_le_natAbs (256 * (W.bv - W.av)) W.den
    omega
  have rb : -W.den < (256 * (W.bv - W.av)).tmod W.den ∧ (256 * (W.bv - W.av)).tmod W.den < W.den := by
    refine ⟨?_, Int.tmod_lt_of_pos _ hden⟩
    have := Int.tmod_lt_of_pos (-(256 * (W.bv - W.av))) hden
    rw [Int.neg_tmod] at this; omega
  obtain ⟨d, hd⟩ : ∃ d, W.den = d := ⟨_, rfl⟩
  obtain ⟨q, hq⟩ : ∃ q, (256 * (W.bv - W.av)).tdiv W.den = q := ⟨_, rfl⟩
  obtain ⟨r, hr⟩ : ∃ r, (256 * (W.bv - W.av)).tmod W.den = r := ⟨_, rfl⟩
  rw [hq] at qb NX
  rw [hr] at rb NX
  rw [hd] at rb db NX VB RS hden
  have AQ := Lib.hid (show q * d + r = 256 * (W.bv - W.av) by rw [← hq, ← hr, ← hd]; exact Int.tdiv_mul_add_tmod _ _)
  have hq2 : (256 * (W.bv - W.av)).tdiv d = q := by rw [← hd]; exact hq
  have hr2 : (256 * (W.bv - W.av)).tmod d = r := by rw [← hd]; exact hr
  simp only [hd] at HU
  obtain ⟨ab0, ab1⟩ := ab
  obtain ⟨qb0, qb1⟩ := qb
  obtain ⟨rb0, rb1⟩ := rb
  have dne : d ≠ 0 := by omega
  have ub0 := ub 0 (by omega) m0
  rw [Int.zero_mul, Int.add_zero] at ub0
  obtain ⟨ub00, ub01⟩ := ub0
  have nb0 := nb u0 (by omega) (by omega)
  have vb0 := VB.out u0 (by omega) (by omega)
  have HU0 := Lib.hid (fun w h => HU.out w u0 (by omega) (by omega) h)
  have HA0 := Lib.hid (fun w h => HA.out w u0 (by omega) (by omega) h)
  obtain ⟨nn, hnn⟩ : ∃ nn, W.num u0 = nn := ⟨_, rfl⟩
  obtain ⟨v, hv⟩ : ∃ v, W.across u0 = v := ⟨_, rfl⟩
  rw [hnn] at HU0 nb0
  rw [hv] at HA0 vb0
  obtain ⟨nb00, nb01⟩ := nb0
  obtain ⟨vb00, vb01, vb02, vb03⟩ := vb0
  have rs0 := RS.out u0
  rw [hnn, hv] at rs0
  have HV0 := Lib.hid hv
  have HN0 := Lib.hid hnn
  have HSs := Lib.hid hs
  have hc := w1.cell
  simp only [Way.cells] at hc
  have hf := w1.frozen
  have hl := w1.lt
  have c1 := b1.cell
  have f1 := b1.frozen
  have l1 := b1.lt
  have c2 := b2.cell
  have f2 := b2.frozen
  have l2 := b2.lt
  have c3 := b3.cell
  have f3 := b3.frozen
  have l3 := b3.lt
  have HW1 := Lib.hid w1
  clear hY hJ h0 ub ok hs hnn hv hq hr hd nb vb w1 b1 b2 b3 hu hσ hdu
  simp only [ptr] at HU0 HA0 HS HA
  go_enter Try.func130, Try.ntmps130
  have w1 := HW1.out
  go_upto_region 3 with (first | (go_at_call 131; (with_reducible refine (HU0.out _ ?_).mono ?_); (repeat (first | assumption | with_reducible refine Row.ext ?_ _ | with_reducible refine row_drew ?_ | (with_reducible refine row_last ?_; first | rfl | (simp; done)) | with_reducible refine Row.alloc ?_ _)); rintro _ _ ⟨rfl, X_, rfl⟩) | (go_at_call 112; (with_reducible refine (HA0.out _ ?_).mono ?_); (repeat (first | assumption | with_reducible refine Row.ext ?_ _ | with_reducible refine row_drew ?_ | (with_reducible refine row_last ?_; first | rfl | (simp; done)) | with_reducible refine Row.alloc ?_ _)); rintro _ _ ⟨rfl, X_, rfl⟩))
  refine wp_region_ext (by kernel_rfl) (by kernel_rfl) ?_
  repeat (go_big_quiet_step ((fail)))
  refine wpQuiet_nil ?_
  intro _ hw_ext
  obtain ⟨X1, hw_ext⟩ := hw_ext
  subst hw_ext
  go_upto_region 6 with fail
  go_wp2
  go_loopw [7, 8, 42] (fun a b c wr => ∃ k : Nat, (k : Int) ≤ m ∧ c = .int .i64 k ∧ a = .int .i64 (W.across (u0 + (k : Int) * s)) ∧ b = .int .i64 (W.num (u0 + (k : Int) * s) - W.across (u0 + (k : Int) * s) * d) ∧ J k wr ∧ wr.cell? ⟨B2, 0, none⟩ = some (.int .i64 (u0 + (k : Int) * s)))
    (fun _ _ c _ => (m - intOf c).toNat)
  case atStart =>
    refine ⟨0, m0, rfl, ?_, ?_, HJ.out.ext _ _ _ (HJ.out.ext _ _ _ (HJ.out.ext _ _ _ H0.out)), ?_⟩
    · rw [Int.ofNat_zero, Int.zero_mul, Int.add_zero, HV0.out]
    · rw [Int.ofNat_zero, Int.zero_mul, Int.add_zero, HV0.out, HN0.out]
    · rw [Int.ofNat_zero, Int.zero_mul, Int.add_zero]
      rw [World.cell?_ext' (by simp; omega), World.cell?_ext' (by simp; omega), World.cell?_ext' l2]
      exact c2 0
  case round =>
    obtain ⟨k, hk, rfl, rfl, rfl, hJk, hu⟩ := hrel
    clear hc hf hl c1 f1 l1 c2 f2 l2 c3 f3 l3 w1 HW1 X1 HU0 HA0
    by_cases hlt : (k : Int) < m
    · obtain ⟨fn, tmps, assign, body, hy, hR⟩ := HY.out k wr hJk hlt hu
      obtain ⟨U, hU⟩ : ∃ U, u0 + (k : Int) * s = U := ⟨_, rfl⟩
      rw [hU] at hy hu
      obtain ⟨V, hV⟩ : ∃ V, W.across U = V := ⟨_, rfl⟩
      obtain ⟨R, hRR⟩ : ∃ R, W.num U - V * d = R := ⟨_, rfl⟩
      rw [hV] at hy
      rw [hU, hV, hRR]
      have HU1 := Lib.hid hU
      have HV1 := Lib.hid hV
      have HR1 := Lib.hid hRR
      have HJk := Lib.hid hJk
      have HR := Lib.hid hR
      clear hU hV hRR hJk hR
      go_upto_region 8 with fail
      refine (wpIn_wide (n := N + 1)).1 ?_
      have c2 := (row_cell0 (HJ.out.box2 _ _ HJk.out).choose_spec hu).cell
      gi_wp2
      refine HR.out.mono ?_
      rintro e W3 ⟨rfl, hJ3, hk3⟩
      rw [hu] at hk3
      have HJ3 := Lib.hid hJ3
      have r2 := row_cell0 (HJ.out.box2 _ _ hJ3).choose_spec hk3
      have r1 := HJ.out.box1 _ _ hJ3
      have rw1 := HJ.out.way _ _ hJ3
      have R2 := Lib.hid r2
      clear c2 hJ3 hk3 hu hy
      have c2 := r2.cell
      have f2 := r2.frozen
      have l2 := r2.lt
      have c1 := r1.cell
      have f1 := r1.frozen
      have l1 := r1.lt
      clear r1 r2
      gi_wp2
      obtain ⟨uU0, uU1⟩ : -8388600 ≤ U ∧ U ≤ 8388600 := by rw [← HU1.out]; exact UB.out k (by omega) hk
      have sb : -1 ≤ s ∧ s ≤ 1 := by omega
      obtain ⟨sb0, sb1⟩ := sb
      obtain ⟨vV0, vV1, vV2, vV3⟩ := VB.out U (by omega) (by omega)
      rw [HV1.out] at vV0 vV1 vV2 vV3
      have rR := RS.out U
      rw [HV1.out, HR1.out] at rR
      obtain ⟨rR0, rR1⟩ := rR
      have NX1 := Lib.hid (by have := NX.out U; rw [HV1.out, HR1.out] at this; exact this)
      clear vV0 vV1
      go_upto_region 9 with fail
      refine wp_region_ext_tail 4 (by kernel_rfl) (by kernel_rfl) ?_
      simp only [List.take_succ_cons, List.take_zero, List.drop_succ_cons, List.drop_zero]
      repeat (go_big_quiet_step ((first | (go_at_call 95; with_reducible refine Calls.quiet_ret (HS.out _ ?_); (repeat (first | assumption | with_reducible refine Row.ext ?_ _ | with_reducible refine row_drew ?_ | (with_reducible refine row_last ?_; first | rfl | (simp; done)) | with_reducible refine Row.alloc ?_ _))))))
      refine wpQuiet_nil ?_
      intro _ hw_ext
      obtain ⟨X2, hw_ext⟩ := hw_ext
      subst hw_ext
      have FIN : ∀ (V' R' : Int), V' = W.across (U + s) → R' = W.num (U + s) - V' * d → ∀ w', w' = (W3.setCell ⟨B2, 0, none⟩ (.int .i64 (U + s))).ext X2 →
          ∃ k' : Nat, (k' : Int) ≤ m ∧ ((k : Int) + 1) = k' ∧ V' = W.across (u0 + (k' : Int) * s) ∧ R' = W.num (u0 + (k' : Int) * s) - W.across (u0 + (k' : Int) * s) * d ∧ J k' w' ∧ w'.cell? ⟨B2, 0, none⟩ = some (.int .i64 (u0 + (k' : Int) * s)) := by
        intro V' R' h1 h2 w' hw
        have e : u0 + ((k + 1 : Nat) : Int) * s = U + s := by rw [← HU1.out, Int.natCast_add, Int.add_mul]; simp; omega
        refine ⟨k + 1, by omega, by omega, by rw [e]; exact h1, by rw [e, ← h1]; exact h2, ?_, ?_⟩
        · rw [hw]; exact HJ.out.ext _ _ _ (HJ.out.put _ _ _ HJ3.out)
        · have r := (R2.out.set 0 (.int .i64 (U + s))).ext X2
          rw [← hw] at r
          rw [e]
          have := r.cell 0
          simpa using this
      have HF := Lib.hid FIN
      clear FIN
      by_cases c1 : d ≤ R + r
      · have c2 : R + r - d < d := by omega
        have c3 : 0 ≤ R + r - d := by omega
        go_wp2
        refine wp_loop_rounds 3 ?_
        iterate 3 try any_goals (rw [rounds_succ]; go_wp2)
        refine wp_loop_rounds 3 ?_
        iterate 3 try any_goals (rw [rounds_succ]; go_wp2)
        go_roundw
        case rel =>
          have e1 : V + q + 1 = W.across (U + s) := (NX1.out.1 c1).symm
          have e2 : R + r - d = W.num (U + s) - (V + q + 1) * d := by
            rw [NS.out, ← AQ.out, ← HR1.out]; simp only [Int.add_mul, Int.sub_mul, Int.one_mul]; omega
          obtain ⟨k', h1, h2, h3, h4, h5, h6⟩ := HF.out _ _ e1 e2 _ rfl
          refine ⟨k', h1, by rw [h2], by rw [h3], by rw [h4], h5, h6⟩
        case measure => simp [intOf]; omega
      · have c1 : R + r < d := by omega
        by_cases c4 : R + r < 0
        · have c2 : 0 ≤ R + r + d := by omega
          go_wp2
          refine wp_loop_rounds 3 ?_
          iterate 3 try any_goals (rw [rounds_succ]; go_wp2)
          refine wp_loop_rounds 3 ?_
          iterate 3 try any_goals (rw [rounds_succ]; go_wp2)
          go_roundw
          case rel =>
            have e1 : V + q - 1 = W.across (U + s) := (NX1.out.2.1 c4).symm
            have e2 : R + r + d = W.num (U + s) - (V + q - 1) * d := by
              rw [NS.out, ← AQ.out, ← HR1.out]; simp only [Int.add_mul, Int.sub_mul, Int.one_mul]; omega
            obtain ⟨k', h1, h2, h3, h4, h5, h6⟩ := HF.out _ _ e1 e2 _ rfl
            refine ⟨k', h1, by rw [h2], by rw [h3], by rw [h4], h5, h6⟩
          case measure => simp [intOf]; omega
        · have c4 : 0 ≤ R + r := by omega
          go_wp2
          refine wp_loop_rounds 3 ?_
          iterate 3 try any_goals (rw [rounds_succ]; go_wp2)
          refine wp_loop_rounds 3 ?_
          iterate 3 try any_goals (rw [rounds_succ]; go_wp2)
          go_roundw
          case rel =>
            have e1 : V + q = W.across (U + s) := (NX1.out.2.2 c1 c4).symm
            have e2 : R + r = W.num (U + s) - (V + q) * d := by
              rw [NS.out, ← AQ.out, ← HR1.out]; simp only [Int.add_mul, Int.sub_mul, Int.one_mul]; omega
            obtain ⟨k', h1, h2, h3, h4, h5, h6⟩ := HF.out _ _ e1 e2 _ rfl
            refine ⟨k', h1, by rw [h2], by rw [h3], by rw [h4], h5, h6⟩
          case measure => simp [intOf]; omega
    · have ek : m.toNat = k := by omega
      go_wp2
      go_end0
      exact ⟨⟨_, rfl⟩, ek ▸ hJk⟩
end Go.Proofs.Ytmlhbbkgfffmcaa
