/- The walk of the reference of layer 21: an offset. Conditions: bounds of places, factors and units. -/
import Derived.Test.YtamfjfnceeagiaaSlopeI
namespace Go.Proofs.Ytamfjfnceeagiaa
set_option linter.unusedVariables false
set_option linter.unusedSimpArgs false
open Go.RowKit
/-- Behind the quotient: the sum, put into its place. -/
theorem clamp_small {Q : Int} : max (-33554432) (min (if sml Q then smlV Q else if Q < 0 then -33554432 else 33554432) 33554432) = clampI Q := by
  unfold clampI
  by_cases h : sml Q
  · rw [if_pos h, smlV_yes h]
  · rw [if_neg h]; unfold sml at h; split <;> omega
set_option maxRecDepth 100000 in
set_option maxHeartbeats 8000000 in
theorem roffset21_any (a b c : WinP) (f u : Int) (ha : a.fits) (hb : b.fits) (hc : c.fits) (f0 : -65536 ≤ f) (f1 : f ≤ 65536) (u0 : -16777216 ≤ u) (u1 : u ≤ 16777216) (w : World) :
    Calls Try.prog 22 #[a.v, b.v, c.v, .int .i64 f, .int .i64 u] w (Ret (.int .i64 (offV a b c f u)) w) := by
  have A := Lib.hid (fun w => rarea_any a b c (nigh3 ha hb hc) w)
  have ab := (nigh3 ha hb hc).ar
  obtain ⟨⟨y0, y1⟩, x0, x1⟩ := steep_bds ha hb hc
  have hU : stU a b c = a.z * (b.y - c.y) + b.z * (c.y - a.y) + c.z * (a.y - b.y) := rfl
  have hV : stV a b c = a.z * (b.x - c.x) + b.z * (c.x - a.x) + c.z * (a.x - b.x) := rfl
  obtain ⟨p0, p1, p2, p3, pz0, pz1, -⟩ := ha
  obtain ⟨q0, q1, q2, q3, qz0, qz1, -⟩ := hb
  obtain ⟨r0, r1, r2, r3, rz0, rz1, -⟩ := hc
  have m1 := z_mul pz0 pz1 (d := b.y - c.y) (by omega) (by omega)
  have m2 := z_mul qz0 qz1 (d := c.y - a.y) (by omega) (by omega)
  have m3 := z_mul rz0 rz1 (d := a.y - b.y) (by omega) (by omega)
  have n1 := z_mul pz0 pz1 (d := b.x - c.x) (by omega) (by omega)
  have n2 := z_mul qz0 qz1 (d := c.x - a.x) (by omega) (by omega)
  have n3 := z_mul rz0 rz1 (d := a.x - b.x) (by omega) (by omega)
  have d1 : IntKind.i64.wrap (b.y - c.y) = b.y - c.y := IntWalk.i64_in _ (by omega)
  have d2 : IntKind.i64.wrap (c.y - a.y) = c.y - a.y := IntWalk.i64_in _ (by omega)
  have d3 : IntKind.i64.wrap (a.y - b.y) = a.y - b.y := IntWalk.i64_in _ (by omega)
  have k1 : IntKind.i64.wrap (a.z * (b.y - c.y)) = a.z * (b.y - c.y) := IntWalk.i64_in _ (by omega)
  have k2 : IntKind.i64.wrap (b.z * (c.y - a.y)) = b.z * (c.y - a.y) := IntWalk.i64_in _ (by omega)
  have k3 : IntKind.i64.wrap (c.z * (a.y - b.y)) = c.z * (a.y - b.y) := IntWalk.i64_in _ (by omega)
  have k4 : IntKind.i64.wrap (a.z * (b.y - c.y) + b.z * (c.y - a.y)) = a.z * (b.y - c.y) + b.z * (c.y - a.y) := IntWalk.i64_in _ (by omega)
  have k5 : IntKind.i64.wrap (a.z * (b.y - c.y) + b.z * (c.y - a.y) + c.z * (a.y - b.y)) = stU a b c := by rw [hU]; exact IntWalk.i64_in _ (by omega)
  have e1 : IntKind.i64.wrap (b.x - c.x) = b.x - c.x := IntWalk.i64_in _ (by omega)
  have e2 : IntKind.i64.wrap (c.x - a.x) = c.x - a.x := IntWalk.i64_in _ (by omega)
  have e3 : IntKind.i64.wrap (a.x - b.x) = a.x - b.x := IntWalk.i64_in _ (by omega)
  have g1 : IntKind.i64.wrap (a.z * (b.x - c.x)) = a.z * (b.x - c.x) := IntWalk.i64_in _ (by omega)
  have g2 : IntKind.i64.wrap (b.z * (c.x - a.x)) = b.z * (c.x - a.x) := IntWalk.i64_in _ (by omega)
  have g3 : IntKind.i64.wrap (c.z * (a.x - b.x)) = c.z * (a.x - b.x) := IntWalk.i64_in _ (by omega)
  have g4 : IntKind.i64.wrap (a.z * (b.x - c.x) + b.z * (c.x - a.x)) = a.z * (b.x - c.x) + b.z * (c.x - a.x) := IntWalk.i64_in _ (by omega)
  have g5 : IntKind.i64.wrap (a.z * (b.x - c.x) + b.z * (c.x - a.x) + c.z * (a.x - b.x)) = stV a b c := by rw [hV]; exact IntWalk.i64_in _ (by omega)
  have BU := Lib.hid (fun w => rbare_any (stU a b c) (by unfold bareI at y0 y1; split at y0 <;> omega) (by unfold bareI at y0 y1; split at y0 <;> omega) w)
  have BV := Lib.hid (fun w => rbare_any (stV a b c) (by unfold bareI at x0 x1; split at x0 <;> omega) (by unfold bareI at x0 x1; split at x0 <;> omega) w)
  unfold offV steepN
  generalize stU a b c = su at *
  generalize stV a b c = sv at *
  generalize ar a b c = n at *
  obtain ⟨ab0, ab1⟩ := ab
  have B0 := Lib.hid (fun w => rbare_any n (by omega) (by omega) w)
  have hd : bareI n = 0 ↔ n = 0 := by unfold bareI; split <;> omega
  have hd1 : 0 ≤ bareI n ∧ bareI n ≤ 3602880389091196928 := by unfold bareI; split <;> omega
  generalize bareI su = bu at *
  generalize bareI sv = bw at *
  clear hU hV m1 m2 m3 n1 n2 n3 p0 p1 p2 p3 pz0 pz1 q0 q1 q2 q3 qz0 qz1 r0 r1 r2 r3 rz0 rz1
  by_cases h : n = 0
  · rw [if_pos h]
    have e : bareI n = 0 := hd.2 h
    rw [e] at B0
    have hu : max (-33554432) (min u 33554432) = u := by omega
    have HU := Lib.hid hu
    clear hd hd1 h e hu
    go_enter Try.func22, Try.ntmps22
    go_wp2_with (first | (go_at_call 65; (with_reducible refine (A.out _).mono ?_); rintro _ _ ⟨rfl, X_, rfl⟩) | (go_at_call 64; (with_reducible refine (B0.out _).mono ?_); rintro _ _ ⟨rfl, X_, rfl⟩))
    go_ret
    exact Ret.of' (congrArg (Value.int .i64) HU.out) (by (repeat (first | exact Below.refl _ _ | with_reducible refine Below.drew ?_ | with_reducible refine Below.ext ?_ (by first | exact Nat.le_refl _ | (simp; done) | (simp; omega)) _ | with_reducible refine Below.alloc ?_ (by first | exact Nat.le_refl _ | (simp; done) | (simp; omega)) _ | with_reducible refine Below.setCell ?_ (by first | exact Nat.le_refl _ | (simp; done) | (simp; omega)) _)))
  · rw [if_neg h]
    have hdn : ¬ bareI n = 0 := fun k => h (hd.1 k)
    obtain ⟨D, hD⟩ : ∃ D, bareI n = D := ⟨_, rfl⟩
    rw [hD] at B0 hd1 hdn ⊢
    obtain ⟨N, hN⟩ : ∃ N, max bu bw = N := ⟨_, rfl⟩
    rw [hN]
    have N0 : 0 ≤ N ∧ N ≤ 27021596153610240 := by omega
    have D0 : 1 ≤ D ∧ D ≤ 3602880389091196928 := by omega
    have mb := mul_bds (U := 65536) (V := 27021596153610240) (by omega) (by omega) f0 f1 (show -27021596153610240 ≤ N by omega) N0.2
    have M := Lib.hid (fun w => rmul_any f N (by unfold sml; omega) (by unfold sml; omega) w)
    have F1 := Lib.hid (fun w => from_any (f * N) (by unfold inR; omega) w)
    have O1 := Lib.hid (fun w => rof_any D (by unfold sml; omega) w)
    have F2 := Lib.hid (fun w => from_any D (by unfold inR; omega) w)
    have qb : -1770887431076116955136 ≤ f * N / D ∧ f * N / D ≤ 1770887431076116955136 := by
      have e := Int.ediv_mul_le (f * N) (b := D) (by omega)
      have l := Int.lt_ediv_add_one_mul_self (f * N) (b := D) (by omega)
      obtain ⟨Q, hQ⟩ : ∃ Q, f * N / D = Q := ⟨_, rfl⟩
      rw [hQ] at e l ⊢
      constructor
      · apply Int.not_lt.1; intro hl
        have : (Q + 1) * D ≤ (Q + 1) * 1 := Int.mul_le_mul_of_nonpos_left (by omega) D0.1
        omega
      · apply Int.not_lt.1; intro hl
        have : Q * 1 ≤ Q * D := Int.mul_le_mul_of_nonneg_left D0.1 (by omega)
        omega
    have FL := Lib.hid (fun va vd (j k : Nat) w h1 h2 h3 => floor_any va vd (f * N) D j k w h1 h2 D0.1 h3)
    generalize f * N = fN at *
    generalize fN / D = q at *
    generalize fN % D = r at *
    have O2 := Lib.hid (fun w => rof_any u (by unfold sml; omega) w)
    have F3 := Lib.hid (fun w => from_any u (by unfold inR; omega) w)
    have ib : inR (q + u) := by unfold inR; omega
    have TO := Lib.hid (fun v (k : Nat) w h => to_any v (q + u) k w h)
    rw [i2b_yes ib] at TO
    have SM := Lib.hid (fun w => rsmall_any (q + u) ib w)
    have CS := Lib.hid (clamp_small (Q := q + u))
    have hDz : (D == 0) = false := by simpa using hdn
    obtain ⟨N00, N01⟩ := N0
    obtain ⟨D00, D01⟩ := D0
    have HM := Lib.hid hN
    have hm := HM.out
    clear hd hd1 h hdn hD hN mb qb ib
    go_enter Try.func22, Try.ntmps22
    go_upto_region 7 with (first
      | (go_at_call 65; (with_reducible refine (A.out _).mono ?_); rintro _ _ ⟨rfl, XA, rfl⟩)
      | (go_at_call 64; (with_reducible refine (B0.out _).mono ?_); rintro _ _ ⟨rfl, XB0, rfl⟩)
      | (go_at_call 64; (with_reducible refine (BU.out _).mono ?_); rintro _ _ ⟨rfl, XB1, rfl⟩)
      | (go_at_call 64; (with_reducible refine (BV.out _).mono ?_); rintro _ _ ⟨rfl, XB2, rfl⟩)
      | (go_at_call 68; (with_reducible refine (M.out _).mono ?_); rintro _ _ ⟨rfl, XM, rfl⟩)
      | (go_at_call 69; (with_reducible refine (O1.out _).mono ?_); rintro _ _ ⟨rfl, XO, rfl⟩)
      | (go_at_call 67; (with_reducible refine Calls.mono (F1.out _) ?_); (repeat (first | assumption | exact N1.out | exact N2.out | exact N3.out | exact N4.out | with_reducible refine RN.ext ?_ _ | with_reducible refine RN.alloc ?_ _ | with_reducible refine RN.drew ?_)); rintro _ _ ⟨v_N1, rfl, g_N1, ⟨Y_N1, rfl⟩⟩; obtain ⟨m_N1, a_N1, k_N1, c_N1, rfl⟩ := g_N1.form; have N1 := Lib.hid g_N1; clear g_N1)
      | (go_at_call 67; (with_reducible refine Calls.mono (F2.out _) ?_); (repeat (first | assumption | exact N1.out | exact N2.out | exact N3.out | exact N4.out | with_reducible refine RN.ext ?_ _ | with_reducible refine RN.alloc ?_ _ | with_reducible refine RN.drew ?_)); rintro _ _ ⟨v_N2, rfl, g_N2, ⟨Y_N2, rfl⟩⟩; obtain ⟨m_N2, a_N2, k_N2, c_N2, rfl⟩ := g_N2.form; have N2 := Lib.hid g_N2; clear g_N2)
      | (go_at_call 66; (with_reducible refine (FL.out _ _ 129 129 _ ?_ ?_ (by decide)).mono ?_); (repeat (first | assumption | exact N1.out | exact N2.out | exact N3.out | exact N4.out | with_reducible refine RN.ext ?_ _ | with_reducible refine RN.alloc ?_ _ | with_reducible refine RN.drew ?_)); rintro _ _ ⟨v_, rfl, ⟨qv, rv, rfl, gq, gr⟩, ⟨YF, rfl⟩⟩; obtain ⟨mq, aq, kq, cq, rfl⟩ := gq.form; obtain ⟨mr, ar', kr, cr, rfl⟩ := gr.form; clear N1 N2 gr; have N3 := Lib.hid gq; clear gq))
    obtain ⟨P, hP⟩ : ∃ P, w.heap.size + 1 + 1 + 1 + XA.sz + XB0.sz + XB1.sz + XB2.sz + XM.sz + Y_N1.sz + XO.sz + Y_N2.sz + YF.sz = P := ⟨_, rfl⟩
    refine wp_abs (F := fun w1 => Row w1 P #[.bool mq, .slice aq kq cq] 108 ∧ RN w1 (.agg #[.bool mq, .slice aq kq cq]) q 131 ∧ ∃ X, w1 = w.ext X) ⟨by rw [← hP]; (repeat (first | assumption | with_reducible refine Row.ext ?_ _ | with_reducible refine row_drew ?_ | (with_reducible refine row_last ?_; first | rfl | (simp; done)) | with_reducible refine Row.alloc ?_ _)), (N3.out.alloc _).alloc _, RowKit.Below.toExt (by (repeat (first | exact Below.refl _ _ | with_reducible refine Below.drew ?_ | with_reducible refine Below.ext ?_ (by first | exact Nat.le_refl _ | (simp; done) | (simp; omega)) _ | with_reducible refine Below.alloc ?_ (by first | exact Nat.le_refl _ | (simp; done) | (simp; omega)) _ | with_reducible refine Below.setCell ?_ (by first | exact Nat.le_refl _ | (simp; done) | (simp; omega)) _)))⟩ ?_
    have HPw := Lib.hid (show w.heap.size ≤ P by omega)
    rw [hP]
    rintro w1 ⟨hr, hn, hX⟩
    have HR := Lib.hid hr
    have HN := Lib.hid hn
    have HX := Lib.hid hX
    have c1 := hr.cell
    have c2 := hr.frozen
    have c3 := hr.lt
    clear hr hn hX hP N3
    refine wp_region_rel 5 [none, none, some ([], srV (I2 u)), some ([2], srN u 129), some ([3], srN (q + u) 132)] (by kernel_rfl) (by kernel_rfl) ?_
    simp only [List.take_succ_cons, List.take_zero, List.drop_succ_cons, List.drop_zero]
    (repeat (first | (refine rel_none ?_; intro K_ hK_; go_big_quiet_op; go_big_quiet_on) | simp only [Act.put, List.setIfInBounds_toArray, List.set_cons_zero, List.set_cons_succ]))
    refine rel_some rfl (fun w_ hw_ hk_ K_ hK_ => ?_) (fun v2 f2 => ?_)
    · obtain ⟨X_, rfl⟩ := hw_
      go_simp
      go_at_call 69
      refine (O2.out _).mono ?_
      rintro _ _ ⟨rfl, hX⟩
      exact hK_ _ _ rfl hX
    obtain rfl := f2
    (repeat (first | (refine rel_none ?_; intro K_ hK_; go_big_quiet_op; go_big_quiet_on) | simp only [Act.put, List.setIfInBounds_toArray, List.set_cons_zero, List.set_cons_succ]))
    refine rel_some rfl (fun w_ hw_ hk_ K_ hK_ => ?_) (fun v3 f3 => ?_)
    · obtain ⟨X_, rfl⟩ := hw_
      go_simp
      go_at_call 67
      refine (F3.out _).mono ?_
      rintro _ _ ⟨v, rfl, h1, h2⟩
      exact hK_ _ _ h1 h2
    obtain ⟨m3, a3, l3, b3, rfl⟩ := f3
    (repeat (first | (refine rel_none ?_; intro K_ hK_; go_big_quiet_op; go_big_quiet_on) | simp only [Act.put, List.setIfInBounds_toArray, List.set_cons_zero, List.set_cons_succ]))
    refine rel_some rfl (fun w_ hw_ hk_ K_ hK_ => ?_) (fun v4 f4 => ?_)
    · obtain ⟨X_, rfl⟩ := hw_
      have h3 := (hk_ (3, _) (by repeat (first | exact List.mem_cons_self | refine List.mem_cons_of_mem _ ?_))) (by simp)
      go_simp
      go_at_call 70
      refine (sum_any _ _ q u 131 129 _ (by first | exact HN.out.ext _ | exact HN.out.drew.ext _) h3 (by decide) (by decide)).mono ?_
      rintro _ _ ⟨v, rfl, h1, h2⟩
      exact hK_ _ _ h1 h2
    obtain ⟨m4, a4, l4, b4, rfl⟩ := f4
    (repeat (first | (refine rel_none ?_; intro K_ hK_; go_big_quiet_op; go_big_quiet_on) | simp only [Act.put, List.setIfInBounds_toArray, List.set_cons_zero, List.set_cons_succ]))
    refine rel_nil ?_
    intro w_ hw_ kk
    obtain ⟨X, rfl⟩ := hw_
    have h4 := (kk (4, _) (by repeat (first | exact List.mem_cons_self | refine List.mem_cons_of_mem _ ?_)))
    have H4 := Lib.hid h4
    clear h4 kk
    go_upto_region 8 with fail
    have NP := num_put (HR.out.ext X) isSl_mk H4.out
    rw [World.setCell_ext c3, World.setCell_ext (by simpa [World.setCell] using c3)] at NP
    have hpw := HPw.out
    have hmn : m4 = decide (q + u < 0) := by
      obtain ⟨a5, k5, c5, e, -⟩ := H4.out.minus
      injection e with e
      simp at e
      exact e.1
    refine wp_abs (F := fun w2 => Row w2 P #[.bool m4, .slice a4 l4 b4] 108 ∧ RN w2 (.agg #[.bool m4, .slice a4 l4 b4]) (q + u) 132 ∧ ∃ X, w2 = w.ext X) ⟨NP.1, NP.2, ?_⟩ ?_
    · obtain ⟨X0, hX0⟩ := HX.out
      subst hX0
      exact RowKit.Below.toExt (by (repeat (first | with_reducible assumption | with_reducible exact Below.refl _ _ | with_reducible refine Below.drew ?_ | with_reducible refine Below.ext ?_ (by first | exact Nat.le_refl _ | omega | (simp; done) | (simp; omega)) _ | with_reducible refine Below.alloc ?_ (by first | exact Nat.le_refl _ | omega | (simp; done) | (simp; omega)) _ | with_reducible refine Below.setCell ?_ (by first | exact Nat.le_refl _ | omega | (simp; done) | (simp; omega)) _)))
    clear NP c1 c2 c3 HR HN HX H4
    rintro w2 ⟨hr, hn, hX⟩
    have HN := Lib.hid hn
    have HX := Lib.hid hX
    have c1 := hr.cell
    have c2 := hr.frozen
    have c3 := hr.lt
    clear hr hn hX
    obtain ⟨Z, hZ⟩ : ∃ Z, q + u = Z := ⟨_, rfl⟩
    rw [hZ] at TO SM CS hmn HN ⊢
    have HMN := Lib.hid hmn
    have HZE := Lib.hid hZ
    clear hZ hmn
    by_cases hs : sml Z
    · have cs := CS.out
      rw [if_pos hs] at cs
      simp only [hs, decide_true] at SM
      obtain ⟨V, hV⟩ : ∃ V, smlV Z = V := ⟨_, rfl⟩
      rw [hV] at SM cs
      have HC := Lib.hid cs
      clear cs hV hs CS
      go_wp2_with (first
        | (go_at_call 71; (with_reducible refine (TO.out _ 132 _ HN.out).mono ?_); rintro _ _ ⟨rfl, XT, rfl⟩)
        | (go_at_call 72; (with_reducible refine (SM.out _).mono ?_); rintro _ _ ⟨rfl, X_, rfl⟩))
      go_ret
      obtain ⟨X0, hX0⟩ := HX.out
      subst hX0
      refine Ret.of' (congrArg (Value.int .i64) ?_) (by (repeat (first | with_reducible assumption | with_reducible exact Below.refl _ _ | with_reducible refine Below.drew ?_ | with_reducible refine Below.ext ?_ (by first | exact Nat.le_refl _ | omega | (simp; done) | (simp; omega)) _ | with_reducible refine Below.alloc ?_ (by first | exact Nat.le_refl _ | omega | (simp; done) | (simp; omega)) _ | with_reducible refine Below.setCell ?_ (by first | exact Nat.le_refl _ | omega | (simp; done) | (simp; omega)) _)))
      rw [HZE.out, ← HC.out]
      try rfl
    · have cs := CS.out
      rw [if_neg hs] at cs
      simp only [hs, decide_false] at SM
      obtain ⟨V, hV⟩ : ∃ V, smlV Z = V := ⟨_, rfl⟩
      rw [hV] at SM
      clear hV hs CS
      by_cases hz : Z < 0
      · rw [if_pos hz] at cs
        have hmt : m4 = true := by rw [HMN.out]; simpa using hz
        subst hmt
        have HC := Lib.hid cs
        clear cs hz HMN
        go_wp2_with (first
          | (go_at_call 71; (with_reducible refine (TO.out _ 132 _ HN.out).mono ?_); rintro _ _ ⟨rfl, XT, rfl⟩)
          | (go_at_call 72; (with_reducible refine (SM.out _).mono ?_); rintro _ _ ⟨rfl, X_, rfl⟩))
        go_ret
        obtain ⟨X0, hX0⟩ := HX.out
        subst hX0
        refine Ret.of' (congrArg (Value.int .i64) ?_) (by (repeat (first | with_reducible assumption | with_reducible exact Below.refl _ _ | with_reducible refine Below.drew ?_ | with_reducible refine Below.ext ?_ (by first | exact Nat.le_refl _ | omega | (simp; done) | (simp; omega)) _ | with_reducible refine Below.alloc ?_ (by first | exact Nat.le_refl _ | omega | (simp; done) | (simp; omega)) _ | with_reducible refine Below.setCell ?_ (by first | exact Nat.le_refl _ | omega | (simp; done) | (simp; omega)) _)))
        rw [HZE.out, ← HC.out]
        try rfl
      · rw [if_neg hz] at cs
        have hmt : m4 = false := by rw [HMN.out]; simpa using hz
        subst hmt
        have HC := Lib.hid cs
        clear cs hz HMN
        go_wp2_with (first
          | (go_at_call 71; (with_reducible refine (TO.out _ 132 _ HN.out).mono ?_); rintro _ _ ⟨rfl, XT, rfl⟩)
          | (go_at_call 72; (with_reducible refine (SM.out _).mono ?_); rintro _ _ ⟨rfl, X_, rfl⟩))
        go_ret
        obtain ⟨X0, hX0⟩ := HX.out
        subst hX0
        refine Ret.of' (congrArg (Value.int .i64) ?_) (by (repeat (first | with_reducible assumption | with_reducible exact Below.refl _ _ | with_reducible refine Below.drew ?_ | with_reducible refine Below.ext ?_ (by first | exact Nat.le_refl _ | omega | (simp; done) | (simp; omega)) _ | with_reducible refine Below.alloc ?_ (by first | exact Nat.le_refl _ | omega | (simp; done) | (simp; omega)) _ | with_reducible refine Below.setCell ?_ (by first | exact Nat.le_refl _ | omega | (simp; done) | (simp; omega)) _)))
        rw [HZE.out, ← HC.out]
        try rfl
end Go.Proofs.Ytamfjfnceeagiaa
