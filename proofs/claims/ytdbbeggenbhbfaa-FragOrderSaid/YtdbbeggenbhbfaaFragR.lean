/- The walk of layer 25 (frag): the reference's fragment. Conditions: the image may be; 64 bits. -/
import Derived.Test.YtdbbeggenbhbfaaFragC
namespace Go.Proofs.Ytdbbeggenbhbfaa
set_option linter.unusedVariables false
set_option linter.unusedSimpArgs false
open Go.RowKit
/-- What stands when the old color is got. -/
structure Got (w wx : World) (bm g1 k1 g2 k2 : Nat) (W H : Int) (C Z : List Int) (o : OpsP) (f : FrP) (pd : Nat) : Prop where
  im : Img wx bm g1 k1 g2 k2 W H C Z
  ro : Row wx w.heap.size #[.bool o.cut, .int .i64 o.x0, .int .i64 o.y0, .int .i64 o.x1, .int .i64 o.y1, .bool o.deep, .int .i64 o.fn, .bool o.keep, .bool o.mix, .int .i64 o.sf, .int .i64 o.df, .bool o.m0, .bool o.m1, .bool o.m2, .bool o.m3] 64
  rf : Row wx (w.heap.size + 1) #[.int .i64 f.x, .int .i64 f.y, .int .i64 f.z, .int .i64 f.c0, .int .i64 f.c1, .int .i64 f.c2, .int .i64 f.c3, .int .i64 f.cov] 66
  d : Row wx pd #[.int .i64 (gotC up0 W H C f.x f.y), .int .i64 (gotC up1 W H C f.x f.y), .int .i64 (gotC up2 W H C f.x f.y), .int .i64 (gotC up3 W H C f.x f.y)] 23
  lt : bm < w.heap.size ∧ g1 < w.heap.size ∧ g2 < w.heap.size ∧ w.heap.size + 1 < pd
  chg : Chg (fun _ => False) w wx
theorem Got.ext {w wx : World} {bm g1 k1 g2 k2 : Nat} {W H : Int} {C Z : List Int} {o : OpsP} {f : FrP} {pd : Nat} (h : Got w wx bm g1 k1 g2 k2 W H C Z o f pd) (X : Xt) : Got w (wx.ext X) bm g1 k1 g2 k2 W H C Z o f pd :=
  ⟨h.im.ext X, h.ro.ext X, h.rf.ext X, h.d.ext X, h.lt, h.chg.ext X⟩
set_option maxRecDepth 100000 in
set_option maxHeartbeats 8000000 in
theorem rone_any {w : World} {bm g1 k1 g2 k2 : Nat} {W H : Int} {C Z : List Int} (hI : Img w bm g1 k1 g2 k2 W H C Z) (o : OpsP) (f : FrP) (ho : o.ok) (hf : f.ok) :
    Calls Try.prog 60 #[.pointer (some ⟨bm, 0, none⟩), o.v, f.v] w (PutsB bm g1 k1 g2 k2 W H (oneC o f W H C Z) (oneZ o f W H Z) (.bool (oneB o f W H Z)) w) := by
  have R1 := Lib.hid (fun w => rops_right o w)
  have F1 := Lib.hid (fun w => rfr_fits f w)
  by_cases hr : o.right
  case neg =>
    have e : oneB o f W H Z = false := by simp [oneB, hr]
    unfold oneC oneZ
    rw [e]
    simp only [hr, decide_false] at R1
    clear e hr
    go_enter Try.func60, Try.ntmps60
    go_wp2_with (first | (go_at_call 51; (with_reducible refine (R1.out _).mono ?_); rintro _ _ ⟨rfl, X_, rfl⟩))
    go_ret
    exact puts_same rfl hI (by (repeat (first | exact Chg.refl | with_reducible refine Chg.drew ?_ | with_reducible refine Chg.ext ?_ _ | with_reducible refine Chg.alloc ?_ _ | (with_reducible refine Chg.setCell ?_ (fun hlt_ => absurd hlt_ (by first | omega | (simp; omega))) _))))
  by_cases hq : f.fits
  case neg =>
    have e : oneB o f W H Z = false := by simp [oneB, hq]
    unfold oneC oneZ
    rw [e]
    simp only [hr, decide_true] at R1
    simp only [hq, decide_false] at F1
    clear e hr hq
    go_enter Try.func60, Try.ntmps60
    go_wp2_with (first | (go_at_call 51; (with_reducible refine (R1.out _).mono ?_); rintro _ _ ⟨rfl, X_, rfl⟩) | (go_at_call 53; (with_reducible refine (F1.out _).mono ?_); rintro _ _ ⟨rfl, X_, rfl⟩))
    go_ret
    exact puts_same rfl hI (by (repeat (first | exact Chg.refl | with_reducible refine Chg.drew ?_ | with_reducible refine Chg.ext ?_ _ | with_reducible refine Chg.alloc ?_ _ | (with_reducible refine Chg.setCell ?_ (fun hlt_ => absurd hlt_ (by first | omega | (simp; omega))) _))))
  simp only [hr, decide_true] at R1
  simp only [hq, decide_true] at F1
  have HR := Lib.hid hr
  have HQ := Lib.hid hq
  have e0 : oneB o f W H Z = !(ref? o f W H Z) := by simp [oneB, hr, hq]
  unfold oneC oneZ
  rw [e0]
  clear e0 hr hq
  obtain ⟨x0, x1⟩ := hf.x
  obtain ⟨y0, y1⟩ := hf.y
  obtain ⟨n0, n1⟩ := ho.fn
  have HA := Lib.hid (fun w => rrect_has o.x0 o.y0 o.x1 o.y1 f.x f.y w)
  have PA := Lib.hid (fun w => rpass_any o.fn f.z (gotC id W H Z f.x f.y) w)
  have GA := Lib.hid (fun (w' : World) (h1 : Rd w' (sl g1 C.length k1) C) (h2 : Rd w' (sl g2 C.length k2) Z) => rget_is W H _ _ C Z f.x f.y w' h1 h2 hI.ok)
  have CA := Lib.hid (show ∀ w', Calls Try.prog 24 #[C4 f.c0 f.c1 f.c2 f.c3, .int .i64 f.cov] w' (Ret (C4 f.c0 f.c1 f.c2 f.a) w') from fun w' => rcover_any f.c0 f.c1 f.c2 f.c3 f.cov HQ.out.2.2.2.1 (by have := HQ.out.2.2.2.2.2.1; omega) HQ.out.2.2.2.2.2.2 w')
  have BA := Lib.hid (fun w' => rblend_any o.sf o.df HR.out.2.1.1 HR.out.2.1.2 HR.out.2.2.1 HR.out.2.2.2 f.c0 f.c1 f.c2 f.a _ _ _ _ HQ.out.may (got_may W H C f.x f.y) w')
  have RE : ref? o f W H Z = refB o.cut (o.has f) (decide (inB W H f.x f.y)) o.deep (o.pass f W H Z) := rfl
  unfold OpsP.has OpsP.pass at RE
  generalize (decide (hasP o.x0 o.y0 o.x1 o.y1 f.x f.y)) = hb at HA RE
  generalize (decide (passP o.fn f.z (gotC id W H Z f.x f.y))) = pb at PA RE
  unfold gotV at GA
  generalize (decide (inB W H f.x f.y)) = ib at GA RE
  generalize ref? o f W H Z = rb at RE ⊢
  have HRE := Lib.hid RE
  clear RE
  obtain ⟨CC0, hC0⟩ : ∃ q, q = (if (!rb) = true then putC W H C f.x f.y (kol o W H C f.x f.y f.c0 f.a up0) (kol o W H C f.x f.y f.c1 f.a up1) (kol o W H C f.x f.y f.c2 f.a up2) (kol o W H C f.x f.y f.a f.a up3) o.m0 o.m1 o.m2 o.m3 else C) := ⟨_, rfl⟩
  obtain ⟨ZZ, hZZ⟩ : ∃ ZZ, ZZ = (if (!rb && (o.deep && o.keep)) = true then putZ W H Z f.x f.y f.z else Z) := ⟨_, rfl⟩
  rw [← hC0, ← hZZ]
  have HC0 := Lib.hid hC0
  have HZZ := Lib.hid hZZ
  clear hC0 hZZ
  obtain ⟨RC, RZ⟩ := hI.rds
  have lm := hI.row.lt
  have l1 := hI.c.lt
  have l2 := hI.z.lt
  have lm' : bm ≤ w.heap.size := by omega
  have c0 := hI.row.cell 0
  have c1 := hI.row.cell 1
  have c2 := hI.row.cell 2
  have c3 := hI.row.cell 3
  simp at c0 c1 c2 c3
  go_enter Try.func60, Try.ntmps60
  go_wp2_with (first
    | (go_at_call 51; (with_reducible refine (R1.out _).mono ?_); rintro _ _ ⟨rfl, X_, rfl⟩)
    | (go_at_call 53; (with_reducible refine (F1.out _).mono ?_); rintro _ _ ⟨rfl, X_, rfl⟩))
  refine wp_region_mix (by kernel_rfl) ?_
  repeat (first | (refine mix_skip rfl ?_; simp only [List.nil_append, List.cons_append]) | (refine mix_ncheck rfl rfl rfl ?_; simp only [Act.put, List.setIfInBounds_toArray, List.set_cons_zero, List.set_cons_succ, List.nil_append, List.cons_append]) | (refine mix_calm rfl rfl ?_; intro K_ hK_; go_big_quiet_op; go_big_quiet_on; simp only [List.nil_append, List.cons_append]) | (apply mix_call rfl; (intro X_; go_simp; go_at_call 38; with_reducible refine Calls.calm_ret (GA.out _ ?_ ?_); (repeat (first | assumption | with_reducible refine Rd.ext ?_ _ | with_reducible refine Rd.alloc ?_ _ | with_reducible refine Rd.drew ?_)); (repeat (first | assumption | with_reducible refine Rd.ext ?_ _ | with_reducible refine Rd.alloc ?_ _ | with_reducible refine Rd.drew ?_))); simp only [Act.put, List.setIfInBounds_toArray, List.set_cons_zero, List.set_cons_succ, List.nil_append, List.cons_append]) | (refine mix_alloc rfl rfl Try.zeroValue23 ?_; simp only [List.nil_append, List.cons_append]) | (refine mix_fill 12 rfl rfl rfl rfl (by simp [Value.oneCell']) (by kernel_rfl) (by simp) rfl rfl rfl rfl ?_; simp only [List.nil_append, List.cons_append]))
  refine mix_nil (mix_end1 12 13 ⟨by kernel_rfl, by kernel_rfl⟩ rfl rfl rfl rfl rfl (by kernel_rfl) ?_)
  intro X p q
  have c_q := q.cell
  have f_q := q.frozen
  have g_q := q.gap
  have b_q := Lib.hid q.block
  simp only [World.size_ext, World.size_alloc, World.size_drew, World.size_setCell] at g_q
  clear q
  simp only [Act.put, List.setIfInBounds_toArray, List.set_cons_zero, List.set_cons_succ, ptr]
  simp only [Xt.gap] at g_q
  go_upto_region 4 with fail
  refine wp_abs (F := fun wx => Got w wx bm g1 k1 g2 k2 W H C Z o f p) ⟨by (repeat (first | assumption | with_reducible refine Img.ext ?_ _ | with_reducible refine Img.alloc ?_ _ | with_reducible refine Img.drew ?_)), by (repeat (first | assumption | with_reducible refine Row.ext ?_ _ | with_reducible refine row_drew ?_ | (with_reducible refine row_last ?_; first | rfl | (simp; done)) | with_reducible refine Row.alloc ?_ _)), by (repeat (first | assumption | with_reducible refine Row.ext ?_ _ | with_reducible refine row_drew ?_ | (with_reducible refine row_last ?_; first | rfl | (simp; done)) | with_reducible refine Row.alloc ?_ _)), b_q.out, by omega, by (repeat (first | exact Chg.refl | with_reducible refine Chg.drew ?_ | with_reducible refine Chg.ext ?_ _ | with_reducible refine Chg.alloc ?_ _ | (with_reducible refine Chg.setCell ?_ (fun hlt_ => absurd hlt_ (by first | omega | (simp; omega))) _)))⟩ ?_
  intro w4 G4
  have s4 := G4.chg.size
  have lo4 := G4.ro.lt
  have lf4 := G4.rf.lt
  have ld4 := G4.d.lt
  clear c0 c1 c2 c3 c_q f_q b_q g_q
  have q0 := G4.ro.cell 0
  have q1 := G4.ro.cell 1
  have q2 := G4.ro.cell 2
  have q3 := G4.ro.cell 3
  have q4 := G4.ro.cell 4
  have q5 := G4.ro.cell 5
  have q6 := G4.ro.cell 6
  have q7 := G4.ro.cell 7
  have q8 := G4.ro.cell 8
  have q9 := G4.ro.cell 9
  have q10 := G4.ro.cell 10
  have q11 := G4.ro.cell 11
  have q12 := G4.ro.cell 12
  have q13 := G4.ro.cell 13
  have q14 := G4.ro.cell 14
  simp at q0 q1 q2 q3 q4 q5 q6 q7 q8 q9 q10 q11 q12 q13 q14
  have r0 := G4.rf.cell 0
  have r1 := G4.rf.cell 1
  have r2 := G4.rf.cell 2
  have r3 := G4.rf.cell 3
  have r4 := G4.rf.cell 4
  have r5 := G4.rf.cell 5
  have r6 := G4.rf.cell 6
  have r7 := G4.rf.cell 7
  simp at r0 r1 r2 r3 r4 r5 r6 r7
  have s0 := G4.d.cell 0
  have s1 := G4.d.cell 1
  have s2 := G4.d.cell 2
  have s3 := G4.d.cell 3
  simp at s0 s1 s2 s3
  go_cut [59] (fun t59 wx => t59 = .bool rb ∧ ∃ X, wx = w4.ext X)
  case first =>
    have e4 : ∃ X, w4 = w4.ext X := ⟨_, (ext_none w4).symm⟩
    cases hcut : o.cut <;> cases hdeep : o.deep <;> cases ib <;> cases hb <;> cases pb
    all_goals
      rw [hcut, hdeep] at HRE
      rw [hcut] at q0
      rw [hdeep] at q5
      go_wp2_with (first | (go_at_call 66; (with_reducible refine (HA.out _).mono ?_); rintro _ _ ⟨rfl, X_, rfl⟩) | (go_at_call 55; (with_reducible refine (PA.out _).mono ?_); rintro _ _ ⟨rfl, X_, rfl⟩))
      go_meet
      refine ⟨by rw [HRE.out]; rfl, ?_⟩
      first | exact e4 | exact ⟨_, rfl⟩ | exact ⟨_, World.ext_ext⟩
  case rest =>
    obtain ⟨rfl, X5, hX5⟩ := hcut
    have G5 : Got w wc bm g1 k1 g2 k2 W H C Z o f p := by rw [hX5]; exact G4.ext X5
    clear hX5 G4 s4 lo4 lf4 ld4 q0 q1 q2 q3 q4 q5 q6 q7 q8 q9 q10 q11 q12 q13 q14 r0 r1 r2 r3 r4 r5 r6 r7 s0 s1 s2 s3
    have s4 := G5.chg.size
    have lo4 := G5.ro.lt
    have lf4 := G5.rf.lt
    have ld4 := G5.d.lt
    have ld5 : p ≤ wc.heap.size := by omega
    have lo5 : w.heap.size ≤ wc.heap.size := by omega
    have lf5 : w.heap.size + 1 ≤ wc.heap.size := by omega
    have q0 := G5.ro.cell 0
    have q1 := G5.ro.cell 1
    have q2 := G5.ro.cell 2
    have q3 := G5.ro.cell 3
    have q4 := G5.ro.cell 4
    have q5 := G5.ro.cell 5
    have q6 := G5.ro.cell 6
    have q7 := G5.ro.cell 7
    have q8 := G5.ro.cell 8
    have q9 := G5.ro.cell 9
    have q10 := G5.ro.cell 10
    have q11 := G5.ro.cell 11
    have q12 := G5.ro.cell 12
    have q13 := G5.ro.cell 13
    have q14 := G5.ro.cell 14
    simp at q0 q1 q2 q3 q4 q5 q6 q7 q8 q9 q10 q11 q12 q13 q14
    have r0 := G5.rf.cell 0
    have r1 := G5.rf.cell 1
    have r2 := G5.rf.cell 2
    have r3 := G5.rf.cell 3
    have r4 := G5.rf.cell 4
    have r5 := G5.rf.cell 5
    have r6 := G5.rf.cell 6
    have r7 := G5.rf.cell 7
    simp at r0 r1 r2 r3 r4 r5 r6 r7
    have s0 := G5.d.cell 0
    have s1 := G5.d.cell 1
    have s2 := G5.d.cell 2
    have s3 := G5.d.cell 3
    simp at s0 s1 s2 s3
    obtain ⟨w5, rfl⟩ : ∃ w5, w5 = wc := ⟨_, rfl⟩
    have lt5 := G5.lt
    cases rb
    case true =>
      have eC : CC0 = C := HC0.out
      have eZ : ZZ = Z := HZZ.out
      subst eC eZ
      go_wp2
      go_ret
      exact puts_same rfl hI G5.chg
    case false =>
      have eC : CC0 = putC W H C f.x f.y (kol o W H C f.x f.y f.c0 f.a up0) (kol o W H C f.x f.y f.c1 f.a up1) (kol o W H C f.x f.y f.c2 f.a up2) (kol o W H C f.x f.y f.a f.a up3) o.m0 o.m1 o.m2 o.m3 := HC0.out
      have HC1 := Lib.hid eC
      clear eC
      go_upto_if 66 with (first | (go_at_call 24; (with_reducible refine (CA.out _).mono ?_); rintro _ _ ⟨rfl, X_, rfl⟩))
      go_cut [10] (fun t7 wx => ∃ pc, t7 = .pointer (some ⟨pc, 0, none⟩) ∧ Hue w wx bm g1 k1 g2 k2 W H C Z o f pc (kol o W H C f.x f.y f.c0 f.a up0) (kol o W H C f.x f.y f.c1 f.a up1) (kol o W H C f.x f.y f.c2 f.a up2) (kol o W H C f.x f.y f.a f.a up3))
      case first =>
        have G6 := G5
        cases hmix : o.mix
        · go_wp2
          go_meet
          refine ⟨_, rfl, ?_⟩
          simp only [kol, hmix, Bool.false_eq_true, if_false]
          exact ⟨((G6.im.ext _).alloc _), (G6.ro.ext _).alloc _, (G6.rf.ext _).alloc _, by (repeat (first | assumption | with_reducible refine Row.ext ?_ _ | with_reducible refine row_drew ?_ | (with_reducible refine row_last ?_; first | rfl | (simp; done)) | with_reducible refine Row.alloc ?_ _)), by first | omega | (simp; omega), (G6.chg.ext _).alloc _⟩
        · go_wp2_with (first | (go_at_call 22; (with_reducible refine (BA.out _).mono ?_); rintro _ _ ⟨rfl, X_, rfl⟩))
          go_meet
          refine ⟨_, rfl, ?_⟩
          simp only [kol, hmix, if_true]
          exact ⟨((G6.im.ext _).alloc _).ext _, ((G6.ro.ext _).alloc _).ext _, ((G6.rf.ext _).alloc _).ext _, by (repeat (first | assumption | with_reducible refine Row.ext ?_ _ | with_reducible refine row_drew ?_ | (with_reducible refine row_last ?_; first | rfl | (simp; done)) | with_reducible refine Row.alloc ?_ _)), by first | omega | (simp; omega), ((G6.chg.ext _).alloc _).ext _⟩
      case rest =>
        obtain ⟨pc, rfl, HU⟩ := hcut
        have lt := HU.lt
        have zc := HU.chg.size
        have zl := HU.c.lt
        have q0 := HU.o.cell 0
        have q1 := HU.o.cell 1
        have q2 := HU.o.cell 2
        have q3 := HU.o.cell 3
        have q4 := HU.o.cell 4
        have q5 := HU.o.cell 5
        have q6 := HU.o.cell 6
        have q7 := HU.o.cell 7
        have q8 := HU.o.cell 8
        have q9 := HU.o.cell 9
        have q10 := HU.o.cell 10
        have q11 := HU.o.cell 11
        have q12 := HU.o.cell 12
        have q13 := HU.o.cell 13
        have q14 := HU.o.cell 14
        have r0 := HU.f.cell 0
        have r1 := HU.f.cell 1
        have r2 := HU.f.cell 2
        have r3 := HU.f.cell 3
        have r4 := HU.f.cell 4
        have r5 := HU.f.cell 5
        have r6 := HU.f.cell 6
        have r7 := HU.f.cell 7
        have s0 := HU.c.cell 0
        have s1 := HU.c.cell 1
        have s2 := HU.c.cell 2
        have s3 := HU.c.cell 3
        simp at q0 q1 q2 q3 q4 q5 q6 q7 q8 q9 q10 q11 q12 q13 q14 r0 r1 r2 r3 r4 r5 r6 r7 s0 s1 s2 s3
        have KM := kol_may HR.out HQ.out W H C
        obtain ⟨wo, rfl⟩ : ∃ wo, wo = wc := ⟨_, rfl⟩
        go_upto_region 10 with (first
          | (go_at_call 42; (with_reducible refine (rput_img HU.im f.x f.y _ _ _ _ o.m0 o.m1 o.m2 o.m3 x0 x1 y0 y1 KM).mono ?_); rintro _ w1 ⟨rfl, I1, C1⟩))
        have O1 := C1.row HU.o (by omega)
        have P1 := C1.row HU.f (by omega)
        have qq5 := O1.cell 5
        have qq7 := O1.cell 7
        have rr0 := P1.cell 0
        have rr1 := P1.cell 1
        have rr2 := P1.cell 2
        simp at qq5 qq7 rr0 rr1 rr2
        have CC : Chg (fun k => k = g1 ∨ k = g2) w w1 := (HU.chg.mono fun _ _ h => h.elim).trans (C1.mono fun _ _ h => .inl h)
        have zq : 0 ≤ f.z ∧ f.z ≤ 16777215 := HQ.out.2.2.2.2.1
        cases hd : o.deep
        · have e : ZZ = Z := by rw [HZZ.out, hd]; rfl
          rw [hd] at qq5
          subst e
          go_wp2
          go_ret
          exact ⟨rfl, by rw [HC1.out]; exact I1, CC⟩
        · rw [hd] at qq5
          cases hk : o.keep
          · have e : ZZ = Z := by rw [HZZ.out, hd, hk]; rfl
            rw [hk] at qq7
            subst e
            go_wp2
            go_ret
            exact ⟨rfl, by rw [HC1.out]; exact I1, CC⟩
          · have e : ZZ = putZ W H Z f.x f.y f.z := by rw [HZZ.out, hd, hk]; rfl
            rw [hk] at qq7
            subst e
            go_wp2_with (first
              | (go_at_call 43; (with_reducible refine (rdeep_img I1 f.x f.y f.z x0 x1 y0 y1 zq).mono ?_); rintro _ w2 ⟨rfl, I2, C2⟩))
            go_ret
            exact ⟨rfl, by rw [HC1.out]; exact I2, CC.trans (C2.mono fun _ _ h => .inr h)⟩
end Go.Proofs.Ytdbbeggenbhbfaa
