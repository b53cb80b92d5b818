/- The walk of layer 25 (frag): a fragment comes. Conditions: the image may be; 64 bits. -/
import Derived.Test.YtdbbeggenbhbfaaFragB
namespace Go.Proofs.Ytdbbeggenbhbfaa
set_option linter.unusedVariables false
set_option linter.unusedSimpArgs false
open Go.RowKit
/-- The color that is put. -/
def kol (o : OpsP) (W H : Int) (C : List Int) (x y s a : Int) (f : Int → Int) : Int := if o.mix then blv o.sf o.df s (gotC f W H C x y) a else s
def ref? (o : OpsP) (f : FrP) (W H : Int) (Z : List Int) : Bool := refB o.cut (o.has f) (decide (inB W H f.x f.y)) o.deep (o.pass f W H Z)
/-- Is it taken? -/
def oneB (o : OpsP) (f : FrP) (W H : Int) (Z : List Int) : Bool := decide o.right && decide f.fits && !(ref? o f W H Z)
def FrP.a (f : FrP) : Int := Go.Proofs.Ytdbbeggenbhbfaa.cov f.c3 f.cov
def oneC (o : OpsP) (f : FrP) (W H : Int) (C Z : List Int) : List Int :=
  if oneB o f W H Z then putC W H C f.x f.y (kol o W H C f.x f.y f.c0 f.a up0) (kol o W H C f.x f.y f.c1 f.a up1) (kol o W H C f.x f.y f.c2 f.a up2) (kol o W H C f.x f.y f.a f.a up3) o.m0 o.m1 o.m2 o.m3 else C
def oneZ (o : OpsP) (f : FrP) (W H : Int) (Z : List Int) : List Int := if oneB o f W H Z && (o.deep && o.keep) then putZ W H Z f.x f.y f.z else Z
theorem FrP.fits.may {f : FrP} (h : f.fits) : May f.c0 f.c1 f.c2 f.a := by
  obtain ⟨⟨a0, a1⟩, ⟨b0, b1⟩, ⟨c0, c1⟩, d, e, k0, k1⟩ := h
  have := cov_01 d (by omega : 0 ≤ f.cov) k1
  exact ⟨a0, a1, b0, b1, c0, c1, this.1, by show Go.Proofs.Ytdbbeggenbhbfaa.cov f.c3 f.cov ≤ 255; omega⟩
theorem got_may (W H : Int) (C : List Int) (x y : Int) : May (gotC up0 W H C x y) (gotC up1 W H C x y) (gotC up2 W H C x y) (gotC up3 W H C x y) := by
  unfold gotC
  split
  · exact up_may _
  · exact ⟨by decide, by decide, by decide, by decide, by decide, by decide, by decide, by decide⟩
theorem kol_01 {o : OpsP} (h : o.right) {s d a : Int} (hs : 0 ≤ s ∧ s ≤ 255) (ha : 0 ≤ a ∧ a ≤ 255) (hd : 0 ≤ d ∧ d ≤ 255) : 0 ≤ (if o.mix then blv o.sf o.df s d a else s) ∧ (if o.mix then blv o.sf o.df s d a else s) ≤ 255 := by
  split
  · exact blv_01 h.2.1.1 h.2.1.2 h.2.2.1 h.2.2.2 hs hd ha
  · exact hs
theorem kol_may {o : OpsP} {f : FrP} (h : o.right) (hf : f.fits) (W H : Int) (C : List Int) : May (kol o W H C f.x f.y f.c0 f.a up0) (kol o W H C f.x f.y f.c1 f.a up1) (kol o W H C f.x f.y f.c2 f.a up2) (kol o W H C f.x f.y f.a f.a up3) := by
  have m := hf.may
  have g := got_may W H C f.x f.y
  have q0 := kol_01 h m.at0 m.at3 g.at0
  have q1 := kol_01 h m.at1 m.at3 g.at1
  have q2 := kol_01 h m.at2 m.at3 g.at2
  have q3 := kol_01 h m.at3 m.at3 g.at3
  exact ⟨q0.1, q0.2, q1.1, q1.2, q2.1, q2.2, q3.1, q3.2⟩
abbrev PutsB (bm g1 k1 g2 k2 : Nat) (W H : Int) (C Z : List Int) (v : Value) (w : World) (e : Ending) (w' : World) : Prop := Puts bm g1 k1 g2 k2 W H C Z (fun k => k = g1 ∨ k = g2) v w e w'
theorem puts_same {bm g1 k1 g2 k2 : Nat} {W H : Int} {C Z : List Int} {b : Bool} {v : Value} {w w' : World} (hv : v = .bool b) (hI : Img w bm g1 k1 g2 k2 W H C Z) (hc : Chg (fun _ => False) w w') : PutsB bm g1 k1 g2 k2 W H C Z (.bool b) w (.returned v) w' :=
  ⟨by rw [hv], hI.chg hc id id id, hc.mono fun _ _ h => h.elim⟩
/-- What stands when the color is known. -/
structure Hue (w wx : World) (bm g1 k1 g2 k2 : Nat) (W H : Int) (C Z : List Int) (o : OpsP) (f : FrP) (pc : Nat) (a b c d : Int) : Prop where
  im : Img wx bm g1 k1 g2 k2 W H C Z
  o : Row wx w.heap.size #[.bool o.cut, .int .i64 o.x0, .int .i64 o.y0, .int .i64 o.x1, .int .i64 o.y1, .bool o.deep, .int .i64 o.fn, .bool o.keep, .bool o.mix, .int .i64 o.sf, .int .i64 o.df, .bool o.m0, .bool o.m1, .bool o.m2, .bool o.m3] 64
  f : Row wx (w.heap.size + 1) #[.int .i64 f.x, .int .i64 f.y, .int .i64 f.z, .int .i64 f.c0, .int .i64 f.c1, .int .i64 f.c2, .int .i64 f.c3, .int .i64 f.cov] 66
  c : Row wx pc #[.int .i64 a, .int .i64 b, .int .i64 c, .int .i64 d] 23
  lt : bm < w.heap.size ∧ g1 < w.heap.size ∧ g2 < w.heap.size ∧ w.heap.size + 1 < pc
  chg : Chg (fun _ => False) w wx
set_option maxRecDepth 100000 in
set_option maxHeartbeats 8000000 in
theorem one_any {w : World} {bm g1 k1 g2 k2 : Nat} {W H : Int} {C Z : List Int} (hI : Img w bm g1 k1 g2 k2 W H C Z) (o : OpsP) (f : FrP) (ho : o.ok) (hf : f.ok) :
    Calls Try.prog 57 #[.pointer (some ⟨bm, 0, none⟩), o.v, f.v] w (PutsB bm g1 k1 g2 k2 W H (oneC o f W H C Z) (oneZ o f W H Z) (.bool (oneB o f W H Z)) w) := by
  have R1 := Lib.hid (fun w => ops_right o ho w)
  have F1 := Lib.hid (fun w => fr_fits f hf w)
  by_cases hr : o.right
  case neg =>
    have e : oneB o f W H Z = false := by simp [oneB, hr]
    unfold oneC oneZ
    rw [e]
    simp only [hr, decide_false] at R1
    clear e hr
    go_enter Try.func57, Try.ntmps57
    go_wp2_with (first | (go_at_call 50; (with_reducible refine (R1.out _).mono ?_); rintro _ _ ⟨rfl, X_, rfl⟩))
    go_ret
    exact puts_same rfl hI (by (repeat (first | exact Chg.refl | with_reducible refine Chg.drew ?_ | with_reducible refine Chg.ext ?_ _ | with_reducible refine Chg.alloc ?_ _ | (with_reducible refine Chg.setCell ?_ (fun hlt_ => absurd hlt_ (by first | omega | (simp; omega))) _))))
  by_cases hq : f.fits
  case neg =>
    have e : oneB o f W H Z = false := by simp [oneB, hq]
    unfold oneC oneZ
    rw [e]
    simp only [hr, decide_true] at R1
    simp only [hq, decide_false] at F1
    clear e hr hq
    go_enter Try.func57, Try.ntmps57
    go_wp2_with (first | (go_at_call 50; (with_reducible refine (R1.out _).mono ?_); rintro _ _ ⟨rfl, X_, rfl⟩) | (go_at_call 52; (with_reducible refine (F1.out _).mono ?_); rintro _ _ ⟨rfl, X_, rfl⟩))
    go_ret
    exact puts_same rfl hI (by (repeat (first | exact Chg.refl | with_reducible refine Chg.drew ?_ | with_reducible refine Chg.ext ?_ _ | with_reducible refine Chg.alloc ?_ _ | (with_reducible refine Chg.setCell ?_ (fun hlt_ => absurd hlt_ (by first | omega | (simp; omega))) _))))
  simp only [hr, decide_true] at R1
  simp only [hq, decide_true] at F1
  have HR := Lib.hid hr
  have HQ := Lib.hid hq
  have RF := Lib.hid (fun (w' : World) (h : Img w' bm g1 k1 g2 k2 W H C Z) => refused_any h o f ho hf)
  have e0 : oneB o f W H Z = !(ref? o f W H Z) := by simp [oneB, hr, hq]
  change Hid (∀ w' (h : Img w' bm g1 k1 g2 k2 W H C Z), Calls Try.prog 75 _ _ (Ret (.bool (ref? o f W H Z)) w')) at RF
  unfold oneC oneZ
  rw [e0]
  clear e0 hr hq
  cases hb : ref? o f W H Z
  case true =>
    rw [hb] at RF
    clear hb
    go_enter Try.func57, Try.ntmps57
    go_wp2_with (first
      | (go_at_call 50; (with_reducible refine (R1.out _).mono ?_); rintro _ _ ⟨rfl, X_, rfl⟩)
      | (go_at_call 52; (with_reducible refine (F1.out _).mono ?_); rintro _ _ ⟨rfl, X_, rfl⟩)
      | (go_at_call 75; (with_reducible refine (RF.out _ ?_).mono ?_); (repeat (first | assumption | with_reducible refine Img.ext ?_ _ | with_reducible refine Img.alloc ?_ _ | with_reducible refine Img.drew ?_)); rintro _ _ ⟨rfl, X_, rfl⟩))
    go_ret
    exact puts_same rfl hI (by (repeat (first | exact Chg.refl | with_reducible refine Chg.drew ?_ | with_reducible refine Chg.ext ?_ _ | with_reducible refine Chg.alloc ?_ _ | (with_reducible refine Chg.setCell ?_ (fun hlt_ => absurd hlt_ (by first | omega | (simp; omega))) _))))
  case false =>
    rw [hb] at RF
    clear hb
    simp only [Bool.not_false, if_true, Bool.true_and]
    obtain ⟨ZZ, hZZ⟩ : ∃ ZZ, ZZ = (if (o.deep && o.keep) = true then putZ W H Z f.x f.y f.z else Z) := ⟨_, rfl⟩
    have HZZ := Lib.hid hZZ
    rw [← hZZ]
    clear hZZ
    obtain ⟨x0, x1⟩ := hf.x
    obtain ⟨y0, y1⟩ := hf.y
    have GA := Lib.hid (fun (w' : World) (h1 : Rd w' (sl g1 C.length k1) C) (h2 : Rd w' (sl g2 C.length k2) Z) => get_is W H _ _ C Z f.x f.y w' h1 h2 hI.ok x0 x1 y0 y1)
    have CA := Lib.hid (show ∀ w', Calls Try.prog 23 #[C4 f.c0 f.c1 f.c2 f.c3, .int .i64 f.cov] w' (Ret (C4 f.c0 f.c1 f.c2 f.a) w') from fun w' => cover_any f.c0 f.c1 f.c2 f.c3 f.cov HQ.out.2.2.2.1 (by have := HQ.out.2.2.2.2.2.1; omega) HQ.out.2.2.2.2.2.2 w')
    have BA := Lib.hid (fun w' => blend_any o.sf o.df HR.out.2.1.1 HR.out.2.1.2 HR.out.2.2.1 HR.out.2.2.2 f.c0 f.c1 f.c2 f.a _ _ _ _ HQ.out.may (got_may W H C f.x f.y) w')
    obtain ⟨RC, RZ⟩ := hI.rds
    have lm := hI.row.lt
    have l1 := hI.c.lt
    have l2 := hI.z.lt
    have lm' : bm ≤ w.heap.size := by omega
    have c0 := hI.row.cell 0
    have c1 := hI.row.cell 1
    have c2 := hI.row.cell 2
    have c3 := hI.row.cell 3
    simp at c0 c1 c2 c3
    go_enter Try.func57, Try.ntmps57
    go_upto_if 31 with (first
      | (go_at_call 50; (with_reducible refine (R1.out _).mono ?_); rintro _ _ ⟨rfl, X_, rfl⟩)
      | (go_at_call 52; (with_reducible refine (F1.out _).mono ?_); rintro _ _ ⟨rfl, X_, rfl⟩)
      | (go_at_call 75; (with_reducible refine (RF.out _ ?_).mono ?_); (repeat (first | assumption | with_reducible refine Img.ext ?_ _ | with_reducible refine Img.alloc ?_ _ | with_reducible refine Img.drew ?_)); rintro _ _ ⟨rfl, X_, rfl⟩)
      | (go_at_call 23; (with_reducible refine (CA.out _).mono ?_); rintro _ _ ⟨rfl, X_, rfl⟩))
    go_cut [7] (fun t7 wx => ∃ pc, t7 = .pointer (some ⟨pc, 0, none⟩) ∧ Hue w wx bm g1 k1 g2 k2 W H C Z o f pc (kol o W H C f.x f.y f.c0 f.a up0) (kol o W H C f.x f.y f.c1 f.a up1) (kol o W H C f.x f.y f.c2 f.a up2) (kol o W H C f.x f.y f.a f.a up3))
    case first =>
      cases hmix : o.mix
      · go_wp2
        go_meet
        refine ⟨_, rfl, ?_⟩
        simp only [kol, hmix, Bool.false_eq_true, if_false]
        exact ⟨by (repeat (first | assumption | with_reducible refine Img.ext ?_ _ | with_reducible refine Img.alloc ?_ _ | with_reducible refine Img.drew ?_)), by rw [hmix]; (repeat (first | assumption | with_reducible refine Row.ext ?_ _ | with_reducible refine row_drew ?_ | (with_reducible refine row_last ?_; first | rfl | (simp; done)) | with_reducible refine Row.alloc ?_ _)), by (repeat (first | assumption | with_reducible refine Row.ext ?_ _ | with_reducible refine row_drew ?_ | (with_reducible refine row_last ?_; first | rfl | (simp; done)) | with_reducible refine Row.alloc ?_ _)), by (repeat (first | assumption | with_reducible refine Row.ext ?_ _ | with_reducible refine row_drew ?_ | (with_reducible refine row_last ?_; first | rfl | (simp; done)) | with_reducible refine Row.alloc ?_ _)), by omega, by (repeat (first | exact Chg.refl | with_reducible refine Chg.drew ?_ | with_reducible refine Chg.ext ?_ _ | with_reducible refine Chg.alloc ?_ _ | (with_reducible refine Chg.setCell ?_ (fun hlt_ => absurd hlt_ (by first | omega | (simp; omega))) _)))⟩
      · go_wp2
        refine wp_region_mix (by kernel_rfl) ?_
        repeat (first | (refine mix_skip rfl ?_; simp only [List.nil_append, List.cons_append]) | (refine mix_ncheck rfl rfl rfl ?_; simp only [Act.put, List.setIfInBounds_toArray, List.set_cons_zero, List.set_cons_succ, List.nil_append, List.cons_append]) | (refine mix_calm rfl rfl ?_; intro K_ hK_; go_big_quiet_op; go_big_quiet_on; simp only [List.nil_append, List.cons_append]) | (apply mix_call rfl; (intro X_; go_simp; go_at_call 37; with_reducible refine Calls.calm_ret (GA.out _ ?_ ?_); (repeat (first | assumption | with_reducible refine Rd.ext ?_ _ | with_reducible refine Rd.alloc ?_ _ | with_reducible refine Rd.drew ?_)); (repeat (first | assumption | with_reducible refine Rd.ext ?_ _ | with_reducible refine Rd.alloc ?_ _ | with_reducible refine Rd.drew ?_))); simp only [Act.put, List.setIfInBounds_toArray, List.set_cons_zero, List.set_cons_succ, List.nil_append, List.cons_append]) | (refine mix_alloc rfl rfl Try.zeroValue23 ?_; simp only [List.nil_append, List.cons_append]) | (refine mix_fill 12 rfl rfl rfl rfl (by simp [Value.oneCell']) (by kernel_rfl) (by simp) rfl rfl rfl rfl ?_; simp only [List.nil_append, List.cons_append]))
        refine mix_nil (mix_end1 12 13 ⟨by kernel_rfl, by kernel_rfl⟩ rfl rfl rfl rfl rfl (by kernel_rfl) ?_)
        intro X p q
        have c_q := q.cell
        have f_q := q.frozen
        have g_q := q.gap
        have b_q := Lib.hid q.block
        simp only [World.size_ext, World.size_alloc, World.size_drew, World.size_setCell] at g_q
        clear q
        simp only [Act.put, List.setIfInBounds_toArray, List.set_cons_zero, List.set_cons_succ, ptr]
        go_wp2_with (first | (go_at_call 21; (with_reducible refine (BA.out _).mono ?_); rintro _ _ ⟨rfl, X_, rfl⟩))
        go_meet
        refine ⟨_, rfl, ?_⟩
        simp only [kol, hmix, if_true]
        exact ⟨by (repeat (first | assumption | with_reducible refine Img.ext ?_ _ | with_reducible refine Img.alloc ?_ _ | with_reducible refine Img.drew ?_)), by rw [hmix]; (repeat (first | assumption | with_reducible refine Row.ext ?_ _ | with_reducible refine row_drew ?_ | (with_reducible refine row_last ?_; first | rfl | (simp; done)) | with_reducible refine Row.alloc ?_ _)), by (repeat (first | assumption | with_reducible refine Row.ext ?_ _ | with_reducible refine row_drew ?_ | (with_reducible refine row_last ?_; first | rfl | (simp; done)) | with_reducible refine Row.alloc ?_ _)), by (repeat (first | assumption | with_reducible refine Row.ext ?_ _ | with_reducible refine row_drew ?_ | (with_reducible refine row_last ?_; first | rfl | (simp; done)) | with_reducible refine Row.alloc ?_ _)), by omega, by (repeat (first | exact Chg.refl | with_reducible refine Chg.drew ?_ | with_reducible refine Chg.ext ?_ _ | with_reducible refine Chg.alloc ?_ _ | (with_reducible refine Chg.setCell ?_ (fun hlt_ => absurd hlt_ (by first | omega | (simp; omega))) _)))⟩
    case rest =>
      obtain ⟨pc, rfl, HU⟩ := hcut
      have lt := HU.lt
      have zc := HU.chg.size
      have zl := HU.c.lt
      have q0 := HU.o.cell 0
      have q1 := HU.o.cell 1
      have q2 := HU.o.cell 2
      have q3 := HU.o.cell 3
      have q4 := HU.o.cell 4
      have q5 := HU.o.cell 5
      have q6 := HU.o.cell 6
      have q7 := HU.o.cell 7
      have q8 := HU.o.cell 8
      have q9 := HU.o.cell 9
      have q10 := HU.o.cell 10
      have q11 := HU.o.cell 11
      have q12 := HU.o.cell 12
      have q13 := HU.o.cell 13
      have q14 := HU.o.cell 14
      have r0 := HU.f.cell 0
      have r1 := HU.f.cell 1
      have r2 := HU.f.cell 2
      have r3 := HU.f.cell 3
      have r4 := HU.f.cell 4
      have r5 := HU.f.cell 5
      have r6 := HU.f.cell 6
      have r7 := HU.f.cell 7
      have s0 := HU.c.cell 0
      have s1 := HU.c.cell 1
      have s2 := HU.c.cell 2
      have s3 := HU.c.cell 3
      simp at q0 q1 q2 q3 q4 q5 q6 q7 q8 q9 q10 q11 q12 q13 q14 r0 r1 r2 r3 r4 r5 r6 r7 s0 s1 s2 s3
      have KM := kol_may HR.out HQ.out W H C
      obtain ⟨wo, rfl⟩ : ∃ wo, wo = wc := ⟨_, rfl⟩
      go_upto_region 8 with (first
        | (go_at_call 40; (with_reducible refine (put_img HU.im f.x f.y _ _ _ _ o.m0 o.m1 o.m2 o.m3 x0 x1 y0 y1 KM).mono ?_); rintro _ w1 ⟨rfl, I1, C1⟩))
      have O1 := C1.row HU.o (by omega)
      have P1 := C1.row HU.f (by omega)
      have qq5 := O1.cell 5
      have qq7 := O1.cell 7
      have rr0 := P1.cell 0
      have rr1 := P1.cell 1
      have rr2 := P1.cell 2
      simp at qq5 qq7 rr0 rr1 rr2
      have CC : Chg (fun k => k = g1 ∨ k = g2) w w1 := (HU.chg.mono fun _ _ h => h.elim).trans (C1.mono fun _ _ h => .inl h)
      have zq : 0 ≤ f.z ∧ f.z ≤ 16777215 := HQ.out.2.2.2.2.1
      cases hd : o.deep
      · have e : ZZ = Z := by rw [HZZ.out, hd]; rfl
        rw [hd] at qq5
        subst e
        go_wp2
        go_ret
        exact ⟨rfl, I1, CC⟩
      · rw [hd] at qq5
        cases hk : o.keep
        · have e : ZZ = Z := by rw [HZZ.out, hd, hk]; rfl
          rw [hk] at qq7
          subst e
          go_wp2
          go_ret
          exact ⟨rfl, I1, CC⟩
        · have e : ZZ = putZ W H Z f.x f.y f.z := by rw [HZZ.out, hd, hk]; rfl
          rw [hk] at qq7
          subst e
          go_wp2_with (first
            | (go_at_call 41; (with_reducible refine (deep_img I1 f.x f.y f.z x0 x1 y0 y1 zq).mono ?_); rintro _ w2 ⟨rfl, I2, C2⟩))
          go_ret
          exact ⟨rfl, I2, CC.trans (C2.mono fun _ _ h => .inr h)⟩
end Go.Proofs.Ytdbbeggenbhbfaa
