/- The walk of the reference's Clear (layer 23): any rectangle, whatever is cleared. Conditions: the image may be; the color and the depth may be. -/
import Derived.Test.YthcjfanigfgckaaClrA
import Derived.Test.YthcjfanigfgckaaStoreQ
namespace Go.Proofs.Ythcjfanigfgckaa
set_option linter.unusedVariables false
set_option linter.unusedSimpArgs false
open Go.RowKit
theorem Chg.bothE {p : Nat → Prop} {w w1 : World} (C : Chg p w w1) (hs : w1.heap.size = w.heap.size) (X : Xt) : Chg p (w.ext X) (w1.ext X) :=
  ⟨C.os, C.tape, C.output, by simp [hs], fun k hk hp => by
    simp only [World.ext, Array.getElem?_append, hs]
    split
    · exact C.block k (by assumption) hp
    · rfl⟩
set_option maxRecDepth 100000 in
set_option maxHeartbeats 4000000 in
theorem rclear (W H : Int) (c z : Value) (C Z : List Int) (x0 y0 x1 y1 what p0 p1 p2 p3 far : Int) (m0 m1 m2 m3 : Bool) (w : World) (hc : Rd w c C) (hz : Rd w z Z) (h : ImOk W H C Z) (f0 : 0 ≤ far) (f1 : far ≤ 16777215) (hm : May p0 p1 p2 p3) : Calls Try.prog 12 #[Im W H c z, R4 x0 y0 x1 y1, .int .i64 what, C4 p0 p1 p2 p3, .int .i64 far, M4 m0 m1 m2 m3] w (Copies W H (clr (colC W x0 y0 x1 y1 (bits .and .i64 what 1 == 1) p0 p1 p2 p3 m0 m1 m2 m3 C) C C.length) (clr (colZ W x0 y0 x1 y1 (bits .and .i64 what 2 == 2) far Z) Z C.length) w) := by
  have CP := Lib.hid (fun w hc hz => rcopy_is W H c z C Z w hc hz h)
  have HC := Lib.hid hc
  have HZ := Lib.hid hz
  have OK := Lib.hid h
  have HM := Lib.hid hm
  obtain ⟨o1, ho1⟩ : ∃ o, (bits .and .i64 what 1 == 1) = o := ⟨_, rfl⟩
  obtain ⟨o2, ho2⟩ : ∃ o, (bits .and .i64 what 2 == 2) = o := ⟨_, rfl⟩
  rw [ho1, ho2]
  obtain ⟨fC, hfC⟩ : ∃ f, colC W x0 y0 x1 y1 o1 p0 p1 p2 p3 m0 m1 m2 m3 C = f := ⟨_, rfl⟩
  obtain ⟨fZ, hfZ⟩ : ∃ f, colZ W x0 y0 x1 y1 o2 far Z = f := ⟨_, rfl⟩
  rw [hfC, hfZ]
  have FCy := Lib.hid (fun (i : Nat) (q : o1 = true ∧ hasP x0 y0 x1 y1 ((i : Int) % W) ((i : Int) / W)) => show fC i = mixN (elt C i) p0 p1 p2 p3 m0 m1 m2 m3 by rw [← hfC]; exact colC_yes q)
  have FCn := Lib.hid (fun (i : Nat) (q : ¬ (o1 = true ∧ hasP x0 y0 x1 y1 ((i : Int) % W) ((i : Int) / W))) => show fC i = elt C i by rw [← hfC]; exact colC_no q)
  have FZy := Lib.hid (fun (i : Nat) (q : o2 = true ∧ hasP x0 y0 x1 y1 ((i : Int) % W) ((i : Int) / W)) => show fZ i = far by rw [← hfZ]; exact colZ_yes q)
  have FZn := Lib.hid (fun (i : Nat) (q : ¬ (o2 = true ∧ hasP x0 y0 x1 y1 ((i : Int) % W) ((i : Int) / W))) => show fZ i = elt Z i by rw [← hfZ]; exact colZ_no q)
  have HO1 := Lib.hid ho1
  have HO2 := Lib.hid ho2
  clear hfC hfZ ho1 ho2 hm
  clear hc hz h
  go_enter Try.func12, Try.ntmps12
  go_upto_region 1 with fail
  refine wp_abs (F := fun w1 => Row w1 w.heap.size #[.int .i64 W, .int .i64 H, c, z] 24 ∧ Row w1 (w.heap.size + 1) #[.int .i64 x0, .int .i64 y0, .int .i64 x1, .int .i64 y1] 26 ∧ Row w1 (w.heap.size + 1 + 1) #[.int .i64 p0, .int .i64 p1, .int .i64 p2, .int .i64 p3] 28 ∧ Row w1 (w.heap.size + 1 + 1 + 1) #[.bool m0, .bool m1, .bool m2, .bool m3] 29 ∧ (∃ d, Row w1 (w.heap.size + 1 + 1 + 1 + 1) #[.int .i64 0, .int .i64 0, d, d] 24) ∧ ∃ X, w1 = w.ext X) ⟨by (repeat (first | assumption | with_reducible refine Row.ext ?_ _ | with_reducible refine row_drew ?_ | (with_reducible refine row_last ?_; first | rfl | (simp; done)) | with_reducible refine Row.alloc ?_ _)), by (repeat (first | assumption | with_reducible refine Row.ext ?_ _ | with_reducible refine row_drew ?_ | (with_reducible refine row_last ?_; first | rfl | (simp; done)) | with_reducible refine Row.alloc ?_ _)), by (repeat (first | assumption | with_reducible refine Row.ext ?_ _ | with_reducible refine row_drew ?_ | (with_reducible refine row_last ?_; first | rfl | (simp; done)) | with_reducible refine Row.alloc ?_ _)), by (repeat (first | assumption | with_reducible refine Row.ext ?_ _ | with_reducible refine row_drew ?_ | (with_reducible refine row_last ?_; first | rfl | (simp; done)) | with_reducible refine Row.alloc ?_ _)), ⟨_, by (repeat (first | assumption | with_reducible refine Row.ext ?_ _ | with_reducible refine row_drew ?_ | (with_reducible refine row_last ?_; first | rfl | (simp; done)) | with_reducible refine Row.alloc ?_ _))⟩, RowKit.Below.toExt (by (repeat (first | assumption | exact Below.refl _ _ | with_reducible refine Below.drew ?_ | with_reducible refine Below.ext ?_ (by first | exact Nat.le_refl _ | omega | (simp; done) | (simp; omega)) _ | with_reducible refine Below.alloc ?_ (by first | exact Nat.le_refl _ | omega | (simp; done) | (simp; omega)) _ | with_reducible refine Below.setCell ?_ (by first | exact Nat.le_refl _ | omega | (simp; done) | (simp; omega)) _)))⟩ ?_
  rintro w1 ⟨Ra, Rb, Rco, Rmk, ⟨d, Rc⟩, hX⟩
  have HRco := Lib.hid Rco
  have HRmk := Lib.hid Rmk
  have HRa := Lib.hid Ra
  have HRb := Lib.hid Rb
  have HRc := Lib.hid Rc
  have HX := Lib.hid hX
  have ca := Ra.cell
  have fa := Ra.frozen
  have la := Ra.lt
  obtain ⟨X0, hX0⟩ := hX
  have HC1 := Lib.hid (by rw [hX0]; exact HC.out.ext X0 : Rd w1 c C)
  have HZ1 := Lib.hid (by rw [hX0]; exact HZ.out.ext X0 : Rd w1 z Z)
  clear Ra Rb Rc Rco Rmk hX0
  go_upto_region 2 with (first | (go_at_call 8; (with_reducible refine (CP.out _ HC1.out HZ1.out).mono ?_); rintro _ _ ⟨g1, k1, g2, k2, rfl, ⟨XC, rfl⟩, A1, A2, b1, b2, ne⟩))
  have CH : Chg (fun b => b = w.heap.size) (w1.ext XC) (((((w1.setCell ⟨w.heap.size, 0, none⟩ (.int .i64 W)).setCell ⟨w.heap.size, 1, none⟩ (.int .i64 H)).setCell ⟨w.heap.size, 2, none⟩ (sl g1 C.length k1)).setCell ⟨w.heap.size, 3, none⟩ (sl g2 C.length k2)).ext XC) := Chg.bothE (((((Chg.one _ _ _ _).setCell (fun _ => rfl) _).setCell (fun _ => rfl) _).setCell (fun _ => rfl) _)) (by simp [World.setCell]) XC
  have RI := ((((HRa.out.set 0 (.int .i64 W)).set 1 (.int .i64 H)).set 2 (sl g1 C.length k1)).set 3 (sl g2 C.length k2)).ext XC
  have hg1 : g1 ≠ w.heap.size := by omega
  have hg2 : g2 ≠ w.heap.size := by omega
  have g1w : w.heap.size ≤ g1 := by omega
  have g2w : w.heap.size ≤ g2 := by omega
  have g1b : w.heap.size + 1 + 1 + 1 + 1 < g1 := by have := HRc.out.lt; omega
  have g2b : w.heap.size + 1 + 1 + 1 + 1 < g2 := by have := HRc.out.lt; omega
  refine wp_abs (F := fun w2 => Img w2 w.heap.size g1 k1 g2 k2 W H C Z ∧ Row w2 (w.heap.size + 1) #[.int .i64 x0, .int .i64 y0, .int .i64 x1, .int .i64 y1] 26 ∧ Row w2 (w.heap.size + 1 + 1) #[.int .i64 p0, .int .i64 p1, .int .i64 p2, .int .i64 p3] 28 ∧ Row w2 (w.heap.size + 1 + 1 + 1) #[.bool m0, .bool m1, .bool m2, .bool m3] 29 ∧ Row w2 (w.heap.size + 1 + 1 + 1 + 1) #[.int .i64 0, .int .i64 0, d, d] 24 ∧ ∃ X, w2 = w.ext X) ⟨⟨OK.out, by simpa using RI, A1.chg CH hg1, A2.chg CH hg2, hg1, hg2, ne⟩, CH.row (HRb.out.ext XC) (by omega), CH.row (HRco.out.ext XC) (by omega), CH.row (HRmk.out.ext XC) (by omega), CH.row (HRc.out.ext XC) (by omega), by obtain ⟨X0, hX0⟩ := HX.out; subst hX0; exact RowKit.Below.toExt (by (repeat (first | with_reducible assumption | with_reducible exact Below.refl _ _ | with_reducible refine Below.drew ?_ | with_reducible refine Below.ext ?_ (by first | exact Nat.le_refl _ | omega | (simp; done) | (simp; omega)) _ | with_reducible refine Below.alloc ?_ (by first | exact Nat.le_refl _ | omega | (simp; done) | (simp; omega)) _ | with_reducible refine Below.setCell ?_ (by first | exact Nat.le_refl _ | omega | (simp; done) | (simp; omega)) _)))⟩ ?_
  clear CH RI A1 A2 b1 b2 HRa HRb HRc HRco HRmk HX HC1 HZ1 ca fa la
  rintro w2 ⟨hI, hb, hco, hmk, hc2, hX⟩
  have HCO := Lib.hid hco
  have HMK := Lib.hid hmk
  clear hco hmk
  have HI := Lib.hid hI
  have HB := Lib.hid hb
  have HC2 := Lib.hid hc2
  have HX := Lib.hid hX
  clear hI hb hc2 hX
  go_upto_region 3 with fail
  go_loopw [13] (fun i wr => ∃ (j : Nat), j ≤ C.length ∧ i = .int .i64 j ∧ Hid (Img wr w.heap.size g1 k1 g2 k2 W H (clr fC C j) (clr fZ Z j)) ∧ Hid (Row wr (w.heap.size + 1) #[.int .i64 x0, .int .i64 y0, .int .i64 x1, .int .i64 y1] 26) ∧ Hid (Row wr (w.heap.size + 1 + 1) #[.int .i64 p0, .int .i64 p1, .int .i64 p2, .int .i64 p3] 28) ∧ Hid (Row wr (w.heap.size + 1 + 1 + 1) #[.bool m0, .bool m1, .bool m2, .bool m3] 29) ∧ Hid (Row wr (w.heap.size + 1 + 1 + 1 + 1) #[.int .i64 0, .int .i64 0, d, d] 24) ∧ Hid (∃ X, wr = w.ext X))
    (fun i _ => C.length - (intOf i).toNat)
  case atStart => exact ⟨0, by omega, rfl, Lib.hid (by simpa [clr_zero] using HI.out), HB, HCO, HMK, HC2, HX⟩
  case round =>
    clear HI HB HC2 HX HCO HMK
    obtain ⟨j, hj, rfl, hI, hB, hCo, hMk, hR, hX⟩ := hrel
    have ci := hI.out.row.cell
    have fi := hI.out.row.frozen
    have li := hI.out.row.lt
    have cb := hB.out.cell
    have fb := hB.out.frozen
    have lb := hB.out.lt
    have co := hCo.out.cell
    have fo := hCo.out.frozen
    have lo := hCo.out.lt
    have cm := hMk.out.cell
    have fm := hMk.out.frozen
    have lm := hMk.out.lt
    have hl20 : C.length ≤ 1048576 := OK.out.bd.2
    have hcl : (clr fC C j).length = C.length := clr_len hj
    rw [hcl] at ci
    have hb0 : (bits .and .i64 what 1 == 1) = o1 := HO1.out
    have hb1 : (bits .and .i64 what 2 == 2) = o2 := HO2.out
    by_cases hlt : j < C.length
    · have HJ := Lib.hid (show j + 1 ≤ C.length from hlt)
      have HLT := Lib.hid hlt
      have hji : (j : Int) < C.length := by omega
      have hzl := OK.out.same
      obtain ⟨hin, kth2⟩ := kth OK.out hlt
      have HIN := Lib.hid hin
      have KT := Lib.hid kth2
      have w0 : 1 ≤ W := OK.out.w0
      have wnz : (W == 0) = false := by simp; omega
      have x0' : 0 ≤ (j : Int) % W ∧ (j : Int) % W ≤ 1024 := by have := hin; have h1 := OK.out.w1; unfold inB at this; omega
      have y0' : 0 ≤ (j : Int) / W ∧ (j : Int) / W ≤ 1024 := by have := hin; have h1 := OK.out.h1; unfold inB at this; omega
      have HZL := Lib.hid (show j < Z.length by omega)
      clear hin kth2 hcl
      by_cases hh : hasP x0 y0 x1 y1 ((j : Int) % W) ((j : Int) / W)
      · have RH := Lib.hid (fun (wx : World) => decide_eq_true hh ▸ rrect_has x0 y0 x1 y1 ((j : Int) % W) ((j : Int) / W) wx)
        have HH := Lib.hid hh
        clear hh hzl
        -- the color
        go_upto_region 5 with fail
        refine wp_region_ext (by kernel_rfl) (by kernel_rfl) ?_
        repeat (go_big_quiet_step ((first | (go_at_call 23; with_reducible exact Calls.quiet_ret (RH.out _)))))
        refine wpQuiet_nil ?_
        intro _ hw_ext
        obtain ⟨X, hw_ext⟩ := hw_ext
        subst hw_ext
        cases o1
        · -- no color
          have ec : clr fC C (j + 1) = clr fC C j := clr_same HLT.out (FCn.out j fun q => by cases q.1)
          have EC := Lib.hid ec
          clear ec
          cases o2
          · have ez : clr fZ Z (j + 1) = clr fZ Z j := clr_same HZL.out (FZn.out j fun q => by cases q.1)
            have EZ := Lib.hid ez
            clear ez
            go_wp2
            go_roundw
            case measure => have := HJ.out; simp [intOf]; omega
            case rel => exact ⟨j + 1, HJ.out, by go_num, Lib.hid (by rw [EC.out, EZ.out]; exact hI.out.ext X), Lib.hid (hB.out.ext X), Lib.hid (hCo.out.ext X), Lib.hid (hMk.out.ext X), Lib.hid (hR.out.ext X), Lib.hid (by obtain ⟨X9, hX9⟩ := hX.out; rw [hX9]; exact ⟨_, World.ext_ext ..⟩)⟩
          · have zl : (clr fZ Z j).length = Z.length := clr_len (by have := HZL.out; omega)
            have z0 := hI.out.z.cell (i := j) (by rw [zl]; exact HZL.out)
            have fz := hI.out.z.frozen
            have lz := hI.out.z.lt
            have ez := FZy.out j ⟨rfl, HH.out⟩
            have EZ := Lib.hid ez
            clear zl ez
            go_wp2
            go_roundw
            case measure => have := HJ.out; simp [intOf]; omega
            case rel =>
              have CH := Chg.one wr g2 j (.int .i64 far)
              have q := (hI.out.setZ (i := j) (v := far) (by rw [clr_len (by have := HZL.out; omega)]; exact HZL.out) ⟨f0, f1⟩).ext X
              rw [← EZ.out, clr_next HZL.out, ← EC.out, EZ.out] at q
              have r1 := (CH.row hB.out (show ¬ w.heap.size + 1 = g2 by omega)).ext X
              have r2 := (CH.row hCo.out (show ¬ w.heap.size + 1 + 1 = g2 by omega)).ext X
              have r3 := (CH.row hMk.out (show ¬ w.heap.size + 1 + 1 + 1 = g2 by omega)).ext X
              have r4 := (CH.row hR.out (show ¬ w.heap.size + 1 + 1 + 1 + 1 = g2 by omega)).ext X
              obtain ⟨X9, hX9⟩ := hX.out
              subst hX9
              exact ⟨j + 1, HJ.out, by go_num, Lib.hid q, Lib.hid r1, Lib.hid r2, Lib.hid r3, Lib.hid r4, Lib.hid (RowKit.Below.toExt (by (repeat (first | with_reducible assumption | with_reducible exact Below.refl _ _ | with_reducible refine Below.drew ?_ | with_reducible refine Below.ext ?_ (by first | exact Nat.le_refl _ | omega | (simp; done) | (simp; omega)) _ | with_reducible refine Below.alloc ?_ (by first | exact Nat.le_refl _ | omega | (simp; done) | (simp; omega)) _ | with_reducible refine Below.setCell ?_ (by first | exact Nat.le_refl _ | omega | (simp; done) | (simp; omega)) _))))⟩
        · -- the color, by Put
          have PX := Lib.hid (fun (wx : World) (h : Img wx w.heap.size g1 k1 g2 k2 W H (clr fC C j) (clr fZ Z j)) => rput_img h ((j : Int) % W) ((j : Int) / W) p0 p1 p2 p3 m0 m1 m2 m3 (by omega) (by omega) (by omega) (by omega) HM.out)
          have ep : putC W H (clr fC C j) ((j : Int) % W) ((j : Int) / W) p0 p1 p2 p3 m0 m1 m2 m3 = clr fC C (j + 1) := by
            unfold putC
            rw [if_pos HIN.out]
            rw [KT.out, Int.toNat_natCast, clr_at HLT.out, ← FCy.out j ⟨rfl, HH.out⟩, clr_next HLT.out]
          have EP := Lib.hid ep
          clear ep
          have hsz9 : w.heap.size ≤ wr.heap.size := by obtain ⟨X9, hX9⟩ := hX.out; rw [hX9]; simp
          go_upto_region 7 with fail
          refine wp_region_ext_tail 10 (by kernel_rfl) (by kernel_rfl) ?_
          simp only [List.take_succ_cons, List.take_zero, List.drop_succ_cons, List.drop_zero]
          repeat (go_big_quiet_step ((fail)))
          refine wpQuiet_nil ?_
          intro _ hw_ext
          obtain ⟨XT, hw_ext⟩ := hw_ext
          subst hw_ext
          go_wp2_with fail
          refine (PX.out _ (by repeat (first | with_reducible exact hI.out | with_reducible refine Img.ext ?_ _))).mono ?_
          rintro _ w7 ⟨rfl, I7, C7⟩
          rw [EP.out] at I7
          have B7 := C7.row ((hB.out.ext X).ext XT) (show ¬ w.heap.size + 1 = g1 by omega)
          have Co7 := C7.row ((hCo.out.ext X).ext XT) (show ¬ w.heap.size + 1 + 1 = g1 by omega)
          have Mk7 := C7.row ((hMk.out.ext X).ext XT) (show ¬ w.heap.size + 1 + 1 + 1 = g1 by omega)
          have R7 := C7.row ((hR.out.ext X).ext XT) (show ¬ w.heap.size + 1 + 1 + 1 + 1 = g1 by omega)
          have X7 : ∃ X, w7 = w.ext X := by
            have hb : Below w.heap.size w wr := by obtain ⟨X9, hX9⟩ := hX.out; rw [hX9]; exact (Below.refl _ _).ext (Nat.le_refl _) X9
            exact (((hb.ext hsz9 X).ext (by simp; omega) XT).trans (C7.below (fun k hk e => by have e' : k = g1 := e; omega) (by simp; omega))).toExt
          have HI7 := Lib.hid I7
          have HB7 := Lib.hid B7
          have HCo7 := Lib.hid Co7
          have HMk7 := Lib.hid Mk7
          have HR7 := Lib.hid R7
          have HX7 := Lib.hid X7
          have cl2 : (clr fC C (j + 1)).length = C.length := clr_len HJ.out
          have RM := I7.row
          rw [cl2] at RM
          have ci7 := RM.cell
          have fi7 := RM.frozen
          have li7 := RM.lt
          clear I7 B7 Co7 Mk7 R7 X7 C7 RM cl2 ci fi li cb fb lb co fo lo cm fm lm hI hB hCo hMk hR hX PX
          cases o2
          · have ez : clr fZ Z (j + 1) = clr fZ Z j := clr_same HZL.out (FZn.out j fun q => by cases q.1)
            have EZ := Lib.hid ez
            clear ez
            go_wp2
            go_roundw
            case measure => have := HJ.out; simp [intOf]; omega
            case rel => exact ⟨j + 1, HJ.out, by go_num, Lib.hid (by rw [EZ.out]; exact HI7.out), HB7, HCo7, HMk7, HR7, HX7⟩
          · have zl : (clr fZ Z j).length = Z.length := clr_len (by have := HZL.out; omega)
            have z0 := HI7.out.z.cell (i := j) (by rw [zl]; exact HZL.out)
            have fz := HI7.out.z.frozen
            have lz := HI7.out.z.lt
            have ez := FZy.out j ⟨rfl, HH.out⟩
            have EZ := Lib.hid ez
            clear zl ez
            go_wp2
            go_roundw
            case measure => have := HJ.out; simp [intOf]; omega
            case rel =>
              have CH := Chg.one w7 g2 j (.int .i64 far)
              have q := HI7.out.setZ (i := j) (v := far) (by rw [clr_len (by have := HZL.out; omega)]; exact HZL.out) ⟨f0, f1⟩
              rw [← EZ.out, clr_next HZL.out, EZ.out] at q
              have r1 := CH.row HB7.out (show ¬ w.heap.size + 1 = g2 by omega)
              have r2 := CH.row HCo7.out (show ¬ w.heap.size + 1 + 1 = g2 by omega)
              have r3 := CH.row HMk7.out (show ¬ w.heap.size + 1 + 1 + 1 = g2 by omega)
              have r4 := CH.row HR7.out (show ¬ w.heap.size + 1 + 1 + 1 + 1 = g2 by omega)
              obtain ⟨X9, hX9⟩ := HX7.out
              subst hX9
              exact ⟨j + 1, HJ.out, by go_num, Lib.hid q, Lib.hid r1, Lib.hid r2, Lib.hid r3, Lib.hid r4, Lib.hid (RowKit.Below.toExt (by (repeat (first | with_reducible assumption | with_reducible exact Below.refl _ _ | with_reducible refine Below.drew ?_ | with_reducible refine Below.ext ?_ (by first | exact Nat.le_refl _ | omega | (simp; done) | (simp; omega)) _ | with_reducible refine Below.alloc ?_ (by first | exact Nat.le_refl _ | omega | (simp; done) | (simp; omega)) _ | with_reducible refine Below.setCell ?_ (by first | exact Nat.le_refl _ | omega | (simp; done) | (simp; omega)) _))))⟩
      · have RH := Lib.hid (fun (wx : World) => decide_eq_false hh ▸ rrect_has x0 y0 x1 y1 ((j : Int) % W) ((j : Int) / W) wx)
        have ec : clr fC C (j + 1) = clr fC C j := clr_same hlt (FCn.out j fun q => hh q.2)
        have ez : clr fZ Z (j + 1) = clr fZ Z j := clr_same (by omega) (FZn.out j fun q => hh q.2)
        have EC := Lib.hid ec
        have EZ := Lib.hid ez
        clear hh hzl ec ez
        go_upto_region 5 with fail
        refine wp_region_ext (by kernel_rfl) (by kernel_rfl) ?_
        repeat (go_big_quiet_step ((first | (go_at_call 23; with_reducible exact Calls.quiet_ret (RH.out _)))))
        refine wpQuiet_nil ?_
        intro _ hw_ext
        obtain ⟨X, hw_ext⟩ := hw_ext
        subst hw_ext
        go_wp2
        go_roundw
        case measure => have := HJ.out; simp [intOf]; omega
        case rel => exact ⟨j + 1, HJ.out, by go_num, Lib.hid (by rw [EC.out, EZ.out]; exact hI.out.ext X), Lib.hid (hB.out.ext X), Lib.hid (hCo.out.ext X), Lib.hid (hMk.out.ext X), Lib.hid (hR.out.ext X), Lib.hid (by obtain ⟨X9, hX9⟩ := hX.out; rw [hX9]; exact ⟨_, World.ext_ext ..⟩)⟩
    · obtain rfl : j = C.length := by omega
      have cr := hR.out.cell
      have fr := hR.out.frozen
      have lr := hR.out.lt
      have A1 := Lib.hid hI.out.c
      have A2 := Lib.hid hI.out.z
      clear hl20 hb0 hb1
      go_wp2
      have CH : Chg (fun b => b = w.heap.size + 1 + 1 + 1 + 1) wr ((((wr.setCell ⟨w.heap.size + 1 + 1 + 1 + 1, 0, none⟩ (.int .i64 W)).setCell ⟨w.heap.size + 1 + 1 + 1 + 1, 1, none⟩ (.int .i64 H)).setCell ⟨w.heap.size + 1 + 1 + 1 + 1, 2, none⟩ (sl g1 C.length k1)).setCell ⟨w.heap.size + 1 + 1 + 1 + 1, 3, none⟩ (sl g2 C.length k2)) := (((Chg.one _ _ _ _).setCell (fun _ => rfl) _).setCell (fun _ => rfl) _).setCell (fun _ => rfl) _
      have RF : Row ((((wr.setCell ⟨w.heap.size + 1 + 1 + 1 + 1, 0, none⟩ (.int .i64 W)).setCell ⟨w.heap.size + 1 + 1 + 1 + 1, 1, none⟩ (.int .i64 H)).setCell ⟨w.heap.size + 1 + 1 + 1 + 1, 2, none⟩ (sl g1 C.length k1)).setCell ⟨w.heap.size + 1 + 1 + 1 + 1, 3, none⟩ (sl g2 C.length k2)) (w.heap.size + 1 + 1 + 1 + 1) #[.int .i64 W, .int .i64 H, sl g1 C.length k1, sl g2 C.length k2] 24 := by simpa using ((((hR.out.set 0 (.int .i64 W)).set 1 (.int .i64 H)).set 2 (sl g1 C.length k1)).set 3 (sl g2 C.length k2))
      have XF : ∃ X, ((((wr.setCell ⟨w.heap.size + 1 + 1 + 1 + 1, 0, none⟩ (.int .i64 W)).setCell ⟨w.heap.size + 1 + 1 + 1 + 1, 1, none⟩ (.int .i64 H)).setCell ⟨w.heap.size + 1 + 1 + 1 + 1, 2, none⟩ (sl g1 C.length k1)).setCell ⟨w.heap.size + 1 + 1 + 1 + 1, 3, none⟩ (sl g2 C.length k2)) = w.ext X := by
        obtain ⟨X9, hX9⟩ := hX.out
        subst hX9
        exact RowKit.Below.toExt (by (repeat (first | with_reducible assumption | with_reducible exact Below.refl _ _ | with_reducible refine Below.drew ?_ | with_reducible refine Below.ext ?_ (by first | exact Nat.le_refl _ | omega | (simp; done) | (simp; omega)) _ | with_reducible refine Below.alloc ?_ (by first | exact Nat.le_refl _ | omega | (simp; done) | (simp; omega)) _ | with_reducible refine Below.setCell ?_ (by first | exact Nat.le_refl _ | omega | (simp; done) | (simp; omega)) _)))
      generalize ((((wr.setCell ⟨w.heap.size + 1 + 1 + 1 + 1, 0, none⟩ (.int .i64 W)).setCell ⟨w.heap.size + 1 + 1 + 1 + 1, 1, none⟩ (.int .i64 H)).setCell ⟨w.heap.size + 1 + 1 + 1 + 1, 2, none⟩ (sl g1 C.length k1)).setCell ⟨w.heap.size + 1 + 1 + 1 + 1, 3, none⟩ (sl g2 C.length k2)) = wf at CH RF XF ⊢
      have q0 := RF.cell 0
      have q1 := RF.cell 1
      have q2 := RF.cell 2
      have q3 := RF.cell 3
      simp at q0 q1 q2 q3
      exact bodyPost_ret (v := Im W H (sl g1 C.length k1) (sl g2 C.length k2)) (by simp [results, Try.results12, go_sem, q0, q1, q2, q3]) rfl ⟨g1, k1, g2, k2, by rw [hcl], XF, A1.out.chg CH (by omega), A2.out.chg CH (show ¬ g2 = w.heap.size + 1 + 1 + 1 + 1 by omega), g1w, g2w, ne⟩
end Go.Proofs.Ythcjfanigfgckaa
