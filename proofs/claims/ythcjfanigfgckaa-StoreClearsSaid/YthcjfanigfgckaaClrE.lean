/- The walk of the program's Clear (layer 23). Conditions: the image may be; the color and the depth may be. -/
import Derived.Test.YthcjfanigfgckaaClrD
namespace Go.Proofs.Ythcjfanigfgckaa
set_option linter.unusedVariables false
set_option linter.unusedSimpArgs false
open Go.RowKit
set_option maxRecDepth 100000 in
set_option maxHeartbeats 4000000 in
theorem clear_is (W H : Int) (c z : Value) (C Z : List Int) (x0 y0 x1 y1 what p0 p1 p2 p3 far : Int) (m0 m1 m2 m3 : Bool) (w : World) (hc : Rd w c C) (hz : Rd w z Z) (h : ImOk W H C Z) (f0 : 0 ≤ far) (f1 : far ≤ 16777215) (hm : May p0 p1 p2 p3) : Calls Try.prog 10 #[Im W H c z, R4 x0 y0 x1 y1, .int .i64 what, C4 p0 p1 p2 p3, .int .i64 far, M4 m0 m1 m2 m3] w (Copies W H (clr (colC W x0 y0 x1 y1 (bits .and .i64 what 1 == 1) p0 p1 p2 p3 m0 m1 m2 m3 C) C C.length) (clr (colZ W x0 y0 x1 y1 (bits .and .i64 what 2 == 2) far Z) Z C.length) w) := by
  have CP := Lib.hid (fun w hc hz => copy_is W H c z C Z w hc hz h)
  have HC := Lib.hid hc
  have HZ := Lib.hid hz
  obtain ⟨N, rfl⟩ : ∃ N : Nat, W = N := ⟨W.toNat, by have := h.w0; omega⟩
  obtain ⟨M, rfl⟩ : ∃ M : Nat, H = M := ⟨H.toNat, by have := h.h0; omega⟩
  have OK := Lib.hid h
  have HM := Lib.hid hm
  have hlen : C.length = N * M := by have := h.c; exact_mod_cast this
  have hlez : Z.length = N * M := by rw [h.same, hlen]
  obtain ⟨o1, ho1⟩ : ∃ o, (bits .and .i64 what 1 == 1) = o := ⟨_, rfl⟩
  obtain ⟨o2, ho2⟩ : ∃ o, (bits .and .i64 what 2 == 2) = o := ⟨_, rfl⟩
  have wo1 : (bits .and .i64 what 1 != 0) = o1 := (what_1 what).trans ho1
  have wo2 : (bits .and .i64 what 2 != 0) = o2 := (what_2 what).trans ho2
  rw [ho1, ho2]
  obtain ⟨fC, hfC⟩ : ∃ f, colC N x0 y0 x1 y1 o1 p0 p1 p2 p3 m0 m1 m2 m3 C = f := ⟨_, rfl⟩
  obtain ⟨fZ, hfZ⟩ : ∃ f, colZ N x0 y0 x1 y1 o2 far Z = f := ⟨_, rfl⟩
  rw [hfC, hfZ]
  obtain ⟨qa, qb, qc, qd, hand, ac, cn, bd, dm, ne, hs⟩ := rect_share x0 y0 x1 y1 N M (by have := h.w0; omega) (by have := h.w1; omega) (by have := h.h0; omega) (by have := h.h1; omega)
  have hN : 1 ≤ N := by have := h.w0; omega
  have hN1 : N ≤ 1024 := by have := h.w1; omega
  have hM1 : M ≤ 1024 := by have := h.h1; omega
  have has : ∀ k, k < N * M → (hasP x0 y0 x1 y1 ((k : Int) % N) ((k : Int) / N) ↔ (qa ≤ k % N ∧ k % N < qc ∧ qb ≤ k / N ∧ k / N < qd)) := fun k hk => hs (k % N) (k / N) (Nat.mod_lt _ (by omega)) (Nat.div_lt_of_lt_mul hk)
  have BC : Band N M qa qb qc qd fC C := ⟨ac, cn, bd, dm, ne, hlen, fun k hk hn => by rw [← hfC]; exact colC_no fun q => hn ((has k (by omega)).1 q.2)⟩
  have BZ : Band N M qa qb qc qd fZ Z := ⟨ac, cn, bd, dm, ne, hlez, fun k hk hn => by rw [← hfZ]; exact colZ_no fun q => hn ((has k (by omega)).1 q.2)⟩
  have HS : ∀ y i, qb ≤ y → y < qd → i < qc - qa → y * N + qa + i < N * M ∧ hasP x0 y0 x1 y1 (((y * N + qa + i : Nat) : Int) % N) (((y * N + qa + i : Nat) : Int) / N) := fun y i h1 h2 h3 => by
    have ht := BC.top (y := y + 1) h2
    rw [Nat.succ_mul, hlen] at ht
    obtain ⟨e1, e2⟩ := row_of (N := N) (y := y) (r := qa + i) (k := y * N + qa + i) (by omega) (by omega)
    refine ⟨by omega, (has _ (by omega)).2 ?_⟩
    rw [e1, e2]; omega
  have SC1 := Lib.hid (fun (y i : Nat) (h1 : qb ≤ y) (h2 : y < qd) (h3 : i < qc - qa) (q : o1 = true) => show fC (y * N + qa + i) = mixN (elt C (y * N + qa + i)) p0 p1 p2 p3 m0 m1 m2 m3 by rw [← hfC]; exact colC_yes ⟨q, (HS y i h1 h2 h3).2⟩)
  have SC0 := Lib.hid (fun (k : Nat) (q : o1 = false) => show fC k = elt C k by rw [← hfC]; exact colC_no fun e => by rw [q] at e; cases e.1)
  have SZ1 := Lib.hid (fun (y i : Nat) (h1 : qb ≤ y) (h2 : y < qd) (h3 : i < qc - qa) (q : o2 = true) => show fZ (y * N + qa + i) = far by rw [← hfZ]; exact colZ_yes ⟨q, (HS y i h1 h2 h3).2⟩)
  have SZ0 := Lib.hid (fun (k : Nat) (q : o2 = false) => show fZ k = elt Z k by rw [← hfZ]; exact colZ_no fun e => by rw [q] at e; cases e.1)
  have IN := Lib.hid (fun (y i : Nat) (h1 : qb ≤ y) (h2 : y < qd) (h3 : i < qc - qa) => (HS y i h1 h2 h3).1)
  have AN := Lib.hid (fun w => show Calls Try.prog 21 #[R4 0 0 N M, R4 x0 y0 x1 y1] w (Ret (R4 qa qb qc qd) w) by
    have q := rect_andS ⟨0, 0, N, M⟩ ⟨x0, y0, x1, y1⟩ w
    rw [hand] at q
    exact q)
  have HBC := Lib.hid BC
  have HBZ := Lib.hid BZ
  have W1 := Lib.hid wo1
  have W2 := Lib.hid wo2
  have HL := Lib.hid hlen
  have HLZ := Lib.hid hlez
  have PUT := Lib.hid (fun (v : Int) (v0 : 0 ≤ v) (v1 : v ≤ 4294967295) => show bits .or .i64 (bits .andNot .i64 v (mk m0 m1 m2 m3)) (bits .and .i64 (pk p0 p1 p2 p3) (mk m0 m1 m2 m3)) = mixN v p0 p1 p2 p3 m0 m1 m2 m3 by
    have := put_bits (up_may v) hm m0 m1 m2 m3
    rwa [pk_up v0 v1] at this)
  clear hfC hfZ ho1 ho2 hm wo1 wo2 has hs hand HS BC BZ hlen hlez
  clear hc hz h
  go_enter Try.func10, Try.ntmps10
  go_upto_region 1 with fail
  refine wp_abs (F := fun w1 => Row w1 w.heap.size #[.int .i64 N, .int .i64 M, c, z] 24 ∧ Row w1 (w.heap.size + 1) #[.int .i64 x0, .int .i64 y0, .int .i64 x1, .int .i64 y1] 26 ∧ Row w1 (w.heap.size + 1 + 1) #[.int .i64 p0, .int .i64 p1, .int .i64 p2, .int .i64 p3] 28 ∧ Row w1 (w.heap.size + 1 + 1 + 1) #[.bool m0, .bool m1, .bool m2, .bool m3] 29 ∧ (∃ d, Row w1 (w.heap.size + 1 + 1 + 1 + 1) #[.int .i64 0, .int .i64 0, d, d] 24) ∧ ∃ X, w1 = w.ext X) ⟨by (repeat (first | assumption | with_reducible refine Row.ext ?_ _ | with_reducible refine row_drew ?_ | (with_reducible refine row_last ?_; first | rfl | (simp; done)) | with_reducible refine Row.alloc ?_ _)), by (repeat (first | assumption | with_reducible refine Row.ext ?_ _ | with_reducible refine row_drew ?_ | (with_reducible refine row_last ?_; first | rfl | (simp; done)) | with_reducible refine Row.alloc ?_ _)), by (repeat (first | assumption | with_reducible refine Row.ext ?_ _ | with_reducible refine row_drew ?_ | (with_reducible refine row_last ?_; first | rfl | (simp; done)) | with_reducible refine Row.alloc ?_ _)), by (repeat (first | assumption | with_reducible refine Row.ext ?_ _ | with_reducible refine row_drew ?_ | (with_reducible refine row_last ?_; first | rfl | (simp; done)) | with_reducible refine Row.alloc ?_ _)), ⟨_, by (repeat (first | assumption | with_reducible refine Row.ext ?_ _ | with_reducible refine row_drew ?_ | (with_reducible refine row_last ?_; first | rfl | (simp; done)) | with_reducible refine Row.alloc ?_ _))⟩, RowKit.Below.toExt (by (repeat (first | assumption | exact Below.refl _ _ | with_reducible refine Below.drew ?_ | with_reducible refine Below.ext ?_ (by first | exact Nat.le_refl _ | omega | (simp; done) | (simp; omega)) _ | with_reducible refine Below.alloc ?_ (by first | exact Nat.le_refl _ | omega | (simp; done) | (simp; omega)) _ | with_reducible refine Below.setCell ?_ (by first | exact Nat.le_refl _ | omega | (simp; done) | (simp; omega)) _)))⟩ ?_
  rintro w1 ⟨Ra, Rb, Rco, Rmk, ⟨d, Rc⟩, hX⟩
  have HRco := Lib.hid Rco
  have HRmk := Lib.hid Rmk
  have HRa := Lib.hid Ra
  have HRb := Lib.hid Rb
  have HRc := Lib.hid Rc
  have HX := Lib.hid hX
  have ca := Ra.cell
  have fa := Ra.frozen
  have la := Ra.lt
  obtain ⟨X0, hX0⟩ := hX
  have HC1 := Lib.hid (by rw [hX0]; exact HC.out.ext X0 : Rd w1 c C)
  have HZ1 := Lib.hid (by rw [hX0]; exact HZ.out.ext X0 : Rd w1 z Z)
  clear Ra Rb Rc Rco Rmk hX0
  go_cut [13] (fun t13 wx => ∃ qo g1 k1 g2 k2 : Nat, t13 = .pointer (some ⟨qo, 0, none⟩) ∧ Hid (Img wx qo g1 k1 g2 k2 N M C Z) ∧ Hid (Row wx w.heap.size #[.int .i64 N, .int .i64 M, c, z] 24) ∧ Hid (Row wx (w.heap.size + 1) #[.int .i64 x0, .int .i64 y0, .int .i64 x1, .int .i64 y1] 26) ∧ Hid (Row wx (w.heap.size + 1 + 1) #[.int .i64 p0, .int .i64 p1, .int .i64 p2, .int .i64 p3] 28) ∧ Hid (Row wx (w.heap.size + 1 + 1 + 1) #[.bool m0, .bool m1, .bool m2, .bool m3] 29) ∧ Hid (Row wx (w.heap.size + 1 + 1 + 1 + 1) #[.int .i64 0, .int .i64 0, d, d] 24) ∧ (w.heap.size + 1 + 1 + 1 + 1 < qo ∧ w.heap.size + 1 + 1 + 1 + 1 < g1 ∧ w.heap.size + 1 + 1 + 1 + 1 < g2) ∧ Hid (∃ X, wx = w.ext X))
  case first =>
    go_wp2_with (first | (go_at_call 9; (with_reducible refine (CP.out _ HC1.out HZ1.out).mono ?_); rintro _ _ ⟨g1, k1, g2, k2, rfl, ⟨XC, rfl⟩, A1, A2, b1, b2, ne⟩))
    go_meet
    have e1 := A1.lt
    have e2 := A2.lt
    have e3 := HRc.out.lt
    simp at b1 b2 e1 e2
    exact ⟨_, g1, k1, g2, k2, rfl, Lib.hid ⟨OK.out, row_last (by simp), A1.chg (p := fun _ => False) (Chg.refl.alloc _) id, A2.chg (p := fun _ => False) (Chg.refl.alloc _) id, by omega, by omega, ne⟩, Lib.hid ((HRa.out.ext XC).alloc _), Lib.hid ((HRb.out.ext XC).alloc _), Lib.hid ((HRco.out.ext XC).alloc _), Lib.hid ((HRmk.out.ext XC).alloc _), Lib.hid ((HRc.out.ext XC).alloc _), ⟨by omega, by omega, by omega⟩, Lib.hid (by obtain ⟨X9, hX9⟩ := HX.out; subst hX9; exact RowKit.Below.toExt (by (repeat (first | with_reducible assumption | with_reducible exact Below.refl _ _ | with_reducible refine Below.drew ?_ | with_reducible refine Below.ext ?_ (by first | exact Nat.le_refl _ | omega | (simp; done) | (simp; omega)) _ | with_reducible refine Below.alloc ?_ (by first | exact Nat.le_refl _ | omega | (simp; done) | (simp; omega)) _ | with_reducible refine Below.setCell ?_ (by first | exact Nat.le_refl _ | omega | (simp; done) | (simp; omega)) _))))⟩
  case rest =>
  obtain ⟨qo, g1, k1, g2, k2, rfl, hI, hRa, hRb, hRco, hRmk, hRc, ⟨lq, lg1, lg2⟩, hX2⟩ := hcut
  obtain ⟨w2, rfl⟩ : ∃ w2, w2 = wc := ⟨_, rfl⟩
  clear HRa HRb HRco HRmk HRc HX HC1 HZ1 ca fa la
  have ca := hRa.out.cell
  have fa := hRa.out.frozen
  have la := hRa.out.lt
  have cb := hRb.out.cell
  have fb := hRb.out.frozen
  have lb := hRb.out.lt
  go_upto_region 2 with fail
  refine wp_region_ext_tail 4 (by kernel_rfl) (by kernel_rfl) ?_
  simp only [List.take_succ_cons, List.take_zero, List.drop_succ_cons, List.drop_zero]
  repeat (go_big_quiet_step ((first | (go_at_call 15; with_reducible exact Calls.quiet_ret (cbox_is _ _ _ _ _)) | (go_at_call 21; with_reducible exact Calls.quiet_ret (AN.out _)))))
  refine wpQuiet_nil ?_
  intro _ hw_ext
  obtain ⟨X, hw_ext⟩ := hw_ext
  subst hw_ext
  go_upto_region 3 with fail
  have CH : Chg (fun b => b = w.heap.size + 1) w2 (((((w2.setCell ⟨w.heap.size + 1, 0, none⟩ (.int .i64 qa)).setCell ⟨w.heap.size + 1, 1, none⟩ (.int .i64 qb)).setCell ⟨w.heap.size + 1, 2, none⟩ (.int .i64 qc)).setCell ⟨w.heap.size + 1, 3, none⟩ (.int .i64 qd)).ext X) := ((((Chg.one _ _ _ _).setCell (fun _ => rfl) _).setCell (fun _ => rfl) _).setCell (fun _ => rfl) _).ext X
  have RF : Row (((((w2.setCell ⟨w.heap.size + 1, 0, none⟩ (.int .i64 qa)).setCell ⟨w.heap.size + 1, 1, none⟩ (.int .i64 qb)).setCell ⟨w.heap.size + 1, 2, none⟩ (.int .i64 qc)).setCell ⟨w.heap.size + 1, 3, none⟩ (.int .i64 qd)).ext X) (w.heap.size + 1) #[.int .i64 qa, .int .i64 qb, .int .i64 qc, .int .i64 qd] 26 := Row.ext (by simpa using ((((hRb.out.set 0 (.int .i64 qa)).set 1 (.int .i64 qb)).set 2 (.int .i64 qc)).set 3 (.int .i64 qd))) X
  have XF : ∃ Y, (((((w2.setCell ⟨w.heap.size + 1, 0, none⟩ (.int .i64 qa)).setCell ⟨w.heap.size + 1, 1, none⟩ (.int .i64 qb)).setCell ⟨w.heap.size + 1, 2, none⟩ (.int .i64 qc)).setCell ⟨w.heap.size + 1, 3, none⟩ (.int .i64 qd)).ext X) = w.ext Y := by
    obtain ⟨X9, hX9⟩ := hX2.out
    have B2 : RowKit.Below w.heap.size w w2 := by subst hX9; (repeat (first | with_reducible assumption | with_reducible exact Below.refl _ _ | with_reducible refine Below.drew ?_ | with_reducible refine Below.ext ?_ (by first | exact Nat.le_refl _ | omega | (simp; done) | (simp; omega)) _ | with_reducible refine Below.alloc ?_ (by first | exact Nat.le_refl _ | omega | (simp; done) | (simp; omega)) _ | with_reducible refine Below.setCell ?_ (by first | exact Nat.le_refl _ | omega | (simp; done) | (simp; omega)) _))
    exact (B2.trans (CH.below (B := w.heap.size) (fun k hk e => by have e' : k = w.heap.size + 1 := e; omega) B2.size)).toExt
  generalize (((((w2.setCell ⟨w.heap.size + 1, 0, none⟩ (.int .i64 qa)).setCell ⟨w.heap.size + 1, 1, none⟩ (.int .i64 qb)).setCell ⟨w.heap.size + 1, 2, none⟩ (.int .i64 qc)).setCell ⟨w.heap.size + 1, 3, none⟩ (.int .i64 qd)).ext X) = w3 at CH RF XF ⊢
  have HI := Lib.hid (hI.out.chg CH (show ¬ qo = w.heap.size + 1 by omega) (show ¬ g1 = w.heap.size + 1 by omega) (show ¬ g2 = w.heap.size + 1 by omega))
  have Ra := CH.row hRa.out (show ¬ w.heap.size = w.heap.size + 1 by omega)
  have Rco := CH.row hRco.out (show ¬ w.heap.size + 1 + 1 = w.heap.size + 1 by omega)
  have Rmk := CH.row hRmk.out (show ¬ w.heap.size + 1 + 1 + 1 = w.heap.size + 1 by omega)
  have HRc := Lib.hid (CH.row hRc.out (show ¬ w.heap.size + 1 + 1 + 1 + 1 = w.heap.size + 1 by omega))
  have HXF := Lib.hid XF
  have HRa := Lib.hid Ra
  have HRb := Lib.hid RF
  clear hI hRa hRb hRco hRmk hRc hX2 CH XF ca fa la cb fb lb
  have cb := RF.cell
  have lb := RF.lt
  have co := Rco.cell
  have lo := Rco.lt
  have cm := Rmk.cell
  have lm := Rmk.lt
  clear Ra Rco Rmk RF
  go_upto_region 6 with (first | (go_at_call 22; (with_reducible refine (bits_any m0 m1 m2 m3 _).mono ?_); rintro _ _ ⟨rfl, X_, rfl⟩) | (go_at_call 19; (with_reducible refine (pack_any _ _ _ _ HM.out _).mono ?_); rintro _ _ ⟨rfl, X_, rfl⟩))
  refine wp_abs (F := fun w4 => Img w4 qo g1 k1 g2 k2 N M C Z ∧ Row w4 w.heap.size #[.int .i64 N, .int .i64 M, c, z] 24 ∧ Row w4 (w.heap.size + 1) #[.int .i64 qa, .int .i64 qb, .int .i64 qc, .int .i64 qd] 26 ∧ Row w4 (w.heap.size + 1 + 1 + 1 + 1) #[.int .i64 0, .int .i64 0, d, d] 24 ∧ ∃ X, w4 = w.ext X) ⟨(HI.out.ext _).ext _, (HRa.out.ext _).ext _, (HRb.out.ext _).ext _, (HRc.out.ext _).ext _, by obtain ⟨X9, hX9⟩ := HXF.out; rw [hX9]; exact ⟨_, by rw [World.ext_ext, World.ext_ext]⟩⟩ ?_
  rintro w4 ⟨hI, ra, rb, rc, hX⟩
  clear HI HRa HRb HRc HXF cb lb co lo cm lm
  have NE := Lib.hid hI.n3
  have HI := Lib.hid hI
  have HRa := Lib.hid ra
  have HRb := Lib.hid rb
  have HRc := Lib.hid rc
  have HX := Lib.hid hX
  clear hI ra rb rc hX
  go_loopw [16] (fun t16 wr => ∃ y : Nat, qb ≤ y ∧ y ≤ qd ∧ t16 = .int .i64 y ∧ Hid (Img wr qo g1 k1 g2 k2 N M (clr fC C (y * N)) (clr fZ Z (y * N))) ∧ Hid (Row wr w.heap.size #[.int .i64 N, .int .i64 M, c, z] 24) ∧ Hid (Row wr (w.heap.size + 1) #[.int .i64 qa, .int .i64 qb, .int .i64 qc, .int .i64 qd] 26) ∧ Hid (Row wr (w.heap.size + 1 + 1 + 1 + 1) #[.int .i64 0, .int .i64 0, d, d] 24) ∧ Hid (∃ X, wr = w.ext X))
    (fun i _ => qd - (intOf i).toNat)
  case atStart => exact ⟨qb, Nat.le_refl _, bd, rfl, Lib.hid (by rw [← HBC.out.start, ← HBZ.out.start]; exact HI.out), HRa, HRb, HRc, HX⟩
  case round =>
    clear HI HRa HRb HRc HX
    obtain ⟨y, hy0, hy1, rfl, hI, hRa, hRb, hRc, hX⟩ := hrel
    have ca := hRa.out.cell
    have la := hRa.out.lt
    have cb := hRb.out.cell
    have lb := hRb.out.lt
    have hyd : y ≤ 1024 := by omega
    by_cases hlt : y < qd
    · have hlt' : (y : Int) < qd := by omega
      have hac := ne (by omega)
      obtain ⟨n, hn⟩ : ∃ n, qc - qa = n := ⟨_, rfl⟩
      have RI := hI.out.row
      have lC : (clr fC C (y * N)).length = C.length := clr_len (HBC.out.top hy1)
      have lZ : (clr fZ Z (y * N)).length = C.length := (clr_len (HBZ.out.top hy1)).trans (HLZ.out.trans HL.out.symm)
      have kC := hI.out.c.1
      have kZ := hI.out.z.1
      have top := HBC.out.top (y := y + 1) hlt
      have len20 : C.length ≤ 1048576 := OK.out.bd.2
      obtain ⟨b, hb⟩ : ∃ b : Nat, y * N = b := ⟨_, rfl⟩
      rw [Nat.succ_mul, hb] at top
      rw [hb] at lC lZ RI kC kZ
      have hbi : (y : Int) * (N : Int) = (b : Int) := by exact_mod_cast hb
      rw [lC] at RI kC
      rw [lZ] at kZ
      have ci := RI.cell
      have li := RI.lt
      obtain ⟨nC, hnC⟩ : ∃ nC, C.length = nC := ⟨_, rfl⟩
      rw [hnC] at ci kC kZ top len20
      clear RI lC lZ
      go_upto_region 8 with fail
      have s1 : (0 : Int) ≤ (b : Int) + qa := by omega
      have s2 : (b : Int) + qa ≤ (b : Int) + qc := by omega
      have s3 : (b : Int) + qc ≤ k1 := by omega
      have s4 : (b : Int) + qc ≤ k2 := by omega
      have s5 : ¬ k1 = b + qa := by omega
      have s6 : ¬ k2 = b + qa := by omega
      refine wp_region_ext (by kernel_rfl) (by kernel_rfl) ?_
      repeat (go_big_quiet_step ((fail)))
      refine wpQuiet_nil ?_
      intro _ hw_ext
      obtain ⟨X8, hw_ext⟩ := hw_ext
      subst hw_ext
      rw [show b + qc - (b + qa) = n by omega]
      go_upto_region 10 with fail
      refine wp_abs (F := fun w5 => w5 = wr.ext X8) rfl ?_
      rintro w5 h5
      have HI5 := Lib.hid (by rw [h5]; exact hI.out.ext X8 : Img w5 qo g1 k1 g2 k2 N M (clr fC C (y * N)) (clr fZ Z (y * N)))
      have HA5 := Lib.hid (by rw [h5]; exact hRa.out.ext X8 : Row w5 w.heap.size #[.int .i64 N, .int .i64 M, c, z] 24)
      have HB5 := Lib.hid (by rw [h5]; exact hRb.out.ext X8 : Row w5 (w.heap.size + 1) #[.int .i64 qa, .int .i64 qb, .int .i64 qc, .int .i64 qd] 26)
      have HR5 := Lib.hid (by rw [h5]; exact hRc.out.ext X8 : Row w5 (w.heap.size + 1 + 1 + 1 + 1) #[.int .i64 0, .int .i64 0, d, d] 24)
      have HX5 := Lib.hid (show ∃ X, w5 = w.ext X by obtain ⟨X9, hX9⟩ := hX.out; rw [h5, hX9]; exact ⟨_, World.ext_ext ..⟩)
      clear h5 hI hRa hRb hRc hX ca la cb lb ci li s1 s2 s3 s4 s5 s6
      go_loopw [76] (fun t76 wr => ∃ i : Nat, i ≤ n ∧ t76 = .int .i64 i ∧ Hid (Img wr qo g1 k1 g2 k2 N M (clr fC C (b + qa + i)) (clr fZ Z (b + qa + i))) ∧ Hid (Row wr w.heap.size #[.int .i64 N, .int .i64 M, c, z] 24) ∧ Hid (Row wr (w.heap.size + 1) #[.int .i64 qa, .int .i64 qb, .int .i64 qc, .int .i64 qd] 26) ∧ Hid (Row wr (w.heap.size + 1 + 1 + 1 + 1) #[.int .i64 0, .int .i64 0, d, d] 24) ∧ Hid (∃ X, wr = w.ext X))
        (fun t _ => n - (intOf t).toNat)
      case atStart =>
        have e1 := HBC.out.left hlt
        have e2 := HBZ.out.left hlt
        exact ⟨0, by omega, by go_num, Lib.hid (by rw [Nat.add_zero, ← hb, ← e1, ← e2]; exact HI5.out), HA5, HB5, HR5, HX5⟩
      case round =>
        clear HI5 HA5 HB5 HR5 HX5
        obtain ⟨i, hi, rfl, HI5, HA5, HB5, HR5, HX5⟩ := hrel
        by_cases hin : i < n
        · have hin' : (i : Int) < n := by omega
          have HJ := Lib.hid (show i + 1 ≤ n from hin)
          have hkt : b + qa + i < C.length := by omega
          have hkz : b + qa + i < Z.length := by have e1 := HL.out; have e2 := HLZ.out; omega
          have hw1 : (bits .and .i64 what 1 != 0) = o1 := W1.out
          have hw2 : (bits .and .i64 what 2 != 0) = o2 := W2.out
          cases o1
          · -- no color
            have ec : clr fC C (b + qa + i + 1) = clr fC C (b + qa + i) := clr_same hkt (SC0.out _ rfl)
            have HI5 := Lib.hid (by rw [ec]; exact HI5.out : Img wr qo g1 k1 g2 k2 N M (clr fC C (b + qa + i + 1)) (clr fZ Z (b + qa + i)))
            clear ec
            cases o2
            · -- no depth
              have ez : clr fZ Z (b + qa + i + 1) = clr fZ Z (b + qa + i) := clr_same (by omega) (SZ0.out _ rfl)
              have EZ := Lib.hid ez
              clear ez
              go_wp2
              go_roundw
              case measure => have := HJ.out; simp [intOf]; omega
              case rel => exact ⟨i + 1, HJ.out, by go_num, Lib.hid (by rw [← Nat.add_assoc, EZ.out]; exact HI5.out), HA5, HB5, HR5, HX5⟩
            · -- the depth
              have lz5 : (clr fZ Z (b + qa + i)).length = Z.length := clr_len (by omega)
              have z0 := HI5.out.z.cell (i := b + qa + i) (by rw [lz5]; omega)
              have fz := HI5.out.z.frozen
              have lz := HI5.out.z.lt
              have ez := SZ1.out y i hy0 hlt (by omega) rfl
              rw [hb] at ez
              have EZ := Lib.hid ez
              clear ez
              go_wp2
              go_roundw
              case measure => have := HJ.out; simp [intOf]; omega
              case rel =>
                have CH := Chg.one wr g2 (b + qa + i) (.int .i64 far)
                have q := HI5.out.setZ (i := b + qa + i) (v := far) (by rw [lz5]; omega) ⟨f0, f1⟩
                rw [← EZ.out, clr_next (by omega), EZ.out] at q
                have r1 := CH.row HA5.out (show ¬ w.heap.size = g2 by omega)
                have r2 := CH.row HB5.out (show ¬ w.heap.size + 1 = g2 by omega)
                have r3 := CH.row HR5.out (show ¬ w.heap.size + 1 + 1 + 1 + 1 = g2 by omega)
                have r4 : ∃ X, wr.setCell ⟨g2, b + qa + i, none⟩ (.int .i64 far) = w.ext X := by
                  obtain ⟨X9, hX9⟩ := HX5.out
                  have B5 : RowKit.Below w.heap.size w wr := by rw [hX9]; exact (RowKit.Below.refl _ _).ext (Nat.le_refl _) X9
                  exact (B5.trans (CH.below (B := w.heap.size) (fun k hk e => by have e' : k = g2 := e; omega) B5.size)).toExt
                exact ⟨i + 1, HJ.out, by go_num, Lib.hid (by rw [← Nat.add_assoc]; exact q), Lib.hid r1, Lib.hid r2, Lib.hid r3, Lib.hid r4⟩
          · -- the color
            have lc5 : (clr fC C (b + qa + i)).length = C.length := clr_len (by omega)
            have y0 := HI5.out.c.cell (i := b + qa + i) (by rw [lc5]; exact hkt)
            rw [clr_at hkt] at y0
            have fy := HI5.out.c.frozen
            have ly := HI5.out.c.lt
            have ec := SC1.out y i hy0 hlt (by omega) rfl
            rw [hb] at ec
            have vb := OK.out.cs (b + qa + i) hkt
            have pu := PUT.out _ vb.1 vb.2
            have mb := mixN_01 (elt C (b + qa + i)) p0 p1 p2 p3 m0 m1 m2 m3 HM.out
            rw [← ec] at pu mb
            obtain ⟨V, hV⟩ : ∃ V, fC (b + qa + i) = V := ⟨_, rfl⟩
            obtain ⟨v, hv⟩ : ∃ v, elt C (b + qa + i) = v := ⟨_, rfl⟩
            rw [hV] at pu mb
            rw [hv] at y0 pu
            have HV := Lib.hid hV
            have HMB := Lib.hid mb
            clear ec vb mb hV hv
            go_upto_region 14 with fail
            have CH := Chg.one wr g1 (b + qa + i) (.int .i64 V)
            have q := HI5.out.setC (i := b + qa + i) (v := V) (by rw [lc5]; exact hkt) HMB.out
            rw [← HV.out, clr_next hkt, HV.out] at q
            have r1 := Lib.hid (CH.row HA5.out (show ¬ w.heap.size = g1 by omega))
            have r2 := Lib.hid (CH.row HB5.out (show ¬ w.heap.size + 1 = g1 by omega))
            have r3 := Lib.hid (CH.row HR5.out (show ¬ w.heap.size + 1 + 1 + 1 + 1 = g1 by omega))
            have r4 : ∃ X, wr.setCell ⟨g1, b + qa + i, none⟩ (.int .i64 V) = w.ext X := by
              obtain ⟨X9, hX9⟩ := HX5.out
              have B5 : RowKit.Below w.heap.size w wr := by rw [hX9]; exact (RowKit.Below.refl _ _).ext (Nat.le_refl _) X9
              exact (B5.trans (CH.below (B := w.heap.size) (fun k hk e => by have e' : k = g1 := e; omega) B5.size)).toExt
            clear HI5 HA5 HB5 HR5 HX5 y0 fy ly pu CH lc5
            have HI5 := Lib.hid q
            have HA5 := r1
            have HB5 := r2
            have HR5 := r3
            have HX5 := Lib.hid r4
            clear q r1 r2 r3 r4
            generalize wr.setCell ⟨g1, b + qa + i, none⟩ (.int .i64 V) = w6 at HI5 HA5 HB5 HR5 HX5 ⊢
            cases o2
            · -- no depth
              have ez : clr fZ Z (b + qa + i + 1) = clr fZ Z (b + qa + i) := clr_same (by omega) (SZ0.out _ rfl)
              have EZ := Lib.hid ez
              clear ez
              go_wp2
              go_roundw
              case measure => have := HJ.out; simp [intOf]; omega
              case rel => exact ⟨i + 1, HJ.out, by go_num, Lib.hid (by rw [← Nat.add_assoc, EZ.out]; exact HI5.out), HA5, HB5, HR5, HX5⟩
            · -- the depth
              have lz5 : (clr fZ Z (b + qa + i)).length = Z.length := clr_len (by omega)
              have z0 := HI5.out.z.cell (i := b + qa + i) (by rw [lz5]; omega)
              have fz := HI5.out.z.frozen
              have lz := HI5.out.z.lt
              have ez := SZ1.out y i hy0 hlt (by omega) rfl
              rw [hb] at ez
              have EZ := Lib.hid ez
              clear ez
              go_wp2
              go_roundw
              case measure => have := HJ.out; simp [intOf]; omega
              case rel =>
                have CH := Chg.one w6 g2 (b + qa + i) (.int .i64 far)
                have q := HI5.out.setZ (i := b + qa + i) (v := far) (by rw [lz5]; omega) ⟨f0, f1⟩
                rw [← EZ.out, clr_next (by omega), EZ.out] at q
                have r1 := CH.row HA5.out (show ¬ w.heap.size = g2 by omega)
                have r2 := CH.row HB5.out (show ¬ w.heap.size + 1 = g2 by omega)
                have r3 := CH.row HR5.out (show ¬ w.heap.size + 1 + 1 + 1 + 1 = g2 by omega)
                have r4 : ∃ X, w6.setCell ⟨g2, b + qa + i, none⟩ (.int .i64 far) = w.ext X := by
                  obtain ⟨X9, hX9⟩ := HX5.out
                  have B5 : RowKit.Below w.heap.size w w6 := by rw [hX9]; exact (RowKit.Below.refl _ _).ext (Nat.le_refl _) X9
                  exact (B5.trans (CH.below (B := w.heap.size) (fun k hk e => by have e' : k = g2 := e; omega) B5.size)).toExt
                exact ⟨i + 1, HJ.out, by go_num, Lib.hid (by rw [← Nat.add_assoc]; exact q), Lib.hid r1, Lib.hid r2, Lib.hid r3, Lib.hid r4⟩
        · obtain rfl : i = n := by omega
          have e1 := HBC.out.right hlt
          have e2 := HBZ.out.right hlt
          rw [hb, show b + qc = b + qa + i by omega] at e1 e2
          have E1 := Lib.hid e1
          have E2 := Lib.hid e2
          clear e1 e2
          go_wp2
          go_roundw
          case measure => simp [intOf]; omega
          case rel => exact ⟨y + 1, by omega, by omega, by go_num, Lib.hid (by rw [← E1.out, ← E2.out]; exact HI5.out), HA5, HB5, HR5, HX5⟩
    · obtain rfl : y = qd := by omega
      have RI := hI.out.row
      have lC : (clr fC C (y * N)).length = C.length := clr_len (HBC.out.top hy1)
      rw [lC] at RI
      have ci := RI.cell
      have li := RI.lt
      have A1 := hI.out.c
      have A2 := hI.out.z
      rw [HBC.out.done] at A1
      rw [HBZ.out.done, show Z.length = C.length from HLZ.out.trans HL.out.symm] at A2
      have HA1 := Lib.hid A1
      have HA2 := Lib.hid A2
      obtain ⟨nC, hnC⟩ : ∃ nC, C.length = nC := ⟨_, rfl⟩
      have lenC : (clr fC C C.length).length = nC := (clr_len (Nat.le_refl _)).trans hnC
      rw [hnC] at ci
      have HN := Lib.hid hnC
      have HLC := Lib.hid lenC
      have cr := hRc.out.cell
      have fr := hRc.out.frozen
      have lr := hRc.out.lt
      clear A1 A2 RI lC hnC lenC
      go_wp2
      have CH : Chg (fun b => b = w.heap.size + 1 + 1 + 1 + 1) wr ((((wr.setCell ⟨w.heap.size + 1 + 1 + 1 + 1, 0, none⟩ (.int .i64 N)).setCell ⟨w.heap.size + 1 + 1 + 1 + 1, 1, none⟩ (.int .i64 M)).setCell ⟨w.heap.size + 1 + 1 + 1 + 1, 2, none⟩ (sl g1 nC k1)).setCell ⟨w.heap.size + 1 + 1 + 1 + 1, 3, none⟩ (sl g2 nC k2)) := (((Chg.one _ _ _ _).setCell (fun _ => rfl) _).setCell (fun _ => rfl) _).setCell (fun _ => rfl) _
      have RF : Row ((((wr.setCell ⟨w.heap.size + 1 + 1 + 1 + 1, 0, none⟩ (.int .i64 N)).setCell ⟨w.heap.size + 1 + 1 + 1 + 1, 1, none⟩ (.int .i64 M)).setCell ⟨w.heap.size + 1 + 1 + 1 + 1, 2, none⟩ (sl g1 nC k1)).setCell ⟨w.heap.size + 1 + 1 + 1 + 1, 3, none⟩ (sl g2 nC k2)) (w.heap.size + 1 + 1 + 1 + 1) #[.int .i64 N, .int .i64 M, sl g1 nC k1, sl g2 nC k2] 24 := by simpa using ((((hRc.out.set 0 (.int .i64 N)).set 1 (.int .i64 M)).set 2 (sl g1 nC k1)).set 3 (sl g2 nC k2))
      have XF : ∃ X, ((((wr.setCell ⟨w.heap.size + 1 + 1 + 1 + 1, 0, none⟩ (.int .i64 N)).setCell ⟨w.heap.size + 1 + 1 + 1 + 1, 1, none⟩ (.int .i64 M)).setCell ⟨w.heap.size + 1 + 1 + 1 + 1, 2, none⟩ (sl g1 nC k1)).setCell ⟨w.heap.size + 1 + 1 + 1 + 1, 3, none⟩ (sl g2 nC k2)) = w.ext X := by
        obtain ⟨X9, hX9⟩ := hX.out
        subst hX9
        exact RowKit.Below.toExt (by (repeat (first | with_reducible assumption | with_reducible exact Below.refl _ _ | with_reducible refine Below.drew ?_ | with_reducible refine Below.ext ?_ (by first | exact Nat.le_refl _ | omega | (simp; done) | (simp; omega)) _ | with_reducible refine Below.alloc ?_ (by first | exact Nat.le_refl _ | omega | (simp; done) | (simp; omega)) _ | with_reducible refine Below.setCell ?_ (by first | exact Nat.le_refl _ | omega | (simp; done) | (simp; omega)) _)))
      generalize ((((wr.setCell ⟨w.heap.size + 1 + 1 + 1 + 1, 0, none⟩ (.int .i64 N)).setCell ⟨w.heap.size + 1 + 1 + 1 + 1, 1, none⟩ (.int .i64 M)).setCell ⟨w.heap.size + 1 + 1 + 1 + 1, 2, none⟩ (sl g1 nC k1)).setCell ⟨w.heap.size + 1 + 1 + 1 + 1, 3, none⟩ (sl g2 nC k2)) = wf at CH RF XF ⊢
      have q0 := RF.cell 0
      have q1 := RF.cell 1
      have q2 := RF.cell 2
      have q3 := RF.cell 3
      simp at q0 q1 q2 q3
      refine bodyPost_ret (v := Im N M (sl g1 nC k1) (sl g2 nC k2)) (by simp [results, Try.results10, go_sem, q0, q1, q2, q3]) rfl ?_
      exact ⟨g1, k1, g2, k2, by rw [HLC.out], XF, HA1.out.chg CH (by omega), HA2.out.chg CH (by omega), by omega, by omega, NE.out⟩
end Go.Proofs.Ythcjfanigfgckaa
