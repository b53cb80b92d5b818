/- StoreClears: whatever the input, the law returns true and leaves its arguments as they read. No condition. -/
import Derived.Test.YthcjfanigfgckaaClrB
import Derived.Test.YthcjfanigfgckaaClrE
import Derived.Test.YthcjfanigfgckaaEStoreClears
import Derived.Test.YthcjfanigfgckaaPMix
import Derived.Test.YthcjfanigfgckaaPRel
namespace Go.Proofs.Ythcjfanigfgckaa
set_option linter.unusedVariables false
set_option linter.unusedSimpArgs false
open Go.RowKit
/-- An image, a rectangle, what is cleared, a pen. -/
abbrev Wp (W H : Int) (c z : Value) (x0 y0 x1 y1 what px py far p0 p1 p2 p3 : Int) (m0 m1 m2 m3 : Bool) : Value := .agg #[.int .i64 W, .int .i64 H, c, z, .int .i64 x0, .int .i64 y0, .int .i64 x1, .int .i64 y1, .int .i64 what, .int .i64 px, .int .i64 py, .int .i64 far, .int .i64 p0, .int .i64 p1, .int .i64 p2, .int .i64 p3, .bool m0, .bool m1, .bool m2, .bool m3]
/-- What is cleared fits. -/
theorem clears_bd {W H x0 y0 x1 y1 p0 p1 p2 p3 far : Int} {o1 o2 m0 m1 m2 m3 : Bool} {C Z : List Int} (h : ImOk W H C Z) (hm : May p0 p1 p2 p3) (f0 : 0 ≤ far) (f1 : far ≤ 16777215) :
    ((clr (colC W x0 y0 x1 y1 o1 p0 p1 p2 p3 m0 m1 m2 m3 C) C C.length).length = C.length ∧ (clr (colZ W x0 y0 x1 y1 o2 far Z) Z C.length).length = C.length) ∧
      (∀ v ∈ clr (colC W x0 y0 x1 y1 o1 p0 p1 p2 p3 m0 m1 m2 m3 C) C C.length, -9223372036854775808 ≤ v ∧ v ≤ 9223372036854775807) ∧ (∀ v ∈ clr (colZ W x0 y0 x1 y1 o2 far Z) Z C.length, -9223372036854775808 ≤ v ∧ v ≤ 9223372036854775807) := by
  have e := h.same
  have a2 : clr (colZ W x0 y0 x1 y1 o2 far Z) Z C.length = (List.range C.length).map (colZ W x0 y0 x1 y1 o2 far Z) := by rw [← e]; exact clr_all
  rw [clr_all, a2]
  refine ⟨⟨by simp, by simp⟩, fun v hv => ?_, fun v hv => ?_⟩
  · obtain ⟨i, hi, rfl⟩ := List.mem_map.1 hv
    have hi' : i < C.length := by simpa using hi
    have b1 := mixN_01 (elt C i) p0 p1 p2 p3 m0 m1 m2 m3 hm
    have b2 := h.cs i hi'
    unfold colC
    split <;> omega
  · obtain ⟨i, hi, rfl⟩ := List.mem_map.1 hv
    have hi' : i < C.length := by simpa using hi
    have b2 := h.zs i hi'
    unfold colZ
    split <;> omega
/-- An image that reads so. -/
def srIm (W H : Int) (C Z : List Int) : SR Grows := ⟨fun v w => ∃ c z, v = Im W H c z ∧ Rd w c C ∧ Rd w z Z, fun v w w' ⟨c, z, e, h1, h2⟩ ⟨X, e'⟩ => by subst e'; exact ⟨c, z, e, h1.ext X, h2.ext X⟩, fun v => ∃ c z, v = Im W H c z, Im W H undef undef, ⟨_, _, rfl⟩, fun v w ⟨_, _, h, _⟩ => ⟨_, _, h⟩⟩
/-- This value. -/
def srCv (c : Value) : SR Grows := ⟨fun v _ => v = c, fun _ _ _ h _ => h, fun v => v = c, c, rfl, fun _ _ h => h⟩
set_option maxRecDepth 100000 in
set_option maxHeartbeats 8000000 in
theorem clears_in (W H : Int) (c z : Value) (C Z : List Int) (x0 y0 x1 y1 what px py far p0 p1 p2 p3 : Int) (m0 m1 m2 m3 : Bool) (w : World) (hc : Rd w c C) (hz : Rd w z Z) : Calls Try.prog 3 #[Wp W H c z x0 y0 x1 y1 what px py far p0 p1 p2 p3 m0 m1 m2 m3] w (Ret (.bool true) w) := by
  have HC := Lib.hid hc
  have HZ := Lib.hid hz
  obtain ⟨-, -, a, cap, rfl, -, -⟩ := hc
  obtain ⟨-, -, a', cap', rfl, -, -⟩ := hz
  go_enter Try.func3, Try.ntmps3
  go_upto_region 1 with fail
  refine wp_region_mix (by kernel_rfl) ?_
  repeat (first | (refine mix_skip rfl ?_; simp only [List.nil_append, List.cons_append]) | (refine mix_ncheck rfl rfl rfl ?_; simp only [Act.put, List.setIfInBounds_toArray, List.set_cons_zero, List.set_cons_succ, List.nil_append, List.cons_append]) | (refine mix_calm rfl rfl ?_; intro K_ hK_; go_big_quiet_op; go_big_quiet_on; simp only [List.nil_append, List.cons_append]) | (refine mix_alloc rfl rfl Try.zeroValue24 ?_; simp only [List.nil_append, List.cons_append]) | (refine mix_alloc rfl rfl Try.zeroValue26 ?_; simp only [List.nil_append, List.cons_append]) | (refine mix_alloc rfl rfl Try.zeroValue31 ?_; simp only [List.nil_append, List.cons_append]) | (refine mix_fill 8 rfl rfl rfl rfl (by simp [Value.oneCell']) (by kernel_rfl) (by simp) rfl rfl rfl rfl ?_; simp only [List.nil_append, List.cons_append]) | (refine mix_fill 9 rfl rfl rfl rfl (by simp [Value.oneCell']) (by kernel_rfl) (by simp) rfl rfl rfl rfl ?_; simp only [List.nil_append, List.cons_append]) | (refine mix_fill 10 rfl rfl rfl rfl (by simp [Value.oneCell']) (by kernel_rfl) (by simp) rfl rfl rfl rfl ?_; simp only [List.nil_append, List.cons_append]))
  refine mix_nil (mix_end3 8 9 10 11 12 14 ⟨by kernel_rfl, by kernel_rfl⟩ rfl rfl rfl rfl rfl (by kernel_rfl) rfl rfl rfl rfl (by kernel_rfl) rfl rfl rfl rfl (by kernel_rfl) ?_)
  intro X p q r hp hq hr ne_p_q ne_p_r ne_q_r
  have c_hp := hp.cell
  have f_hp := hp.frozen
  have g_hp := hp.gap
  have b_hp := Lib.hid hp.block
  simp only [World.size_ext, World.size_alloc, World.size_drew, World.size_setCell] at g_hp
  clear hp
  have c_hq := hq.cell
  have f_hq := hq.frozen
  have g_hq := hq.gap
  have b_hq := Lib.hid hq.block
  simp only [World.size_ext, World.size_alloc, World.size_drew, World.size_setCell] at g_hq
  clear hq
  have c_hr := hr.cell
  have f_hr := hr.frozen
  have g_hr := hr.gap
  have b_hr := Lib.hid hr.block
  simp only [World.size_ext, World.size_alloc, World.size_drew, World.size_setCell] at g_hr
  clear hr
  simp only [Act.put, List.setIfInBounds_toArray, List.set_cons_zero, List.set_cons_succ, ptr]
  go_upto_region 2 with fail
  have gp := g_hp.1
  have gq := g_hq.1
  have gr := g_hr.1
  refine wp_abs (F := fun w1 => Row w1 p #[.int .i64 W, .int .i64 H, .slice a C.length cap, .slice a' Z.length cap'] 24 ∧ Row w1 q #[.int .i64 x0, .int .i64 y0, .int .i64 x1, .int .i64 y1] 26 ∧ Row w1 r #[.int .i64 px, .int .i64 py, .int .i64 far, .int .i64 p0, .int .i64 p1, .int .i64 p2, .int .i64 p3, .bool m0, .bool m1, .bool m2, .bool m3] 31 ∧ ∃ X, w1 = w.ext X) ⟨(by repeat (first | exact b_hp.out | with_reducible refine Row.ext ?_ _ | with_reducible refine row_drew ?_)), (by repeat (first | exact b_hq.out | with_reducible refine Row.ext ?_ _ | with_reducible refine row_drew ?_)), (by repeat (first | exact b_hr.out | with_reducible refine Row.ext ?_ _ | with_reducible refine row_drew ?_)), RowKit.Below.toExt (by (repeat (first | exact Below.refl _ _ | with_reducible refine Below.drew ?_ | with_reducible refine Below.ext ?_ (by first | exact Nat.le_refl _ | (simp; done) | (simp; omega)) _ | with_reducible refine Below.alloc ?_ (by first | exact Nat.le_refl _ | (simp; done) | (simp; omega)) _ | with_reducible refine Below.setCell ?_ (by first | exact Nat.le_refl _ | (simp; done) | (simp; omega)) _)))⟩ ?_
  rintro w1 ⟨Rp, Rq, Rr, hX⟩
  have HX := Lib.hid hX
  have RC := Lib.hid (show Rd w1 (.slice a C.length cap) C by obtain ⟨X9, hX9⟩ := hX; rw [hX9]; exact HC.out.ext X9)
  have RZ := Lib.hid (show Rd w1 (.slice a' Z.length cap') Z by obtain ⟨X9, hX9⟩ := hX; rw [hX9]; exact HZ.out.ext X9)
  have HRp := Lib.hid Rp
  have HRq := Lib.hid Rq
  have HRr := Lib.hid Rr
  have cp := Rp.cell
  have lp := Rp.lt
  have cr := Rr.cell
  have lr := Rr.lt
  have dr := World.rowD_of Rr
  clear Rp Rq Rr hX c_hp c_hq c_hr f_hp f_hq f_hr g_hp g_hq g_hr b_hp b_hq b_hr
  by_cases hs : C.length ≤ 400 ∧ Z.length ≤ 400
  case neg =>
    go_wp2_with (first | (go_at_call 4; (with_reducible refine (small_no W H _ _ C Z _ RC.out RZ.out hs).mono ?_); rintro _ _ ⟨rfl, X_, rfl⟩) | (go_at_call 7; (with_reducible refine (awake23 _).mono ?_); rintro _ _ ⟨rfl, X_, rfl⟩))
    all_goals go_ret
    all_goals (obtain ⟨X9, hX9⟩ := HX.out; subst hX9; exact Ret.of' (by simp) (by (repeat (first | with_reducible assumption | with_reducible exact Below.refl _ _ | with_reducible refine Below.drew ?_ | with_reducible refine Below.ext ?_ (by first | exact Nat.le_refl _ | omega | (simp; done) | (simp; omega)) _ | with_reducible refine Below.alloc ?_ (by first | exact Nat.le_refl _ | omega | (simp; done) | (simp; omega)) _ | with_reducible refine Below.setCell ?_ (by first | exact Nat.le_refl _ | omega | (simp; done) | (simp; omega)) _))))
  by_cases hr : ImOk W H C Z
  case neg =>
    go_wp2_with (first | (go_at_call 4; (with_reducible refine (small_yes W H _ _ C Z _ RC.out RZ.out hs.1 hs.2).mono ?_); rintro _ _ ⟨rfl, X_, rfl⟩) | (go_at_call 5; (with_reducible refine (rright_no W H _ _ C Z _ (RC.out.ext _) (RZ.out.ext _) hr).mono ?_); rintro _ _ ⟨rfl, X_, rfl⟩) | (go_at_call 7; (with_reducible refine (awake23 _).mono ?_); rintro _ _ ⟨rfl, X_, rfl⟩))
    all_goals go_ret
    all_goals (obtain ⟨X9, hX9⟩ := HX.out; subst hX9; exact Ret.of' (by simp) (by (repeat (first | with_reducible assumption | with_reducible exact Below.refl _ _ | with_reducible refine Below.drew ?_ | with_reducible refine Below.ext ?_ (by first | exact Nat.le_refl _ | omega | (simp; done) | (simp; omega)) _ | with_reducible refine Below.alloc ?_ (by first | exact Nat.le_refl _ | omega | (simp; done) | (simp; omega)) _ | with_reducible refine Below.setCell ?_ (by first | exact Nat.le_refl _ | omega | (simp; done) | (simp; omega)) _))))
  have OK := Lib.hid hr
  clear hr
  by_cases hm : May p0 p1 p2 p3
  case neg =>
    go_wp2_with (first | (go_at_call 4; (with_reducible refine (small_yes W H _ _ C Z _ RC.out RZ.out hs.1 hs.2).mono ?_); rintro _ _ ⟨rfl, X_, rfl⟩) | (go_at_call 5; (with_reducible refine (rright_yes W H _ _ C Z _ (RC.out.ext _) (RZ.out.ext _) OK.out).mono ?_); rintro _ _ ⟨rfl, X_, rfl⟩) | (go_at_call 6; (with_reducible refine (may23_no _ _ _ _ hm _).mono ?_); rintro _ _ ⟨rfl, X_, rfl⟩) | (go_at_call 7; (with_reducible refine (awake23 _).mono ?_); rintro _ _ ⟨rfl, X_, rfl⟩))
    all_goals go_ret
    all_goals (obtain ⟨X9, hX9⟩ := HX.out; subst hX9; exact Ret.of' (by simp) (by (repeat (first | with_reducible assumption | with_reducible exact Below.refl _ _ | with_reducible refine Below.drew ?_ | with_reducible refine Below.ext ?_ (by first | exact Nat.le_refl _ | omega | (simp; done) | (simp; omega)) _ | with_reducible refine Below.alloc ?_ (by first | exact Nat.le_refl _ | omega | (simp; done) | (simp; omega)) _ | with_reducible refine Below.setCell ?_ (by first | exact Nat.le_refl _ | omega | (simp; done) | (simp; omega)) _))))
  have HM := Lib.hid hm
  clear hm
  by_cases f0 : 0 ≤ far
  case neg =>
    go_wp2_with (first | (go_at_call 4; (with_reducible refine (small_yes W H _ _ C Z _ RC.out RZ.out hs.1 hs.2).mono ?_); rintro _ _ ⟨rfl, X_, rfl⟩) | (go_at_call 5; (with_reducible refine (rright_yes W H _ _ C Z _ (RC.out.ext _) (RZ.out.ext _) OK.out).mono ?_); rintro _ _ ⟨rfl, X_, rfl⟩) | (go_at_call 6; (with_reducible refine (may23_yes _ _ _ _ HM.out _).mono ?_); rintro _ _ ⟨rfl, X_, rfl⟩) | (go_at_call 7; (with_reducible refine (awake23 _).mono ?_); rintro _ _ ⟨rfl, X_, rfl⟩))
    all_goals go_ret
    all_goals (obtain ⟨X9, hX9⟩ := HX.out; subst hX9; exact Ret.of' (by simp) (by (repeat (first | with_reducible assumption | with_reducible exact Below.refl _ _ | with_reducible refine Below.drew ?_ | with_reducible refine Below.ext ?_ (by first | exact Nat.le_refl _ | omega | (simp; done) | (simp; omega)) _ | with_reducible refine Below.alloc ?_ (by first | exact Nat.le_refl _ | omega | (simp; done) | (simp; omega)) _ | with_reducible refine Below.setCell ?_ (by first | exact Nat.le_refl _ | omega | (simp; done) | (simp; omega)) _))))
  by_cases f1 : far ≤ 16777215
  case neg =>
    have f1' : 16777215 < far := by omega
    go_wp2_with (first | (go_at_call 4; (with_reducible refine (small_yes W H _ _ C Z _ RC.out RZ.out hs.1 hs.2).mono ?_); rintro _ _ ⟨rfl, X_, rfl⟩) | (go_at_call 5; (with_reducible refine (rright_yes W H _ _ C Z _ (RC.out.ext _) (RZ.out.ext _) OK.out).mono ?_); rintro _ _ ⟨rfl, X_, rfl⟩) | (go_at_call 6; (with_reducible refine (may23_yes _ _ _ _ HM.out _).mono ?_); rintro _ _ ⟨rfl, X_, rfl⟩) | (go_at_call 7; (with_reducible refine (awake23 _).mono ?_); rintro _ _ ⟨rfl, X_, rfl⟩))
    all_goals go_ret
    all_goals (obtain ⟨X9, hX9⟩ := HX.out; subst hX9; exact Ret.of' (by simp) (by (repeat (first | with_reducible assumption | with_reducible exact Below.refl _ _ | with_reducible refine Below.drew ?_ | with_reducible refine Below.ext ?_ (by first | exact Nat.le_refl _ | omega | (simp; done) | (simp; omega)) _ | with_reducible refine Below.alloc ?_ (by first | exact Nat.le_refl _ | omega | (simp; done) | (simp; omega)) _ | with_reducible refine Below.setCell ?_ (by first | exact Nat.le_refl _ | omega | (simp; done) | (simp; omega)) _))))
  go_upto_region 4 with (first | (go_at_call 4; (with_reducible refine (small_yes W H _ _ C Z _ RC.out RZ.out hs.1 hs.2).mono ?_); rintro _ _ ⟨rfl, X_, rfl⟩) | (go_at_call 5; (with_reducible refine (rright_yes W H _ _ C Z _ (RC.out.ext _) (RZ.out.ext _) OK.out).mono ?_); rintro _ _ ⟨rfl, X_, rfl⟩) | (go_at_call 6; (with_reducible refine (may23_yes _ _ _ _ HM.out _).mono ?_); rintro _ _ ⟨rfl, X_, rfl⟩))
  go_cut [7] (fun t7 wx => ∃ q7 g1 k1 g2 k2 : Nat, t7 = .pointer (some ⟨q7, 0, none⟩) ∧ Hid (Img wx q7 g1 k1 g2 k2 W H C Z) ∧ Hid (Row wx p #[.int .i64 W, .int .i64 H, .slice a C.length cap, .slice a' Z.length cap'] 24) ∧ Hid (Row wx q #[.int .i64 x0, .int .i64 y0, .int .i64 x1, .int .i64 y1] 26) ∧ Hid (Row wx r #[.int .i64 px, .int .i64 py, .int .i64 far, .int .i64 p0, .int .i64 p1, .int .i64 p2, .int .i64 p3, .bool m0, .bool m1, .bool m2, .bool m3] 31) ∧ Hid (∃ X, wx = w.ext X))
  case first =>
    go_wp2_with (first | (go_at_call 8; (with_reducible refine (rcopy_is W H _ _ C Z _ ?_ ?_ OK.out).mono ?_); (repeat (first | with_reducible exact RC.out | with_reducible refine Rd.ext ?_ _)); (repeat (first | with_reducible exact RZ.out | with_reducible refine Rd.ext ?_ _)); rintro _ _ ⟨g1, k1, g2, k2, rfl, ⟨XC, rfl⟩, A1, A2, b1, b2, ne⟩))
    go_meet
    have e1 := A1.lt
    have e2 := A2.lt
    simp at b1 b2 e1 e2
    exact ⟨_, g1, k1, g2, k2, rfl, Lib.hid ⟨OK.out, row_last (by simp), A1.chg (p := fun _ => False) (Chg.refl.alloc _) id, A2.chg (p := fun _ => False) (Chg.refl.alloc _) id, by omega, by omega, ne⟩, Lib.hid (by repeat (first | with_reducible exact HRp.out | with_reducible refine Row.ext ?_ _ | with_reducible refine Row.alloc ?_ _)), Lib.hid (by repeat (first | with_reducible exact HRq.out | with_reducible refine Row.ext ?_ _ | with_reducible refine Row.alloc ?_ _)), Lib.hid (by repeat (first | with_reducible exact HRr.out | with_reducible refine Row.ext ?_ _ | with_reducible refine Row.alloc ?_ _)), Lib.hid (by obtain ⟨X9, hX9⟩ := HX.out; subst hX9; exact RowKit.Below.toExt (by (repeat (first | with_reducible assumption | with_reducible exact Below.refl _ _ | with_reducible refine Below.drew ?_ | with_reducible refine Below.ext ?_ (by first | exact Nat.le_refl _ | omega | (simp; done) | (simp; omega)) _ | with_reducible refine Below.alloc ?_ (by first | exact Nat.le_refl _ | omega | (simp; done) | (simp; omega)) _ | with_reducible refine Below.setCell ?_ (by first | exact Nat.le_refl _ | omega | (simp; done) | (simp; omega)) _))))⟩
  case rest =>
  obtain ⟨q7, g1, k1, g2, k2, rfl, I7, Kp, Kq, Kr, KX⟩ := hcut
  obtain ⟨w2, rfl⟩ : ∃ w2, w2 = wc := ⟨_, rfl⟩
  clear HRp HRq HRr HX RC RZ cp lp cr lr dr
  have HRp := Kp
  have HRq := Kq
  have HRr := Kr
  have HX := KX
  clear Kp Kq Kr KX
  have RC := Lib.hid (show Rd w2 (.slice a C.length cap) C by obtain ⟨X9, hX9⟩ := HX.out; rw [hX9]; exact HC.out.ext X9)
  have RZ := Lib.hid (show Rd w2 (.slice a' Z.length cap') Z by obtain ⟨X9, hX9⟩ := HX.out; rw [hX9]; exact HZ.out.ext X9)
  have cp := HRp.out.cell
  have lp := HRp.out.lt
  go_upto_region 5 with fail
  go_cut [8] (fun t8 wx => ∃ q8 h1 k3 h2 k4 S : Nat, t8 = .pointer (some ⟨q8, 0, none⟩) ∧ Hid (Img wx q8 h1 k3 h2 k4 W H C Z) ∧ Hid (Img wx q7 g1 k1 g2 k2 W H C Z) ∧ Hid (Row wx p #[.int .i64 W, .int .i64 H, .slice a C.length cap, .slice a' Z.length cap'] 24) ∧ Hid (Row wx q #[.int .i64 x0, .int .i64 y0, .int .i64 x1, .int .i64 y1] 26) ∧ Hid (Row wx r #[.int .i64 px, .int .i64 py, .int .i64 far, .int .i64 p0, .int .i64 p1, .int .i64 p2, .int .i64 p3, .bool m0, .bool m1, .bool m2, .bool m3] 31) ∧ Hid (∃ X, wx = w.ext X) ∧ Hid ((w.heap.size ≤ S ∧ S ≤ h1 ∧ S ≤ h2 ∧ S ≤ q8) ∧ p < S ∧ q < S ∧ r < S ∧ q7 < S ∧ g1 < S ∧ g2 < S))
  case first =>
    go_wp2_with (first | (go_at_call 9; (with_reducible refine (copy_is W H _ _ C Z _ RC.out RZ.out OK.out).mono ?_); rintro _ _ ⟨h1, k3, h2, k4, rfl, ⟨XC, rfl⟩, A1, A2, b1, b2, ne⟩))
    go_meet
    have e1 := A1.lt
    have e2 := A2.lt
    have v1 := HRp.out.lt
    have v2 := HRq.out.lt
    have v3 := HRr.out.lt
    have v4 := I7.out.row.lt
    have v5 := I7.out.c.lt
    have v6 := I7.out.z.lt
    have v7 : w.heap.size ≤ w2.heap.size := by obtain ⟨X9, hX9⟩ := HX.out; rw [hX9]; simp
    simp at b1 b2 e1 e2
    exact ⟨_, h1, k3, h2, k4, w2.heap.size, rfl, Lib.hid ⟨OK.out, row_last (by simp), A1.chg (p := fun _ => False) (Chg.refl.alloc _) id, A2.chg (p := fun _ => False) (Chg.refl.alloc _) id, by omega, by omega, ne⟩, Lib.hid ((I7.out.ext XC).chg (p := fun _ => False) (Chg.refl.alloc _) id id id), Lib.hid (by repeat (first | with_reducible exact HRp.out | with_reducible refine Row.ext ?_ _ | with_reducible refine Row.alloc ?_ _)), Lib.hid (by repeat (first | with_reducible exact HRq.out | with_reducible refine Row.ext ?_ _ | with_reducible refine Row.alloc ?_ _)), Lib.hid (by repeat (first | with_reducible exact HRr.out | with_reducible refine Row.ext ?_ _ | with_reducible refine Row.alloc ?_ _)), Lib.hid (by obtain ⟨X9, hX9⟩ := HX.out; subst hX9; exact RowKit.Below.toExt (by (repeat (first | with_reducible assumption | with_reducible exact Below.refl _ _ | with_reducible refine Below.drew ?_ | with_reducible refine Below.ext ?_ (by first | exact Nat.le_refl _ | omega | (simp; done) | (simp; omega)) _ | with_reducible refine Below.alloc ?_ (by first | exact Nat.le_refl _ | omega | (simp; done) | (simp; omega)) _ | with_reducible refine Below.setCell ?_ (by first | exact Nat.le_refl _ | omega | (simp; done) | (simp; omega)) _)))), Lib.hid ⟨⟨v7, b1, b2, by simp⟩, v1, v2, v3, v4, v5, v6⟩⟩
  case rest =>
  obtain ⟨q8, h1, k3, h2, k4, S, rfl, I8, J7, Kp, Kq, Kr, KX, PS⟩ := hcut
  obtain ⟨w3, rfl⟩ : ∃ w3, w3 = wc := ⟨_, rfl⟩
  clear HRp HRq HRr HX RC RZ cp lp I7
  have HRp := Kp
  have HRq := Kq
  have HRr := Kr
  have HX := KX
  have I7 := J7
  clear Kp Kq Kr KX J7
  have RC := Lib.hid (show Rd w3 (.slice a C.length cap) C by obtain ⟨X9, hX9⟩ := HX.out; rw [hX9]; exact HC.out.ext X9)
  have RZ := Lib.hid (show Rd w3 (.slice a' Z.length cap') Z by obtain ⟨X9, hX9⟩ := HX.out; rw [hX9]; exact HZ.out.ext X9)
  have cp := HRp.out.cell
  have lp := HRp.out.lt
  have cq := HRq.out.cell
  have lq := HRq.out.lt
  have cr := HRr.out.cell
  have lr := HRr.out.lt
  have dr := World.rowD_of HRr.out
  obtain ⟨C', hC'⟩ : ∃ l, clr (colC W x0 y0 x1 y1 (bits .and .i64 what 1 == 1) p0 p1 p2 p3 m0 m1 m2 m3 C) C C.length = l := ⟨_, rfl⟩
  obtain ⟨Z', hZ'⟩ : ∃ l, clr (colZ W x0 y0 x1 y1 (bits .and .i64 what 2 == 2) far Z) Z C.length = l := ⟨_, rfl⟩
  have CL := Lib.hid (fun w hc hz => show Calls Try.prog 10 #[Im W H (.slice a C.length cap) (.slice a' Z.length cap'), R4 x0 y0 x1 y1, .int .i64 what, C4 p0 p1 p2 p3, .int .i64 far, M4 m0 m1 m2 m3] w (Copies W H C' Z' w) by rw [← hC', ← hZ']; exact clear_is W H _ _ C Z x0 y0 x1 y1 what p0 p1 p2 p3 far m0 m1 m2 m3 w hc hz OK.out f0 f1 HM.out)
  have CR := Lib.hid (fun c z w hc hz => show Calls Try.prog 12 #[Im W H c z, R4 x0 y0 x1 y1, .int .i64 what, C4 p0 p1 p2 p3, .int .i64 far, M4 m0 m1 m2 m3] w (Copies W H C' Z' w) by rw [← hC', ← hZ']; exact rclear W H c z C Z x0 y0 x1 y1 what p0 p1 p2 p3 far m0 m1 m2 m3 w hc hz OK.out f0 f1 HM.out)
  have BB := Lib.hid (show (C'.length = C.length ∧ Z'.length = C.length) ∧ (∀ v ∈ C', -9223372036854775808 ≤ v ∧ v ≤ 9223372036854775807) ∧ (∀ v ∈ Z', -9223372036854775808 ≤ v ∧ v ≤ 9223372036854775807) by rw [← hC', ← hZ']; exact clears_bd OK.out HM.out f0 f1)
  clear hC' hZ'
  go_upto_region 6 with fail
  go_cut [9] (fun t9 wx => ∃ (q9 : Nat) (vc vz : Value), t9 = .pointer (some ⟨q9, 0, none⟩) ∧ Hid (Row wx q9 #[.int .i64 W, .int .i64 H, vc, vz] 24) ∧ Hid (Rd wx vc C') ∧ Hid (Rd wx vz Z') ∧ Hid (Img wx q8 h1 k3 h2 k4 W H C Z) ∧ Hid (Img wx q7 g1 k1 g2 k2 W H C Z) ∧ Hid (Row wx p #[.int .i64 W, .int .i64 H, .slice a C.length cap, .slice a' Z.length cap'] 24) ∧ Hid (Row wx q #[.int .i64 x0, .int .i64 y0, .int .i64 x1, .int .i64 y1] 26) ∧ Hid (Row wx r #[.int .i64 px, .int .i64 py, .int .i64 far, .int .i64 p0, .int .i64 p1, .int .i64 p2, .int .i64 p3, .bool m0, .bool m1, .bool m2, .bool m3] 31) ∧ Hid (∃ X, wx = w.ext X))
  case first =>
    go_wp2_with (first | (go_at_call 10; (with_reducible refine (CL.out _ RC.out RZ.out).mono ?_); rintro _ _ ⟨i1, k5, i2, k6, rfl, ⟨XC, rfl⟩, A1, A2, b1, b2, ne⟩))
    go_meet
    have r1 := A1.rd BB.out.2.1 (by rw [BB.out.1.1]; exact OK.out.bd.2)
    have r2 := A2.rd BB.out.2.2 (by rw [BB.out.1.2]; exact OK.out.bd.2)
    rw [BB.out.1.2, ← BB.out.1.1] at r2
    exact ⟨_, _, _, rfl, Lib.hid (row_last (by simp)), Lib.hid (r1.alloc _), Lib.hid (r2.alloc _), Lib.hid ((I8.out.ext XC).chg (p := fun _ => False) (Chg.refl.alloc _) id id id), Lib.hid ((I7.out.ext XC).chg (p := fun _ => False) (Chg.refl.alloc _) id id id), Lib.hid (by repeat (first | with_reducible exact HRp.out | with_reducible refine Row.ext ?_ _ | with_reducible refine Row.alloc ?_ _)), Lib.hid (by repeat (first | with_reducible exact HRq.out | with_reducible refine Row.ext ?_ _ | with_reducible refine Row.alloc ?_ _)), Lib.hid (by repeat (first | with_reducible exact HRr.out | with_reducible refine Row.ext ?_ _ | with_reducible refine Row.alloc ?_ _)), Lib.hid (by obtain ⟨X9, hX9⟩ := HX.out; subst hX9; exact RowKit.Below.toExt (by (repeat (first | with_reducible assumption | with_reducible exact Below.refl _ _ | with_reducible refine Below.drew ?_ | with_reducible refine Below.ext ?_ (by first | exact Nat.le_refl _ | omega | (simp; done) | (simp; omega)) _ | with_reducible refine Below.alloc ?_ (by first | exact Nat.le_refl _ | omega | (simp; done) | (simp; omega)) _ | with_reducible refine Below.setCell ?_ (by first | exact Nat.le_refl _ | omega | (simp; done) | (simp; omega)) _))))⟩
  case rest =>
  obtain ⟨q9, vc, vz, rfl, R9, D9, E9, J8, J7, Kp, Kq, Kr, KX⟩ := hcut
  obtain ⟨w4, rfl⟩ : ∃ w4, w4 = wc := ⟨_, rfl⟩
  clear HRp HRq HRr HX RC RZ cp lp cq lq cr lr dr I7 I8
  have HRp := Kp
  have HRq := Kq
  have HRr := Kr
  have HX := KX
  have I7 := J7
  have I8 := J8
  clear Kp Kq Kr KX J7 J8
  have cq := HRq.out.cell
  have lq := HRq.out.lt
  have cr := HRr.out.cell
  have lr := HRr.out.lt
  have dr := World.rowD_of HRr.out
  have c9 := R9.out.cell
  have l9 := R9.out.lt
  have c7 := I7.out.row.cell
  have l7 := I7.out.row.lt
  have D7 := Lib.hid I7.out.rds
  go_upto_region 7 with fail
  refine wp_region_rel 13 [none, none, none, none, none, none, none, none, none, none, some ([], srIm W H C' Z'), some ([10], srCv (.bool true)), none] (by kernel_rfl) (by kernel_rfl) ?_
  simp only [List.take_succ_cons, List.take_zero, List.drop_succ_cons, List.drop_zero]
  (repeat (first | (refine rel_none ?_; intro K_ hK_; go_big_quiet_op; go_big_quiet_on) | simp only [Act.put, List.setIfInBounds_toArray, List.set_cons_zero, List.set_cons_succ]))
  refine rel_some rfl (fun w_ hw_ hk_ K_ hK_ => ?_) (fun e10 f10 => ?_)
  · obtain ⟨X_, rfl⟩ := hw_
    go_simp
    go_at_call 12
    with_reducible refine (CR.out _ _ _ (D7.out.1.ext _) (D7.out.2.ext _)).mono ?_
    rintro _ _ ⟨i1, k5, i2, k6, rfl, hX, A1, A2, -⟩
    have r1 := A1.rd BB.out.2.1 (by rw [BB.out.1.1]; exact OK.out.bd.2)
    have r2 := A2.rd BB.out.2.2 (by rw [BB.out.1.2]; exact OK.out.bd.2)
    rw [BB.out.1.2, ← BB.out.1.1] at r2
    exact hK_ _ _ ⟨_, _, rfl, r1, r2⟩ hX
  obtain ⟨vc2, vz2, rfl⟩ := f10
  (repeat (first | (refine rel_none ?_; intro K_ hK_; go_big_quiet_op; go_big_quiet_on) | simp only [Act.put, List.setIfInBounds_toArray, List.set_cons_zero, List.set_cons_succ]))
  refine rel_some rfl (fun w_ hw_ hk_ K_ hK_ => ?_) (fun e11 f11 => ?_)
  · obtain ⟨X_, rfl⟩ := hw_
    obtain ⟨vc3, vz3, ev, d1, d2⟩ := (hk_ (10, _) (by repeat (first | exact List.mem_cons_self | refine List.mem_cons_of_mem _ ?_))) (by simp)
    obtain ⟨rfl, rfl⟩ : vc2 = vc3 ∧ vz2 = vz3 := by simpa using ev
    go_simp
    go_at_call 11
    with_reducible refine (same_yes W H _ _ _ _ C' Z' _ (D9.out.ext _) (E9.out.ext _) d1 d2 (by rw [BB.out.1.1]; exact OK.out.bd.2) (by rw [BB.out.1.2]; exact OK.out.bd.2)).mono ?_
    rintro _ _ ⟨rfl, hX⟩
    exact hK_ _ _ rfl hX
  obtain rfl := f11
  (repeat (first | (refine rel_none ?_; intro K_ hK_; go_big_quiet_op; go_big_quiet_on) | simp only [Act.put, List.setIfInBounds_toArray, List.set_cons_zero, List.set_cons_succ]))
  refine rel_nil ?_
  intro w_ hw_ kk
  obtain ⟨X7, rfl⟩ := hw_
  clear kk
  go_upto_region 9 with fail
  obtain ⟨⟨S0, S1, S2, S3⟩, v1, v2, v3, v4, v5, v6⟩ := PS.out
  have B4 := Lib.hid (show RowKit.Below w.heap.size w (w4.ext X7) by obtain ⟨X9, hX9⟩ := HX.out; subst hX9; (repeat (first | with_reducible assumption | with_reducible exact Below.refl _ _ | with_reducible refine Below.drew ?_ | with_reducible refine Below.ext ?_ (by first | exact Nat.le_refl _ | omega | (simp; done) | (simp; omega)) _ | with_reducible refine Below.alloc ?_ (by first | exact Nat.le_refl _ | omega | (simp; done) | (simp; omega)) _ | with_reducible refine Below.setCell ?_ (by first | exact Nat.le_refl _ | omega | (simp; done) | (simp; omega)) _)))
  go_upto_region 10 with (first | (go_at_call 13; (with_reducible refine (deep_img (I8.out.ext _) 0 0 far (by decide) (by decide) (by decide) (by decide) ⟨f0, f1⟩).mono ?_); rintro _ w5 ⟨rfl, J8, CH⟩))
  have Lp := CH.row (HRp.out.ext X7) (show ¬ p = h2 by omega)
  have Lq := CH.row (HRq.out.ext X7) (show ¬ q = h2 by omega)
  have Lr := CH.row (HRr.out.ext X7) (show ¬ r = h2 by omega)
  have L7 := (I7.out.ext X7).chg CH (show ¬ q7 = h2 by omega) (show ¬ g1 = h2 by omega) (show ¬ g2 = h2 by omega)
  have B5 := Lib.hid (B4.out.trans (CH.below (B := w.heap.size) (fun k hk e => by have e' : k = h2 := e; omega) B4.out.size))
  have HLp := Lib.hid Lp
  have HLq := Lib.hid Lq
  have HLr := Lib.hid Lr
  have HL7 := Lib.hid L7
  have HJ8 := Lib.hid J8
  clear cq lq cr lr dr c9 l9 c7 l7 CH Lp Lq Lr L7 J8
  have cr := HLr.out.cell
  have lr := HLr.out.lt
  have dr := World.rowD_of HLr.out
  go_upto_region 11 with (first | (go_at_call 14; (with_reducible refine (put_img HJ8.out 0 0 p0 p1 p2 p3 true true true true (by decide) (by decide) (by decide) (by decide) HM.out).mono ?_); rintro _ w6 ⟨rfl, J8, CH⟩))
  have Np := CH.row HLp.out (show ¬ p = h1 by omega)
  have N7 := HL7.out.chg CH (show ¬ q7 = h1 by omega) (show ¬ g1 = h1 by omega) (show ¬ g2 = h1 by omega)
  have B6 := Lib.hid (B5.out.trans (CH.below (B := w.heap.size) (fun k hk e => by have e' : k = h1 := e; omega) B5.out.size))
  have RI := J8.row
  rw [putC_len] at RI
  clear cr lr dr CH J8 v1 v2 v3 v4 v5 v6 S0 S1 S2 S3
  have cp := Np.cell
  have lp := Np.lt
  have c8 := RI.cell
  have l8 := RI.lt
  have c7 := N7.row.cell
  have l7 := N7.row.lt
  have D7 := Lib.hid N7.rds
  have BT := B6.out.toExt
  have RC := Lib.hid (show Rd w6 (.slice a C.length cap) C by obtain ⟨X9, hX9⟩ := BT; rw [hX9]; exact HC.out.ext X9)
  have RZ := Lib.hid (show Rd w6 (.slice a' Z.length cap') Z by obtain ⟨X9, hX9⟩ := BT; rw [hX9]; exact HZ.out.ext X9)
  have SA := Lib.hid (fun X => same_yes W H _ _ _ _ C Z (w6.ext X) (RC.out.ext X) (RZ.out.ext X) (D7.out.1.ext X) (D7.out.2.ext X) OK.out.bd.2 OK.out.bz)
  have BX := Lib.hid (fun w => cbox_is W H (.slice a C.length cap) (.slice a' Z.length cap') w)
  have BY := Lib.hid (fun w => cbox_ref W H (.slice a C.length cap) (.slice a' Z.length cap') w)
  clear Np N7 RI BT hs
  refine wp_region_ext (by kernel_rfl) (by kernel_rfl) ?_
  repeat (go_big_quiet_step ((first | (go_at_call 7; with_reducible exact Calls.quiet_ret (awake23 _)) | (go_at_call 11; with_reducible exact Calls.quiet_ret (SA.out _)) | (go_at_call 15; with_reducible exact Calls.quiet_ret (BX.out _)) | (go_at_call 16; with_reducible exact Calls.quiet_ret (BY.out _)))))
  refine wpQuiet_nil ?_
  intro _ hw_ext
  obtain ⟨X11, hw_ext⟩ := hw_ext
  subst hw_ext
  go_wp2
  go_ret
  exact Ret.of' (by simp) (B6.out.ext B6.out.size _)
theorem StoreClears_all : StoreClears_stmt := by
  intro W H c z x0 y0 x1 y1 what px py far p0 p1 p2 p3 m0 m1 m2 m3 w hP
  obtain ⟨-, -, ⟨C, hC⟩, ⟨Z, hZ⟩, -⟩ := hP
  exact clears_in W H c z C Z x0 y0 x1 y1 what px py far p0 p1 p2 p3 m0 m1 m2 m3 w (Rd.of_ints hC) (Rd.of_ints hZ)
theorem StoreClears_holds : Rows.StoreClearsSaid := StoreClears_end StoreClears_all
end Go.Proofs.Ythcjfanigfgckaa
