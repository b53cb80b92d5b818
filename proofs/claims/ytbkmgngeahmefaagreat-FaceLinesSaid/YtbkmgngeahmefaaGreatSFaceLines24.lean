/- Parts of the proof of FaceLines, laid together. Conditions: at each. -/
import Derived.Test.YtbkmgngeahmefaaGreatSFaceLines19
import Derived.Test.YtbkmgngeahmefaaGreatSFaceLines23
set_option linter.unusedVariables false
set_option linter.unusedSimpArgs false
namespace Go.Proofs.YtbkmgngeahmefaaGreat
open Go.RowKit
set_option maxRecDepth 100000 in
set_option maxHeartbeats 16000000 in
theorem wline_in0 (a b : WinP) (n p r c x0 y0 x1 y1 : Int) (ha : a.wide) (hb : b.wide) (hp : w64 p) (hc : w64 c) (h : lineP a b n p r c) (hr : rightP x0 y0 x1 y1) (har : ((x1 - x0).toNat + (y1 - y0).toNat) * 64 ≤ 134217728) (w : World) : Calls Tryz.prog 57 #[a.v, b.v, .int .i64 n, .bool false, D3 p r c, R4 x0 y0 x1 y1] w (RLine w (wdTo a b n false p r c x0 y0 x1 y1) p r (nextC false r c (coreL a b n).length)) := by
  have R := Lib.hid (fun w => decide_eq_true h ▸ wide_right a b n p r c ha hb hp hc w)
  have RR := Lib.hid (fun w => decide_eq_true hr ▸ rect_right x0 y0 x1 y1 w)
  obtain ⟨h1, h2, h3, h4⟩ := h
  have CO := Lib.hid (fun w => coreOf_any a b n h1.f h2.f h3 w)
  obtain ⟨m1, m2⟩ := core_may h1 h2 h3
  have hcl := core_len h1 h2 h3
  obtain ⟨m, hm⟩ : ∃ m : Nat, (coreL a b n).length = m := ⟨_, rfl⟩
  have CN : ∀ w, Calls Tryz.prog 110 #[P2 (corX a b n a.x) (corY a b n a.y), P2 (corX a b n b.x) (corY a b n b.y)] w (Ret (.int .i64 (m : Int)) w) := fun w => by
    rw [← hm]; exact walk_count (corX a b n a.x) (corY a b n a.y) (corX a b n b.x) (corY a b n b.y) m1 m2 w
  rw [hm] at hcl
  have HCN := Lib.hid CN
  have NX := Lib.hid (fun w => dnext_any p r c (m : Int) h4 (by omega) (by omega) w)
  rw [hm]
  have RE := Lib.hid (fun w => reach_any a b n x0 y0 x1 y1 h3 hr w)
  obtain ⟨W, hW⟩ : ∃ W, withinL (corX a b n a.x) (corY a b n a.y) (corX a b n b.x) (corY a b n b.y) (rchX a b n x0) (rchY a b n y0) x1 y1 = W := ⟨_, rfl⟩
  have WI := Lib.hid (fun w => hW ▸ walk_within (corX a b n a.x) (corY a b n a.y) (corX a b n b.x) (corY a b n b.y) (rchX a b n x0) (rchY a b n y0) x1 y1 m1 m2 w)
  have hTo : wdOf a b n x0 y0 x1 y1 (W.filter (litB false p r c)) = wdTo a b n false p r c x0 y0 x1 y1 := by rw [← hW]; exact wdTo_within h1 h2 h3 hr
  have hWb := Lib.hid (fun s (hs : s ∈ W) => (by rw [← hW] at hs; exact wd_mem h1 h2 h3 hs : (-1048641 ≤ s.X ∧ s.X ≤ 1048576) ∧ (-1048641 ≤ s.Y ∧ s.Y ≤ 1048576) ∧ 0 ≤ s.K ∧ s.K ≤ 2097220))
  have AL := Lib.hid (fun x y (hx : Near x y) w => along_any a b x y h1.f h2.f hx w)
  have LI := Lib.hid (fun k (k0 : 0 ≤ k) (k1 : k ≤ 1099511627776) w => dlit_any p r c k h4 k0 k1 w)
  have HLen := Lib.hid (fun (L : List St) (hL : L.Sublist (W.filter (litB false p r c))) => (by rw [← hW] at hL; exact wdOf_len h3 hr hL : (wdOf a b n x0 y0 x1 y1 L).length ≤ ((x1 - x0).toNat + (y1 - y0).toNat) * 64))
  rw [← hTo]
  obtain ⟨n0, n1⟩ := h3
  obtain ⟨N, hN⟩ : ∃ N : Nat, n = (N : Int) := ⟨n.toNat, by omega⟩
  obtain ⟨lv, hlv⟩ : ∃ l, (!decide (turnP a.x a.y b.x b.y)) = l := ⟨_, rfl⟩
  unfold coreV at CO RE
  rw [hlv] at CO RE
  have HR := Lib.hid hr
  have HAR := Lib.hid har
  have HLV := Lib.hid hlv
  have HNN := Lib.hid hN
  unfold nextC
  simp only [if_true, if_false, Bool.false_eq_true]
  clear ha hb hp hc h1 h2 h4 hr har m1 m2 CN hW hm hTo hlv hN
  go_enter Tryz.func57, Tryz.ntmps57
  go_upto_region 5 with (first
    | (go_at_call 107; (with_reducible refine (R.out _).mono ?_); rintro _ _ ⟨rfl, XR, rfl⟩)
    | (go_at_call 108; (with_reducible refine (CO.out _).mono ?_); rintro _ _ ⟨rfl, XC, rfl⟩))
  obtain ⟨Bt, hBt⟩ : ∃ B, w.heap.size + 1 + 1 + 1 + 1 + 1 + XR.sz + XC.sz = B := ⟨_, rfl⟩
  refine wp_abs (F := fun w5 => Row w5 w.heap.size #[.int .i64 a.x, .int .i64 a.y, .int .i64 a.z, .int .i64 a.c0, .int .i64 a.c1, .int .i64 a.c2, .int .i64 a.c3] 41 ∧ Row w5 (w.heap.size + 1) #[.int .i64 b.x, .int .i64 b.y, .int .i64 b.z, .int .i64 b.c0, .int .i64 b.c1, .int .i64 b.c2, .int .i64 b.c3] 41 ∧ Row w5 (w.heap.size + 1 + 1) #[.int .i64 p, .int .i64 r, .int .i64 c] 25 ∧ Row w5 (w.heap.size + 1 + 1 + 1) #[.int .i64 x0, .int .i64 y0, .int .i64 x1, .int .i64 y1] 29 ∧ Row w5 (w.heap.size + 1 + 1 + 1 + 1) #[.int .i64 0, .int .i64 0, .int .i64 0] 25 ∧ Row w5 Bt #[.int .i64 (corX a b n a.x), .int .i64 (corY a b n a.y), .int .i64 (corX a b n b.x), .int .i64 (corY a b n b.y), .bool lv] 153 ∧ Row w5 (Bt + 1) #[.int .i64 p, .int .i64 r, .int .i64 c] 25 ∧ ∃ X, w5 = w.ext X) ⟨by exact rx_, by exact rx_, by exact rx_, by exact rx_, by exact rx_, by rw [← hBt]; exact rx_, by rw [← hBt]; exact rx_, RowKit.Below.toExt (by exact bl_)⟩ ?_
  have hbt : w.heap.size + 1 + 1 + 1 + 1 + 1 ≤ Bt := by omega
  rw [hBt]
  clear hBt
  rintro w5 ⟨RA, RB, RD, RT, RZ, RC, RN, hX⟩
  have HX := Lib.hid hX
  have cA := RA.cell
  have fA := RA.frozen
  have lA := RA.lt
  have HA := Lib.hid RA
  have cB := RB.cell
  have fB := RB.frozen
  have lB := RB.lt
  have HB := Lib.hid RB
  have cD := RD.cell
  have fD := RD.frozen
  have lD := RD.lt
  have HD := Lib.hid RD
  have cT := RT.cell
  have fT := RT.frozen
  have lT := RT.lt
  have HT := Lib.hid RT
  have cZ := RZ.cell
  have fZ := RZ.frozen
  have lZ := RZ.lt
  have HZ := Lib.hid RZ
  have cC := RC.cell
  have fC := RC.frozen
  have lC := RC.lt
  have HC := Lib.hid RC
  have cN := RN.cell
  have fN := RN.frozen
  have lN := RN.lt
  have HN := Lib.hid RN
  clear hX RA RB RD RT RZ RC RN
  go_upto_region 11 with (first | (go_at_call 49; (with_reducible refine (RR.out _).mono ?_); rintro _ _ ⟨rfl, XQ, rfl⟩))
  obtain ⟨q, hq⟩ : ∃ q, w5.heap.size + XQ.sz = q := ⟨_, rfl⟩
  refine wp_abs (F := fun w8 => Row w8 w.heap.size #[.int .i64 a.x, .int .i64 a.y, .int .i64 a.z, .int .i64 a.c0, .int .i64 a.c1, .int .i64 a.c2, .int .i64 a.c3] 41 ∧ Row w8 (w.heap.size + 1) #[.int .i64 b.x, .int .i64 b.y, .int .i64 b.z, .int .i64 b.c0, .int .i64 b.c1, .int .i64 b.c2, .int .i64 b.c3] 41 ∧ Row w8 (w.heap.size + 1 + 1) #[.int .i64 p, .int .i64 r, .int .i64 c] 25 ∧ Row w8 (w.heap.size + 1 + 1 + 1) #[.int .i64 x0, .int .i64 y0, .int .i64 x1, .int .i64 y1] 29 ∧ Row w8 (w.heap.size + 1 + 1 + 1 + 1) #[.int .i64 0, .int .i64 0, .int .i64 0] 25 ∧ Row w8 Bt #[.int .i64 (corX a b n a.x), .int .i64 (corY a b n a.y), .int .i64 (corX a b n b.x), .int .i64 (corY a b n b.y), .bool lv] 153 ∧ Row w8 (Bt + 1) #[.int .i64 p, .int .i64 r, .int .i64 c] 25 ∧ Row w8 q #[.slice none 0 0] 36 ∧ ∃ X, w8 = w.ext X) ⟨by (repeat (first | with_reducible exact HA.out | with_reducible refine Row.ext ?_ _ | with_reducible refine row_drew ?_ | with_reducible refine Row.alloc ?_ _ | with_reducible refine Row.other ?_ (by omega) _ _)), by (repeat (first | with_reducible exact HB.out | with_reducible refine Row.ext ?_ _ | with_reducible refine row_drew ?_ | with_reducible refine Row.alloc ?_ _ | with_reducible refine Row.other ?_ (by omega) _ _)), by (repeat (first | with_reducible exact HD.out | with_reducible refine Row.ext ?_ _ | with_reducible refine row_drew ?_ | with_reducible refine Row.alloc ?_ _ | with_reducible refine Row.other ?_ (by omega) _ _)), by (repeat (first | with_reducible exact HT.out | with_reducible refine Row.ext ?_ _ | with_reducible refine row_drew ?_ | with_reducible refine Row.alloc ?_ _ | with_reducible refine Row.other ?_ (by omega) _ _)), by (repeat (first | with_reducible exact HZ.out | with_reducible refine Row.ext ?_ _ | with_reducible refine row_drew ?_ | with_reducible refine Row.alloc ?_ _ | with_reducible refine Row.other ?_ (by omega) _ _)), by (repeat (first | with_reducible exact HC.out | with_reducible refine Row.ext ?_ _ | with_reducible refine row_drew ?_ | with_reducible refine Row.alloc ?_ _ | with_reducible refine Row.other ?_ (by omega) _ _)), by (repeat (first | with_reducible exact HN.out | with_reducible refine Row.ext ?_ _ | with_reducible refine row_drew ?_ | with_reducible refine Row.alloc ?_ _ | with_reducible refine Row.other ?_ (by omega) _ _)), by rw [← hq]; exact rx_, by obtain ⟨X0, hX0⟩ := HX.out; subst hX0; exact RowKit.Below.toExt (by exact br_)⟩ ?_
  have hqt : Bt + 1 < q := by omega
  rw [hq]
  clear hq
  clear cA fA lA HA cB fB lB HB cD fD lD HD cT fT lT HT cZ fZ lZ HZ cC fC lC HC cN fN lN HN
  clear HX
  rintro w8 ⟨RA, RB, RD, RT, RZ, RC, RN, RQ, hX⟩
  have HX := Lib.hid hX
  have cA := RA.cell
  have fA := RA.frozen
  have lA := RA.lt
  have HA := Lib.hid RA
  have cB := RB.cell
  have fB := RB.frozen
  have lB := RB.lt
  have HB := Lib.hid RB
  have cD := RD.cell
  have fD := RD.frozen
  have lD := RD.lt
  have HD := Lib.hid RD
  have cT := RT.cell
  have fT := RT.frozen
  have lT := RT.lt
  have HT := Lib.hid RT
  have cZ := RZ.cell
  have fZ := RZ.frozen
  have lZ := RZ.lt
  have HZ := Lib.hid RZ
  have cC := RC.cell
  have fC := RC.frozen
  have lC := RC.lt
  have HC := Lib.hid RC
  have cN := RN.cell
  have fN := RN.frozen
  have lN := RN.lt
  have HN := Lib.hid RN
  have cQ := RQ.cell
  have fQ := RQ.frozen
  have lQ := RQ.lt
  have HQ := Lib.hid RQ
  clear hX RA RB RD RT RZ RC RN RQ
  refine wp_region_rel 11 [none, none, none, none, none, none, none, some ([], srV (R4 (rchX a b n x0) (rchY a b n y0) x1 y1)), some ([], srS W), some ([8], srV (.int .i64 (W.length : Int))), none] (by kernel_rfl) (by kernel_rfl) ?_
  simp only [List.take_succ_cons, List.take_zero, List.drop_succ_cons, List.drop_zero]
  (repeat (first | (refine rel_none ?_; intro K_ hK_; go_big_quiet_op; go_big_quiet_on) | simp only [Act.put, List.setIfInBounds_toArray, List.set_cons_zero, List.set_cons_succ]))
  refine rel_some rfl (fun w_ hw_ hk_ K_ hK_ => ?_) (fun v53 f53 => ?_)
  · obtain ⟨X_, rfl⟩ := hw_
    go_simp
    go_at_call 114
    refine (RE.out _).mono ?_
    rintro _ _ ⟨rfl, hX⟩
    exact hK_ _ _ rfl hX
  obtain rfl := f53
  (repeat (first | (refine rel_none ?_; intro K_ hK_; go_big_quiet_op; go_big_quiet_on) | simp only [Act.put, List.setIfInBounds_toArray, List.set_cons_zero, List.set_cons_succ]))
  refine rel_some rfl (fun w_ hw_ hk_ K_ hK_ => ?_) (fun v54 f54 => ?_)
  · obtain ⟨X_, rfl⟩ := hw_
    go_simp
    go_at_call 113
    refine (WI.out _).mono ?_
    rintro _ _ ⟨v, rfl, h1, h2⟩
    exact hK_ _ _ h1 h2
  obtain ⟨a54, k54, rfl⟩ := f54
  (repeat (first | (refine rel_none ?_; intro K_ hK_; go_big_quiet_op; go_big_quiet_on) | simp only [Act.put, List.setIfInBounds_toArray, List.set_cons_zero, List.set_cons_succ]))
  refine rel_some rfl (fun w_ hw_ hk_ K_ hK_ => ?_) (fun v55 f55 => ?_)
  · obtain ⟨X_, rfl⟩ := hw_
    go_simp
    exact hK_ _ _ rfl ⟨⟨#[], _⟩, (ext_none' _).symm⟩
  obtain rfl := f55
  (repeat (first | (refine rel_none ?_; intro K_ hK_; go_big_quiet_op; go_big_quiet_on) | simp only [Act.put, List.setIfInBounds_toArray, List.set_cons_zero, List.set_cons_succ]))
  refine rel_nil ?_
  intro w_ hw_ kk
  obtain ⟨X, rfl⟩ := hw_
  have g1 := (kk (8, _) (by repeat (first | exact List.mem_cons_self | refine List.mem_cons_of_mem _ ?_)))
  clear kk
  go_upto_region 12 with fail
  refine wp_abs (F := fun w1 => Row w1 w.heap.size #[.int .i64 a.x, .int .i64 a.y, .int .i64 a.z, .int .i64 a.c0, .int .i64 a.c1, .int .i64 a.c2, .int .i64 a.c3] 41 ∧ Row w1 (w.heap.size + 1) #[.int .i64 b.x, .int .i64 b.y, .int .i64 b.z, .int .i64 b.c0, .int .i64 b.c1, .int .i64 b.c2, .int .i64 b.c3] 41 ∧ Row w1 (w.heap.size + 1 + 1) #[.int .i64 p, .int .i64 r, .int .i64 c] 25 ∧ Row w1 (w.heap.size + 1 + 1 + 1) #[.int .i64 x0, .int .i64 y0, .int .i64 x1, .int .i64 y1] 29 ∧ Row w1 (w.heap.size + 1 + 1 + 1 + 1) #[.int .i64 0, .int .i64 0, .int .i64 0] 25 ∧ Row w1 Bt #[.int .i64 (corX a b n a.x), .int .i64 (corY a b n a.y), .int .i64 (corX a b n b.x), .int .i64 (corY a b n b.y), .bool lv] 153 ∧ Row w1 (Bt + 1) #[.int .i64 p, .int .i64 r, .int .i64 c] 25 ∧ Row w1 q #[.slice none 0 0] 36 ∧ Sts w1 (.slice a54 W.length k54) W ∧ ∃ X, w1 = w.ext X) ⟨by (repeat (first | with_reducible exact HA.out | with_reducible refine Row.ext ?_ _ | with_reducible refine row_drew ?_ | with_reducible refine Row.alloc ?_ _ | with_reducible refine Row.other ?_ (by omega) _ _)), by (repeat (first | with_reducible exact HB.out | with_reducible refine Row.ext ?_ _ | with_reducible refine row_drew ?_ | with_reducible refine Row.alloc ?_ _ | with_reducible refine Row.other ?_ (by omega) _ _)), by (repeat (first | with_reducible exact HD.out | with_reducible refine Row.ext ?_ _ | with_reducible refine row_drew ?_ | with_reducible refine Row.alloc ?_ _ | with_reducible refine Row.other ?_ (by omega) _ _)), by (repeat (first | with_reducible exact HT.out | with_reducible refine Row.ext ?_ _ | with_reducible refine row_drew ?_ | with_reducible refine Row.alloc ?_ _ | with_reducible refine Row.other ?_ (by omega) _ _)), by (repeat (first | with_reducible exact HZ.out | with_reducible refine Row.ext ?_ _ | with_reducible refine row_drew ?_ | with_reducible refine Row.alloc ?_ _ | with_reducible refine Row.other ?_ (by omega) _ _)), by (repeat (first | with_reducible exact HC.out | with_reducible refine Row.ext ?_ _ | with_reducible refine row_drew ?_ | with_reducible refine Row.alloc ?_ _ | with_reducible refine Row.other ?_ (by omega) _ _)), by (repeat (first | with_reducible exact HN.out | with_reducible refine Row.ext ?_ _ | with_reducible refine row_drew ?_ | with_reducible refine Row.alloc ?_ _ | with_reducible refine Row.other ?_ (by omega) _ _)), by (repeat (first | with_reducible exact HQ.out | with_reducible refine Row.ext ?_ _ | with_reducible refine row_drew ?_ | with_reducible refine Row.alloc ?_ _ | with_reducible refine Row.other ?_ (by omega) _ _)), g1, by obtain ⟨X0, hX0⟩ := HX.out; subst hX0; exact RowKit.Below.toExt (by exact br_)⟩ ?_
  clear cA fA lA HA cB fB lB HB cD fD lD HD cT fT lT HT cZ fZ lZ HZ cC fC lC HC cN fN lN HN cQ fQ lQ HQ
  clear HX g1
  rintro w1 ⟨RA, RB, RD, RT, RZ, RC, RN, RQ, hS, hX⟩
  have HX := Lib.hid hX
  have HS := Lib.hid hS
  have HA := Lib.hid RA
  have lA := RA.lt
  have HB := Lib.hid RB
  have lB := RB.lt
  have HD := Lib.hid RD
  have lD := RD.lt
  have HT := Lib.hid RT
  have lT := RT.lt
  have HZ := Lib.hid RZ
  have lZ := RZ.lt
  have HC := Lib.hid RC
  have lC := RC.lt
  have HN := Lib.hid RN
  have lN := RN.lt
  have HQ := Lib.hid RQ
  have lQ := RQ.lt
  clear hX hS RA RB RD RT RZ RC RN RQ
  have hq1 : q < w1.heap.size := lQ
  have hWl : W.length ≤ 8388608 := HS.out.1
  go_wp2
  go_loopw [56] (fun i wr => ∃ (k : Nat) (v : Value) (L : List FrP), k ≤ W.length ∧ i = .int .i64 k ∧ Hid (L = wdOf a b n x0 y0 x1 y1 ((W.take k).filter (litB false p r c))) ∧ Hid (WdH w1 wr q v L))
    (fun i _ => W.length - (intOf i).toNat)
  case atStart => exact ⟨0, .slice none 0 0, [], by omega, rfl, Lib.hid rfl, Lib.hid ⟨HQ.out, World.ownsRow_nil _ _ _ _, Chg.refl⟩⟩
  case round =>
    obtain ⟨k, v, L, hk, rfl, hL, hR⟩ := hrel
    have rA := hR.out.chg.row HA.out (show ¬ w.heap.size = q by omega)
    have cA := rA.cell
    have fA := rA.frozen
    have zA := rA.lt
    have rB := hR.out.chg.row HB.out (show ¬ (w.heap.size + 1) = q by omega)
    have cB := rB.cell
    have fB := rB.frozen
    have zB := rB.lt
    have rD := hR.out.chg.row HD.out (show ¬ (w.heap.size + 1 + 1) = q by omega)
    have cD := rD.cell
    have fD := rD.frozen
    have zD := rD.lt
    have rT := hR.out.chg.row HT.out (show ¬ (w.heap.size + 1 + 1 + 1) = q by omega)
    have cT := rT.cell
    have fT := rT.frozen
    have zT := rT.lt
    have rC := hR.out.chg.row HC.out (show ¬ Bt = q by omega)
    have cC := rC.cell
    have fC := rC.frozen
    have zC := rC.lt
    by_cases hlt : k < W.length
    · have HKL := Lib.hid (show k + 1 ≤ W.length from hlt)
      obtain ⟨s, hs, hsm⟩ : ∃ s, W[k]? = some s ∧ s ∈ W := ⟨W[k]'hlt, List.getElem?_eq_getElem hlt, List.getElem_mem hlt⟩
      obtain ⟨sb, so, e54, s0, s1, s2, hsb⟩ := sts_at HS.out HQ.out hR.out.chg hs
      subst e54
      obtain ⟨⟨b0, b1⟩, ⟨b2, b3⟩, b4, b5⟩ := hWb.out s hsm
      have hki : (k : Int) < W.length := by omega
      have hsb' : sb ≤ wr.heap.size := by omega
      have hTk := Lib.hid (show wdOf a b n x0 y0 x1 y1 ((W.take (k + 1)).filter (litB false p r c)) = L ++ (wdRow a b n s).filter (frIn x0 y0 x1 y1) by rw [take_filter_yes _ W k s hs (rfl), wdOf_append, hL.out]; unfold wdOf; rw [List.flatMap_cons, List.flatMap_nil, List.append_nil])
      have hLl := Lib.hid (fun (M : List FrP) (hM : M.Sublist ((wdRow a b n s).filter (frIn x0 y0 x1 y1))) => (by have h1 := HLen.out ((W.take (k + 1)).filter (litB false p r c)) ((List.take_sublist _ _).filter _); rw [hTk.out, List.length_append] at h1; have h2 := hM.length_le; have h3 := HAR.out; rw [List.length_append]; omega : (L ++ M).length ≤ 134217728))
      have A0 := AL.out s.X s.Y ⟨by omega, by omega, by omega, by omega⟩
      simp only [mixed] at A0
      obtain ⟨zz, h5⟩ : ∃ v, mid a.z b.z (alN a b s.X s.Y) (alD a b) = v := ⟨_, rfl⟩
      obtain ⟨g0, h6⟩ : ∃ v, mid a.c0 b.c0 (alN a b s.X s.Y) (alD a b) = v := ⟨_, rfl⟩
      obtain ⟨g1, h7⟩ : ∃ v, mid a.c1 b.c1 (alN a b s.X s.Y) (alD a b) = v := ⟨_, rfl⟩
      obtain ⟨g2, h8⟩ : ∃ v, mid a.c2 b.c2 (alN a b s.X s.Y) (alD a b) = v := ⟨_, rfl⟩
      obtain ⟨g3, h9⟩ : ∃ v, mid a.c3 b.c3 (alN a b s.X s.Y) (alD a b) = v := ⟨_, rfl⟩
      have hFr := Lib.hid (fun j : Nat => show wdFr a b s j = ⟨(wdFr a b s j).x, (wdFr a b s j).y, zz, g0, g1, g2, g3, 64⟩ by rw [← h5, ← h6, ← h7, ← h8, ← h9]; rfl)
      simp only [h5, h6, h7, h8, h9] at A0
      have A1 := Lib.hid A0
      clear A0 h5 h6 h7 h8 h9 hs hsm
      go_upto_region 17 with (first
        | (go_at_call 116; (with_reducible refine (A1.out _).mono ?_); rintro _ _ ⟨rfl, XT, rfl⟩))
      obtain ⟨Bf, hBf⟩ : ∃ B, wr.heap.size + 1 = B := ⟨_, rfl⟩
      refine wp_abs (F := fun w3 => Row w3 Bf #[.int .i64 s.X, .int .i64 s.Y, .int .i64 zz, .int .i64 g0, .int .i64 g1, .int .i64 g2, .int .i64 g3, .int .i64 64] 76 ∧ WdH w1 w3 q v L) ⟨?_, hR.out.grow (by exact br_)⟩ ?_
      · rw [← hBf]; exact rx_
      have hbf : wr.heap.size ≤ Bf := by omega
      rw [hBf]
      clear rA cA fA zA rB cB fB zB rD cD fD zD rT cT fT zT rC cC fC zC
      rintro w3 ⟨RF, RH⟩
      have HOff := Lib.hid (hR.out.new hbf)
      have hbq : Bf ≠ q := by have := hR.out.chg.size; omega
      have hw1 : w1.heap.size ≤ Bf := by have := hR.out.chg.size; omega
      have HF0 := Lib.hid RF
      have HH0 := Lib.hid RH
      clear RF RH hBf hR s0 s1 s2 hsb hsb'
      go_wp2
      go_loopw [86] (fun i wq => ∃ (j : Nat) (gx gy : Int) (v : Value) (L' : List FrP), j ≤ N ∧ i = .int .i64 j ∧ Hid ((wdFr a b s j).x = gx ∧ (wdFr a b s j).y = gy) ∧ Hid (L' = L ++ ((List.range j).map (wdFr a b s)).filter (frIn x0 y0 x1 y1)) ∧ Hid (WdH w1 wq q v L') ∧ Hid (some Bf ≠ v.ownBlock) ∧ Hid (Row wq Bf #[.int .i64 gx, .int .i64 gy, .int .i64 zz, .int .i64 g0, .int .i64 g1, .int .i64 g2, .int .i64 g3, .int .i64 64] 76))
        (fun i _ => N - (intOf i).toNat)
      case atStart => exact ⟨0, s.X, s.Y, v, L, by omega, rfl, Lib.hid ⟨by unfold wdFr; simp, by unfold wdFr; simp⟩, Lib.hid (by simp), HH0, HOff, HF0⟩
      case round =>
        clear HH0 HOff HF0
        obtain ⟨j, gx, gy, v, L', hj, rfl, hg, hL', hR, hO, hF⟩ := hrel
        have hFc := hF.out.cell
        have hFf := hF.out.frozen
        have hFl := hF.out.lt
        have rC := hR.out.chg.row HC.out (show ¬ Bt = q by omega)
        have cC := rC.cell
        have fC := rC.frozen
        have zC := rC.lt
        have nb := HNN.out
        by_cases hlj : j < N
        · have HJL := Lib.hid (show j + 1 ≤ N from hlj)
          have hji : (j : Int) < n := by omega
          obtain ⟨u0, u1, u2, u3⟩ := wdFr_bd (a := a) (b := b) (s := s) (j := j) (n := n) ⟨b0, b1⟩ ⟨b2, b3⟩ (by omega) (by omega)
          rw [hg.out.1] at u0 u1
          rw [hg.out.2] at u2 u3
          have hfr := Lib.hid (show wdFr a b s j = ⟨gx, gy, zz, g0, g1, g2, g3, 64⟩ by rw [hFr.out j, hg.out.1, hg.out.2])
          have hnext := wdFr_next (a := a) (b := b) (s := s) j
          rw [HLV.out, hg.out.1, hg.out.2] at hnext
          have HNX := Lib.hid hnext
          have hsub := hLl.out (((List.range j).map (wdFr a b s)).filter (frIn x0 y0 x1 y1)) (by
            unfold wdRow
            exact (List.Sublist.map _ (List.range_sublist.2 (by omega))).filter _)
          rw [← hL'.out] at hsub
          clear nb
          by_cases hin : frIn x0 y0 x1 y1 ⟨gx, gy, zz, g0, g1, g2, g3, 64⟩ = true
          · have AD := Lib.hid (add_yes ⟨gx, gy, zz, g0, g1, g2, g3, 64⟩ x0 y0 x1 y1 HR.out hin (w.heap.size + 1 + 1 + 1) q w1 wr v L' hR.out (hR.out.chg.row HT.out (by omega)) hsub hq1)
            have hLn := Lib.hid (show L' ++ [⟨gx, gy, zz, g0, g1, g2, g3, 64⟩] = L ++ ((List.range (j + 1)).map (wdFr a b s)).filter (frIn x0 y0 x1 y1) by rw [List.range_succ, List.map_append, List.filter_append, ← List.append_assoc, ← hL'.out, List.map_cons, List.map_nil, hfr.out, List.filter_cons_of_pos hin, List.filter_nil])
            clear hnext hsub hin
            cases lv
            · simp only [if_neg, Bool.false_eq_true, if_false] at HNX
              go_wp2_with (go_at_call 111; (with_reducible refine AD.out.mono ?_); rintro _ w9 ⟨rfl, v9, hA⟩; have r9 := hA.row Bf _ _ hbq hO.out hF.out; have F9 := Lib.hid r9; have cF9 := r9.cell; have fF9 := r9.frozen; have lF9 := r9.lt; have q9 := hA.hold.chg.row HC.out (show ¬ Bt = q by omega); have cC9 := q9.cell; have fC9 := q9.frozen; have lC9 := q9.lt; have A9 := Lib.hid hA; have O9 := Lib.hid (hA.off Bf hFl hO.out); clear r9 q9 hA)
              go_roundw
              case rel => exact ⟨j + 1, gx + 1, gy, v9, _, HJL.out, by go_num, Lib.hid HNX.out, hLn, Lib.hid (A9.out.hold.put O9.out hbq hw1), O9, Lib.hid (F9.out.set 0 _)⟩
              case measure => have := HJL.out; simp [intOf]; omega
            · simp only [if_true] at HNX
              go_wp2_with (go_at_call 111; (with_reducible refine AD.out.mono ?_); rintro _ w9 ⟨rfl, v9, hA⟩; have r9 := hA.row Bf _ _ hbq hO.out hF.out; have F9 := Lib.hid r9; have cF9 := r9.cell; have fF9 := r9.frozen; have lF9 := r9.lt; have q9 := hA.hold.chg.row HC.out (show ¬ Bt = q by omega); have cC9 := q9.cell; have fC9 := q9.frozen; have lC9 := q9.lt; have A9 := Lib.hid hA; have O9 := Lib.hid (hA.off Bf hFl hO.out); clear r9 q9 hA)
              go_roundw
              case rel => exact ⟨j + 1, gx, gy + 1, v9, _, HJL.out, by go_num, Lib.hid HNX.out, hLn, Lib.hid (A9.out.hold.put O9.out hbq hw1), O9, Lib.hid (F9.out.set 1 _)⟩
              case measure => have := HJL.out; simp [intOf]; omega
          · have hin' : frIn x0 y0 x1 y1 ⟨gx, gy, zz, g0, g1, g2, g3, 64⟩ = false := by simpa using hin
            have AD := Lib.hid (add_no ⟨gx, gy, zz, g0, g1, g2, g3, 64⟩ x0 y0 x1 y1 HR.out hin' (w.heap.size + 1 + 1 + 1) q w1 wr v L' hR.out (hR.out.chg.row HT.out (by omega)))
            have hLn := Lib.hid (show L' = L ++ ((List.range (j + 1)).map (wdFr a b s)).filter (frIn x0 y0 x1 y1) by rw [List.range_succ, List.map_append, List.filter_append, ← List.append_assoc, ← hL'.out, List.map_cons, List.map_nil, hfr.out, List.filter_cons_of_neg hin, List.filter_nil, List.append_nil])
            clear hnext hsub hin hin'
            cases lv
            · simp only [if_neg, Bool.false_eq_true, if_false] at HNX
              go_wp2_with (go_at_call 111; (with_reducible refine AD.out.mono ?_); rintro _ w9 ⟨rfl, v9, hA⟩; have r9 := hA.row Bf _ _ hbq hO.out hF.out; have F9 := Lib.hid r9; have cF9 := r9.cell; have fF9 := r9.frozen; have lF9 := r9.lt; have q9 := hA.hold.chg.row HC.out (show ¬ Bt = q by omega); have cC9 := q9.cell; have fC9 := q9.frozen; have lC9 := q9.lt; have A9 := Lib.hid hA; have O9 := Lib.hid (hA.off Bf hFl hO.out); clear r9 q9 hA)
              go_roundw
              case rel => exact ⟨j + 1, gx + 1, gy, v9, _, HJL.out, by go_num, Lib.hid HNX.out, hLn, Lib.hid (A9.out.hold.put O9.out hbq hw1), O9, Lib.hid (F9.out.set 0 _)⟩
              case measure => have := HJL.out; simp [intOf]; omega
            · simp only [if_true] at HNX
              go_wp2_with (go_at_call 111; (with_reducible refine AD.out.mono ?_); rintro _ w9 ⟨rfl, v9, hA⟩; have r9 := hA.row Bf _ _ hbq hO.out hF.out; have F9 := Lib.hid r9; have cF9 := r9.cell; have fF9 := r9.frozen; have lF9 := r9.lt; have q9 := hA.hold.chg.row HC.out (show ¬ Bt = q by omega); have cC9 := q9.cell; have fC9 := q9.frozen; have lC9 := q9.lt; have A9 := Lib.hid hA; have O9 := Lib.hid (hA.off Bf hFl hO.out); clear r9 q9 hA)
              go_roundw
              case rel => exact ⟨j + 1, gx, gy + 1, v9, _, HJL.out, by go_num, Lib.hid HNX.out, hLn, Lib.hid (A9.out.hold.put O9.out hbq hw1), O9, Lib.hid (F9.out.set 1 _)⟩
              case measure => have := HJL.out; simp [intOf]; omega
        · obtain rfl : j = N := by omega
          have hLn := Lib.hid (show L' = wdOf a b n x0 y0 x1 y1 ((W.take (k + 1)).filter (litB false p r c)) by rw [hTk.out, hL'.out]; unfold wdRow; rw [show n.toNat = j by omega])
          have hnj : n ≤ (j : Int) := by omega
          clear nb
          go_wp2
          go_roundw
          case rel => exact ⟨k + 1, v, L', HKL.out, by go_num, hLn, hR⟩
          case measure => have := HKL.out; simp [intOf]; omega
    · obtain rfl : k = W.length := by omega
      have hfin := hL.out
      rw [List.take_length] at hfin
      have HFin := Lib.hid hfin
      have hll := HLen.out (W.filter (litB false p r c)) (List.Sublist.refl _)
      have hha := HAR.out
      rw [← hfin] at hll
      obtain ⟨av, kv, rfl⟩ := own_slice hR.out.own
      have h1 := own_recs (K := frK) hR.out.own (by omega)
      have HR1 := Lib.hid (show Recs frK wr (.slice av L.length kv) L from h1)
      obtain ⟨X0, hX0⟩ := HX.out
      have B1 : Below w.heap.size w wr := (Chg.trans (p := fun b => b = q) (hX0 ▸ Chg.of_ext X0) hR.out.chg).below (B := w.heap.size) (fun k hk e => by omega) (Nat.le_refl _)
      have HB1 := Lib.hid B1
      have rZ := hR.out.chg.row HZ.out (show ¬ (w.heap.size + 1 + 1 + 1 + 1) = q by omega)
      have cZ := rZ.cell
      have fZ := rZ.frozen
      have zZ := rZ.lt
      have rN := hR.out.chg.row HN.out (show ¬ (Bt + 1) = q by omega)
      have cN := rN.cell
      have fN := rN.frozen
      have zN := rN.lt
      have rq := hR.out.cell
      have cq := rq.cell
      have fq := rq.frozen
      have zq := rq.lt
      clear rA cA fA zA rB cB fB zB rD cD fD zD rT cT fT zT rC cC fC zC
      clear h1 hX0 B1 rq hfin hll hha rZ rN
      go_upto_region 25 with fail
      refine wp_region_ext_tail 3 (by kernel_rfl) (by kernel_rfl) ?_
      simp only [List.take_succ_cons, List.take_zero, List.drop_succ_cons, List.drop_zero]
      repeat (go_big_quiet_step ((fail)))
      refine wpQuiet_nil ?_
      intro _ hw_ext
      obtain ⟨X25, hw_ext⟩ := hw_ext
      subst hw_ext
      go_wp2
      refine bodyPost_ret (v := .tuple #[.slice av L.length kv, D3 p r c]) (by simp [results, Tryz.results57, go_sem, cZ, zZ]; try rfl) rfl ?_
      refine ⟨_, rfl, ?_, ?_⟩
      · rw [← HFin.out]
        refine Recs.chg (p := fun b => b = w.heap.size + 1 + 1 + 1 + 1) HR1.out ?_ ?_
        · exact chg3 _ _ _ _ _ _
        · intro b hb _ _ e
          have := (hR.out.own.lt b hb).1
          omega
      · have B1 := HB1.out
        exact RowKit.Below.toExt (by exact br_)
end Go.Proofs.YtbkmgngeahmefaaGreat
