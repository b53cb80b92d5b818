/- FaceLines: whatever the input, the law returns true and leaves its arguments as they read. No condition. -/
import Derived.Test.YtbkmgngeahmefaaGreatSFaceLines43
import Derived.Test.YtbkmgngeahmefaaGreatSFaceLines47
import Derived.Test.YtbkmgngeahmefaaGreatSFaceLines49
set_option linter.unusedVariables false
set_option linter.unusedSimpArgs false
namespace Go.Proofs.YtbkmgngeahmefaaGreat
open Go.RowKit
theorem and_dec3 {p q : Prop} [Decidable p] [Decidable q] (h : ¬ (p ∧ q)) : decide p = false ∨ (decide p = true ∧ decide q = false) := by
  by_cases h1 : p
  · exact .inr ⟨decide_eq_true h1, decide_eq_false fun h2 => h ⟨h1, h2⟩⟩
  · exact .inl (decide_eq_false h1)
set_option maxRecDepth 100000 in
set_option maxHeartbeats 4000000 in
theorem lines22_no (av ev : Option Addr) (n cap m ecap : Nat) (k : LookP) (a b : WinP) (x0 y0 x1 y1 : Int) (w : World) (hn : n ≤ maxLen) (hm : m ≤ maxLen) (h : ¬ ((n ≤ 12 ∧ m ≤ 14 ∧ areaP x0 y0 x1 y1 ≤ 80) ∧ k.ok)) : Calls Tryz.prog 4 #[fcV (.slice av n cap) (.slice ev m ecap) k x0 y0 x1 y1, a.v, b.v] w (Ret (.bool true) w) := by
  have SM0 := fun w => small22_any av ev n cap m ecap k x0 y0 x1 y1 w hn hm
  have RI0 := fun w => rlook_right k w
  unfold maxLen at hn hm
  have hh := and_dec3 h
  clear h
  generalize decide (n ≤ 12 ∧ m ≤ 14 ∧ areaP x0 y0 x1 y1 ≤ 80) = d1 at *
  generalize decide k.ok = d2 at *
  have SM := Lib.hid SM0
  have RI := Lib.hid RI0
  clear SM0 RI0
  rcases hh with rfl | ⟨rfl, rfl⟩
  all_goals
    go_enter Tryz.func4, Tryz.ntmps4
    go_upto_region 1 with fail
    refine wp_abs (F := fun w1 => Row w1 w.heap.size #[.slice av n cap, .slice ev m ecap, .int .i64 k.width, .bool k.soft, .bool k.dashed, .int .i64 k.p, .int .i64 k.r, .int .i64 k.c, .int .i64 k.size, .int .i64 k.kind, .int .i64 k.front, .int .i64 k.back, .bool k.ccw, .int .i64 k.cull, .bool k.off, .int .i64 k.factor, .int .i64 k.units, .int .i64 x0, .int .i64 y0, .int .i64 x1, .int .i64 y1] 31 ∧ Row w1 (w.heap.size + 1) #[.int .i64 a.x, .int .i64 a.y, .int .i64 a.z, .int .i64 a.c0, .int .i64 a.c1, .int .i64 a.c2, .int .i64 a.c3] 41 ∧ Row w1 (w.heap.size + 1 + 1) #[.int .i64 b.x, .int .i64 b.y, .int .i64 b.z, .int .i64 b.c0, .int .i64 b.c1, .int .i64 b.c2, .int .i64 b.c3] 41 ∧ ∃ X, w1 = w.ext X) ⟨by exact rx_, by exact rx_, by exact rx_, RowKit.Below.toExt (by exact bl_)⟩ ?_
    rintro w1 ⟨Ra, Rb, Rc, hX⟩
    have HX := Lib.hid hX
    have ca := Ra.cell
    have fa := Ra.frozen
    have la := Ra.lt
    have da := World.rowD_of Ra
    clear Ra Rb Rc hX
    go_wp2_with (first | (go_at_call 11; (with_reducible refine (SM.out _).mono ?_); rintro _ _ ⟨rfl, X_, rfl⟩) | (go_at_call 14; (with_reducible refine (RI.out _).mono ?_); rintro _ _ ⟨rfl, X_, rfl⟩) | (go_at_call 12; (with_reducible refine (awake22 _).mono ?_); rintro _ _ ⟨rfl, X_, rfl⟩))
    go_ret
    obtain ⟨X0, hX0⟩ := HX.out
    subst hX0
    exact Ret.of' rfl (by exact br_)
set_option maxRecDepth 100000 in
set_option maxHeartbeats 8000000 in
theorem lines22_false (av ev : Option Addr) (n cap m ecap : Nat) (k : LookP) (a b : WinP) (x0 y0 x1 y1 : Int) (w : World) (hn : n ≤ maxLen) (hm : m ≤ maxLen) (ha : a.wide) (hb : b.wide) (hk : k.wide) (h1 : n ≤ 12 ∧ m ≤ 14 ∧ areaP x0 y0 x1 y1 ≤ 80) (h2 : ({ k with soft := false } : LookP).ok) : Calls Tryz.prog 4 #[fcV (.slice av n cap) (.slice ev m ecap) { k with soft := false } x0 y0 x1 y1, a.v, b.v] w (Ret (.bool true) w) := by
  have SM := Lib.hid (fun w => decide_eq_true h1 ▸ small22_any av ev n cap m ecap { k with soft := false } x0 y0 x1 y1 w hn hm)
  have RI := Lib.hid (fun w => decide_eq_true h2 ▸ rlook_right { k with soft := false } w)
  have W1 := Lib.hid (fun w => face_line a b { k with soft := false } k.c x0 y0 x1 y1 ha hb hk.2 hk.4 (by omega) w)
  have W2 := Lib.hid (fun w => rface_line a b { k with soft := false } k.c x0 y0 x1 y1 ha hb hk.2 hk.4 (by omega) w)
  obtain ⟨cc, hcc⟩ : ∃ z, lnC a b { k with soft := false } k.c = z := ⟨_, rfl⟩
  rw [hcc] at W1 W2
  clear hcc
  obtain ⟨L, hL⟩ : ∃ z, lnL a b { k with soft := false } k.c x0 y0 x1 y1 = z := ⟨_, rfl⟩
  rw [hL] at W1 W2
  unfold maxLen at hn hm
  clear hL h1 h2 ha hb hk
  go_enter Tryz.func4, Tryz.ntmps4
  go_upto_region 1 with fail
  refine wp_abs (F := fun w1 => Row w1 w.heap.size #[.slice av n cap, .slice ev m ecap, .int .i64 k.width, .bool false, .bool k.dashed, .int .i64 k.p, .int .i64 k.r, .int .i64 k.c, .int .i64 k.size, .int .i64 k.kind, .int .i64 k.front, .int .i64 k.back, .bool k.ccw, .int .i64 k.cull, .bool k.off, .int .i64 k.factor, .int .i64 k.units, .int .i64 x0, .int .i64 y0, .int .i64 x1, .int .i64 y1] 31 ∧ Row w1 (w.heap.size + 1) #[.int .i64 a.x, .int .i64 a.y, .int .i64 a.z, .int .i64 a.c0, .int .i64 a.c1, .int .i64 a.c2, .int .i64 a.c3] 41 ∧ Row w1 (w.heap.size + 1 + 1) #[.int .i64 b.x, .int .i64 b.y, .int .i64 b.z, .int .i64 b.c0, .int .i64 b.c1, .int .i64 b.c2, .int .i64 b.c3] 41 ∧ ∃ X, w1 = w.ext X) ⟨by exact rx_, by exact rx_, by exact rx_, RowKit.Below.toExt (by exact bl_)⟩ ?_
  rintro w1 ⟨Ra, Rb, Rc, hX⟩
  have HX := Lib.hid hX
  have HRa := Lib.hid Ra
  have ca := Ra.cell
  have fa := Ra.frozen
  have la := Ra.lt
  have da := World.rowD_of Ra
  have HRb := Lib.hid Rb
  have cb := Rb.cell
  have fb := Rb.frozen
  have lb := Rb.lt
  have HRc := Lib.hid Rc
  have cc_ := Rc.cell
  have fc_ := Rc.frozen
  have lc_ := Rc.lt
  clear Ra Rb Rc hX
  go_upto_region 3 with (first | (go_at_call 11; (with_reducible refine (SM.out _).mono ?_); rintro _ _ ⟨rfl, X_, rfl⟩) | (go_at_call 14; (with_reducible refine (RI.out _).mono ?_); rintro _ _ ⟨rfl, X_, rfl⟩))
  refine wp_abs (F := fun w1b => Row w1b w.heap.size #[.slice av n cap, .slice ev m ecap, .int .i64 k.width, .bool false, .bool k.dashed, .int .i64 k.p, .int .i64 k.r, .int .i64 k.c, .int .i64 k.size, .int .i64 k.kind, .int .i64 k.front, .int .i64 k.back, .bool k.ccw, .int .i64 k.cull, .bool k.off, .int .i64 k.factor, .int .i64 k.units, .int .i64 x0, .int .i64 y0, .int .i64 x1, .int .i64 y1] 31 ∧ Row w1b (w.heap.size + 1) #[.int .i64 a.x, .int .i64 a.y, .int .i64 a.z, .int .i64 a.c0, .int .i64 a.c1, .int .i64 a.c2, .int .i64 a.c3] 41 ∧ Row w1b (w.heap.size + 1 + 1) #[.int .i64 b.x, .int .i64 b.y, .int .i64 b.z, .int .i64 b.c0, .int .i64 b.c1, .int .i64 b.c2, .int .i64 b.c3] 41 ∧ ∃ X, w1b = w.ext X) ⟨by exact rq_ HRa.out, by exact rq_ HRb.out, by exact rq_ HRc.out, by obtain ⟨X0, hX0⟩ := HX.out; subst hX0; exact RowKit.Below.toExt (by exact br_)⟩ ?_
  clear ca fa la da cb fb lb cc_ fc_ lc_ HRa HRb HRc HX
  rintro w1b ⟨Ra, Rb, Rc, hX⟩
  have HX := Lib.hid hX
  have HRa := Lib.hid Ra
  have ca := Ra.cell
  have fa := Ra.frozen
  have la := Ra.lt
  have da := World.rowD_of Ra
  have HRb := Lib.hid Rb
  have cb := Rb.cell
  have fb := Rb.frozen
  have lb := Rb.lt
  have HRc := Lib.hid Rc
  have cc_ := Rc.cell
  have fc_ := Rc.frozen
  have lc_ := Rc.lt
  clear Ra Rb Rc hX
  go_upto_region 4 with (first
    | (go_at_call 18; (with_reducible refine (W1.out _).mono ?_); rintro _ _ ⟨v1, rfl, hv1, ⟨XF, rfl⟩⟩; have HV1 := Lib.hid hv1; obtain ⟨-, aw, cap1, rfl, -, -⟩ := hv1))
  refine wp_abs (F := fun w2 => Row w2 w.heap.size #[.slice av n cap, .slice ev m ecap, .int .i64 k.width, .bool false, .bool k.dashed, .int .i64 k.p, .int .i64 k.r, .int .i64 k.c, .int .i64 k.size, .int .i64 k.kind, .int .i64 k.front, .int .i64 k.back, .bool k.ccw, .int .i64 k.cull, .bool k.off, .int .i64 k.factor, .int .i64 k.units, .int .i64 x0, .int .i64 y0, .int .i64 x1, .int .i64 y1] 31 ∧ Row w2 (w.heap.size + 1) #[.int .i64 a.x, .int .i64 a.y, .int .i64 a.z, .int .i64 a.c0, .int .i64 a.c1, .int .i64 a.c2, .int .i64 a.c3] 41 ∧ Row w2 (w.heap.size + 1 + 1) #[.int .i64 b.x, .int .i64 b.y, .int .i64 b.z, .int .i64 b.c0, .int .i64 b.c1, .int .i64 b.c2, .int .i64 b.c3] 41 ∧ Row w2 (w1b.heap.size + XF.sz) #[.int .i64 k.p, .int .i64 k.r, .int .i64 cc] 25 ∧ Recs frK w2 (.slice aw L.length cap1) L ∧ ∃ X, w2 = w.ext X) ⟨by exact rq_ HRa.out, by exact rq_ HRb.out, by exact rq_ HRc.out, by exact rx_, HV1.out.alloc _, by obtain ⟨X0, hX0⟩ := HX.out; subst hX0; exact RowKit.Below.toExt (by exact br_)⟩ ?_
  obtain ⟨B1, hB1⟩ : ∃ B, w1b.heap.size + XF.sz = B := ⟨_, rfl⟩
  rw [hB1]
  clear hB1 ca fa la da cb fb lb cc_ fc_ lc_ HRa HRb HRc HX HV1
  rintro w2 ⟨Ra, Rb, Rc, Rd, hv1, hX⟩
  have HX := Lib.hid hX
  have HRa := Lib.hid Ra
  have ca := Ra.cell
  have fa := Ra.frozen
  have la := Ra.lt
  have da := World.rowD_of Ra
  have HRb := Lib.hid Rb
  have cb := Rb.cell
  have fb := Rb.frozen
  have lb := Rb.lt
  have HRc := Lib.hid Rc
  have cc_ := Rc.cell
  have fc_ := Rc.frozen
  have lc_ := Rc.lt
  have HRd := Lib.hid Rd
  have cd := Rd.cell
  have fd := Rd.frozen
  have ld := Rd.lt
  have HV1 := Lib.hid hv1
  clear Ra Rb Rc Rd hX hv1
  go_upto_region 5 with (first
    | (go_at_call 19; (with_reducible refine (W2.out _).mono ?_); rintro _ _ ⟨v2, rfl, hv2, ⟨XG, rfl⟩⟩; have HV2 := Lib.hid hv2; obtain ⟨-, au, caq, rfl, -, -⟩ := hv2))
  refine wp_abs (F := fun w3 => Row w3 w.heap.size #[.slice av n cap, .slice ev m ecap, .int .i64 k.width, .bool false, .bool k.dashed, .int .i64 k.p, .int .i64 k.r, .int .i64 k.c, .int .i64 k.size, .int .i64 k.kind, .int .i64 k.front, .int .i64 k.back, .bool k.ccw, .int .i64 k.cull, .bool k.off, .int .i64 k.factor, .int .i64 k.units, .int .i64 x0, .int .i64 y0, .int .i64 x1, .int .i64 y1] 31 ∧ Row w3 (w.heap.size + 1) #[.int .i64 a.x, .int .i64 a.y, .int .i64 a.z, .int .i64 a.c0, .int .i64 a.c1, .int .i64 a.c2, .int .i64 a.c3] 41 ∧ Row w3 (w.heap.size + 1 + 1) #[.int .i64 b.x, .int .i64 b.y, .int .i64 b.z, .int .i64 b.c0, .int .i64 b.c1, .int .i64 b.c2, .int .i64 b.c3] 41 ∧ Row w3 B1 #[.int .i64 k.p, .int .i64 k.r, .int .i64 cc] 25 ∧ Row w3 (w2.heap.size + XG.sz) #[.int .i64 k.p, .int .i64 k.r, .int .i64 cc] 25 ∧ Recs frK w3 (.slice aw L.length cap1) L ∧ Recs frK w3 (.slice au L.length caq) L ∧ ∃ X, w3 = w.ext X) ⟨by exact rq_ HRa.out, by exact rq_ HRb.out, by exact rq_ HRc.out, by exact rq_ HRd.out, by exact rx_, (HV1.out.ext _).alloc _, HV2.out.alloc _, by obtain ⟨X0, hX0⟩ := HX.out; subst hX0; exact RowKit.Below.toExt (by exact br_)⟩ ?_
  obtain ⟨B2, hB2⟩ : ∃ B, w2.heap.size + XG.sz = B := ⟨_, rfl⟩
  rw [hB2]
  clear hB2 ca fa la da cb fb lb cc_ fc_ lc_ cd fd ld HRa HRb HRc HRd HX HV1 HV2
  rintro w3 ⟨Ra, Rb, Rc, Rd, Re, hv1, hv2, hX⟩
  have HX := Lib.hid hX
  have HSm := Lib.hid (fun X => same_frs (hv1.ext X) (hv2.ext X))
  have HRa := Lib.hid Ra
  have ca := Ra.cell
  have fa := Ra.frozen
  have la := Ra.lt
  have da := World.rowD_of Ra
  have HRd := Lib.hid Rd
  have cd := Rd.cell
  have fd := Rd.frozen
  have ld := Rd.lt
  have HRe := Lib.hid Re
  have ce := Re.cell
  have fe := Re.frozen
  have le := Re.lt
  clear Ra Rb Rc Rd Re hX hv1 hv2 W1 W2 SM RI HRa HRd HRe
  go_wp2_with (first | (go_at_call 12; (with_reducible refine (awake22 _).mono ?_); rintro _ _ ⟨rfl, X_, rfl⟩) | (go_at_call 15; (with_reducible refine (HSm.out _).mono ?_); rintro _ _ ⟨rfl, X_, rfl⟩))
  go_ret
  obtain ⟨X0, hX0⟩ := HX.out
  subst hX0
  exact Ret.of' (by simp) (by exact br_)
set_option maxRecDepth 100000 in
set_option maxHeartbeats 8000000 in
theorem lines22_true (av ev : Option Addr) (n cap m ecap : Nat) (k : LookP) (a b : WinP) (x0 y0 x1 y1 : Int) (w : World) (hn : n ≤ maxLen) (hm : m ≤ maxLen) (ha : a.wide) (hb : b.wide) (hk : k.wide) (h1 : n ≤ 12 ∧ m ≤ 14 ∧ areaP x0 y0 x1 y1 ≤ 80) (h2 : ({ k with soft := true } : LookP).ok) : Calls Tryz.prog 4 #[fcV (.slice av n cap) (.slice ev m ecap) { k with soft := true } x0 y0 x1 y1, a.v, b.v] w (Ret (.bool true) w) := by
  have SM := Lib.hid (fun w => decide_eq_true h1 ▸ small22_any av ev n cap m ecap { k with soft := true } x0 y0 x1 y1 w hn hm)
  have RI := Lib.hid (fun w => decide_eq_true h2 ▸ rlook_right { k with soft := true } w)
  have W1 := Lib.hid (fun w => face_line a b { k with soft := true } k.c x0 y0 x1 y1 ha hb hk.2 hk.4 (by omega) w)
  have W2 := Lib.hid (fun w => rface_line a b { k with soft := true } k.c x0 y0 x1 y1 ha hb hk.2 hk.4 (by omega) w)
  have hc : lnC a b { k with soft := true } k.c = k.c := if_pos rfl
  rw [hc] at W1 W2
  clear hc
  obtain ⟨L, hL⟩ : ∃ z, lnL a b { k with soft := true } k.c x0 y0 x1 y1 = z := ⟨_, rfl⟩
  rw [hL] at W1 W2
  unfold maxLen at hn hm
  clear hL h1 h2 ha hb hk
  go_enter Tryz.func4, Tryz.ntmps4
  go_upto_region 1 with fail
  refine wp_abs (F := fun w1 => Row w1 w.heap.size #[.slice av n cap, .slice ev m ecap, .int .i64 k.width, .bool true, .bool k.dashed, .int .i64 k.p, .int .i64 k.r, .int .i64 k.c, .int .i64 k.size, .int .i64 k.kind, .int .i64 k.front, .int .i64 k.back, .bool k.ccw, .int .i64 k.cull, .bool k.off, .int .i64 k.factor, .int .i64 k.units, .int .i64 x0, .int .i64 y0, .int .i64 x1, .int .i64 y1] 31 ∧ Row w1 (w.heap.size + 1) #[.int .i64 a.x, .int .i64 a.y, .int .i64 a.z, .int .i64 a.c0, .int .i64 a.c1, .int .i64 a.c2, .int .i64 a.c3] 41 ∧ Row w1 (w.heap.size + 1 + 1) #[.int .i64 b.x, .int .i64 b.y, .int .i64 b.z, .int .i64 b.c0, .int .i64 b.c1, .int .i64 b.c2, .int .i64 b.c3] 41 ∧ ∃ X, w1 = w.ext X) ⟨by exact rx_, by exact rx_, by exact rx_, RowKit.Below.toExt (by exact bl_)⟩ ?_
  rintro w1 ⟨Ra, Rb, Rc, hX⟩
  have HX := Lib.hid hX
  have HRa := Lib.hid Ra
  have ca := Ra.cell
  have fa := Ra.frozen
  have la := Ra.lt
  have da := World.rowD_of Ra
  have HRb := Lib.hid Rb
  have cb := Rb.cell
  have fb := Rb.frozen
  have lb := Rb.lt
  have HRc := Lib.hid Rc
  have cc_ := Rc.cell
  have fc_ := Rc.frozen
  have lc_ := Rc.lt
  clear Ra Rb Rc hX
  go_upto_region 3 with (first | (go_at_call 11; (with_reducible refine (SM.out _).mono ?_); rintro _ _ ⟨rfl, X_, rfl⟩) | (go_at_call 14; (with_reducible refine (RI.out _).mono ?_); rintro _ _ ⟨rfl, X_, rfl⟩))
  refine wp_abs (F := fun w1b => Row w1b w.heap.size #[.slice av n cap, .slice ev m ecap, .int .i64 k.width, .bool true, .bool k.dashed, .int .i64 k.p, .int .i64 k.r, .int .i64 k.c, .int .i64 k.size, .int .i64 k.kind, .int .i64 k.front, .int .i64 k.back, .bool k.ccw, .int .i64 k.cull, .bool k.off, .int .i64 k.factor, .int .i64 k.units, .int .i64 x0, .int .i64 y0, .int .i64 x1, .int .i64 y1] 31 ∧ Row w1b (w.heap.size + 1) #[.int .i64 a.x, .int .i64 a.y, .int .i64 a.z, .int .i64 a.c0, .int .i64 a.c1, .int .i64 a.c2, .int .i64 a.c3] 41 ∧ Row w1b (w.heap.size + 1 + 1) #[.int .i64 b.x, .int .i64 b.y, .int .i64 b.z, .int .i64 b.c0, .int .i64 b.c1, .int .i64 b.c2, .int .i64 b.c3] 41 ∧ ∃ X, w1b = w.ext X) ⟨by exact rq_ HRa.out, by exact rq_ HRb.out, by exact rq_ HRc.out, by obtain ⟨X0, hX0⟩ := HX.out; subst hX0; exact RowKit.Below.toExt (by exact br_)⟩ ?_
  clear ca fa la da cb fb lb cc_ fc_ lc_ HRa HRb HRc HX
  rintro w1b ⟨Ra, Rb, Rc, hX⟩
  have HX := Lib.hid hX
  have HRa := Lib.hid Ra
  have ca := Ra.cell
  have fa := Ra.frozen
  have la := Ra.lt
  have da := World.rowD_of Ra
  have HRb := Lib.hid Rb
  have cb := Rb.cell
  have fb := Rb.frozen
  have lb := Rb.lt
  have HRc := Lib.hid Rc
  have cc_ := Rc.cell
  have fc_ := Rc.frozen
  have lc_ := Rc.lt
  clear Ra Rb Rc hX
  go_upto_region 4 with (first
    | (go_at_call 18; (with_reducible refine (W1.out _).mono ?_); rintro _ _ ⟨v1, rfl, hv1, ⟨XF, rfl⟩⟩; have HV1 := Lib.hid hv1; obtain ⟨-, aw, cap1, rfl, -, -⟩ := hv1))
  refine wp_abs (F := fun w2 => Row w2 w.heap.size #[.slice av n cap, .slice ev m ecap, .int .i64 k.width, .bool true, .bool k.dashed, .int .i64 k.p, .int .i64 k.r, .int .i64 k.c, .int .i64 k.size, .int .i64 k.kind, .int .i64 k.front, .int .i64 k.back, .bool k.ccw, .int .i64 k.cull, .bool k.off, .int .i64 k.factor, .int .i64 k.units, .int .i64 x0, .int .i64 y0, .int .i64 x1, .int .i64 y1] 31 ∧ Row w2 (w.heap.size + 1) #[.int .i64 a.x, .int .i64 a.y, .int .i64 a.z, .int .i64 a.c0, .int .i64 a.c1, .int .i64 a.c2, .int .i64 a.c3] 41 ∧ Row w2 (w.heap.size + 1 + 1) #[.int .i64 b.x, .int .i64 b.y, .int .i64 b.z, .int .i64 b.c0, .int .i64 b.c1, .int .i64 b.c2, .int .i64 b.c3] 41 ∧ Row w2 (w1b.heap.size + XF.sz) #[.int .i64 k.p, .int .i64 k.r, .int .i64 k.c] 25 ∧ Recs frK w2 (.slice aw L.length cap1) L ∧ ∃ X, w2 = w.ext X) ⟨by exact rq_ HRa.out, by exact rq_ HRb.out, by exact rq_ HRc.out, by exact rx_, HV1.out.alloc _, by obtain ⟨X0, hX0⟩ := HX.out; subst hX0; exact RowKit.Below.toExt (by exact br_)⟩ ?_
  obtain ⟨B1, hB1⟩ : ∃ B, w1b.heap.size + XF.sz = B := ⟨_, rfl⟩
  rw [hB1]
  clear hB1 ca fa la da cb fb lb cc_ fc_ lc_ HRa HRb HRc HX HV1
  rintro w2 ⟨Ra, Rb, Rc, Rd, hv1, hX⟩
  have HX := Lib.hid hX
  have HRa := Lib.hid Ra
  have ca := Ra.cell
  have fa := Ra.frozen
  have la := Ra.lt
  have da := World.rowD_of Ra
  have HRb := Lib.hid Rb
  have cb := Rb.cell
  have fb := Rb.frozen
  have lb := Rb.lt
  have HRc := Lib.hid Rc
  have cc_ := Rc.cell
  have fc_ := Rc.frozen
  have lc_ := Rc.lt
  have HRd := Lib.hid Rd
  have cd := Rd.cell
  have fd := Rd.frozen
  have ld := Rd.lt
  have HV1 := Lib.hid hv1
  clear Ra Rb Rc Rd hX hv1
  go_upto_region 5 with (first
    | (go_at_call 19; (with_reducible refine (W2.out _).mono ?_); rintro _ _ ⟨v2, rfl, hv2, ⟨XG, rfl⟩⟩; have HV2 := Lib.hid hv2; obtain ⟨-, au, caq, rfl, -, -⟩ := hv2))
  refine wp_abs (F := fun w3 => Row w3 w.heap.size #[.slice av n cap, .slice ev m ecap, .int .i64 k.width, .bool true, .bool k.dashed, .int .i64 k.p, .int .i64 k.r, .int .i64 k.c, .int .i64 k.size, .int .i64 k.kind, .int .i64 k.front, .int .i64 k.back, .bool k.ccw, .int .i64 k.cull, .bool k.off, .int .i64 k.factor, .int .i64 k.units, .int .i64 x0, .int .i64 y0, .int .i64 x1, .int .i64 y1] 31 ∧ Row w3 (w.heap.size + 1) #[.int .i64 a.x, .int .i64 a.y, .int .i64 a.z, .int .i64 a.c0, .int .i64 a.c1, .int .i64 a.c2, .int .i64 a.c3] 41 ∧ Row w3 (w.heap.size + 1 + 1) #[.int .i64 b.x, .int .i64 b.y, .int .i64 b.z, .int .i64 b.c0, .int .i64 b.c1, .int .i64 b.c2, .int .i64 b.c3] 41 ∧ Row w3 B1 #[.int .i64 k.p, .int .i64 k.r, .int .i64 k.c] 25 ∧ Row w3 (w2.heap.size + XG.sz) #[.int .i64 k.p, .int .i64 k.r, .int .i64 k.c] 25 ∧ Recs frK w3 (.slice aw L.length cap1) L ∧ Recs frK w3 (.slice au L.length caq) L ∧ ∃ X, w3 = w.ext X) ⟨by exact rq_ HRa.out, by exact rq_ HRb.out, by exact rq_ HRc.out, by exact rq_ HRd.out, by exact rx_, (HV1.out.ext _).alloc _, HV2.out.alloc _, by obtain ⟨X0, hX0⟩ := HX.out; subst hX0; exact RowKit.Below.toExt (by exact br_)⟩ ?_
  obtain ⟨B2, hB2⟩ : ∃ B, w2.heap.size + XG.sz = B := ⟨_, rfl⟩
  rw [hB2]
  clear hB2 ca fa la da cb fb lb cc_ fc_ lc_ cd fd ld HRa HRb HRc HRd HX HV1 HV2
  rintro w3 ⟨Ra, Rb, Rc, Rd, Re, hv1, hv2, hX⟩
  have HX := Lib.hid hX
  have HSm := Lib.hid (fun X => same_frs (hv1.ext X) (hv2.ext X))
  have HRa := Lib.hid Ra
  have ca := Ra.cell
  have fa := Ra.frozen
  have la := Ra.lt
  have da := World.rowD_of Ra
  have HRd := Lib.hid Rd
  have cd := Rd.cell
  have fd := Rd.frozen
  have ld := Rd.lt
  have HRe := Lib.hid Re
  have ce := Re.cell
  have fe := Re.frozen
  have le := Re.lt
  clear Ra Rb Rc Rd Re hX hv1 hv2 W1 W2 SM RI HRa HRd HRe
  go_wp2_with (first | (go_at_call 12; (with_reducible refine (awake22 _).mono ?_); rintro _ _ ⟨rfl, X_, rfl⟩) | (go_at_call 15; (with_reducible refine (HSm.out _).mono ?_); rintro _ _ ⟨rfl, X_, rfl⟩))
  go_ret
  obtain ⟨X0, hX0⟩ := HX.out
  subst hX0
  exact Ret.of' (by simp) (by exact br_)
theorem FaceLines_all : FaceLines_stmt := by
  rintro aL aE wd sf ds p r c sz kd fr bk ccw cu of fa un x0 y0 x1 y1 bX bY bZ bC0 bC1 bC2 bC3 cX cY cZ cC0 cC1 cC2 cC3 w ⟨⟨zL, hL⟩, ⟨zE, hE⟩, k1, k2, k3, k4, k5, k6, k7, k8, k9, k10, k11, -⟩ ⟨g1, g2, g3, g4, g5, g6, g7⟩ ⟨i1, i2, i3, i4, i5, i6, i7⟩
  have hL : Sls w 7 winR aL zL := hL
  have hE : Sls w 1 boolR aE zE := hE
  obtain ⟨av, cap, ev1, mL⟩ := sls_form hL
  obtain ⟨eva, ecap, ev2, mE⟩ := sls_form hE
  subst ev1
  subst ev2
  by_cases hs : (zL.length ≤ 12 ∧ zE.length ≤ 14 ∧ areaP x0 y0 x1 y1 ≤ 80) ∧ (⟨wd, sf, ds, p, r, c, sz, kd, fr, bk, ccw, cu, of, fa, un⟩ : LookP).ok
  · cases sf
    · exact lines22_false av eva zL.length cap zE.length ecap ⟨wd, false, ds, p, r, c, sz, kd, fr, bk, ccw, cu, of, fa, un⟩ ⟨bX, bY, bZ, bC0, bC1, bC2, bC3⟩ ⟨cX, cY, cZ, cC0, cC1, cC2, cC3⟩ x0 y0 x1 y1 w mL mE ⟨g1, g2, g3, g4, g5, g6, g7⟩ ⟨i1, i2, i3, i4, i5, i6, i7⟩ ⟨k1, k2, k3, k4, k5, k6, k7, k8, k9, k10, k11⟩ hs.1 hs.2
    · exact lines22_true av eva zL.length cap zE.length ecap ⟨wd, true, ds, p, r, c, sz, kd, fr, bk, ccw, cu, of, fa, un⟩ ⟨bX, bY, bZ, bC0, bC1, bC2, bC3⟩ ⟨cX, cY, cZ, cC0, cC1, cC2, cC3⟩ x0 y0 x1 y1 w mL mE ⟨g1, g2, g3, g4, g5, g6, g7⟩ ⟨i1, i2, i3, i4, i5, i6, i7⟩ ⟨k1, k2, k3, k4, k5, k6, k7, k8, k9, k10, k11⟩ hs.1 hs.2
  · exact lines22_no av eva zL.length cap zE.length ecap ⟨wd, sf, ds, p, r, c, sz, kd, fr, bk, ccw, cu, of, fa, un⟩ ⟨bX, bY, bZ, bC0, bC1, bC2, bC3⟩ ⟨cX, cY, cZ, cC0, cC1, cC2, cC3⟩ x0 y0 x1 y1 w mL mE hs
theorem FaceLines_holds : Rows.FaceLinesSaid := FaceLines_end FaceLines_all
end Go.Proofs.YtbkmgngeahmefaaGreat
