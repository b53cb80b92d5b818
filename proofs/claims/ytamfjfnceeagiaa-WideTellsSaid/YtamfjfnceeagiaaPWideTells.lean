/- WideTells: whatever the input, the law returns true and leaves its arguments as they read. No condition. -/
import Derived.Test.YtamfjfnceeagiaaWidP
import Derived.Test.YtamfjfnceeagiaaEWideTells
namespace Go.Proofs.Ytamfjfnceeagiaa
set_option linter.unusedVariables false
set_option linter.unusedSimpArgs false
open Go.RowKit
set_option maxRecDepth 100000 in
set_option maxHeartbeats 4000000 in
theorem tells17_no (a b : WinP) (n : Int) (dd : Bool) (p r c x0 y0 x1 y1 : Int) (h : ¬ areaP x0 y0 x1 y1 ≤ 300) (w : World) : Calls Try.prog 14 #[wlineV a b n dd p r c x0 y0 x1 y1] w (Ret (.bool true) w) := by
  have S := fun w => small17_any x0 y0 x1 y1 w
  simp only [decide_eq_false h] at S
  have HS := Lib.hid S
  clear S h
  go_enter Try.func14, Try.ntmps14
  go_wp2_with (first | (go_at_call 42; (with_reducible refine (HS.out _).mono ?_); rintro _ _ ⟨rfl, X_, rfl⟩) | (go_at_call 43; (with_reducible refine (awake17 _).mono ?_); rintro _ _ ⟨rfl, X_, rfl⟩))
  go_ret
  exact Ret.of' rfl (by (repeat (first | exact Below.refl _ _ | with_reducible refine Below.drew ?_ | with_reducible refine Below.ext ?_ (by first | exact Nat.le_refl _ | (simp; done) | (simp; omega)) _ | with_reducible refine Below.alloc ?_ (by first | exact Nat.le_refl _ | (simp; done) | (simp; omega)) _ | with_reducible refine Below.setCell ?_ (by first | exact Nat.le_refl _ | (simp; done) | (simp; omega)) _)))
set_option maxRecDepth 100000 in
set_option maxHeartbeats 8000000 in
theorem tells17_in (a b : WinP) (n : Int) (dd : Bool) (p r c x0 y0 x1 y1 : Int) (ha : a.wide) (hb : b.wide) (hp : w64 p) (hc : w64 c) (h : areaP x0 y0 x1 y1 ≤ 300) (w : World) : Calls Try.prog 14 #[wlineV a b n dd p r c x0 y0 x1 y1] w (Ret (.bool true) w) := by
  have S := fun w => small17_any x0 y0 x1 y1 w
  simp only [decide_eq_true h] at S
  have HS := Lib.hid S
  have R1 := Lib.hid (fun w => wide_right a b n p r c ha hb hp hc w)
  have R2 := Lib.hid (fun w => rline_right a b n p r c w)
  have W1 := Lib.hid (fun w => wline_any a b n dd p r c x0 y0 x1 y1 ha hb hp hc (by omega) w)
  have W2 := Lib.hid (fun w => rwline_any a b n dd p r c x0 y0 x1 y1 (by omega) w)
  generalize wdL a b n dd p r c x0 y0 x1 y1 = L at *
  generalize wdC a b n dd p r c = cc at *
  generalize decide (lineP a b n p r c) = B at *
  clear S h ha hb hp hc
  go_enter Try.func14, Try.ntmps14
  go_upto_region 3 with (first | (go_at_call 42; (with_reducible refine (HS.out _).mono ?_); rintro _ _ ⟨rfl, X_, rfl⟩))
  refine wp_abs (F := fun w1 => Row w1 w.heap.size #[.int .i64 a.x, .int .i64 a.y, .int .i64 a.z, .int .i64 a.c0, .int .i64 a.c1, .int .i64 a.c2, .int .i64 a.c3, .int .i64 b.x, .int .i64 b.y, .int .i64 b.z, .int .i64 b.c0, .int .i64 b.c1, .int .i64 b.c2, .int .i64 b.c3, .int .i64 n, .bool dd, .int .i64 p, .int .i64 r, .int .i64 c, .int .i64 x0, .int .i64 y0, .int .i64 x1, .int .i64 y1] 73 ∧ ∃ X, w1 = w.ext X) ⟨by (repeat (first | assumption | with_reducible refine Row.ext ?_ _ | with_reducible refine row_drew ?_ | (with_reducible refine row_last ?_; first | rfl | (simp; done)) | with_reducible refine Row.alloc ?_ _)), RowKit.Below.toExt (by (repeat (first | exact Below.refl _ _ | with_reducible refine Below.drew ?_ | with_reducible refine Below.ext ?_ (by first | exact Nat.le_refl _ | (simp; done) | (simp; omega)) _ | with_reducible refine Below.alloc ?_ (by first | exact Nat.le_refl _ | (simp; done) | (simp; omega)) _ | with_reducible refine Below.setCell ?_ (by first | exact Nat.le_refl _ | (simp; done) | (simp; omega)) _)))⟩ ?_
  rintro w1 ⟨Rl, hX⟩
  have HX := Lib.hid hX
  have HRl := Lib.hid Rl
  have cl := Rl.cell
  have fl := Rl.frozen
  have ll := Rl.lt
  clear Rl hX
  go_upto_region 4 with (first
    | (go_at_call 44; (with_reducible refine (W1.out _).mono ?_); rintro _ _ ⟨v1, rfl, hv1, ⟨XF, rfl⟩⟩; have HV1 := Lib.hid hv1; obtain ⟨-, av, cap, rfl, -, -⟩ := hv1))
  refine wp_abs (F := fun w2 => Row w2 w.heap.size #[.int .i64 a.x, .int .i64 a.y, .int .i64 a.z, .int .i64 a.c0, .int .i64 a.c1, .int .i64 a.c2, .int .i64 a.c3, .int .i64 b.x, .int .i64 b.y, .int .i64 b.z, .int .i64 b.c0, .int .i64 b.c1, .int .i64 b.c2, .int .i64 b.c3, .int .i64 n, .bool dd, .int .i64 p, .int .i64 r, .int .i64 c, .int .i64 x0, .int .i64 y0, .int .i64 x1, .int .i64 y1] 73 ∧ Row w2 (w1.heap.size + XF.sz) #[.int .i64 p, .int .i64 r, .int .i64 cc] 71 ∧ Recs frK w2 (.slice av L.length cap) L ∧ ∃ X, w2 = w.ext X) ⟨by (repeat (first | with_reducible exact HRl.out | with_reducible refine Row.ext ?_ _ | with_reducible refine row_drew ?_ | with_reducible refine Row.alloc ?_ _)), by (repeat (first | assumption | with_reducible refine Row.ext ?_ _ | with_reducible refine row_drew ?_ | (with_reducible refine row_last ?_; first | rfl | (simp; done)) | with_reducible refine Row.alloc ?_ _)), HV1.out.alloc _, by obtain ⟨X0, hX0⟩ := HX.out; subst hX0; exact RowKit.Below.toExt (by (repeat (first | with_reducible assumption | with_reducible exact Below.refl _ _ | with_reducible refine Below.drew ?_ | with_reducible refine Below.ext ?_ (by first | exact Nat.le_refl _ | omega | (simp; done) | (simp; omega)) _ | with_reducible refine Below.alloc ?_ (by first | exact Nat.le_refl _ | omega | (simp; done) | (simp; omega)) _ | with_reducible refine Below.setCell ?_ (by first | exact Nat.le_refl _ | omega | (simp; done) | (simp; omega)) _)))⟩ ?_
  obtain ⟨B1, hB1⟩ : ∃ B, w1.heap.size + XF.sz = B := ⟨_, rfl⟩
  rw [hB1]
  clear hB1 cl fl ll HRl HX HV1
  rintro w2 ⟨Rl, Rd, hv1, hX⟩
  have HX := Lib.hid hX
  have HRl := Lib.hid Rl
  have HRd := Lib.hid Rd
  have HV1 := Lib.hid hv1
  have cl := Rl.cell
  have fl := Rl.frozen
  have ll := Rl.lt
  have cd := Rd.cell
  have fd := Rd.frozen
  have ld := Rd.lt
  clear Rl Rd hX hv1
  go_upto_region 5 with (first
    | (go_at_call 45; (with_reducible refine (W2.out _).mono ?_); rintro _ _ ⟨v2, rfl, hv2, ⟨XG, rfl⟩⟩; have HV2 := Lib.hid hv2; obtain ⟨-, au, caq, rfl, -, -⟩ := hv2))
  refine wp_abs (F := fun w3 => Row w3 w.heap.size #[.int .i64 a.x, .int .i64 a.y, .int .i64 a.z, .int .i64 a.c0, .int .i64 a.c1, .int .i64 a.c2, .int .i64 a.c3, .int .i64 b.x, .int .i64 b.y, .int .i64 b.z, .int .i64 b.c0, .int .i64 b.c1, .int .i64 b.c2, .int .i64 b.c3, .int .i64 n, .bool dd, .int .i64 p, .int .i64 r, .int .i64 c, .int .i64 x0, .int .i64 y0, .int .i64 x1, .int .i64 y1] 73 ∧ Row w3 B1 #[.int .i64 p, .int .i64 r, .int .i64 cc] 71 ∧ Row w3 (w2.heap.size + XG.sz) #[.int .i64 p, .int .i64 r, .int .i64 cc] 71 ∧ Recs frK w3 (.slice av L.length cap) L ∧ Recs frK w3 (.slice au L.length caq) L ∧ ∃ X, w3 = w.ext X) ⟨by (repeat (first | with_reducible exact HRl.out | with_reducible refine Row.ext ?_ _ | with_reducible refine row_drew ?_ | with_reducible refine Row.alloc ?_ _)), by (repeat (first | with_reducible exact HRd.out | with_reducible refine Row.ext ?_ _ | with_reducible refine row_drew ?_ | with_reducible refine Row.alloc ?_ _)), by (repeat (first | assumption | with_reducible refine Row.ext ?_ _ | with_reducible refine row_drew ?_ | (with_reducible refine row_last ?_; first | rfl | (simp; done)) | with_reducible refine Row.alloc ?_ _)), (HV1.out.ext _).alloc _, HV2.out.alloc _, by obtain ⟨X0, hX0⟩ := HX.out; subst hX0; exact RowKit.Below.toExt (by (repeat (first | with_reducible assumption | with_reducible exact Below.refl _ _ | with_reducible refine Below.drew ?_ | with_reducible refine Below.ext ?_ (by first | exact Nat.le_refl _ | omega | (simp; done) | (simp; omega)) _ | with_reducible refine Below.alloc ?_ (by first | exact Nat.le_refl _ | omega | (simp; done) | (simp; omega)) _ | with_reducible refine Below.setCell ?_ (by first | exact Nat.le_refl _ | omega | (simp; done) | (simp; omega)) _)))⟩ ?_
  obtain ⟨B2, hB2⟩ : ∃ B, w2.heap.size + XG.sz = B := ⟨_, rfl⟩
  rw [hB2]
  clear hB2 cl fl ll cd fd ld HRl HRd HX HV1 HV2
  rintro w3 ⟨Rl, Rd, Re, hv1, hv2, hX⟩
  have HX := Lib.hid hX
  have HSm := Lib.hid (fun X => same_frs (hv1.ext X) (hv2.ext X))
  have cl := Rl.cell
  have fl := Rl.frozen
  have ll := Rl.lt
  have cd := Rd.cell
  have fd := Rd.frozen
  have ld := Rd.lt
  have ce := Re.cell
  have fe := Re.frozen
  have le := Re.lt
  clear Rl Rd Re hX hv1 hv2
  refine wp_region_ext (by kernel_rfl) (by kernel_rfl) ?_
  repeat (go_big_quiet_step ((first | (go_at_call 43; with_reducible exact Calls.quiet_ret (awake17 _)) | (go_at_call 30; with_reducible exact Calls.quiet_ret (HSm.out _)) | (go_at_call 46; with_reducible exact Calls.quiet_ret (R1.out _)) | (go_at_call 47; with_reducible exact Calls.quiet_ret (R2.out _)))))
  refine wpQuiet_nil ?_
  intro _ hw_ext
  obtain ⟨X5, hw_ext⟩ := hw_ext
  subst hw_ext
  go_wp2
  go_ret
  obtain ⟨X0, hX0⟩ := HX.out
  subst hX0
  exact Ret.of' (by simp) (by (repeat (first | with_reducible assumption | with_reducible exact Below.refl _ _ | with_reducible refine Below.drew ?_ | with_reducible refine Below.ext ?_ (by first | exact Nat.le_refl _ | omega | (simp; done) | (simp; omega)) _ | with_reducible refine Below.alloc ?_ (by first | exact Nat.le_refl _ | omega | (simp; done) | (simp; omega)) _ | with_reducible refine Below.setCell ?_ (by first | exact Nat.le_refl _ | omega | (simp; done) | (simp; omega)) _)))
theorem WideTells_all : WideTells_stmt := by
  rintro aX aY aZ aC0 aC1 aC2 aC3 bX bY bZ bC0 bC1 bC2 bC3 n dd p r c x0 y0 x1 y1 w ⟨h1, h2, h3, h4, h5, h6, h7, g1, g2, g3, g4, g5, g6, g7, -, e1, e2, e3, -⟩
  by_cases h : areaP x0 y0 x1 y1 ≤ 300
  · exact tells17_in ⟨aX, aY, aZ, aC0, aC1, aC2, aC3⟩ ⟨bX, bY, bZ, bC0, bC1, bC2, bC3⟩ n dd p r c x0 y0 x1 y1 ⟨h1, h2, h3, h4, h5, h6, h7⟩ ⟨g1, g2, g3, g4, g5, g6, g7⟩ e1 e3 h w
  · exact tells17_no ⟨aX, aY, aZ, aC0, aC1, aC2, aC3⟩ ⟨bX, bY, bZ, bC0, bC1, bC2, bC3⟩ n dd p r c x0 y0 x1 y1 h w
theorem WideTells_holds : Rows.WideTellsSaid := WideTells_end WideTells_all
end Go.Proofs.Ytamfjfnceeagiaa
