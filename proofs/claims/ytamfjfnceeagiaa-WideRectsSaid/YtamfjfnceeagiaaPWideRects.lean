/- WideRects: whatever the input, the law returns true and leaves its arguments as they read. No condition. -/
import Derived.Test.YtamfjfnceeagiaaWidP
import Derived.Test.YtamfjfnceeagiaaRectB
import Derived.Test.YtamfjfnceeagiaaEWideRects
namespace Go.Proofs.Ytamfjfnceeagiaa
set_option linter.unusedVariables false
set_option linter.unusedSimpArgs false
open Go.RowKit
set_option maxRecDepth 100000 in
set_option maxHeartbeats 4000000 in
theorem rects17_no (a b : WinP) (n : Int) (dd : Bool) (p r c x0 y0 x1 y1 d0 d1 : Int) (h : ¬ rightP x0 y0 x1 y1 ∨ 2000 < areaP x0 y0 x1 y1) (w : World) : Calls Try.prog 15 #[wlineV a b n dd p r c x0 y0 x1 y1, .agg #[.int .i8 d0, .int .i8 d1]] w (Ret (.bool true) w) := by
  have R := fun w => rrect_right x0 y0 x1 y1 w
  have A := Lib.hid (fun w => rrect_area x0 y0 x1 y1 w)
  by_cases hr : rightP x0 y0 x1 y1
  · simp only [hr, decide_true] at R
    have h1 := h.resolve_left fun k => k hr
    generalize areaP x0 y0 x1 y1 = ar at *
    have HR := Lib.hid R
    clear R hr h
    go_enter Try.func15, Try.ntmps15
    go_wp2_with (first | (go_at_call 35; (with_reducible refine (HR.out _).mono ?_); rintro _ _ ⟨rfl, X_, rfl⟩) | (go_at_call 36; (with_reducible refine (A.out _).mono ?_); rintro _ _ ⟨rfl, X_, rfl⟩) | (go_at_call 43; (with_reducible refine (awake17 _).mono ?_); rintro _ _ ⟨rfl, X_, rfl⟩))
    go_ret
    exact Ret.of' rfl (by (repeat (first | exact Below.refl _ _ | with_reducible refine Below.drew ?_ | with_reducible refine Below.ext ?_ (by first | exact Nat.le_refl _ | (simp; done) | (simp; omega)) _ | with_reducible refine Below.alloc ?_ (by first | exact Nat.le_refl _ | (simp; done) | (simp; omega)) _ | with_reducible refine Below.setCell ?_ (by first | exact Nat.le_refl _ | (simp; done) | (simp; omega)) _)))
  · simp only [hr, decide_false] at R
    have HR := Lib.hid R
    clear R hr h
    go_enter Try.func15, Try.ntmps15
    go_wp2_with (first | (go_at_call 35; (with_reducible refine (HR.out _).mono ?_); rintro _ _ ⟨rfl, X_, rfl⟩) | (go_at_call 43; (with_reducible refine (awake17 _).mono ?_); rintro _ _ ⟨rfl, X_, rfl⟩))
    go_ret
    exact Ret.of' rfl (by (repeat (first | exact Below.refl _ _ | with_reducible refine Below.drew ?_ | with_reducible refine Below.ext ?_ (by first | exact Nat.le_refl _ | (simp; done) | (simp; omega)) _ | with_reducible refine Below.alloc ?_ (by first | exact Nat.le_refl _ | (simp; done) | (simp; omega)) _ | with_reducible refine Below.setCell ?_ (by first | exact Nat.le_refl _ | (simp; done) | (simp; omega)) _)))
/-- What the lesser rectangle shows. -/
theorem wdL_and (a b : WinP) (n : Int) (dd : Bool) (p r c x0 y0 x1 y1 u0 v0 u1 v1 : Int) (hr : rightP x0 y0 x1 y1) : ∃ p0 q0 p1 q1, (∀ w, Calls Try.prog 37 #[R4 x0 y0 x1 y1, R4 u0 v0 u1 v1] w (Ret (R4 p0 q0 p1 q1) w)) ∧ areaP p0 q0 p1 q1 ≤ areaP x0 y0 x1 y1 ∧ wdL a b n dd p r c p0 q0 p1 q1 = (wdL a b n dd p r c x0 y0 x1 y1).filter (fun f => decide (hasP p0 q0 p1 q1 f.x f.y)) := by
  refine ⟨_, _, _, _, fun w => rrect_and ⟨x0, y0, x1, y1⟩ ⟨u0, v0, u1, v1⟩ w, ?_⟩
  have hm := fun x y => RcP.and_has ⟨x0, y0, x1, y1⟩ ⟨u0, v0, u1, v1⟩ x y
  have ho : (RcP.and ⟨x0, y0, x1, y1⟩ ⟨u0, v0, u1, v1⟩) = ⟨0, 0, 0, 0⟩ ∨ (RcP.and ⟨x0, y0, x1, y1⟩ ⟨u0, v0, u1, v1⟩).ok ∧ x0 ≤ (RcP.and ⟨x0, y0, x1, y1⟩ ⟨u0, v0, u1, v1⟩).x0 ∧ y0 ≤ (RcP.and ⟨x0, y0, x1, y1⟩ ⟨u0, v0, u1, v1⟩).y0 ∧ (RcP.and ⟨x0, y0, x1, y1⟩ ⟨u0, v0, u1, v1⟩).x1 ≤ x1 ∧ (RcP.and ⟨x0, y0, x1, y1⟩ ⟨u0, v0, u1, v1⟩).y1 ≤ y1 := by
    unfold RcP.and
    split
    · rename_i h
      refine .inr ⟨h.2.2, ?_⟩
      unfold RcP.meet
      simp only
      omega
    · exact .inl rfl
  generalize RcP.and ⟨x0, y0, x1, y1⟩ ⟨u0, v0, u1, v1⟩ = m at *
  obtain ⟨p0, q0, p1, q1⟩ := m
  simp only at ho ⊢
  have rr := hr
  unfold rightP at rr
  rcases ho with ho | ⟨hk, h1, h2, h3, h4⟩
  · cases ho
    have n0 : ¬ rightP 0 0 0 0 := rc_none
    refine ⟨?_, ?_⟩
    · unfold areaP
      rw [if_neg n0, if_pos hr]
      exact Int.mul_nonneg (by omega) (by omega)
    · have e : wdL a b n dd p r c 0 0 0 0 = [] := by unfold wdL; rw [if_neg fun k => n0 k.2]
      rw [e]
      symm
      rw [List.filter_eq_nil_iff]
      intro f _ k
      exact n0 (of_decide_eq_true k).1
  · have hk' : rightP p0 q0 p1 q1 := hk
    refine ⟨?_, ?_⟩
    · unfold areaP
      rw [if_pos hk', if_pos hr]
      unfold rightP at hk'
      exact Int.mul_le_mul (by omega) (by omega) (by omega) (by omega)
    · unfold wdL
      by_cases hs : lineP a b n p r c
      · rw [if_pos ⟨hs, hk'⟩, if_pos ⟨hs, hr⟩, wdTo_less ⟨h1, h2, h3, h4⟩]
        refine List.filter_congr fun f _ => ?_
        unfold inB
        refine decide_eq_decide.2 ?_
        unfold hasP
        simp only [hk', true_and]
      · rw [if_neg fun k => hs k.1, if_neg fun k => hs k.1]; rfl
theorem wdL_lenR (a b : WinP) (n : Int) (dd : Bool) (p r c x0 y0 x1 y1 : Int) (har : areaP x0 y0 x1 y1 ≤ 1048576) : (wdL a b n dd p r c x0 y0 x1 y1).length ≤ 134217728 := by
  unfold wdL
  split
  · rename_i k
    obtain ⟨⟨-, -, ⟨n0, n1⟩, -⟩, hr⟩ := k
    have hs := side_of hr har
    unfold rightP at hr
    have h1 := wdTo_len (a := a) (b := b) (n := n) (dd := dd) (p := p) (r := r) (c := c) (x0 := x0) (y0 := y0) (x1 := x1) (y1 := y1) (by omega) ((x1 - x0).toNat + (y1 - y0).toNat) (by omega) (by omega) (by omega) (by omega)
    have h2 : ((x1 - x0).toNat + (y1 - y0).toNat) * n.toNat ≤ ((x1 - x0).toNat + (y1 - y0).toNat) * 64 := Nat.mul_le_mul_left _ (by omega)
    omega
  · simp
theorem wdL_has {a b : WinP} {n : Int} {dd : Bool} {p r c x0 y0 x1 y1 : Int} {f : FrP} (h : f ∈ wdL a b n dd p r c x0 y0 x1 y1) : hasP x0 y0 x1 y1 f.x f.y := by
  unfold wdL at h
  split at h
  · rename_i k
    exact ⟨k.2, (wdTo_mem h).1⟩
  · cases h
set_option maxRecDepth 100000 in
set_option maxHeartbeats 8000000 in
theorem rects17_in (a b : WinP) (n : Int) (dd : Bool) (p r c x0 y0 x1 y1 d0 d1 : Int) (ha : a.wide) (hb : b.wide) (hp : w64 p) (hc : w64 c) (hd0 : -128 ≤ d0 ∧ d0 ≤ 127) (hd1 : -128 ≤ d1 ∧ d1 ≤ 127) (hr : rightP x0 y0 x1 y1) (har : areaP x0 y0 x1 y1 ≤ 2000) (w : World) : Calls Try.prog 15 #[wlineV a b n dd p r c x0 y0 x1 y1, .agg #[.int .i8 d0, .int .i8 d1]] w (Ret (.bool true) w) := by
  have R := fun w => rrect_right x0 y0 x1 y1 w
  simp only [hr, decide_true] at R
  have HR := Lib.hid R
  have HAr := Lib.hid (fun w => rrect_area x0 y0 x1 y1 w)
  obtain ⟨p0, q0, p1, q1, AND, hpa, hM⟩ := wdL_and a b n dd p r c x0 y0 x1 y1 (x0 + d0) (y0 + d1) x1 y1 hr
  have HAnd := Lib.hid AND
  have W1 := Lib.hid (fun w => wline_any a b n dd p r c x0 y0 x1 y1 ha hb hp hc (by omega) w)
  have W2 := Lib.hid (fun w => wline_any a b n dd p r c p0 q0 p1 q1 ha hb hp hc (by omega) w)
  rw [hM] at W2
  have HB := Lib.hid (fun f (hf : f ∈ wdL a b n dd p r c x0 y0 x1 y1) => wdL_has hf)
  have hLen := wdL_lenR a b n dd p r c x0 y0 x1 y1 (by omega)
  generalize wdC a b n dd p r c = cc at *
  have hrr := hr
  unfold rightP at hrr
  obtain ⟨⟨r0, r1⟩, ⟨r2, r3⟩, ⟨r4, r5⟩, ⟨r6, r7⟩, rx, ry⟩ := hrr
  obtain ⟨d00, d01⟩ := hd0
  obtain ⟨d10, d11⟩ := hd1
  generalize wdL a b n dd p r c x0 y0 x1 y1 = L at *
  generalize areaP x0 y0 x1 y1 = ar at *
  obtain ⟨M, hMd⟩ : ∃ M, L.filter (fun f => decide (hasP p0 q0 p1 q1 f.x f.y)) = M := ⟨_, rfl⟩
  have hMl : M.length ≤ 134217728 := by rw [← hMd]; exact Nat.le_trans (List.length_filter_le _ _) hLen
  obtain ⟨N, hN⟩ : ∃ N : Nat → Nat, N = fun k => ((L.take k).filter (fun f => decide (hasP p0 q0 p1 q1 f.x f.y))).length := ⟨_, rfl⟩
  have HG := Lib.hid (fun (k : Nat) (f : FrP) (hf : L[k]? = some f) (hp : hasP p0 q0 p1 q1 f.x f.y) => (by
    have := filter_get (fun f : FrP => decide (hasP p0 q0 p1 q1 f.x f.y)) L k f hf (decide_eq_true hp)
    rw [hMd] at this; rw [hN]; exact this : M[N k]? = some f))
  have HNx := Lib.hid (fun (k : Nat) (f : FrP) (hf : L[k]? = some f) => (by
    have := filter_next (fun f : FrP => decide (hasP p0 q0 p1 q1 f.x f.y)) L k f hf
    rw [hN]; simpa using this : N (k + 1) = N k + if hasP p0 q0 p1 q1 f.x f.y then 1 else 0))
  have HE := Lib.hid (show N L.length = M.length by rw [hN, ← hMd]; exact filter_full _ L)
  have HN0 := Lib.hid (show N 0 = 0 by rw [hN]; rfl)
  rw [hMd] at W2
  clear hMd hN hM hpa R ha hb hp hc hr
  go_enter Try.func15, Try.ntmps15
  go_upto_region 4 with (first
    | (go_at_call 35; (with_reducible refine (HR.out _).mono ?_); rintro _ _ ⟨rfl, XA, rfl⟩)
    | (go_at_call 36; (with_reducible refine (HAr.out _).mono ?_); rintro _ _ ⟨rfl, XB, rfl⟩)
    | (go_at_call 37; (with_reducible refine (HAnd.out _).mono ?_); rintro _ _ ⟨rfl, XC, rfl⟩))
  obtain ⟨Bt, hBt⟩ : ∃ B, w.heap.size + 1 + 1 + XA.sz + XB.sz + XC.sz = B := ⟨_, rfl⟩
  refine wp_abs (F := fun wy => Row wy w.heap.size #[.int .i64 a.x, .int .i64 a.y, .int .i64 a.z, .int .i64 a.c0, .int .i64 a.c1, .int .i64 a.c2, .int .i64 a.c3, .int .i64 b.x, .int .i64 b.y, .int .i64 b.z, .int .i64 b.c0, .int .i64 b.c1, .int .i64 b.c2, .int .i64 b.c3, .int .i64 n, .bool dd, .int .i64 p, .int .i64 r, .int .i64 c, .int .i64 x0, .int .i64 y0, .int .i64 x1, .int .i64 y1] 73 ∧ Row wy Bt #[.int .i64 p0, .int .i64 q0, .int .i64 p1, .int .i64 q1] 39 ∧ ∃ X, wy = w.ext X) ⟨by (repeat (first | assumption | with_reducible refine Row.ext ?_ _ | with_reducible refine row_drew ?_ | (with_reducible refine row_last ?_; first | rfl | (simp; done)) | with_reducible refine Row.alloc ?_ _)), by rw [← hBt]; (repeat (first | assumption | with_reducible refine Row.ext ?_ _ | with_reducible refine row_drew ?_ | (with_reducible refine row_last ?_; first | rfl | (simp; done)) | with_reducible refine Row.alloc ?_ _)), RowKit.Below.toExt (by (repeat (first | exact Below.refl _ _ | with_reducible refine Below.drew ?_ | with_reducible refine Below.ext ?_ (by first | exact Nat.le_refl _ | (simp; done) | (simp; omega)) _ | with_reducible refine Below.alloc ?_ (by first | exact Nat.le_refl _ | (simp; done) | (simp; omega)) _ | with_reducible refine Below.setCell ?_ (by first | exact Nat.le_refl _ | (simp; done) | (simp; omega)) _)))⟩ ?_
  have hbt : w.heap.size ≤ Bt := by omega
  rw [hBt]
  clear hBt
  rintro wy ⟨Rl, Ri, hX⟩
  have HX := Lib.hid hX
  have ll := Rl.lt
  have cl := Rl.cell
  have fl := Rl.frozen
  have li := Ri.lt
  have ci := Ri.cell
  have fi := Ri.frozen
  have HRl := Lib.hid Rl
  have HRr := Lib.hid Ri
  clear hX Rl Ri
  go_upto_region 5 with (first
    | (go_at_call 44; (with_reducible refine (W1.out _).mono ?_); rintro _ _ ⟨v1, rfl, hv1, ⟨XF, rfl⟩⟩; have HV1 := Lib.hid hv1; obtain ⟨-, a53, k53, rfl, -, -⟩ := hv1))
  refine wp_abs (F := fun w2 => Row w2 w.heap.size #[.int .i64 a.x, .int .i64 a.y, .int .i64 a.z, .int .i64 a.c0, .int .i64 a.c1, .int .i64 a.c2, .int .i64 a.c3, .int .i64 b.x, .int .i64 b.y, .int .i64 b.z, .int .i64 b.c0, .int .i64 b.c1, .int .i64 b.c2, .int .i64 b.c3, .int .i64 n, .bool dd, .int .i64 p, .int .i64 r, .int .i64 c, .int .i64 x0, .int .i64 y0, .int .i64 x1, .int .i64 y1] 73 ∧ Row w2 Bt #[.int .i64 p0, .int .i64 q0, .int .i64 p1, .int .i64 q1] 39 ∧ Row w2 (wy.heap.size + XF.sz) #[.int .i64 p, .int .i64 r, .int .i64 cc] 71 ∧ Recs frK w2 (.slice a53 L.length k53) L ∧ ∃ X, w2 = w.ext X) ⟨by (repeat (first | with_reducible exact HRl.out | with_reducible refine Row.ext ?_ _ | with_reducible refine row_drew ?_ | with_reducible refine Row.alloc ?_ _)), by (repeat (first | with_reducible exact HRr.out | with_reducible refine Row.ext ?_ _ | with_reducible refine row_drew ?_ | with_reducible refine Row.alloc ?_ _)), by (repeat (first | assumption | with_reducible refine Row.ext ?_ _ | with_reducible refine row_drew ?_ | (with_reducible refine row_last ?_; first | rfl | (simp; done)) | with_reducible refine Row.alloc ?_ _)), HV1.out.alloc _, by obtain ⟨X0, hX0⟩ := HX.out; subst hX0; exact RowKit.Below.toExt (by (repeat (first | with_reducible assumption | with_reducible exact Below.refl _ _ | with_reducible refine Below.drew ?_ | with_reducible refine Below.ext ?_ (by first | exact Nat.le_refl _ | omega | (simp; done) | (simp; omega)) _ | with_reducible refine Below.alloc ?_ (by first | exact Nat.le_refl _ | omega | (simp; done) | (simp; omega)) _ | with_reducible refine Below.setCell ?_ (by first | exact Nat.le_refl _ | omega | (simp; done) | (simp; omega)) _)))⟩ ?_
  obtain ⟨B1, hB1⟩ : ∃ B, wy.heap.size + XF.sz = B := ⟨_, rfl⟩
  rw [hB1]
  have hb1 : w.heap.size ≤ B1 := by omega
  clear hB1 ll cl fl li ci fi HX HRl HRr HV1
  rintro w2 ⟨Rl, Ri, Rd, hv1, hX⟩
  have HX := Lib.hid hX
  have HRl := Lib.hid Rl
  have HRr := Lib.hid Ri
  have HRd := Lib.hid Rd
  have HV1 := Lib.hid hv1
  have ll := Rl.lt
  have cl := Rl.cell
  have fl := Rl.frozen
  have li := Ri.lt
  have ci := Ri.cell
  have fi := Ri.frozen
  have ld := Rd.lt
  clear Rl Ri Rd hX hv1
  go_upto_region 6 with (first
    | (go_at_call 44; (with_reducible refine (W2.out _).mono ?_); rintro _ _ ⟨v2, rfl, hv2, ⟨XG, rfl⟩⟩; have HV2 := Lib.hid hv2; obtain ⟨-, a61, k61, rfl, -, -⟩ := hv2))
  refine wp_abs (F := fun w1 => Row w1 w.heap.size #[.int .i64 a.x, .int .i64 a.y, .int .i64 a.z, .int .i64 a.c0, .int .i64 a.c1, .int .i64 a.c2, .int .i64 a.c3, .int .i64 b.x, .int .i64 b.y, .int .i64 b.z, .int .i64 b.c0, .int .i64 b.c1, .int .i64 b.c2, .int .i64 b.c3, .int .i64 n, .bool dd, .int .i64 p, .int .i64 r, .int .i64 c, .int .i64 x0, .int .i64 y0, .int .i64 x1, .int .i64 y1] 73 ∧ Row w1 Bt #[.int .i64 p0, .int .i64 q0, .int .i64 p1, .int .i64 q1] 39 ∧ Row w1 B1 #[.int .i64 p, .int .i64 r, .int .i64 cc] 71 ∧ Row w1 (w2.heap.size + XG.sz) #[.int .i64 p, .int .i64 r, .int .i64 cc] 71 ∧ Recs frK w1 (.slice a53 L.length k53) L ∧ Recs frK w1 (.slice a61 M.length k61) M ∧ ∃ X, w1 = w.ext X) ⟨by (repeat (first | with_reducible exact HRl.out | with_reducible refine Row.ext ?_ _ | with_reducible refine row_drew ?_ | with_reducible refine Row.alloc ?_ _)), by (repeat (first | with_reducible exact HRr.out | with_reducible refine Row.ext ?_ _ | with_reducible refine row_drew ?_ | with_reducible refine Row.alloc ?_ _)), by (repeat (first | with_reducible exact HRd.out | with_reducible refine Row.ext ?_ _ | with_reducible refine row_drew ?_ | with_reducible refine Row.alloc ?_ _)), by (repeat (first | assumption | with_reducible refine Row.ext ?_ _ | with_reducible refine row_drew ?_ | (with_reducible refine row_last ?_; first | rfl | (simp; done)) | with_reducible refine Row.alloc ?_ _)), (HV1.out.ext _).alloc _, HV2.out.alloc _, by obtain ⟨X0, hX0⟩ := HX.out; subst hX0; exact RowKit.Below.toExt (by (repeat (first | with_reducible assumption | with_reducible exact Below.refl _ _ | with_reducible refine Below.drew ?_ | with_reducible refine Below.ext ?_ (by first | exact Nat.le_refl _ | omega | (simp; done) | (simp; omega)) _ | with_reducible refine Below.alloc ?_ (by first | exact Nat.le_refl _ | omega | (simp; done) | (simp; omega)) _ | with_reducible refine Below.setCell ?_ (by first | exact Nat.le_refl _ | omega | (simp; done) | (simp; omega)) _)))⟩ ?_
  obtain ⟨B2, hB2⟩ : ∃ B, w2.heap.size + XG.sz = B := ⟨_, rfl⟩
  rw [hB2]
  have hb2 : w.heap.size ≤ B2 := by omega
  clear hB2 ll cl fl li ci fi ld HX HRl HRr HRd HV1 HV2
  rintro w1 ⟨rl, ri, rd, re, gL, gM, hX⟩
  have cd := rd.cell
  have fd := rd.frozen
  have ld := rd.lt
  have ce := re.cell
  have fe := re.frozen
  have le := re.lt
  clear rd re
  have HX := Lib.hid hX
  obtain ⟨-, av, cap, hq, -, hcl⟩ := gL
  obtain ⟨rfl, rfl⟩ : a53 = av ∧ k53 = cap := by simpa using hq
  obtain ⟨-, au, caq, hq2, -, hcm⟩ := gM
  obtain ⟨rfl, rfl⟩ : a61 = au ∧ k61 = caq := by simpa using hq2
  have HCL := Lib.hid hcl
  have HCM := Lib.hid hcm
  have cl := rl.cell
  have fl := rl.frozen
  have ll := rl.lt
  have ci := ri.cell
  have fi := ri.frozen
  have li := ri.lt
  have ll' : w.heap.size ≤ w1.heap.size := by omega
  have li' : Bt ≤ w1.heap.size := by omega
  clear hq hq2 hX hcl hcm rl ri W1 W2
  go_wp2
  go_loopw [11, 10] (fun i c wr => ∃ (k m : Nat) (X : Xt), k ≤ L.length ∧ i = .int .i64 k ∧ c = .int .i64 m ∧ Hid (m = N k) ∧ m ≤ M.length ∧ wr = w1.ext X)
    (fun i _ _ => L.length - (intOf i).toNat)
  case atStart => exact ⟨0, 0, ⟨#[], w1.drawn⟩, by omega, rfl, rfl, Lib.hid HN0.out.symm, by omega, (ext_none' _).symm⟩
  case round =>
    obtain ⟨k, m, X, hk, rfl, rfl, hm, hm1, rfl⟩ := hrel
    by_cases hlt : k < L.length
    · have HKL := Lib.hid (show k + 1 ≤ L.length from hlt)
      obtain ⟨f, hf, hfm⟩ : ∃ f, L[k]? = some f ∧ f ∈ L := ⟨L[k]'hlt, List.getElem?_eq_getElem hlt, List.getElem_mem hlt⟩
      rcases HCL.out with rfl | ⟨lb, lo, rfl, hlb, hcl⟩
      · simp at hlt
      have g0 : w1.cell? ⟨lb, lo + k * 8, none⟩ = some (.int .i64 f.x) := hcl k _ hf 0 _ rfl
      have g1 : w1.cell? ⟨lb, lo + k * 8 + 1, none⟩ = some (.int .i64 f.y) := hcl k _ hf 1 _ rfl
      have g2 : w1.cell? ⟨lb, lo + k * 8 + 2, none⟩ = some (.int .i64 f.z) := hcl k _ hf 2 _ rfl
      have g3 : w1.cell? ⟨lb, lo + k * 8 + 3, none⟩ = some (.int .i64 f.c0) := hcl k _ hf 3 _ rfl
      have g4 : w1.cell? ⟨lb, lo + k * 8 + 4, none⟩ = some (.int .i64 f.c1) := hcl k _ hf 4 _ rfl
      have g5 : w1.cell? ⟨lb, lo + k * 8 + 5, none⟩ = some (.int .i64 f.c2) := hcl k _ hf 5 _ rfl
      have g6 : w1.cell? ⟨lb, lo + k * 8 + 6, none⟩ = some (.int .i64 f.c3) := hcl k _ hf 6 _ rfl
      have g7 : w1.cell? ⟨lb, lo + k * 8 + 7, none⟩ = some (.int .i64 f.cov) := hcl k _ hf 7 _ rfl
      have hlb' : lb ≤ w1.heap.size := by omega
      have hh := fun w => rrect_has x0 y0 x1 y1 f.x f.y w
      rw [decide_eq_true (HB.out f hfm)] at hh
      have HH := Lib.hid hh
      have hi := fun w => rrect_has p0 q0 p1 q1 f.x f.y w
      have hn := HNx.out k f hf
      have hki : (k : Int) < L.length := by omega
      clear hh hfm
      by_cases hp : hasP p0 q0 p1 q1 f.x f.y
      · rw [decide_eq_true hp] at hi
        have HI := Lib.hid hi
        rw [if_pos hp] at hn
        have hg := HG.out k f hf hp
        rw [← hm.out] at hg
        have nxt := Lib.hid (show m + 1 = N (k + 1) by rw [hn, hm.out])
        rcases HCM.out with rfl | ⟨mb, mo, rfl, hmb, hcm⟩
        · simp at hg
        have hml : m + 1 ≤ M.length := (List.getElem?_eq_some_iff.1 hg).1
        have m0 : w1.cell? ⟨mb, mo + m * 8, none⟩ = some (.int .i64 f.x) := hcm m _ hg 0 _ rfl
        have m1 : w1.cell? ⟨mb, mo + m * 8 + 1, none⟩ = some (.int .i64 f.y) := hcm m _ hg 1 _ rfl
        have m2 : w1.cell? ⟨mb, mo + m * 8 + 2, none⟩ = some (.int .i64 f.z) := hcm m _ hg 2 _ rfl
        have m3 : w1.cell? ⟨mb, mo + m * 8 + 3, none⟩ = some (.int .i64 f.c0) := hcm m _ hg 3 _ rfl
        have m4 : w1.cell? ⟨mb, mo + m * 8 + 4, none⟩ = some (.int .i64 f.c1) := hcm m _ hg 4 _ rfl
        have m5 : w1.cell? ⟨mb, mo + m * 8 + 5, none⟩ = some (.int .i64 f.c2) := hcm m _ hg 5 _ rfl
        have m6 : w1.cell? ⟨mb, mo + m * 8 + 6, none⟩ = some (.int .i64 f.c3) := hcm m _ hg 6 _ rfl
        have m7 : w1.cell? ⟨mb, mo + m * 8 + 7, none⟩ = some (.int .i64 f.cov) := hcm m _ hg 7 _ rfl
        have hmb' : mb ≤ w1.heap.size := by omega
        have c1 : decide ((M.length : Int) ≤ m) = false := by simp; omega
        have c2 : decide (M.length ≤ m) = false := by simp; omega
        have hmi : (m : Int) < M.length := by omega
        obtain ⟨fx, fy, fz, q1', q2', q3', q4', q5'⟩ := f
        simp only at g0 g1 g2 g3 g4 g5 g6 g7 m0 m1 m2 m3 m4 m5 m6 m7 HH HI
        clear hcm hg hn hi hp hm
        clear HB hcl
        go_wp2
        refine wp_region_ext (by kernel_rfl) (by kernel_rfl) ?_
        repeat (go_big_quiet_step ((first | (go_at_call 38; with_reducible exact Calls.quiet_ret (HH.out _)))))
        refine wpQuiet_nil ?_
        intro _ hw_ext
        obtain ⟨Y, hw_ext⟩ := hw_ext
        subst hw_ext
        go_wp2
        refine wp_region_ext (by kernel_rfl) (by kernel_rfl) ?_
        repeat (go_big_quiet_step ((first | (go_at_call 38; with_reducible exact Calls.quiet_ret (HI.out _)))))
        refine wpQuiet_nil ?_
        intro _ hw_ext
        obtain ⟨Z, hw_ext⟩ := hw_ext
        subst hw_ext
        go_wp2
        refine wp_region_ext (by kernel_rfl) (by kernel_rfl) ?_
        repeat (go_big_quiet_step ((fail)))
        refine wpQuiet_nil ?_
        intro _ hw_ext
        obtain ⟨V, hw_ext⟩ := hw_ext
        subst hw_ext
        go_wp2
        go_roundw
        case rel => exact ⟨k + 1, m + 1, _, HKL.out, by go_num, by go_num, nxt, hml, by simp only [World.ext_ext]; rfl⟩
        case measure => have := HKL.out; simp [intOf]; omega
      · rw [decide_eq_false hp] at hi
        have HI := Lib.hid hi
        rw [if_neg hp] at hn
        have nxt := Lib.hid (show m = N (k + 1) by rw [hn, hm.out]; rfl)
        obtain ⟨fx, fy, fz, q1', q2', q3', q4', q5'⟩ := f
        simp only at g0 g1 g2 g3 g4 g5 g6 g7 HH HI
        clear hn hi hp hm
        clear HB hcl
        go_wp2
        refine wp_region_ext (by kernel_rfl) (by kernel_rfl) ?_
        repeat (go_big_quiet_step ((first | (go_at_call 38; with_reducible exact Calls.quiet_ret (HH.out _)))))
        refine wpQuiet_nil ?_
        intro _ hw_ext
        obtain ⟨Y, hw_ext⟩ := hw_ext
        subst hw_ext
        go_wp2
        refine wp_region_ext (by kernel_rfl) (by kernel_rfl) ?_
        repeat (go_big_quiet_step ((first | (go_at_call 38; with_reducible exact Calls.quiet_ret (HI.out _)))))
        refine wpQuiet_nil ?_
        intro _ hw_ext
        obtain ⟨Z, hw_ext⟩ := hw_ext
        subst hw_ext
        go_wp2
        go_roundw
        case rel => exact ⟨k + 1, m, _, HKL.out, by go_num, rfl, nxt, hm1, by simp only [World.ext_ext]; rfl⟩
        case measure => have := HKL.out; simp [intOf]; omega
    · obtain rfl : k = L.length := by omega
      have e := hm.out
      rw [HE.out] at e
      subst e
      go_wp2_with (first | (go_at_call 43; (with_reducible refine (awake17 _).mono ?_); rintro _ _ ⟨rfl, X_, rfl⟩))
      go_ret
      obtain ⟨X0, hX0⟩ := HX.out
      subst hX0
      exact Ret.of' (by simp) (by (repeat (first | exact Below.refl _ _ | with_reducible refine Below.drew ?_ | with_reducible refine Below.ext ?_ (by first | exact Nat.le_refl _ | (simp; done) | (simp; omega)) _ | with_reducible refine Below.alloc ?_ (by first | exact Nat.le_refl _ | (simp; done) | (simp; omega)) _ | with_reducible refine Below.setCell ?_ (by first | exact Nat.le_refl _ | (simp; done) | (simp; omega)) _)))
theorem WideRects_all : WideRects_stmt := by
  rintro aX aY aZ aC0 aC1 aC2 aC3 bX bY bZ bC0 bC1 bC2 bC3 n dd p r c x0 y0 x1 y1 d0 d1 w ⟨h1, h2, h3, h4, h5, h6, h7, g1, g2, g3, g4, g5, g6, g7, -, e1, e2, e3, -⟩ ⟨k0, k1⟩
  by_cases h : ¬ rightP x0 y0 x1 y1 ∨ 2000 < areaP x0 y0 x1 y1
  · exact rects17_no ⟨aX, aY, aZ, aC0, aC1, aC2, aC3⟩ ⟨bX, bY, bZ, bC0, bC1, bC2, bC3⟩ n dd p r c x0 y0 x1 y1 d0 d1 h w
  · exact rects17_in ⟨aX, aY, aZ, aC0, aC1, aC2, aC3⟩ ⟨bX, bY, bZ, bC0, bC1, bC2, bC3⟩ n dd p r c x0 y0 x1 y1 d0 d1 ⟨h1, h2, h3, h4, h5, h6, h7⟩ ⟨g1, g2, g3, g4, g5, g6, g7⟩ e1 e3 k0 k1 (Classical.byContradiction fun k => h (.inl k)) (by omega) w
theorem WideRects_holds : Rows.WideRectsSaid := WideRects_end WideRects_all
end Go.Proofs.Ytamfjfnceeagiaa
