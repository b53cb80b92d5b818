/- The walks of layer 22: the reference's Sign; does a face show its front, is it culled. Conditions: the corners are within bounds; few corners. -/
import Derived.Test.YtciooaihobnifaaGreatFacB
import Derived.Test.YtciooaihobnifaaGreatSlopeH
namespace Go.Proofs.YtciooaihobnifaaGreat
set_option linter.unusedVariables false
set_option linter.unusedSimpArgs false
open Go.RowKit
set_option maxRecDepth 100000 in
set_option maxHeartbeats 4000000 in
theorem rface_sign (v : Value) (L : List WinP) (w : World) (hv : Recs wnK w v L) (hf : ∀ a ∈ L, a.fits) (hL : L.length ≤ 4096) : Calls Tryz.prog 24 #[v] w (Ret (.int .i64 (sgn (faceN L))) w) := by
  have HV := Lib.hid hv
  have HF := Lib.hid hf
  obtain ⟨hl, av, cap, rfl, hcap, -⟩ := hv
  clear hf
  go_enter Tryz.func24, Tryz.ntmps24
  go_wp2
  go_loopw [4] (fun i wr => ∃ (k n : Nat) (m0 : Bool) (a0 : Option Addr) (l0 c0 : Nat), (k = 0 ∨ k + 2 ≤ L.length) ∧ n ≤ 129 + k ∧ i = .int .i64 ((k : Int) + 1) ∧ Row wr w.heap.size #[.bool m0, .slice a0 l0 c0] 111 ∧ RN wr (.agg #[.bool m0, .slice a0 l0 c0]) (fan L k) n ∧ ∃ X, wr = w.ext X)
    (fun i _ => L.length + 2 - (intOf i).toNat)
  case atStart => exact ⟨0, 0, _, _, _, _, .inl rfl, by omega, rfl, by (repeat (first | assumption | with_reducible refine Row.ext ?_ _ | with_reducible refine row_drew ?_ | (with_reducible refine row_last ?_; first | rfl | (simp; done)) | with_reducible refine Row.alloc ?_ _)), rn_zero, RowKit.Below.toExt (by (repeat (first | exact Below.refl _ _ | with_reducible refine Below.drew ?_ | with_reducible refine Below.ext ?_ (by first | exact Nat.le_refl _ | (simp; done) | (simp; omega)) _ | with_reducible refine Below.alloc ?_ (by first | exact Nat.le_refl _ | (simp; done) | (simp; omega)) _ | with_reducible refine Below.setCell ?_ (by first | exact Nat.le_refl _ | (simp; done) | (simp; omega)) _)))⟩
  case round =>
    obtain ⟨k, n, m0, a0, l0, c0, hk, hn, rfl, R, hN, hX⟩ := hrel
    have HX := Lib.hid hX
    have HN := Lib.hid hN
    have cr := R.cell
    have fr := R.frozen
    have lr := R.lt
    by_cases hlt : k + 2 < L.length
    · have hki : (k : Int) + 2 < L.length := by omega
      have hki' : (k : Int) + 1 + 1 < L.length := by omega
      have h0 : 0 < L.length := by omega
      have h1 : k + 1 < L.length := by omega
      have hi0 : (0 : Int) < L.length := by omega
      have hi1 : (k : Int) + 1 < L.length := by omega
      obtain ⟨X0, hX0⟩ := hX
      obtain ⟨-, av', cap', hq, -, hcl⟩ := (by rw [hX0]; exact HV.out.ext X0 : Recs wnK wr (.slice av L.length cap) L)
      obtain ⟨rfl, rfl⟩ : av = av' ∧ cap = cap' := by simpa using hq
      clear hq hX0 hN
      rcases hcl with e | ⟨lb, lo, rfl, hlb, hcl⟩
      · rw [e] at h0; simp at h0
      obtain ⟨a, ha⟩ : ∃ f, L[0]? = some f := ⟨_, List.getElem?_eq_getElem h0⟩
      obtain ⟨b, hb⟩ : ∃ f, L[k + 1]? = some f := ⟨_, List.getElem?_eq_getElem h1⟩
      obtain ⟨c, hc⟩ : ∃ f, L[k + 2]? = some f := ⟨_, List.getElem?_eq_getElem hlt⟩
      have pa0 : wr.cell? ⟨lb, lo, none⟩ = some (.int .i64 a.x) := by simpa using hcl 0 _ ha 0 _ rfl
      have pa1 : wr.cell? ⟨lb, lo + 1, none⟩ = some (.int .i64 a.y) := by simpa using hcl 0 _ ha 1 _ rfl
      have pa2 : wr.cell? ⟨lb, lo + 2, none⟩ = some (.int .i64 a.z) := by simpa using hcl 0 _ ha 2 _ rfl
      have pa3 : wr.cell? ⟨lb, lo + 3, none⟩ = some (.int .i64 a.c0) := by simpa using hcl 0 _ ha 3 _ rfl
      have pa4 : wr.cell? ⟨lb, lo + 4, none⟩ = some (.int .i64 a.c1) := by simpa using hcl 0 _ ha 4 _ rfl
      have pa5 : wr.cell? ⟨lb, lo + 5, none⟩ = some (.int .i64 a.c2) := by simpa using hcl 0 _ ha 5 _ rfl
      have pa6 : wr.cell? ⟨lb, lo + 6, none⟩ = some (.int .i64 a.c3) := by simpa using hcl 0 _ ha 6 _ rfl
      have pb0 : wr.cell? ⟨lb, lo + (k + 1) * 7, none⟩ = some (.int .i64 b.x) := hcl (k + 1) _ hb 0 _ rfl
      have pb1 : wr.cell? ⟨lb, lo + (k + 1) * 7 + 1, none⟩ = some (.int .i64 b.y) := hcl (k + 1) _ hb 1 _ rfl
      have pb2 : wr.cell? ⟨lb, lo + (k + 1) * 7 + 2, none⟩ = some (.int .i64 b.z) := hcl (k + 1) _ hb 2 _ rfl
      have pb3 : wr.cell? ⟨lb, lo + (k + 1) * 7 + 3, none⟩ = some (.int .i64 b.c0) := hcl (k + 1) _ hb 3 _ rfl
      have pb4 : wr.cell? ⟨lb, lo + (k + 1) * 7 + 4, none⟩ = some (.int .i64 b.c1) := hcl (k + 1) _ hb 4 _ rfl
      have pb5 : wr.cell? ⟨lb, lo + (k + 1) * 7 + 5, none⟩ = some (.int .i64 b.c2) := hcl (k + 1) _ hb 5 _ rfl
      have pb6 : wr.cell? ⟨lb, lo + (k + 1) * 7 + 6, none⟩ = some (.int .i64 b.c3) := hcl (k + 1) _ hb 6 _ rfl
      have pc0 : wr.cell? ⟨lb, lo + (k + 2) * 7, none⟩ = some (.int .i64 c.x) := hcl (k + 2) _ hc 0 _ rfl
      have pc1 : wr.cell? ⟨lb, lo + (k + 2) * 7 + 1, none⟩ = some (.int .i64 c.y) := hcl (k + 2) _ hc 1 _ rfl
      have pc2 : wr.cell? ⟨lb, lo + (k + 2) * 7 + 2, none⟩ = some (.int .i64 c.z) := hcl (k + 2) _ hc 2 _ rfl
      have pc3 : wr.cell? ⟨lb, lo + (k + 2) * 7 + 3, none⟩ = some (.int .i64 c.c0) := hcl (k + 2) _ hc 3 _ rfl
      have pc4 : wr.cell? ⟨lb, lo + (k + 2) * 7 + 4, none⟩ = some (.int .i64 c.c1) := hcl (k + 2) _ hc 4 _ rfl
      have pc5 : wr.cell? ⟨lb, lo + (k + 2) * 7 + 5, none⟩ = some (.int .i64 c.c2) := hcl (k + 2) _ hc 5 _ rfl
      have pc6 : wr.cell? ⟨lb, lo + (k + 2) * 7 + 6, none⟩ = some (.int .i64 c.c3) := hcl (k + 2) _ hc 6 _ rfl
      have na := wAt_of ha
      have nb := wAt_of hb
      have nc := wAt_of hc
      have fa := HF.out a (List.mem_of_getElem? ha)
      have fb := HF.out b (List.mem_of_getElem? hb)
      have fc := HF.out c (List.mem_of_getElem? hc)
      have hn2 := (nigh3 fa fb fc).ar
      have hs : fan L (k + 1) = fan L k + ar a b c := by rw [← na, ← nb, ← nc]; rfl
      have A := Lib.hid (fun w => rarea_any a b c (nigh3 fa fb fc) w)
      have O := Lib.hid (fun w => rof_any (ar a b c) (by unfold sml; omega) w)
      have D := Lib.hid (fun w => from_any (ar a b c) (by unfold inR; omega) w)
      have HS := Lib.hid hs
      clear hcl ha hb hc na nb nc fa fb fc hn2 hs hk
      go_wp2
      refine wp_region_rel 17 [none, none, none, none, none, none, none, none, none, none, none, none, none, some ([], srV (.int .i64 (ar a b c))), some ([13], srV (I2 (ar a b c))), some ([14], srN (ar a b c) 129), some ([15], srN (fan L k + ar a b c) (max n 129 + 1))] (by kernel_rfl) (by kernel_rfl) ?_
      simp only [List.take_succ_cons, List.take_zero, List.drop_succ_cons, List.drop_zero]
      (repeat (first | (refine rel_none ?_; intro K_ hK_; go_big_quiet_op; go_big_quiet_on) | simp only [Act.put, List.setIfInBounds_toArray, List.set_cons_zero, List.set_cons_succ]))
      refine rel_some rfl (fun w_ hw_ hk_ K_ hK_ => ?_) (fun v13 f13 => ?_)
      · obtain ⟨X_, rfl⟩ := hw_
        go_simp
        go_at_call 72
        refine (A.out _).mono ?_
        rintro _ _ ⟨rfl, hX⟩
        exact hK_ _ _ rfl hX
      obtain rfl := f13
      (repeat (first | (refine rel_none ?_; intro K_ hK_; go_big_quiet_op; go_big_quiet_on) | simp only [Act.put, List.setIfInBounds_toArray, List.set_cons_zero, List.set_cons_succ]))
      refine rel_some rfl (fun w_ hw_ hk_ K_ hK_ => ?_) (fun v14 f14 => ?_)
      · obtain ⟨X_, rfl⟩ := hw_
        go_simp
        go_at_call 71
        refine (O.out _).mono ?_
        rintro _ _ ⟨rfl, hX⟩
        exact hK_ _ _ rfl hX
      obtain rfl := f14
      (repeat (first | (refine rel_none ?_; intro K_ hK_; go_big_quiet_op; go_big_quiet_on) | simp only [Act.put, List.setIfInBounds_toArray, List.set_cons_zero, List.set_cons_succ]))
      refine rel_some rfl (fun w_ hw_ hk_ K_ hK_ => ?_) (fun v15 f15 => ?_)
      · obtain ⟨X_, rfl⟩ := hw_
        go_simp
        go_at_call 70
        refine (D.out _).mono ?_
        rintro _ _ ⟨v, rfl, h1, h2⟩
        exact hK_ _ _ h1 h2
      obtain ⟨m8, a8, l8, c8, rfl⟩ := f15
      (repeat (first | (refine rel_none ?_; intro K_ hK_; go_big_quiet_op; go_big_quiet_on) | simp only [Act.put, List.setIfInBounds_toArray, List.set_cons_zero, List.set_cons_succ]))
      refine rel_some rfl (fun w_ hw_ hk_ K_ hK_ => ?_) (fun v16 f16 => ?_)
      · obtain ⟨X_, rfl⟩ := hw_
        have h8 := (hk_ (15, _) (by repeat (first | exact List.mem_cons_self | refine List.mem_cons_of_mem _ ?_))) (by simp)
        go_simp
        go_at_call 69
        refine (sum_any _ _ (fan L k) (ar a b c) n 129 _ (by first | exact HN.out.ext _ | exact HN.out.drew.ext _) h8 (by omega) (by decide)).mono ?_
        rintro _ _ ⟨v, rfl, h1, h2⟩
        exact hK_ _ _ h1 h2
      obtain ⟨m9, a9, l9, c9, rfl⟩ := f16
      (repeat (first | (refine rel_none ?_; intro K_ hK_; go_big_quiet_op; go_big_quiet_on) | simp only [Act.put, List.setIfInBounds_toArray, List.set_cons_zero, List.set_cons_succ]))
      refine rel_nil ?_
      intro w_ hw_ kk
      obtain ⟨X, rfl⟩ := hw_
      have h9 := (kk (16, _) (by repeat (first | exact List.mem_cons_self | refine List.mem_cons_of_mem _ ?_)))
      have H9 := Lib.hid h9
      clear h9 kk
      go_wp2
      go_roundw
      case rel =>
        have P := num_put (R.ext X) isSl_mk H9.out
        rw [World.setCell_ext lr, World.setCell_ext (by simpa [World.setCell] using lr)] at P
        refine ⟨k + 1, _, _, _, _, _, .inr (by omega), ?_, by go_num, P.1, by rw [HS.out]; exact P.2, ?_⟩
        · omega
        · obtain ⟨X1, hX1⟩ := HX.out
          subst hX1
          exact RowKit.Below.toExt (by (repeat (first | with_reducible assumption | with_reducible exact Below.refl _ _ | with_reducible refine Below.drew ?_ | with_reducible refine Below.ext ?_ (by first | exact Nat.le_refl _ | omega | (simp; done) | (simp; omega)) _ | with_reducible refine Below.alloc ?_ (by first | exact Nat.le_refl _ | omega | (simp; done) | (simp; omega)) _ | with_reducible refine Below.setCell ?_ (by first | exact Nat.le_refl _ | omega | (simp; done) | (simp; omega)) _)))
      case measure => simp [intOf]; omega
    · have hkk : L.length - 2 = k := by omega
      have HK := Lib.hid hkk
      clear hkk hN
      have hge : ¬ ((k : Int) + 2 < L.length) := by omega
      have hge' : ¬ ((k : Int) + 1 + 1 < L.length) := by omega
      go_wp2_with (first | (go_at_call 73; refine (order_any _ _ (fan L k) 0 n 0 _ HN.out rn_zero (by omega) (by decide)).mono ?_; rintro _ _ ⟨rfl, X_, rfl⟩))
      go_ret
      obtain ⟨X0, hX0⟩ := HX.out
      subst hX0
      exact Ret.of' (by unfold faceN; rw [HK.out]; rfl) (by (repeat (first | with_reducible assumption | with_reducible exact Below.refl _ _ | with_reducible refine Below.drew ?_ | with_reducible refine Below.ext ?_ (by first | exact Nat.le_refl _ | omega | (simp; done) | (simp; omega)) _ | with_reducible refine Below.alloc ?_ (by first | exact Nat.le_refl _ | omega | (simp; done) | (simp; omega)) _ | with_reducible refine Below.setCell ?_ (by first | exact Nat.le_refl _ | omega | (simp; done) | (simp; omega)) _)))
/-- Does a face that goes so show its front? -/
def frontB (n : Int) (ccw : Bool) : Bool := if ccw then decide (0 ≤ n) else decide (n ≤ 0)
def culledB (b : Bool) (c : Int) : Bool := if b then decide (c = 1 ∨ c = 3) else decide (c = 2 ∨ c = 3)
theorem sgn_three (z : Int) : sgn z = -1 ∨ sgn z = 0 ∨ sgn z = 1 := by unfold sgn; split <;> (try split) <;> simp
theorem cull_four {c : Int} (h : amongP c 0 3) : c = 0 ∨ c = 1 ∨ c = 2 ∨ c = 3 := by unfold amongP at h; omega
set_option maxHeartbeats 2000000 in
theorem face_front (v : Value) (L : List WinP) (ccw : Bool) (w : World) (hv : Recs wnK w v L) (hf : ∀ a ∈ L, a.fits) : Calls Tryz.prog 25 #[v, .bool ccw] w (Ret (.bool (frontB (sgn (faceN L)) ccw)) w) := by
  have S := Lib.hid (fun X => face_sign v L (w.ext X) (hv.ext X) hf)
  have S0 := Lib.hid (face_sign v L w hv hf)
  obtain ⟨-, av, cap, rfl, -, -⟩ := hv
  rcases sgn_three (faceN L) with e | e | e <;> rw [e] at S S0 ⊢ <;> cases ccw
  all_goals
    clear e hf
    go_enter Tryz.func25, Tryz.ntmps25
    go_wp2_with (first | (go_at_call 23; (with_reducible refine (S0.out).mono ?_); rintro _ _ ⟨rfl, X_, rfl⟩) | (go_at_call 23; (with_reducible refine (S.out _).mono ?_); rintro _ _ ⟨rfl, X_, rfl⟩))
    go_ret
    exact Ret.of' (by first | rfl | decide) (by (repeat (first | exact Below.refl _ _ | with_reducible refine Below.drew ?_ | with_reducible refine Below.ext ?_ (by first | exact Nat.le_refl _ | (simp; done) | (simp; omega)) _ | with_reducible refine Below.alloc ?_ (by first | exact Nat.le_refl _ | (simp; done) | (simp; omega)) _ | with_reducible refine Below.setCell ?_ (by first | exact Nat.le_refl _ | (simp; done) | (simp; omega)) _)))
set_option maxHeartbeats 2000000 in
theorem rface_front (v : Value) (L : List WinP) (ccw : Bool) (w : World) (hv : Recs wnK w v L) (hf : ∀ a ∈ L, a.fits) (hL : L.length ≤ 4096) : Calls Tryz.prog 26 #[v, .bool ccw] w (Ret (.bool (frontB (sgn (faceN L)) ccw)) w) := by
  have S := Lib.hid (fun X => rface_sign v L (w.ext X) (hv.ext X) hf hL)
  have S0 := Lib.hid (rface_sign v L w hv hf hL)
  obtain ⟨-, av, cap, rfl, -, -⟩ := hv
  rcases sgn_three (faceN L) with e | e | e <;> rw [e] at S S0 ⊢ <;> cases ccw
  all_goals
    clear e hf hL
    go_enter Tryz.func26, Tryz.ntmps26
    go_wp2_with (first | (go_at_call 24; (with_reducible refine (S0.out).mono ?_); rintro _ _ ⟨rfl, X_, rfl⟩) | (go_at_call 24; (with_reducible refine (S.out _).mono ?_); rintro _ _ ⟨rfl, X_, rfl⟩))
    go_ret
    exact Ret.of' (by first | rfl | decide) (by (repeat (first | exact Below.refl _ _ | with_reducible refine Below.drew ?_ | with_reducible refine Below.ext ?_ (by first | exact Nat.le_refl _ | (simp; done) | (simp; omega)) _ | with_reducible refine Below.alloc ?_ (by first | exact Nat.le_refl _ | (simp; done) | (simp; omega)) _ | with_reducible refine Below.setCell ?_ (by first | exact Nat.le_refl _ | (simp; done) | (simp; omega)) _)))
set_option maxHeartbeats 4000000 in
theorem face_culled (v : Value) (L : List WinP) (k : LookP) (w : World) (hv : Recs wnK w v L) (hf : ∀ a ∈ L, a.fits) (hc : amongP k.cull 0 3) : Calls Tryz.prog 27 #[v, k.v] w (Ret (.bool (culledB (frontB (sgn (faceN L)) k.ccw) k.cull)) w) := by
  have S := Lib.hid (fun w1 (h : Recs wnK w1 v L) => face_front v L k.ccw w1 h hf)
  have HV := Lib.hid hv
  obtain ⟨-, av, cap, rfl, -, -⟩ := hv
  obtain ⟨k0, k1, k2, k3, k4, k5, k6, k7, k8, k9, kw, kc, k12, k13, k14⟩ := k
  simp only at hc S ⊢
  generalize frontB (sgn (faceN L)) kw = b at *
  rcases cull_four hc with rfl | rfl | rfl | rfl <;> cases b
  all_goals
    clear hf hc
    go_enter Tryz.func27, Tryz.ntmps27
    go_wp2_with (first | (go_at_call 25; (with_reducible refine (S.out _ (HV.out.alloc _)).mono ?_); rintro _ _ ⟨rfl, X_, rfl⟩))
    go_ret
    exact Ret.of' (by first | rfl | decide) (by (repeat (first | exact Below.refl _ _ | with_reducible refine Below.drew ?_ | with_reducible refine Below.ext ?_ (by first | exact Nat.le_refl _ | (simp; done) | (simp; omega)) _ | with_reducible refine Below.alloc ?_ (by first | exact Nat.le_refl _ | (simp; done) | (simp; omega)) _ | with_reducible refine Below.setCell ?_ (by first | exact Nat.le_refl _ | (simp; done) | (simp; omega)) _)))
set_option maxHeartbeats 4000000 in
theorem rface_culled (v : Value) (L : List WinP) (k : LookP) (w : World) (hv : Recs wnK w v L) (hf : ∀ a ∈ L, a.fits) (hL : L.length ≤ 4096) (hc : amongP k.cull 0 3) : Calls Tryz.prog 28 #[v, k.v] w (Ret (.bool (culledB (frontB (sgn (faceN L)) k.ccw) k.cull)) w) := by
  have S := Lib.hid (fun w1 (h : Recs wnK w1 v L) => rface_front v L k.ccw w1 h hf hL)
  have HV := Lib.hid hv
  obtain ⟨-, av, cap, rfl, -, -⟩ := hv
  obtain ⟨k0, k1, k2, k3, k4, k5, k6, k7, k8, k9, kw, kc, k12, k13, k14⟩ := k
  simp only at hc S ⊢
  generalize frontB (sgn (faceN L)) kw = b at *
  rcases cull_four hc with rfl | rfl | rfl | rfl <;> cases b
  all_goals
    clear hf hc hL
    go_enter Tryz.func28, Tryz.ntmps28
    go_wp2_with (first | (go_at_call 26; (with_reducible refine (S.out _ (HV.out.alloc _)).mono ?_); rintro _ _ ⟨rfl, X_, rfl⟩))
    go_ret
    exact Ret.of' (by first | rfl | decide) (by (repeat (first | exact Below.refl _ _ | with_reducible refine Below.drew ?_ | with_reducible refine Below.ext ?_ (by first | exact Nat.le_refl _ | (simp; done) | (simp; omega)) _ | with_reducible refine Below.alloc ?_ (by first | exact Nat.le_refl _ | (simp; done) | (simp; omega)) _ | with_reducible refine Below.setCell ?_ (by first | exact Nat.le_refl _ | (simp; done) | (simp; omega)) _)))
end Go.Proofs.YtciooaihobnifaaGreat
