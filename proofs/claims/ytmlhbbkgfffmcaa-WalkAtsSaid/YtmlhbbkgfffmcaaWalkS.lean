/- The walks of the references of layer 14: Of. Conditions: bounds of points. -/
import Derived.Test.YtmlhbbkgfffmcaaWalkR
import Derived.Test.YtmlhbbkgfffmcaaLineG
namespace Go.Proofs.Ytmlhbbkgfffmcaa
set_option linter.unusedVariables false
set_option linter.unusedSimpArgs false
open Go.RowKit
theorem ofL_ok (ax ay bx y2 : Int) (ha : MayP ax ay) (hb : MayP bx y2) : (ofL ax ay bx y2).Ok := by
  have b1 := uC_bd (decide (turnP ax ay bx y2)) ha
  unfold ofL
  split <;> (refine ⟨?_, ?_⟩ <;> (simp only [leastC]; omega))
set_option maxHeartbeats 8000000 in
theorem rof_any (ax ay bx y2 : Int) (ha : MayP ax ay) (hb : MayP bx y2) (w : World) : Calls Try.prog 97 #[P2 ax ay, P2 bx y2] w (Ret (ofL ax ay bx y2).w w) := by
  have HWd := Lib.hid (fun w => rwide_any ax ay bx y2 ha hb w)
  have HAh := Lib.hid (fun u w (h0 : -536870912 ≤ u) (h1 : u ≤ 536870912) => rahead_any u h0 h1 w)
  have HI := Lib.hid (fun w => rin_any ax ay ha w)
  have ib : (-8388608 ≤ inX ax ay ∧ inX ax ay ≤ 8388608) ∧ (-8388608 ≤ inY ax ay ∧ inY ax ay ≤ 8388608) := by
    obtain ⟨a0, a1, a2, a3⟩ := ha
    unfold inX inY; constructor <;> constructor <;> repeat' split
    all_goals omega
  have HE := Lib.hid (fun w => rexits_any ax ay bx y2 (inX ax ay) (inY ax ay) ha hb ⟨ib.1.1, ib.1.2, ib.2.1, ib.2.2⟩ w)
  have fb := uC_bd (decide (turnP ax ay bx y2)) ha
  have gb := uC_bd (decide (turnP ax ay bx y2)) hb
  obtain ⟨V, hV⟩ : ∃ V, ofL ax ay bx y2 = V := ⟨_, rfl⟩
  rw [hV]
  unfold ofL exA at hV
  obtain ⟨a0, a1, a2, a3⟩ := ha
  obtain ⟨b0, b1, b2, b3⟩ := hb
  obtain ⟨t, ht⟩ : ∃ t, decide (turnP ax ay bx y2) = t := ⟨_, rfl⟩
  obtain ⟨o, ho⟩ : ∃ t, inOk ax ay = t := ⟨_, rfl⟩
  obtain ⟨e, he⟩ : ∃ t, decide (exP ax ay bx y2 (inX ax ay) (inY ax ay)) = t := ⟨_, rfl⟩
  have he' : exP ax ay bx y2 (inX ax ay) (inY ax ay) ↔ e = true := by rw [← he, decide_eq_true_iff]
  simp only [ht, ho, he'] at hV
  have hu := iC_uv t ax ay
  rw [hu.1] at hV
  rw [he] at HE
  rw [ht] at fb gb
  simp only [ht] at HWd
  simp only [In3, ho] at HI
  obtain ⟨i, hi⟩ : ∃ t, inX ax ay = t := ⟨_, rfl⟩
  obtain ⟨k, hk⟩ : ∃ t, inY ax ay = t := ⟨_, rfl⟩
  simp only [hi, hk] at HI HE hV ib
  obtain ⟨F, hF⟩ : ∃ F, leastC (uC t ax ay) = F := ⟨_, rfl⟩
  obtain ⟨G, hG⟩ : ∃ F, leastC (uC t bx y2) = F := ⟨_, rfl⟩
  rw [hF, hG] at hV
  have hFb : -2097154 ≤ F ∧ F ≤ 2097154 := by rw [← hF]; unfold leastC; omega
  have hGb : -2097154 ≤ G ∧ G ≤ 2097154 := by rw [← hG]; unfold leastC; omega
  have HV := Lib.hid hV
  have HF := Lib.hid hF
  have HG := Lib.hid hG
  obtain ⟨F0, F1⟩ := hFb
  obtain ⟨G0, G1⟩ := hGb
  obtain ⟨⟨i0, i1⟩, ⟨k0, k1⟩⟩ := ib
  clear hV hF hG ht ho he he' hu hi hk
  have L1 := Lib.hid (fun w => HAh.out ax w (by omega) (by omega))
  have L2 := Lib.hid (fun w => HAh.out bx w (by omega) (by omega))
  have L3 := Lib.hid (fun w => HAh.out ay w (by omega) (by omega))
  have L4 := Lib.hid (fun w => HAh.out y2 w (by omega) (by omega))
  obtain ⟨F', hF'⟩ : ∃ F, leastC ax = F := ⟨_, rfl⟩
  obtain ⟨G', hG'⟩ : ∃ F, leastC bx = F := ⟨_, rfl⟩
  have HF' := Lib.hid hF'
  have HG' := Lib.hid hG'
  rw [hF'] at L1
  rw [hG'] at L2
  clear hF' hG'
  go_enter Try.func97, Try.ntmps97
  go_upto_region 1 with fail
  refine wp_region_mix (by kernel_rfl) ?_
  repeat (first | (refine mix_skip rfl ?_; simp only [List.nil_append, List.cons_append]) | (refine mix_ncheck rfl rfl rfl ?_; simp only [Act.put, List.setIfInBounds_toArray, List.set_cons_zero, List.set_cons_succ, List.nil_append, List.cons_append]) | (refine mix_calm rfl rfl ?_; intro K_ hK_; go_big_quiet_op; go_big_quiet_on; simp only [List.nil_append, List.cons_append]) | (refine mix_alloc rfl rfl Try.zeroValue129 ?_; simp only [List.nil_append, List.cons_append]) | (refine mix_fill 7 rfl rfl rfl rfl (by simp [Value.oneCell']) (by kernel_rfl) (by simp) rfl rfl rfl rfl ?_; simp only [List.nil_append, List.cons_append]) | (apply mix_call rfl; (intro X_; go_simp; go_at_call 132; with_reducible exact Calls.calm_ret (L1.out _)); simp only [Act.put, List.setIfInBounds_toArray, List.set_cons_zero, List.set_cons_succ, List.nil_append, List.cons_append]) | (apply mix_call rfl; (intro X_; go_simp; go_at_call 132; with_reducible exact Calls.calm_ret (L2.out _)); simp only [Act.put, List.setIfInBounds_toArray, List.set_cons_zero, List.set_cons_succ, List.nil_append, List.cons_append]))
  refine mix_nil (mix_end1 7 8 ⟨by kernel_rfl, by kernel_rfl⟩ rfl rfl rfl rfl rfl (by kernel_rfl) ?_)
  intro X p h
  have c_h := h.cell
  have f_h := h.frozen
  have g_h := h.gap
  have b_h := Lib.hid h.block
  simp only [World.size_ext, World.size_alloc, World.size_drew, World.size_setCell] at g_h
  clear h
  simp only [Act.put, List.setIfInBounds_toArray, List.set_cons_zero, List.set_cons_succ, ptr]
  go_upto_region 2 with fail
  have B := b_h.out
  refine wp_abs (F := fun w1 => Row w1 w.heap.size #[.int .i64 ax, .int .i64 ay] 50 ∧ Row w1 (w.heap.size + 1) #[.int .i64 bx, .int .i64 y2] 50 ∧ Row w1 (w.heap.size + 1 + 1) #[.int .i64 0, .int .i64 0, .int .i64 0, .int .i64 0, .bool false] 129 ∧ Row w1 p #[.int .i64 F', .int .i64 G', .int .i64 0, .int .i64 0, .bool false] 129 ∧ w.heap.size + 3 ≤ p ∧ ∃ X, w1 = w.ext X) ⟨by (repeat (first | assumption | with_reducible refine Row.ext ?_ _ | with_reducible refine row_drew ?_ | (with_reducible refine row_last ?_; first | rfl | (simp; done)) | with_reducible refine Row.alloc ?_ _)), by (repeat (first | assumption | with_reducible refine Row.ext ?_ _ | with_reducible refine row_drew ?_ | (with_reducible refine row_last ?_; first | rfl | (simp; done)) | with_reducible refine Row.alloc ?_ _)), by (repeat (first | assumption | with_reducible refine Row.ext ?_ _ | with_reducible refine row_drew ?_ | (with_reducible refine row_last ?_; first | rfl | (simp; done)) | with_reducible refine Row.alloc ?_ _)), B, by simp [Xt.gapl, Xt.gap, Xt.sz] at g_h ⊢; omega, RowKit.Below.toExt (by (repeat (first | exact Below.refl _ _ | with_reducible refine Below.drew ?_ | with_reducible refine Below.ext ?_ (by first | exact Nat.le_refl _ | (simp; done) | (simp; omega)) _ | with_reducible refine Below.alloc ?_ (by first | exact Nat.le_refl _ | (simp; done) | (simp; omega)) _ | with_reducible refine Below.setCell ?_ (by first | exact Nat.le_refl _ | (simp; done) | (simp; omega)) _)))⟩ ?_
  clear c_h f_h g_h b_h B
  rintro w1 ⟨ra, rb, rs, rp, hp, hX⟩
  have RA := Lib.hid ra
  have RB := Lib.hid rb
  have RS := Lib.hid rs
  have RP := Lib.hid rp
  have HX := Lib.hid hX
  have ca := ra.cell
  have fa := ra.frozen
  have la := ra.lt
  have cb := rb.cell
  have fb := rb.frozen
  have lb := rb.lt
  have cp := rp.cell
  have fp := rp.frozen
  have lp := rp.lt
  clear ra rb rs rp hX
  go_upto_if 21 with (first | (go_at_call 98; (with_reducible refine (HWd.out _).mono ?_); rintro _ _ ⟨rfl, X_, rfl⟩))
  go_cut [] (fun wx => Row wx w.heap.size #[.int .i64 ax, .int .i64 ay] 50 ∧ Row wx (w.heap.size + 1) #[.int .i64 bx, .int .i64 y2] 50 ∧ Row wx (w.heap.size + 1 + 1) #[.int .i64 0, .int .i64 0, .int .i64 0, .int .i64 0, .bool false] 129 ∧ Row wx p #[.int .i64 F, .int .i64 G, .int .i64 0, .int .i64 0, .bool false] 129 ∧ ∃ X, wx = w.ext X)
  case first =>
    cases t
    · have e1 : F' = F := by rw [← HF.out, ← HF'.out]; rfl
      have e2 : G' = G := by rw [← HG.out, ← HG'.out]; rfl
      have E1 := Lib.hid e1
      have E2 := Lib.hid e2
      clear e1 e2
      go_wp2
      go_meet
      rw [← E1.out, ← E2.out]
      obtain ⟨X1, hX1⟩ := HX.out
      exact ⟨RA.out.ext _, RB.out.ext _, RS.out.ext _, RP.out.ext _, by subst hX1; exact ⟨_, World.ext_ext⟩⟩
    · have e1 : leastC ay = F := HF.out
      have e2 : leastC y2 = G := HG.out
      rw [e1] at L3
      rw [e2] at L4
      clear e1 e2
      go_upto_region 3 with fail
      refine wp_region_ext_tail 7 (by kernel_rfl) (by kernel_rfl) ?_
      simp only [List.take_succ_cons, List.take_zero, List.drop_succ_cons, List.drop_zero]
      repeat (go_big_quiet_step ((first | (go_at_call 132; with_reducible exact Calls.quiet_ret (L3.out _)) | (go_at_call 132; with_reducible exact Calls.quiet_ret (L4.out _)))))
      refine wpQuiet_nil ?_
      intro _ hw_ext
      obtain ⟨X2, hw_ext⟩ := hw_ext
      subst hw_ext
      go_wp2
      go_meet
      obtain ⟨X1, hX1⟩ := HX.out
      have ra := RA.out
      have rb := RB.out
      have rs := RS.out
      have R5 := ((((RP.out.set 0 (.int .i64 F)).set 1 (.int .i64 G)).set 2 (.int .i64 0)).set 3 (.int .i64 0)).set 4 (.bool false)
      simp only [List.setIfInBounds_toArray, List.set_cons_zero, List.set_cons_succ] at R5
      refine ⟨by (repeat (first | with_reducible assumption | with_reducible refine Row.ext ?_ _ | with_reducible refine row_drew ?_ | (with_reducible refine row_last ?_; first | rfl | (simp; done)) | with_reducible refine Row.alloc ?_ _ | with_reducible refine Row.other ?_ (by first | omega | (simp; omega)) _ _)), by (repeat (first | with_reducible assumption | with_reducible refine Row.ext ?_ _ | with_reducible refine row_drew ?_ | (with_reducible refine row_last ?_; first | rfl | (simp; done)) | with_reducible refine Row.alloc ?_ _ | with_reducible refine Row.other ?_ (by first | omega | (simp; omega)) _ _)), by (repeat (first | with_reducible assumption | with_reducible refine Row.ext ?_ _ | with_reducible refine row_drew ?_ | (with_reducible refine row_last ?_; first | rfl | (simp; done)) | with_reducible refine Row.alloc ?_ _ | with_reducible refine Row.other ?_ (by first | omega | (simp; omega)) _ _)), by (repeat (first | with_reducible assumption | with_reducible refine Row.ext ?_ _ | with_reducible refine row_drew ?_ | (with_reducible refine row_last ?_; first | rfl | (simp; done)) | with_reducible refine Row.alloc ?_ _ | with_reducible refine Row.other ?_ (by first | omega | (simp; omega)) _ _)), by subst hX1; exact RowKit.Below.toExt (by (repeat (first | with_reducible assumption | with_reducible exact Below.refl _ _ | with_reducible refine Below.drew ?_ | with_reducible refine Below.ext ?_ (by first | exact Nat.le_refl _ | omega | (simp; done) | (simp; omega)) _ | with_reducible refine Below.alloc ?_ (by first | exact Nat.le_refl _ | omega | (simp; done) | (simp; omega)) _ | with_reducible refine Below.setCell ?_ (by first | exact Nat.le_refl _ | omega | (simp; done) | (simp; omega)) _)))⟩
  case rest =>
    obtain ⟨ra, rb, rs, rp, hX⟩ := hcut
    obtain ⟨w2, rfl⟩ : ∃ w2, w2 = wc := ⟨_, rfl⟩
    clear HX ca fa la cb fb lb cp fp lp
    have RA := Lib.hid ra
    have RB := Lib.hid rb
    have RS := Lib.hid rs
    have RP := Lib.hid rp
    have HX := Lib.hid hX
    have ca := ra.cell
    have fa := ra.frozen
    have la := ra.lt
    have cb := rb.cell
    have fb := rb.frozen
    have lb := rb.lt
    have cp := rp.cell
    have fp := rp.frozen
    have lp := rp.lt
    have cs := rs.cell
    have fs := rs.frozen
    have ls := rs.lt
    clear ra rb rs rp hX L1 L2 L3 L4 HAh
    cases o
    · have E := Lib.hid (show (⟨F, G, 0, 0, false⟩ : Ln) = V by rw [← HV.out]; simp)
      go_wp2_with (first | (go_at_call 133; (with_reducible refine (HI.out _).mono ?_); rintro _ _ ⟨rfl, X_, rfl⟩))
      refine body_abs (F := fun w9 => Row w9 (w.heap.size + 1 + 1) #[.int .i64 F, .int .i64 G, .int .i64 0, .int .i64 0, .bool false] 129 ∧ ∃ X, w9 = w.ext X) ⟨?_, ?_⟩ ?_
      · have R5 := ((((RS.out.set 0 (.int .i64 F)).set 1 (.int .i64 G)).set 2 (.int .i64 0)).set 3 (.int .i64 0)).set 4 (.bool false)
        simp only [List.setIfInBounds_toArray, List.set_cons_zero, List.set_cons_succ] at R5
        (repeat (first | with_reducible assumption | with_reducible refine Row.ext ?_ _ | with_reducible refine row_drew ?_ | (with_reducible refine row_last ?_; first | rfl | (simp; done)) | with_reducible refine Row.alloc ?_ _ | with_reducible refine Row.other ?_ (by first | omega | (simp; omega)) _ _))
      · obtain ⟨X1, hX1⟩ := HX.out
        subst hX1
        exact RowKit.Below.toExt (by (repeat (first | with_reducible assumption | with_reducible exact Below.refl _ _ | with_reducible refine Below.drew ?_ | with_reducible refine Below.ext ?_ (by first | exact Nat.le_refl _ | omega | (simp; done) | (simp; omega)) _ | with_reducible refine Below.alloc ?_ (by first | exact Nat.le_refl _ | omega | (simp; done) | (simp; omega)) _ | with_reducible refine Below.setCell ?_ (by first | exact Nat.le_refl _ | omega | (simp; done) | (simp; omega)) _)))
      rintro w9 ⟨r9, X8, rfl⟩
      have c9 := r9.cell
      rw [← E.out]
      refine bodyPost_ret (v := Ln.w ⟨F, G, 0, 0, false⟩) (by simp [results, Try.results97, go_sem, c9]) rfl ?_
      exact Ret.of (by (repeat (first | exact Below.refl _ _ | with_reducible refine Below.drew ?_ | with_reducible refine Below.ext ?_ (by first | exact Nat.le_refl _ | (simp; done) | (simp; omega)) _ | with_reducible refine Below.alloc ?_ (by first | exact Nat.le_refl _ | (simp; done) | (simp; omega)) _ | with_reducible refine Below.setCell ?_ (by first | exact Nat.le_refl _ | (simp; done) | (simp; omega)) _)))
    · by_cases c : ax = bx ∧ ay = y2
      · have E := Lib.hid (show (⟨F, G, 0, 0, false⟩ : Ln) = V by rw [← HV.out]; simp [c])
        obtain ⟨rfl, rfl⟩ := c
        have z1 : (ax == ax) = true := by simp
        have z2 : (ay == ay) = true := by simp
        go_wp2_with (first | (go_at_call 133; (with_reducible refine (HI.out _).mono ?_); rintro _ _ ⟨rfl, X_, rfl⟩))
        refine body_abs (F := fun w9 => Row w9 (w.heap.size + 1 + 1) #[.int .i64 F, .int .i64 G, .int .i64 0, .int .i64 0, .bool false] 129 ∧ ∃ X, w9 = w.ext X) ⟨?_, ?_⟩ ?_
        · have R5 := ((((RS.out.set 0 (.int .i64 F)).set 1 (.int .i64 G)).set 2 (.int .i64 0)).set 3 (.int .i64 0)).set 4 (.bool false)
          simp only [List.setIfInBounds_toArray, List.set_cons_zero, List.set_cons_succ] at R5
          (repeat (first | with_reducible assumption | with_reducible refine Row.ext ?_ _ | with_reducible refine row_drew ?_ | (with_reducible refine row_last ?_; first | rfl | (simp; done)) | with_reducible refine Row.alloc ?_ _ | with_reducible refine Row.other ?_ (by first | omega | (simp; omega)) _ _))
        · obtain ⟨X1, hX1⟩ := HX.out
          subst hX1
          exact RowKit.Below.toExt (by (repeat (first | with_reducible assumption | with_reducible exact Below.refl _ _ | with_reducible refine Below.drew ?_ | with_reducible refine Below.ext ?_ (by first | exact Nat.le_refl _ | omega | (simp; done) | (simp; omega)) _ | with_reducible refine Below.alloc ?_ (by first | exact Nat.le_refl _ | omega | (simp; done) | (simp; omega)) _ | with_reducible refine Below.setCell ?_ (by first | exact Nat.le_refl _ | omega | (simp; done) | (simp; omega)) _)))
        rintro w9 ⟨r9, X8, rfl⟩
        have c9 := r9.cell
        rw [← E.out]
        refine bodyPost_ret (v := Ln.w ⟨F, G, 0, 0, false⟩) (by simp [results, Try.results97, go_sem, c9]) rfl ?_
        exact Ret.of (by (repeat (first | exact Below.refl _ _ | with_reducible refine Below.drew ?_ | with_reducible refine Below.ext ?_ (by first | exact Nat.le_refl _ | (simp; done) | (simp; omega)) _ | with_reducible refine Below.alloc ?_ (by first | exact Nat.le_refl _ | (simp; done) | (simp; omega)) _ | with_reducible refine Below.setCell ?_ (by first | exact Nat.le_refl _ | (simp; done) | (simp; omega)) _)))
      · cases e
        · have E := Lib.hid (show (⟨F, G, 0, 0, false⟩ : Ln) = V by rw [← HV.out]; simp)
          rcases ne_bools c with z1 | ⟨z1, z2⟩
          all_goals
            clear c
            go_wp2_with (first | (go_at_call 133; (with_reducible refine (HI.out _).mono ?_); rintro _ _ ⟨rfl, X_, rfl⟩) | (go_at_call 55; (with_reducible refine (HE.out _).mono ?_); rintro _ _ ⟨rfl, X_, rfl⟩))
            refine body_abs (F := fun w9 => Row w9 (w.heap.size + 1 + 1) #[.int .i64 F, .int .i64 G, .int .i64 0, .int .i64 0, .bool false] 129 ∧ ∃ X, w9 = w.ext X) ⟨?_, ?_⟩ ?_
            · have R5 := ((((RS.out.set 0 (.int .i64 F)).set 1 (.int .i64 G)).set 2 (.int .i64 0)).set 3 (.int .i64 0)).set 4 (.bool false)
              simp only [List.setIfInBounds_toArray, List.set_cons_zero, List.set_cons_succ] at R5
              (repeat (first | with_reducible assumption | with_reducible refine Row.ext ?_ _ | with_reducible refine row_drew ?_ | (with_reducible refine row_last ?_; first | rfl | (simp; done)) | with_reducible refine Row.alloc ?_ _ | with_reducible refine Row.other ?_ (by first | omega | (simp; omega)) _ _))
            · obtain ⟨X1, hX1⟩ := HX.out
              subst hX1
              exact RowKit.Below.toExt (by (repeat (first | with_reducible assumption | with_reducible exact Below.refl _ _ | with_reducible refine Below.drew ?_ | with_reducible refine Below.ext ?_ (by first | exact Nat.le_refl _ | omega | (simp; done) | (simp; omega)) _ | with_reducible refine Below.alloc ?_ (by first | exact Nat.le_refl _ | omega | (simp; done) | (simp; omega)) _ | with_reducible refine Below.setCell ?_ (by first | exact Nat.le_refl _ | omega | (simp; done) | (simp; omega)) _)))
            rintro w9 ⟨r9, X8, rfl⟩
            have c9 := r9.cell
            rw [← E.out]
            refine bodyPost_ret (v := Ln.w ⟨F, G, 0, 0, false⟩) (by simp [results, Try.results97, go_sem, c9]) rfl ?_
            exact Ret.of (by (repeat (first | exact Below.refl _ _ | with_reducible refine Below.drew ?_ | with_reducible refine Below.ext ?_ (by first | exact Nat.le_refl _ | (simp; done) | (simp; omega)) _ | with_reducible refine Below.alloc ?_ (by first | exact Nat.le_refl _ | (simp; done) | (simp; omega)) _ | with_reducible refine Below.setCell ?_ (by first | exact Nat.le_refl _ | (simp; done) | (simp; omega)) _)))
        · obtain ⟨u, hu⟩ : ∃ u, uC t i k = u := ⟨_, rfl⟩
          have ub : -8388608 ≤ u ∧ u ≤ 8388608 := by rw [← hu]; unfold uC; split <;> omega
          have hV := HV.out
          rw [hu] at hV
          have HU := Lib.hid hu
          clear HV hu
          obtain ⟨cr, hcr⟩ : ∃ c, decide (crP F G u) = c := ⟨_, rfl⟩
          have E := Lib.hid (show (⟨F, G, i, k, !cr⟩ : Ln) = V by rw [← hV, ← hcr]; simp [c])
          have CR := Lib.hid hcr
          clear hV hcr
          obtain ⟨u0, u1⟩ := ub
          rcases ne_bools c with z1 | ⟨z1, z2⟩
          all_goals
            clear c
            go_upto_region 7 with (first | (go_at_call 133; (with_reducible refine (HI.out _).mono ?_); rintro _ _ ⟨rfl, X_, rfl⟩) | (go_at_call 55; (with_reducible refine (HE.out _).mono ?_); rintro _ _ ⟨rfl, X_, rfl⟩))
            go_upto_if 55 with (first | (go_at_call 98; (with_reducible refine (HWd.out _).mono ?_); rintro _ _ ⟨rfl, X_, rfl⟩))
            go_cut [9] (fun t9 wx => t9 = .int .i64 u ∧ ∃ X, wx = w2.ext X)
            case first =>
              cases t
              · go_wp2
                go_meet
                exact ⟨congrArg _ HU.out, RowKit.Below.toExt (by (repeat (first | with_reducible assumption | with_reducible exact Below.refl _ _ | with_reducible refine Below.drew ?_ | with_reducible refine Below.ext ?_ (by first | exact Nat.le_refl _ | omega | (simp; done) | (simp; omega)) _ | with_reducible refine Below.alloc ?_ (by first | exact Nat.le_refl _ | omega | (simp; done) | (simp; omega)) _ | with_reducible refine Below.setCell ?_ (by first | exact Nat.le_refl _ | omega | (simp; done) | (simp; omega)) _)))⟩
              · go_wp2
                go_meet
                exact ⟨congrArg _ HU.out, RowKit.Below.toExt (by (repeat (first | with_reducible assumption | with_reducible exact Below.refl _ _ | with_reducible refine Below.drew ?_ | with_reducible refine Below.ext ?_ (by first | exact Nat.le_refl _ | omega | (simp; done) | (simp; omega)) _ | with_reducible refine Below.alloc ?_ (by first | exact Nat.le_refl _ | omega | (simp; done) | (simp; omega)) _ | with_reducible refine Below.setCell ?_ (by first | exact Nat.le_refl _ | omega | (simp; done) | (simp; omega)) _)))⟩
            case rest =>
              obtain ⟨rfl, X5, rfl⟩ := hcut
              have CR2 := Lib.hid (show cr = (decide (min F G ≤ u) && decide (u < max F G)) by rw [← CR.out, Bool.eq_iff_iff]; simp [crP]; exact decide_eq_true_iff)
              by_cases c1 : min F G ≤ u
              · by_cases c2 : u < max F G
                · have hcr := CR2.out
                  simp only [c1, c2, decide_true, Bool.and_true] at hcr
                  obtain rfl : cr = true := hcr
                  clear c1 c2
                  have d1 : decide (min F G ≤ u) = true := by have := CR2.out; simp at this; simp; omega
                  have d2 : decide (u < max F G) = true := by have := CR2.out; simp at this; simp; omega
                  go_wp2
                  have hne : w.heap.size + 1 + 1 ≠ p := by omega
                  have R5 := (((((((RS.out.other hne 2 (.int .i64 i)).other hne 3 (.int .i64 k)).other hne 4 (.bool false)).set 0 (.int .i64 F)).set 1 (.int .i64 G)).set 2 (.int .i64 i)).set 3 (.int .i64 k)).set 4 (.bool false)
                  simp only [List.setIfInBounds_toArray, List.set_cons_zero, List.set_cons_succ] at R5
                  refine body_abs (F := fun w9 => Row w9 (w.heap.size + 1 + 1) #[.int .i64 F, .int .i64 G, .int .i64 i, .int .i64 k, .bool false] 129 ∧ ∃ X, w9 = w.ext X) ⟨?_, ?_⟩ ?_
                  · (repeat (first | with_reducible assumption | with_reducible refine Row.ext ?_ _ | with_reducible refine row_drew ?_ | (with_reducible refine row_last ?_; first | rfl | (simp; done)) | with_reducible refine Row.alloc ?_ _ | with_reducible refine Row.other ?_ (by first | omega | (simp; omega)) _ _))
                  · obtain ⟨X1, hX1⟩ := HX.out
                    subst hX1
                    exact RowKit.Below.toExt (by (repeat (first | with_reducible assumption | with_reducible exact Below.refl _ _ | with_reducible refine Below.drew ?_ | with_reducible refine Below.ext ?_ (by first | exact Nat.le_refl _ | omega | (simp; done) | (simp; omega)) _ | with_reducible refine Below.alloc ?_ (by first | exact Nat.le_refl _ | omega | (simp; done) | (simp; omega)) _ | with_reducible refine Below.setCell ?_ (by first | exact Nat.le_refl _ | omega | (simp; done) | (simp; omega)) _)))
                  rintro w9 ⟨r9, X8, rfl⟩
                  have c9 := r9.cell
                  rw [← E.out]
                  refine bodyPost_ret (v := Ln.w ⟨F, G, i, k, false⟩) (by simp [results, Try.results97, go_sem, c9]) rfl ?_
                  exact Ret.of (by (repeat (first | exact Below.refl _ _ | with_reducible refine Below.drew ?_ | with_reducible refine Below.ext ?_ (by first | exact Nat.le_refl _ | (simp; done) | (simp; omega)) _ | with_reducible refine Below.alloc ?_ (by first | exact Nat.le_refl _ | (simp; done) | (simp; omega)) _ | with_reducible refine Below.setCell ?_ (by first | exact Nat.le_refl _ | (simp; done) | (simp; omega)) _)))
                · have hcr := CR2.out
                  simp only [c1, c2, decide_true, decide_false, Bool.and_false] at hcr
                  obtain rfl : cr = false := hcr
                  have d1 : decide (min F G ≤ u) = true := by simp; omega
                  have d2 : decide (u < max F G) = false := by simp; omega
                  clear c1 c2
                  go_wp2
                  have hne : w.heap.size + 1 + 1 ≠ p := by omega
                  have R5 := (((((((RS.out.other hne 2 (.int .i64 i)).other hne 3 (.int .i64 k)).other hne 4 (.bool true)).set 0 (.int .i64 F)).set 1 (.int .i64 G)).set 2 (.int .i64 i)).set 3 (.int .i64 k)).set 4 (.bool true)
                  simp only [List.setIfInBounds_toArray, List.set_cons_zero, List.set_cons_succ] at R5
                  refine body_abs (F := fun w9 => Row w9 (w.heap.size + 1 + 1) #[.int .i64 F, .int .i64 G, .int .i64 i, .int .i64 k, .bool true] 129 ∧ ∃ X, w9 = w.ext X) ⟨?_, ?_⟩ ?_
                  · (repeat (first | with_reducible assumption | with_reducible refine Row.ext ?_ _ | with_reducible refine row_drew ?_ | (with_reducible refine row_last ?_; first | rfl | (simp; done)) | with_reducible refine Row.alloc ?_ _ | with_reducible refine Row.other ?_ (by first | omega | (simp; omega)) _ _))
                  · obtain ⟨X1, hX1⟩ := HX.out
                    subst hX1
                    exact RowKit.Below.toExt (by (repeat (first | with_reducible assumption | with_reducible exact Below.refl _ _ | with_reducible refine Below.drew ?_ | with_reducible refine Below.ext ?_ (by first | exact Nat.le_refl _ | omega | (simp; done) | (simp; omega)) _ | with_reducible refine Below.alloc ?_ (by first | exact Nat.le_refl _ | omega | (simp; done) | (simp; omega)) _ | with_reducible refine Below.setCell ?_ (by first | exact Nat.le_refl _ | omega | (simp; done) | (simp; omega)) _)))
                  rintro w9 ⟨r9, X8, rfl⟩
                  have c9 := r9.cell
                  rw [← E.out]
                  refine bodyPost_ret (v := Ln.w ⟨F, G, i, k, true⟩) (by simp [results, Try.results97, go_sem, c9]) rfl ?_
                  exact Ret.of (by (repeat (first | exact Below.refl _ _ | with_reducible refine Below.drew ?_ | with_reducible refine Below.ext ?_ (by first | exact Nat.le_refl _ | (simp; done) | (simp; omega)) _ | with_reducible refine Below.alloc ?_ (by first | exact Nat.le_refl _ | (simp; done) | (simp; omega)) _ | with_reducible refine Below.setCell ?_ (by first | exact Nat.le_refl _ | (simp; done) | (simp; omega)) _)))
              · have hcr := CR2.out
                simp only [c1, decide_false, Bool.false_and] at hcr
                obtain rfl : cr = false := hcr
                have d1 : decide (min F G ≤ u) = false := by simp; omega
                clear c1
                go_wp2
                have hne : w.heap.size + 1 + 1 ≠ p := by omega
                have R5 := (((((((RS.out.other hne 2 (.int .i64 i)).other hne 3 (.int .i64 k)).other hne 4 (.bool true)).set 0 (.int .i64 F)).set 1 (.int .i64 G)).set 2 (.int .i64 i)).set 3 (.int .i64 k)).set 4 (.bool true)
                simp only [List.setIfInBounds_toArray, List.set_cons_zero, List.set_cons_succ] at R5
                refine body_abs (F := fun w9 => Row w9 (w.heap.size + 1 + 1) #[.int .i64 F, .int .i64 G, .int .i64 i, .int .i64 k, .bool true] 129 ∧ ∃ X, w9 = w.ext X) ⟨?_, ?_⟩ ?_
                · (repeat (first | with_reducible assumption | with_reducible refine Row.ext ?_ _ | with_reducible refine row_drew ?_ | (with_reducible refine row_last ?_; first | rfl | (simp; done)) | with_reducible refine Row.alloc ?_ _ | with_reducible refine Row.other ?_ (by first | omega | (simp; omega)) _ _))
                · obtain ⟨X1, hX1⟩ := HX.out
                  subst hX1
                  exact RowKit.Below.toExt (by (repeat (first | with_reducible assumption | with_reducible exact Below.refl _ _ | with_reducible refine Below.drew ?_ | with_reducible refine Below.ext ?_ (by first | exact Nat.le_refl _ | omega | (simp; done) | (simp; omega)) _ | with_reducible refine Below.alloc ?_ (by first | exact Nat.le_refl _ | omega | (simp; done) | (simp; omega)) _ | with_reducible refine Below.setCell ?_ (by first | exact Nat.le_refl _ | omega | (simp; done) | (simp; omega)) _)))
                rintro w9 ⟨r9, X8, rfl⟩
                have c9 := r9.cell
                rw [← E.out]
                refine bodyPost_ret (v := Ln.w ⟨F, G, i, k, true⟩) (by simp [results, Try.results97, go_sem, c9]) rfl ?_
                exact Ret.of (by (repeat (first | exact Below.refl _ _ | with_reducible refine Below.drew ?_ | with_reducible refine Below.ext ?_ (by first | exact Nat.le_refl _ | (simp; done) | (simp; omega)) _ | with_reducible refine Below.alloc ?_ (by first | exact Nat.le_refl _ | (simp; done) | (simp; omega)) _ | with_reducible refine Below.setCell ?_ (by first | exact Nat.le_refl _ | (simp; done) | (simp; omega)) _)))
end Go.Proofs.Ytmlhbbkgfffmcaa
