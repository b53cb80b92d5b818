/- The walk of the reference's At (layer 14). Conditions: the points' bounds. -/
import Derived.Test.YtmlhbbkgfffmcaaWalkW
namespace Go.Proofs.Ytmlhbbkgfffmcaa
set_option linter.unusedVariables false
set_option linter.unusedSimpArgs false
open Go.RowKit
/-- What has been laid into the result is returned. -/
theorem step_row {w : World} {p : Nat} {a b c : Value} (h : Row w p #[a, b, c] 62) (x y z : Value) : Row (((w.setCell ⟨p, 0, none⟩ x).setCell ⟨p, 1, none⟩ y).setCell ⟨p, 2, none⟩ z) p #[x, y, z] 62 := by
  have := ((h.set 0 x).set 1 y).set 2 z
  simpa using this
set_option maxRecDepth 100000 in
set_option maxHeartbeats 8000000 in
theorem rat_any (ax ay bx y2 k : Int) (ha : MayP ax ay) (hb : MayP bx y2) (kb0 : -9223372036854775808 ≤ k) (kb1 : k ≤ 9223372036854775807) (w : World) : Calls Try.prog 53 #[P2 ax ay, P2 bx y2, .int .i64 k] w (Ret (atV (atL ax ay bx y2 k)) w) := by
  have HO := Lib.hid (fun w => rof_any ax ay bx y2 ha hb w)
  have lb := ofL_bd ax ay bx y2 ha hb
  have HC := Lib.hid (fun u w (c : ¬ (ax = bx ∧ ay = y2)) (hu : crP (ofL ax ay bx y2).From (ofL ax ay bx y2).To u) => rcolumn_any ax ay bx y2 u ha hb c (by have ft := ofL_ft ax ay bx y2; rw [ft.1, ft.2] at hu; exact hu) w)
  have HR := Lib.hid (fun (c : ¬ (ax = bx ∧ ay = y2)) => (ref_at c k).symm)
  obtain ⟨V, hV⟩ : ∃ V, atL ax ay bx y2 k = V := ⟨_, rfl⟩
  rw [hV] at HR ⊢
  have HV := Lib.hid hV
  clear hV ha hb
  obtain ⟨l, hl⟩ : ∃ l, ofL ax ay bx y2 = l := ⟨_, rfl⟩
  rw [hl] at HO HC HR lb
  clear hl
  obtain ⟨F, G, X, Y, E⟩ := l
  simp only [Ln.w] at *
  obtain ⟨lb0, lb1, lb2, lb3⟩ := lb
  -- the end, for each answer
  by_cases k0 : k < 0
  · have hv : V = none := by rw [← HV.out]; unfold atL; rw [if_pos k0]
    subst hv
    clear HR HC HV
    go_enter Try.func53, Try.ntmps53
    go_wp2_with (first | (go_at_call 97; (with_reducible refine (HO.out _).mono ?_); rintro _ _ ⟨rfl, X_, rfl⟩))
    refine bodyPost_ret (v := atV none) (by simp [results, Try.results53, go_sem]; try rfl) rfl (Ret.of (by (repeat (first | exact Below.refl _ _ | with_reducible refine Below.drew ?_ | with_reducible refine Below.ext ?_ (by first | exact Nat.le_refl _ | (simp; done) | (simp; omega)) _ | with_reducible refine Below.alloc ?_ (by first | exact Nat.le_refl _ | (simp; done) | (simp; omega)) _ | with_reducible refine Below.setCell ?_ (by first | exact Nat.le_refl _ | (simp; done) | (simp; omega)) _))))
  · go_enter Try.func53, Try.ntmps53
    go_upto_region 2 with (first | (go_at_call 97; (with_reducible refine (HO.out _).mono ?_); rintro _ _ ⟨rfl, XB, rfl⟩))
    obtain ⟨p, hp⟩ : ∃ p, w.heap.size + 1 + 1 + 1 + XB.sz = p := ⟨_, rfl⟩
    refine wp_abs (F := fun w1 => Row w1 w.heap.size #[.int .i64 ax, .int .i64 ay] 50 ∧ Row w1 (w.heap.size + 1) #[.int .i64 bx, .int .i64 y2] 50 ∧ Row w1 (w.heap.size + 1 + 1) #[.int .i64 0, .int .i64 0, .int .i64 0] 62 ∧ Row w1 p #[.int .i64 F, .int .i64 G, .int .i64 X, .int .i64 Y, .bool E] 129 ∧ w.heap.size + 3 ≤ p ∧ ∃ X, w1 = w.ext X) ⟨by (repeat (first | assumption | with_reducible refine Row.ext ?_ _ | with_reducible refine row_drew ?_ | (with_reducible refine row_last ?_; first | rfl | (simp; done)) | with_reducible refine Row.alloc ?_ _)), by (repeat (first | assumption | with_reducible refine Row.ext ?_ _ | with_reducible refine row_drew ?_ | (with_reducible refine row_last ?_; first | rfl | (simp; done)) | with_reducible refine Row.alloc ?_ _)), by (repeat (first | assumption | with_reducible refine Row.ext ?_ _ | with_reducible refine row_drew ?_ | (with_reducible refine row_last ?_; first | rfl | (simp; done)) | with_reducible refine Row.alloc ?_ _)), by rw [← hp]; exact row_last (by simp), by omega, RowKit.Below.toExt (by (repeat (first | with_reducible assumption | with_reducible exact Below.refl _ _ | with_reducible refine Below.drew ?_ | with_reducible refine Below.ext ?_ (by first | exact Nat.le_refl _ | omega | (simp; done) | (simp; omega)) _ | with_reducible refine Below.alloc ?_ (by first | exact Nat.le_refl _ | omega | (simp; done) | (simp; omega)) _ | with_reducible refine Below.setCell ?_ (by first | exact Nat.le_refl _ | omega | (simp; done) | (simp; omega)) _)))⟩ ?_
    rintro w1 ⟨ra, rb, rs, rl, hp3, hX⟩
    rw [hp]
    have RS := Lib.hid rs
    have HX := Lib.hid hX
    have ca := ra.cell
    have fa := ra.frozen
    have la := ra.lt
    have cb := rb.cell
    have fb := rb.frozen
    have lb := rb.lt
    have cs := rs.cell
    have fs := rs.frozen
    have ls := rs.lt
    have cl := rl.cell
    have fl := rl.frozen
    have ll := rl.lt
    clear ra rb rs rl hX hp HO
    have k0 : 0 ≤ k := by omega
    by_cases c : ax = bx ∧ ay = y2
    · have hv : V = none := by rw [← HV.out]; unfold atL; rw [c.1, c.2, lineL_self]; split <;> rfl
      have HVV := Lib.hid hv
      obtain ⟨rfl, rfl⟩ := c
      have hz1 : (ax == ax) = true := by simp
      have hz2 : (ay == ay) = true := by simp
      clear hv HR HC
      go_wp2
      refine body_abs (F := fun w9 => Row w9 (w.heap.size + 1 + 1) #[.int .i64 0, .int .i64 0, .int .i64 0] 62 ∧ ∃ X, w9 = w.ext X) ⟨?_, ?_⟩ ?_
      · have R5 := step_row RS.out (.int .i64 0) (.int .i64 0) (.int .i64 0)
        (repeat (first | with_reducible assumption | with_reducible refine Row.ext ?_ _ | with_reducible refine row_drew ?_ | (with_reducible refine row_last ?_; first | rfl | (simp; done)) | with_reducible refine Row.alloc ?_ _ | with_reducible refine Row.other ?_ (by first | omega | (simp; omega)) _ _))
      · obtain ⟨X1, hX1⟩ := HX.out
        subst hX1
        exact RowKit.Below.toExt (by (repeat (first | with_reducible assumption | with_reducible exact Below.refl _ _ | with_reducible refine Below.drew ?_ | with_reducible refine Below.ext ?_ (by first | exact Nat.le_refl _ | omega | (simp; done) | (simp; omega)) _ | with_reducible refine Below.alloc ?_ (by first | exact Nat.le_refl _ | omega | (simp; done) | (simp; omega)) _ | with_reducible refine Below.setCell ?_ (by first | exact Nat.le_refl _ | omega | (simp; done) | (simp; omega)) _)))
      rintro w9 ⟨r9, X8, rfl⟩
      have c9 := r9.cell
      rw [HVV.out]
      refine bodyPost_ret (v := atV none) (by simp [results, Try.results53, go_sem, c9]; try rfl) rfl ?_
      exact Ret.of (by (repeat (first | exact Below.refl _ _ | with_reducible refine Below.drew ?_ | with_reducible refine Below.ext ?_ (by first | exact Nat.le_refl _ | (simp; done) | (simp; omega)) _ | with_reducible refine Below.alloc ?_ (by first | exact Nat.le_refl _ | (simp; done) | (simp; omega)) _ | with_reducible refine Below.setCell ?_ (by first | exact Nat.le_refl _ | (simp; done) | (simp; omega)) _)))
    · have hr := HR.out c
      unfold refAt at hr
      rw [if_neg (show ¬ k < 0 by omega)] at hr
      have HC1 := Lib.hid (fun u w hu => HC.out u w c hu)
      have hz := ne_bools c
      clear HR HC HV c
      have HRR := Lib.hid hr
      clear hr
      go_cut [23] from 17 to 24 (fun t wx => t = .bool false ∧ wx = w1)
      case first =>
        rcases hz with hz1 | ⟨hz1, hz2⟩
        all_goals
          go_wp2
          go_meet
          exact ⟨by simp; omega, rfl⟩
      case rest =>
      obtain ⟨rfl, rfl⟩ := hcut
      obtain ⟨w1, rfl⟩ : ∃ w1, w1 = wc := ⟨_, rfl⟩
      have hr := HRR.out
      clear HRR hz
      by_cases hE : E = true ∧ k = 0
      · obtain ⟨rfl, rfl⟩ := hE
        rw [if_pos ⟨rfl, rfl⟩] at hr
        have HVV := Lib.hid hr
        clear hr HC1
        go_wp2
        refine body_abs (F := fun w9 => Row w9 (w.heap.size + 1 + 1) #[.int .i64 0, .int .i64 X, .int .i64 Y] 62 ∧ ∃ X, w9 = w.ext X) ⟨?_, ?_⟩ ?_
        · have R5 := step_row RS.out (.int .i64 0) (.int .i64 X) (.int .i64 Y)
          (repeat (first | with_reducible assumption | with_reducible refine Row.ext ?_ _ | with_reducible refine row_drew ?_ | (with_reducible refine row_last ?_; first | rfl | (simp; done)) | with_reducible refine Row.alloc ?_ _ | with_reducible refine Row.other ?_ (by first | omega | (simp; omega)) _ _))
        · obtain ⟨X1, hX1⟩ := HX.out
          subst hX1
          exact RowKit.Below.toExt (by (repeat (first | with_reducible assumption | with_reducible exact Below.refl _ _ | with_reducible refine Below.drew ?_ | with_reducible refine Below.ext ?_ (by first | exact Nat.le_refl _ | omega | (simp; done) | (simp; omega)) _ | with_reducible refine Below.alloc ?_ (by first | exact Nat.le_refl _ | omega | (simp; done) | (simp; omega)) _ | with_reducible refine Below.setCell ?_ (by first | exact Nat.le_refl _ | omega | (simp; done) | (simp; omega)) _)))
        rintro w9 ⟨r9, X8, rfl⟩
        have c9 := r9.cell
        rw [HVV.out]
        refine bodyPost_ret (v := atV (some ⟨0, X, Y⟩)) (by simp [results, Try.results53, go_sem, c9]; try rfl) rfl ?_
        exact Ret.of (by (repeat (first | exact Below.refl _ _ | with_reducible refine Below.drew ?_ | with_reducible refine Below.ext ?_ (by first | exact Nat.le_refl _ | (simp; done) | (simp; omega)) _ | with_reducible refine Below.alloc ?_ (by first | exact Nat.le_refl _ | (simp; done) | (simp; omega)) _ | with_reducible refine Below.setCell ?_ (by first | exact Nat.le_refl _ | (simp; done) | (simp; omega)) _)))
      · rw [if_neg hE] at hr
        obtain ⟨n, hn⟩ : ∃ n, refN ⟨F, G, X, Y, E⟩ k = n := ⟨_, rfl⟩
        rw [hn] at hr
        have hn2 : n = if E = true then k - 1 else k := hn.symm
        have n0 : 0 ≤ n := by
          rw [hn2]; split
          · rename_i q; have : k ≠ 0 := fun e => hE ⟨q, e⟩; omega
          · omega
        have hk0 : E = true → (k == 0) = false := fun q => by simp; exact fun e => hE ⟨q, e⟩
        clear hE hn
        have hM : refM ⟨F, G, X, Y, E⟩ = max F G - min F G := rfl
        rw [hM] at hr
        have HK0 := Lib.hid hk0
        clear hk0
        by_cases hMn : max F G - min F G ≤ n
        · rw [if_pos hMn] at hr
          have HVV := Lib.hid hr
          have d1 : decide (max F G - min F G ≤ n) = true := by simp; omega
          clear hr HC1
          cases E
          · obtain rfl : n = k := hn2
            go_wp2
            refine body_abs (F := fun w9 => Row w9 (w.heap.size + 1 + 1) #[.int .i64 0, .int .i64 0, .int .i64 0] 62 ∧ ∃ X, w9 = w.ext X) ⟨?_, ?_⟩ ?_
            · have R5 := step_row RS.out (.int .i64 0) (.int .i64 0) (.int .i64 0)
              (repeat (first | with_reducible assumption | with_reducible refine Row.ext ?_ _ | with_reducible refine row_drew ?_ | (with_reducible refine row_last ?_; first | rfl | (simp; done)) | with_reducible refine Row.alloc ?_ _ | with_reducible refine Row.other ?_ (by first | omega | (simp; omega)) _ _))
            · obtain ⟨X1, hX1⟩ := HX.out
              subst hX1
              exact RowKit.Below.toExt (by (repeat (first | with_reducible assumption | with_reducible exact Below.refl _ _ | with_reducible refine Below.drew ?_ | with_reducible refine Below.ext ?_ (by first | exact Nat.le_refl _ | omega | (simp; done) | (simp; omega)) _ | with_reducible refine Below.alloc ?_ (by first | exact Nat.le_refl _ | omega | (simp; done) | (simp; omega)) _ | with_reducible refine Below.setCell ?_ (by first | exact Nat.le_refl _ | omega | (simp; done) | (simp; omega)) _)))
            rintro w9 ⟨r9, X8, rfl⟩
            have c9 := r9.cell
            rw [HVV.out]
            refine bodyPost_ret (v := atV none) (by simp [results, Try.results53, go_sem, c9]; try rfl) rfl ?_
            exact Ret.of (by (repeat (first | exact Below.refl _ _ | with_reducible refine Below.drew ?_ | with_reducible refine Below.ext ?_ (by first | exact Nat.le_refl _ | (simp; done) | (simp; omega)) _ | with_reducible refine Below.alloc ?_ (by first | exact Nat.le_refl _ | (simp; done) | (simp; omega)) _ | with_reducible refine Below.setCell ?_ (by first | exact Nat.le_refl _ | (simp; done) | (simp; omega)) _)))
          · obtain rfl : n = k - 1 := hn2
            have hk1 := HK0.out rfl
            go_wp2
            refine body_abs (F := fun w9 => Row w9 (w.heap.size + 1 + 1) #[.int .i64 0, .int .i64 0, .int .i64 0] 62 ∧ ∃ X, w9 = w.ext X) ⟨?_, ?_⟩ ?_
            · have R5 := step_row RS.out (.int .i64 0) (.int .i64 0) (.int .i64 0)
              (repeat (first | with_reducible assumption | with_reducible refine Row.ext ?_ _ | with_reducible refine row_drew ?_ | (with_reducible refine row_last ?_; first | rfl | (simp; done)) | with_reducible refine Row.alloc ?_ _ | with_reducible refine Row.other ?_ (by first | omega | (simp; omega)) _ _))
            · obtain ⟨X1, hX1⟩ := HX.out
              subst hX1
              exact RowKit.Below.toExt (by (repeat (first | with_reducible assumption | with_reducible exact Below.refl _ _ | with_reducible refine Below.drew ?_ | with_reducible refine Below.ext ?_ (by first | exact Nat.le_refl _ | omega | (simp; done) | (simp; omega)) _ | with_reducible refine Below.alloc ?_ (by first | exact Nat.le_refl _ | omega | (simp; done) | (simp; omega)) _ | with_reducible refine Below.setCell ?_ (by first | exact Nat.le_refl _ | omega | (simp; done) | (simp; omega)) _)))
            rintro w9 ⟨r9, X8, rfl⟩
            have c9 := r9.cell
            rw [HVV.out]
            refine bodyPost_ret (v := atV none) (by simp [results, Try.results53, go_sem, c9]; try rfl) rfl ?_
            exact Ret.of (by (repeat (first | exact Below.refl _ _ | with_reducible refine Below.drew ?_ | with_reducible refine Below.ext ?_ (by first | exact Nat.le_refl _ | (simp; done) | (simp; omega)) _ | with_reducible refine Below.alloc ?_ (by first | exact Nat.le_refl _ | (simp; done) | (simp; omega)) _ | with_reducible refine Below.setCell ?_ (by first | exact Nat.le_refl _ | (simp; done) | (simp; omega)) _)))
        · rw [if_neg hMn] at hr
          have d1 : decide (max F G - min F G ≤ n) = false := by simp; omega
          have hu := ref_cr (l := ⟨F, G, X, Y, E⟩) (n := n) n0 (by rw [hM]; omega)
          have HC2 := Lib.hid (fun w => HC1.out _ w hu)
          obtain ⟨x, hx⟩ : ∃ x, colX ax ay bx y2 (refU ⟨F, G, X, Y, E⟩ n) = x := ⟨_, rfl⟩
          obtain ⟨y, hy⟩ : ∃ x, colY ax ay bx y2 (refU ⟨F, G, X, Y, E⟩ n) = x := ⟨_, rfl⟩
          obtain ⟨e, he⟩ : ∃ e, decide (exP ax ay bx y2 x y) = e := ⟨_, rfl⟩
          rw [hx, hy] at hr HC2
          rw [he] at HC2
          have hU : refU ⟨F, G, X, Y, E⟩ n = if G < F then F - 1 - n else F + n := rfl
          rw [hU] at HC2
          have hMn : n < max F G - min F G := by omega
          clear hx hy hU hu HC1 hM
          have hrr : V = if e = true then some ⟨k, x, y⟩ else none := by
            rw [hr, ← he]; simp only [decide_eq_true_iff]
          clear hr he
          by_cases hGF : G < F
          · rw [if_pos hGF] at HC2
            cases E
            · obtain rfl : n = k := hn2
              cases e
              · have HVV := Lib.hid (show V = none from hrr)
                clear hrr
                simp only [colV] at HC2
                go_wp2_with (first | (go_at_call 113; (with_reducible refine (HC2.out _).mono ?_); rintro _ _ ⟨rfl, X_, rfl⟩))
                refine body_abs (F := fun w9 => Row w9 (w.heap.size + 1 + 1) #[.int .i64 0, .int .i64 0, .int .i64 0] 62 ∧ ∃ X, w9 = w.ext X) ⟨?_, ?_⟩ ?_
                · have R5 := step_row RS.out (.int .i64 0) (.int .i64 0) (.int .i64 0)
                  (repeat (first | with_reducible assumption | with_reducible refine Row.ext ?_ _ | with_reducible refine row_drew ?_ | (with_reducible refine row_last ?_; first | rfl | (simp; done)) | with_reducible refine Row.alloc ?_ _ | with_reducible refine Row.other ?_ (by first | omega | (simp; omega)) _ _))
                · obtain ⟨X1, hX1⟩ := HX.out
                  subst hX1
                  exact RowKit.Below.toExt (by (repeat (first | with_reducible assumption | with_reducible exact Below.refl _ _ | with_reducible refine Below.drew ?_ | with_reducible refine Below.ext ?_ (by first | exact Nat.le_refl _ | omega | (simp; done) | (simp; omega)) _ | with_reducible refine Below.alloc ?_ (by first | exact Nat.le_refl _ | omega | (simp; done) | (simp; omega)) _ | with_reducible refine Below.setCell ?_ (by first | exact Nat.le_refl _ | omega | (simp; done) | (simp; omega)) _)))
                rintro w9 ⟨r9, X8, rfl⟩
                have c9 := r9.cell
                rw [HVV.out]
                refine bodyPost_ret (v := atV none) (by simp [results, Try.results53, go_sem, c9]; try rfl) rfl ?_
                exact Ret.of (by (repeat (first | exact Below.refl _ _ | with_reducible refine Below.drew ?_ | with_reducible refine Below.ext ?_ (by first | exact Nat.le_refl _ | (simp; done) | (simp; omega)) _ | with_reducible refine Below.alloc ?_ (by first | exact Nat.le_refl _ | (simp; done) | (simp; omega)) _ | with_reducible refine Below.setCell ?_ (by first | exact Nat.le_refl _ | (simp; done) | (simp; omega)) _)))
              · have HVV := Lib.hid (show V = some ⟨n, x, y⟩ from hrr)
                clear hrr
                simp only [colV] at HC2
                go_wp2_with (first | (go_at_call 113; (with_reducible refine (HC2.out _).mono ?_); rintro _ _ ⟨rfl, X_, rfl⟩))
                refine body_abs (F := fun w9 => Row w9 (w.heap.size + 1 + 1) #[.int .i64 n, .int .i64 x, .int .i64 y] 62 ∧ ∃ X, w9 = w.ext X) ⟨?_, ?_⟩ ?_
                · have R5 := step_row RS.out (.int .i64 n) (.int .i64 x) (.int .i64 y)
                  (repeat (first | with_reducible assumption | with_reducible refine Row.ext ?_ _ | with_reducible refine row_drew ?_ | (with_reducible refine row_last ?_; first | rfl | (simp; done)) | with_reducible refine Row.alloc ?_ _ | with_reducible refine Row.other ?_ (by first | omega | (simp; omega)) _ _))
                · obtain ⟨X1, hX1⟩ := HX.out
                  subst hX1
                  exact RowKit.Below.toExt (by (repeat (first | with_reducible assumption | with_reducible exact Below.refl _ _ | with_reducible refine Below.drew ?_ | with_reducible refine Below.ext ?_ (by first | exact Nat.le_refl _ | omega | (simp; done) | (simp; omega)) _ | with_reducible refine Below.alloc ?_ (by first | exact Nat.le_refl _ | omega | (simp; done) | (simp; omega)) _ | with_reducible refine Below.setCell ?_ (by first | exact Nat.le_refl _ | omega | (simp; done) | (simp; omega)) _)))
                rintro w9 ⟨r9, X8, rfl⟩
                have c9 := r9.cell
                rw [HVV.out]
                refine bodyPost_ret (v := atV (some ⟨n, x, y⟩)) (by simp [results, Try.results53, go_sem, c9]; try rfl) rfl ?_
                exact Ret.of (by (repeat (first | exact Below.refl _ _ | with_reducible refine Below.drew ?_ | with_reducible refine Below.ext ?_ (by first | exact Nat.le_refl _ | (simp; done) | (simp; omega)) _ | with_reducible refine Below.alloc ?_ (by first | exact Nat.le_refl _ | (simp; done) | (simp; omega)) _ | with_reducible refine Below.setCell ?_ (by first | exact Nat.le_refl _ | (simp; done) | (simp; omega)) _)))
            · obtain rfl : n = k - 1 := hn2
              have hk1 := HK0.out rfl
              cases e
              · have HVV := Lib.hid (show V = none from hrr)
                clear hrr
                simp only [colV] at HC2
                go_wp2_with (first | (go_at_call 113; (with_reducible refine (HC2.out _).mono ?_); rintro _ _ ⟨rfl, X_, rfl⟩))
                refine body_abs (F := fun w9 => Row w9 (w.heap.size + 1 + 1) #[.int .i64 0, .int .i64 0, .int .i64 0] 62 ∧ ∃ X, w9 = w.ext X) ⟨?_, ?_⟩ ?_
                · have R5 := step_row RS.out (.int .i64 0) (.int .i64 0) (.int .i64 0)
                  (repeat (first | with_reducible assumption | with_reducible refine Row.ext ?_ _ | with_reducible refine row_drew ?_ | (with_reducible refine row_last ?_; first | rfl | (simp; done)) | with_reducible refine Row.alloc ?_ _ | with_reducible refine Row.other ?_ (by first | omega | (simp; omega)) _ _))
                · obtain ⟨X1, hX1⟩ := HX.out
                  subst hX1
                  exact RowKit.Below.toExt (by (repeat (first | with_reducible assumption | with_reducible exact Below.refl _ _ | with_reducible refine Below.drew ?_ | with_reducible refine Below.ext ?_ (by first | exact Nat.le_refl _ | omega | (simp; done) | (simp; omega)) _ | with_reducible refine Below.alloc ?_ (by first | exact Nat.le_refl _ | omega | (simp; done) | (simp; omega)) _ | with_reducible refine Below.setCell ?_ (by first | exact Nat.le_refl _ | omega | (simp; done) | (simp; omega)) _)))
                rintro w9 ⟨r9, X8, rfl⟩
                have c9 := r9.cell
                rw [HVV.out]
                refine bodyPost_ret (v := atV none) (by simp [results, Try.results53, go_sem, c9]; try rfl) rfl ?_
                exact Ret.of (by (repeat (first | exact Below.refl _ _ | with_reducible refine Below.drew ?_ | with_reducible refine Below.ext ?_ (by first | exact Nat.le_refl _ | (simp; done) | (simp; omega)) _ | with_reducible refine Below.alloc ?_ (by first | exact Nat.le_refl _ | (simp; done) | (simp; omega)) _ | with_reducible refine Below.setCell ?_ (by first | exact Nat.le_refl _ | (simp; done) | (simp; omega)) _)))
              · have HVV := Lib.hid (show V = some ⟨k, x, y⟩ from hrr)
                clear hrr
                simp only [colV] at HC2
                go_wp2_with (first | (go_at_call 113; (with_reducible refine (HC2.out _).mono ?_); rintro _ _ ⟨rfl, X_, rfl⟩))
                refine body_abs (F := fun w9 => Row w9 (w.heap.size + 1 + 1) #[.int .i64 k, .int .i64 x, .int .i64 y] 62 ∧ ∃ X, w9 = w.ext X) ⟨?_, ?_⟩ ?_
                · have R5 := step_row RS.out (.int .i64 k) (.int .i64 x) (.int .i64 y)
                  (repeat (first | with_reducible assumption | with_reducible refine Row.ext ?_ _ | with_reducible refine row_drew ?_ | (with_reducible refine row_last ?_; first | rfl | (simp; done)) | with_reducible refine Row.alloc ?_ _ | with_reducible refine Row.other ?_ (by first | omega | (simp; omega)) _ _))
                · obtain ⟨X1, hX1⟩ := HX.out
                  subst hX1
                  exact RowKit.Below.toExt (by (repeat (first | with_reducible assumption | with_reducible exact Below.refl _ _ | with_reducible refine Below.drew ?_ | with_reducible refine Below.ext ?_ (by first | exact Nat.le_refl _ | omega | (simp; done) | (simp; omega)) _ | with_reducible refine Below.alloc ?_ (by first | exact Nat.le_refl _ | omega | (simp; done) | (simp; omega)) _ | with_reducible refine Below.setCell ?_ (by first | exact Nat.le_refl _ | omega | (simp; done) | (simp; omega)) _)))
                rintro w9 ⟨r9, X8, rfl⟩
                have c9 := r9.cell
                rw [HVV.out]
                refine bodyPost_ret (v := atV (some ⟨k, x, y⟩)) (by simp [results, Try.results53, go_sem, c9]; try rfl) rfl ?_
                exact Ret.of (by (repeat (first | exact Below.refl _ _ | with_reducible refine Below.drew ?_ | with_reducible refine Below.ext ?_ (by first | exact Nat.le_refl _ | (simp; done) | (simp; omega)) _ | with_reducible refine Below.alloc ?_ (by first | exact Nat.le_refl _ | (simp; done) | (simp; omega)) _ | with_reducible refine Below.setCell ?_ (by first | exact Nat.le_refl _ | (simp; done) | (simp; omega)) _)))
          · rw [if_neg hGF] at HC2
            cases E
            · obtain rfl : n = k := hn2
              cases e
              · have HVV := Lib.hid (show V = none from hrr)
                clear hrr
                simp only [colV] at HC2
                go_wp2_with (first | (go_at_call 113; (with_reducible refine (HC2.out _).mono ?_); rintro _ _ ⟨rfl, X_, rfl⟩))
                refine body_abs (F := fun w9 => Row w9 (w.heap.size + 1 + 1) #[.int .i64 0, .int .i64 0, .int .i64 0] 62 ∧ ∃ X, w9 = w.ext X) ⟨?_, ?_⟩ ?_
                · have R5 := step_row RS.out (.int .i64 0) (.int .i64 0) (.int .i64 0)
                  (repeat (first | with_reducible assumption | with_reducible refine Row.ext ?_ _ | with_reducible refine row_drew ?_ | (with_reducible refine row_last ?_; first | rfl | (simp; done)) | with_reducible refine Row.alloc ?_ _ | with_reducible refine Row.other ?_ (by first | omega | (simp; omega)) _ _))
                · obtain ⟨X1, hX1⟩ := HX.out
                  subst hX1
                  exact RowKit.Below.toExt (by (repeat (first | with_reducible assumption | with_reducible exact Below.refl _ _ | with_reducible refine Below.drew ?_ | with_reducible refine Below.ext ?_ (by first | exact Nat.le_refl _ | omega | (simp; done) | (simp; omega)) _ | with_reducible refine Below.alloc ?_ (by first | exact Nat.le_refl _ | omega | (simp; done) | (simp; omega)) _ | with_reducible refine Below.setCell ?_ (by first | exact Nat.le_refl _ | omega | (simp; done) | (simp; omega)) _)))
                rintro w9 ⟨r9, X8, rfl⟩
                have c9 := r9.cell
                rw [HVV.out]
                refine bodyPost_ret (v := atV none) (by simp [results, Try.results53, go_sem, c9]; try rfl) rfl ?_
                exact Ret.of (by (repeat (first | exact Below.refl _ _ | with_reducible refine Below.drew ?_ | with_reducible refine Below.ext ?_ (by first | exact Nat.le_refl _ | (simp; done) | (simp; omega)) _ | with_reducible refine Below.alloc ?_ (by first | exact Nat.le_refl _ | (simp; done) | (simp; omega)) _ | with_reducible refine Below.setCell ?_ (by first | exact Nat.le_refl _ | (simp; done) | (simp; omega)) _)))
              · have HVV := Lib.hid (show V = some ⟨n, x, y⟩ from hrr)
                clear hrr
                simp only [colV] at HC2
                go_wp2_with (first | (go_at_call 113; (with_reducible refine (HC2.out _).mono ?_); rintro _ _ ⟨rfl, X_, rfl⟩))
                refine body_abs (F := fun w9 => Row w9 (w.heap.size + 1 + 1) #[.int .i64 n, .int .i64 x, .int .i64 y] 62 ∧ ∃ X, w9 = w.ext X) ⟨?_, ?_⟩ ?_
                · have R5 := step_row RS.out (.int .i64 n) (.int .i64 x) (.int .i64 y)
                  (repeat (first | with_reducible assumption | with_reducible refine Row.ext ?_ _ | with_reducible refine row_drew ?_ | (with_reducible refine row_last ?_; first | rfl | (simp; done)) | with_reducible refine Row.alloc ?_ _ | with_reducible refine Row.other ?_ (by first | omega | (simp; omega)) _ _))
                · obtain ⟨X1, hX1⟩ := HX.out
                  subst hX1
                  exact RowKit.Below.toExt (by (repeat (first | with_reducible assumption | with_reducible exact Below.refl _ _ | with_reducible refine Below.drew ?_ | with_reducible refine Below.ext ?_ (by first | exact Nat.le_refl _ | omega | (simp; done) | (simp; omega)) _ | with_reducible refine Below.alloc ?_ (by first | exact Nat.le_refl _ | omega | (simp; done) | (simp; omega)) _ | with_reducible refine Below.setCell ?_ (by first | exact Nat.le_refl _ | omega | (simp; done) | (simp; omega)) _)))
                rintro w9 ⟨r9, X8, rfl⟩
                have c9 := r9.cell
                rw [HVV.out]
                refine bodyPost_ret (v := atV (some ⟨n, x, y⟩)) (by simp [results, Try.results53, go_sem, c9]; try rfl) rfl ?_
                exact Ret.of (by (repeat (first | exact Below.refl _ _ | with_reducible refine Below.drew ?_ | with_reducible refine Below.ext ?_ (by first | exact Nat.le_refl _ | (simp; done) | (simp; omega)) _ | with_reducible refine Below.alloc ?_ (by first | exact Nat.le_refl _ | (simp; done) | (simp; omega)) _ | with_reducible refine Below.setCell ?_ (by first | exact Nat.le_refl _ | (simp; done) | (simp; omega)) _)))
            · obtain rfl : n = k - 1 := hn2
              have hk1 := HK0.out rfl
              cases e
              · have HVV := Lib.hid (show V = none from hrr)
                clear hrr
                simp only [colV] at HC2
                go_wp2_with (first | (go_at_call 113; (with_reducible refine (HC2.out _).mono ?_); rintro _ _ ⟨rfl, X_, rfl⟩))
                refine body_abs (F := fun w9 => Row w9 (w.heap.size + 1 + 1) #[.int .i64 0, .int .i64 0, .int .i64 0] 62 ∧ ∃ X, w9 = w.ext X) ⟨?_, ?_⟩ ?_
                · have R5 := step_row RS.out (.int .i64 0) (.int .i64 0) (.int .i64 0)
                  (repeat (first | with_reducible assumption | with_reducible refine Row.ext ?_ _ | with_reducible refine row_drew ?_ | (with_reducible refine row_last ?_; first | rfl | (simp; done)) | with_reducible refine Row.alloc ?_ _ | with_reducible refine Row.other ?_ (by first | omega | (simp; omega)) _ _))
                · obtain ⟨X1, hX1⟩ := HX.out
                  subst hX1
                  exact RowKit.Below.toExt (by (repeat (first | with_reducible assumption | with_reducible exact Below.refl _ _ | with_reducible refine Below.drew ?_ | with_reducible refine Below.ext ?_ (by first | exact Nat.le_refl _ | omega | (simp; done) | (simp; omega)) _ | with_reducible refine Below.alloc ?_ (by first | exact Nat.le_refl _ | omega | (simp; done) | (simp; omega)) _ | with_reducible refine Below.setCell ?_ (by first | exact Nat.le_refl _ | omega | (simp; done) | (simp; omega)) _)))
                rintro w9 ⟨r9, X8, rfl⟩
                have c9 := r9.cell
                rw [HVV.out]
                refine bodyPost_ret (v := atV none) (by simp [results, Try.results53, go_sem, c9]; try rfl) rfl ?_
                exact Ret.of (by (repeat (first | exact Below.refl _ _ | with_reducible refine Below.drew ?_ | with_reducible refine Below.ext ?_ (by first | exact Nat.le_refl _ | (simp; done) | (simp; omega)) _ | with_reducible refine Below.alloc ?_ (by first | exact Nat.le_refl _ | (simp; done) | (simp; omega)) _ | with_reducible refine Below.setCell ?_ (by first | exact Nat.le_refl _ | (simp; done) | (simp; omega)) _)))
              · have HVV := Lib.hid (show V = some ⟨k, x, y⟩ from hrr)
                clear hrr
                simp only [colV] at HC2
                go_wp2_with (first | (go_at_call 113; (with_reducible refine (HC2.out _).mono ?_); rintro _ _ ⟨rfl, X_, rfl⟩))
                refine body_abs (F := fun w9 => Row w9 (w.heap.size + 1 + 1) #[.int .i64 k, .int .i64 x, .int .i64 y] 62 ∧ ∃ X, w9 = w.ext X) ⟨?_, ?_⟩ ?_
                · have R5 := step_row RS.out (.int .i64 k) (.int .i64 x) (.int .i64 y)
                  (repeat (first | with_reducible assumption | with_reducible refine Row.ext ?_ _ | with_reducible refine row_drew ?_ | (with_reducible refine row_last ?_; first | rfl | (simp; done)) | with_reducible refine Row.alloc ?_ _ | with_reducible refine Row.other ?_ (by first | omega | (simp; omega)) _ _))
                · obtain ⟨X1, hX1⟩ := HX.out
                  subst hX1
                  exact RowKit.Below.toExt (by (repeat (first | with_reducible assumption | with_reducible exact Below.refl _ _ | with_reducible refine Below.drew ?_ | with_reducible refine Below.ext ?_ (by first | exact Nat.le_refl _ | omega | (simp; done) | (simp; omega)) _ | with_reducible refine Below.alloc ?_ (by first | exact Nat.le_refl _ | omega | (simp; done) | (simp; omega)) _ | with_reducible refine Below.setCell ?_ (by first | exact Nat.le_refl _ | omega | (simp; done) | (simp; omega)) _)))
                rintro w9 ⟨r9, X8, rfl⟩
                have c9 := r9.cell
                rw [HVV.out]
                refine bodyPost_ret (v := atV (some ⟨k, x, y⟩)) (by simp [results, Try.results53, go_sem, c9]; try rfl) rfl ?_
                exact Ret.of (by (repeat (first | exact Below.refl _ _ | with_reducible refine Below.drew ?_ | with_reducible refine Below.ext ?_ (by first | exact Nat.le_refl _ | (simp; done) | (simp; omega)) _ | with_reducible refine Below.alloc ?_ (by first | exact Nat.le_refl _ | (simp; done) | (simp; omega)) _ | with_reducible refine Below.setCell ?_ (by first | exact Nat.le_refl _ | (simp; done) | (simp; omega)) _)))
end Go.Proofs.Ytmlhbbkgfffmcaa
