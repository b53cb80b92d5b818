/- Layer 14's law WalkMeets: a pixel is one of a line just if the line exits from its diamond. No condition. -/
import Derived.Test.YtmlhbbkgfffmcaaXRelS
import Derived.Test.YtmlhbbkgfffmcaaWalkR
import Derived.Test.YtmlhbbkgfffmcaaLineG
import Derived.Test.YtmlhbbkgfffmcaaWalkH
import Derived.Test.YtmlhbbkgfffmcaaEWalkMeets
namespace Go.Proofs.Ytmlhbbkgfffmcaa
set_option linter.unusedVariables false
set_option linter.unusedSimpArgs false
open Go.RowKit
theorem lineL_num {ax ay bx y2 : Int} {i : Nat} {s : St} (h : (lineL ax ay bx y2)[i]? = some s) : s.K = i := by
  unfold lineL at h
  split at h
  all_goals
    unfold Way.run at h
    rw [List.getElem?_map] at h
    cases hj : (List.range _)[i]? with
    | none => rw [hj] at h; cases h
    | some j =>
      rw [hj] at h
      have := List.getElem?_eq_some_iff.1 hj
      obtain ⟨_, e⟩ := this
      rw [List.getElem_range] at e
      subst e
      injection h with h
      rw [← h]; rfl
theorem right_one {x y : Int} (x0 : -4194304 ≤ x) (x1 : x < 4194304) (y0 : -4194304 ≤ y) (y1 : y < 4194304) : rightP x y (x + 1) (y + 1) := by unfold rightP; omega
theorem within_one {ax ay bx y2 x y : Int} (r : rightP x y (x + 1) (y + 1)) (h : exP ax ay bx y2 x y) : withinL ax ay bx y2 x y (x + 1) (y + 1) = [⟨idxP ax ay bx y2 x y, x, y⟩] := by
  have c : ¬ (ax = bx ∧ ay = y2) := fun c => by obtain ⟨rfl, rfl⟩ := c; exact exP_same _ _ _ _ h
  refine rise_ext _ _ (withinL_rise _ _ _ _ _ _ _ _) (List.pairwise_singleton _ _) fun q => ?_
  rw [mem_within _ _ _ _ _ _ _ _ c r, List.mem_singleton]
  constructor
  · intro ⟨h1, h2, h3⟩
    obtain ⟨K, X, Y⟩ := q
    simp only at h1 h3
    obtain ⟨rfl, rfl⟩ : X = x ∧ Y = y := by omega
    rw [h3]
  · rintro rfl
    exact ⟨by simp; omega, h, rfl⟩
theorem within_none {ax ay bx y2 x y : Int} (r : rightP x y (x + 1) (y + 1)) (h : ¬ exP ax ay bx y2 x y) : withinL ax ay bx y2 x y (x + 1) (y + 1) = [] := by
  by_cases c : ax = bx ∧ ay = y2
  · unfold withinL; rw [if_pos (Or.inl c)]
  · rw [List.eq_nil_iff_forall_not_mem]
    intro q hq
    rw [mem_within _ _ _ _ _ _ _ _ c r] at hq
    obtain ⟨h1, h2, -⟩ := hq
    rw [show q.X = x by omega, show q.Y = y by omega] at h2
    exact h h2
theorem at_one {ax ay bx y2 x y : Int} (h : exP ax ay bx y2 x y) (k0 : 0 ≤ idxP ax ay bx y2 x y) : atL ax ay bx y2 (idxP ax ay bx y2 x y) = some ⟨idxP ax ay bx y2 x y, x, y⟩ := by
  have c : ¬ (ax = bx ∧ ay = y2) := fun c => by obtain ⟨rfl, rfl⟩ := c; exact exP_same _ _ _ _ h
  unfold atL
  rw [if_neg (by omega)]
  obtain ⟨i, hi⟩ := List.mem_iff_getElem?.1 ((mem_line ax ay bx y2 c ⟨idxP ax ay bx y2 x y, x, y⟩).2 ⟨h, rfl⟩)
  have := lineL_num hi
  simp only at this
  rw [show (idxP ax ay bx y2 x y).toNat = i by omega]; exact hi
set_option maxRecDepth 100000 in
set_option maxHeartbeats 8000000 in
theorem WalkMeets_true : WalkMeets_stmt := by
  intro aX aY bX bY x y w ⟨⟨_, _⟩, ⟨_, _⟩⟩ ⟨⟨_, _⟩, ⟨_, _⟩⟩ ⟨⟨c0, c1⟩, ⟨d0, d1⟩⟩
  have M1 := Lib.hid (fun w => may14_any aX aY w)
  have M2 := Lib.hid (fun w => may14_any bX bY w)
  obtain ⟨m, hm⟩ : ∃ m, mayB aX aY = m := ⟨_, rfl⟩
  obtain ⟨n, hn⟩ : ∃ m, mayB bX bY = m := ⟨_, rfl⟩
  rw [hm] at M1
  rw [hn] at M2
  have HM := Lib.hid hm
  have HN := Lib.hid hn
  clear hm hn
  go_enter Try.func11, Try.ntmps11
  go_upto_region 1 with fail
  refine wp_region_ext (by kernel_rfl) (by kernel_rfl) ?_
  repeat (go_big_quiet_step ((fail)))
  refine wpQuiet_nil ?_
  intro _ hw_ext
  obtain ⟨X0, hw_ext⟩ := hw_ext
  subst hw_ext
  go_upto_region 2 with fail
  refine wp_abs (F := fun w1 => Row w1 w.heap.size #[.int .i64 aX, .int .i64 aY] 50 ∧ Row w1 (w.heap.size + 1) #[.int .i64 bX, .int .i64 bY] 50 ∧ ∃ X, w1 = w.ext X) ⟨by (repeat (first | assumption | with_reducible refine Row.ext ?_ _ | with_reducible refine row_drew ?_ | (with_reducible refine row_last ?_; first | rfl | (simp; done)) | with_reducible refine Row.alloc ?_ _)), by (repeat (first | assumption | with_reducible refine Row.ext ?_ _ | with_reducible refine row_drew ?_ | (with_reducible refine row_last ?_; first | rfl | (simp; done)) | with_reducible refine Row.alloc ?_ _)), RowKit.Below.toExt (by (repeat (first | exact Below.refl _ _ | with_reducible refine Below.drew ?_ | with_reducible refine Below.ext ?_ (by first | exact Nat.le_refl _ | (simp; done) | (simp; omega)) _ | with_reducible refine Below.alloc ?_ (by first | exact Nat.le_refl _ | (simp; done) | (simp; omega)) _ | with_reducible refine Below.setCell ?_ (by first | exact Nat.le_refl _ | (simp; done) | (simp; omega)) _)))⟩ ?_
  rintro w1 ⟨ra, rb, hX⟩
  have RA := Lib.hid ra
  have RB := Lib.hid rb
  have HX := Lib.hid hX
  have ca := ra.cell
  have fa := ra.frozen
  have la := ra.lt
  have cb := rb.cell
  have fb := rb.frozen
  have lb := rb.lt
  clear ra rb hX
  go_cut [39] from 16 to 40 (fun t wx => ∃ bad : Bool, t = .bool bad ∧ Hid (bad = false → m = true ∧ n = true ∧ -4194304 ≤ x ∧ x < 4194304 ∧ -4194304 ≤ y ∧ y < 4194304) ∧ ∃ X, wx = w1.ext X)
  case first =>
    cases m
    · go_wp2_with (first | (go_at_call 36; (with_reducible refine (M1.out _).mono ?_); rintro _ _ ⟨rfl, X_, rfl⟩))
      go_meet
      exact ⟨_, rfl, Lib.hid (fun h => by cases h), _, rfl⟩
    cases n
    · go_wp2_with (first | (go_at_call 36; (first | (with_reducible refine (M1.out _).mono ?_) | (with_reducible refine (M2.out _).mono ?_)); rintro _ _ ⟨rfl, X_, rfl⟩))
      go_meet
      exact ⟨_, rfl, Lib.hid (fun h => by cases h), RowKit.Below.toExt (by (repeat (first | with_reducible assumption | with_reducible exact Below.refl _ _ | with_reducible refine Below.drew ?_ | with_reducible refine Below.ext ?_ (by first | exact Nat.le_refl _ | omega | (simp; done) | (simp; omega)) _ | with_reducible refine Below.alloc ?_ (by first | exact Nat.le_refl _ | omega | (simp; done) | (simp; omega)) _ | with_reducible refine Below.setCell ?_ (by first | exact Nat.le_refl _ | omega | (simp; done) | (simp; omega)) _)))⟩
    by_cases t0 : x < -4194304
    · go_wp2_with (first | (go_at_call 36; (first | (with_reducible refine (M1.out _).mono ?_) | (with_reducible refine (M2.out _).mono ?_)); rintro _ _ ⟨rfl, X_, rfl⟩))
      go_meet
      exact ⟨_, rfl, Lib.hid (fun h => by cases h), RowKit.Below.toExt (by (repeat (first | with_reducible assumption | with_reducible exact Below.refl _ _ | with_reducible refine Below.drew ?_ | with_reducible refine Below.ext ?_ (by first | exact Nat.le_refl _ | omega | (simp; done) | (simp; omega)) _ | with_reducible refine Below.alloc ?_ (by first | exact Nat.le_refl _ | omega | (simp; done) | (simp; omega)) _ | with_reducible refine Below.setCell ?_ (by first | exact Nat.le_refl _ | omega | (simp; done) | (simp; omega)) _)))⟩
    by_cases t1 : 4194304 ≤ x
    · go_wp2_with (first | (go_at_call 36; (first | (with_reducible refine (M1.out _).mono ?_) | (with_reducible refine (M2.out _).mono ?_)); rintro _ _ ⟨rfl, X_, rfl⟩))
      go_meet
      exact ⟨_, rfl, Lib.hid (fun h => by cases h), RowKit.Below.toExt (by (repeat (first | with_reducible assumption | with_reducible exact Below.refl _ _ | with_reducible refine Below.drew ?_ | with_reducible refine Below.ext ?_ (by first | exact Nat.le_refl _ | omega | (simp; done) | (simp; omega)) _ | with_reducible refine Below.alloc ?_ (by first | exact Nat.le_refl _ | omega | (simp; done) | (simp; omega)) _ | with_reducible refine Below.setCell ?_ (by first | exact Nat.le_refl _ | omega | (simp; done) | (simp; omega)) _)))⟩
    by_cases t2 : y < -4194304
    · go_wp2_with (first | (go_at_call 36; (first | (with_reducible refine (M1.out _).mono ?_) | (with_reducible refine (M2.out _).mono ?_)); rintro _ _ ⟨rfl, X_, rfl⟩))
      go_meet
      exact ⟨_, rfl, Lib.hid (fun h => by cases h), RowKit.Below.toExt (by (repeat (first | with_reducible assumption | with_reducible exact Below.refl _ _ | with_reducible refine Below.drew ?_ | with_reducible refine Below.ext ?_ (by first | exact Nat.le_refl _ | omega | (simp; done) | (simp; omega)) _ | with_reducible refine Below.alloc ?_ (by first | exact Nat.le_refl _ | omega | (simp; done) | (simp; omega)) _ | with_reducible refine Below.setCell ?_ (by first | exact Nat.le_refl _ | omega | (simp; done) | (simp; omega)) _)))⟩
    by_cases t3 : 4194304 ≤ y
    · go_wp2_with (first | (go_at_call 36; (first | (with_reducible refine (M1.out _).mono ?_) | (with_reducible refine (M2.out _).mono ?_)); rintro _ _ ⟨rfl, X_, rfl⟩))
      go_meet
      exact ⟨_, rfl, Lib.hid (fun h => by cases h), RowKit.Below.toExt (by (repeat (first | with_reducible assumption | with_reducible exact Below.refl _ _ | with_reducible refine Below.drew ?_ | with_reducible refine Below.ext ?_ (by first | exact Nat.le_refl _ | omega | (simp; done) | (simp; omega)) _ | with_reducible refine Below.alloc ?_ (by first | exact Nat.le_refl _ | omega | (simp; done) | (simp; omega)) _ | with_reducible refine Below.setCell ?_ (by first | exact Nat.le_refl _ | omega | (simp; done) | (simp; omega)) _)))⟩
    go_wp2_with (first | (go_at_call 36; (first | (with_reducible refine (M1.out _).mono ?_) | (with_reducible refine (M2.out _).mono ?_)); rintro _ _ ⟨rfl, X_, rfl⟩))
    go_meet
    exact ⟨_, rfl, Lib.hid (fun h => ⟨by trivial, by trivial, by omega⟩), RowKit.Below.toExt (by (repeat (first | with_reducible assumption | with_reducible exact Below.refl _ _ | with_reducible refine Below.drew ?_ | with_reducible refine Below.ext ?_ (by first | exact Nat.le_refl _ | omega | (simp; done) | (simp; omega)) _ | with_reducible refine Below.alloc ?_ (by first | exact Nat.le_refl _ | omega | (simp; done) | (simp; omega)) _ | with_reducible refine Below.setCell ?_ (by first | exact Nat.le_refl _ | omega | (simp; done) | (simp; omega)) _)))⟩
  case rest =>
    obtain ⟨bad, rfl, hbad, X1, rfl⟩ := hcut
    cases bad
    · obtain ⟨rfl, rfl, x0, x1, y0, y1⟩ := hbad.out rfl
      have A := mayB_may HM.out
      have B := mayB_may HN.out
      have r := right_one x0 x1 y0 y1
      have HE := Lib.hid (fun w => rexits_any aX aY bX bY x y A B ⟨by omega, by omega, by omega, by omega⟩ w)
      have HW := Lib.hid (fun w => walk_within aX aY bX bY x y (x + 1) (y + 1) A B w)
      have HA := Lib.hid (fun k w => walk_at aX aY bX bY k A B w)
      by_cases he : exP aX aY bX bY x y
      · have hk := idx_bd A B he
        have e1 := within_one r he
        have e2 := at_one he hk.1
        obtain ⟨K, hK⟩ : ∃ K, idxP aX aY bX bY x y = K := ⟨_, rfl⟩
        rw [hK] at e1 e2 hk
        have HE1 := Lib.hid (fun w => (decide_eq_true he) ▸ HE.out w)
        have HW1 := Lib.hid (fun w => e1 ▸ HW.out w)
        have HA1 := Lib.hid (show ∀ w, Calls Try.prog 52 #[P2 aX aY, P2 bX bY, .int .i64 K] w (Ret (.tuple #[.agg #[.int .i64 K, .int .i64 x, .int .i64 y], .bool true]) w) from fun w => by have := HA.out K w; rw [e2] at this; exact this)
        obtain ⟨k0, k1⟩ := hk
        clear A B r he e1 e2 hK HE HW HA
        go_upto_region 5 with (first | (go_at_call 40; (with_reducible refine (HW1.out _).mono ?_); rintro _ w3 ⟨v1, rfl, h1, X3, rfl⟩; have H1 := Lib.hid h1; clear h1))
        refine wp_abs (F := fun w5 => Row w5 w.heap.size #[.int .i64 aX, .int .i64 aY] 50 ∧ Row w5 (w.heap.size + 1) #[.int .i64 bX, .int .i64 bY] 50 ∧ Sts w5 v1 [⟨K, x, y⟩] ∧ ∃ X, w5 = w1.ext X) ⟨(RA.out.ext _).ext _, (RB.out.ext _).ext _, H1.out, RowKit.Below.toExt (by (repeat (first | with_reducible assumption | with_reducible exact Below.refl _ _ | with_reducible refine Below.drew ?_ | with_reducible refine Below.ext ?_ (by first | exact Nat.le_refl _ | omega | (simp; done) | (simp; omega)) _ | with_reducible refine Below.alloc ?_ (by first | exact Nat.le_refl _ | omega | (simp; done) | (simp; omega)) _ | with_reducible refine Below.setCell ?_ (by first | exact Nat.le_refl _ | omega | (simp; done) | (simp; omega)) _)))⟩ ?_
        rintro w5 ⟨ra, rb, h1, hX5⟩
        have HX5 := Lib.hid hX5
        clear ca fa la cb fb lb H1 hX5
        have H1 := Lib.hid h1
        have ca := ra.cell
        have fa := ra.frozen
        have la := ra.lt
        have cb := rb.cell
        have fb := rb.frozen
        have lb := rb.lt
        clear ra rb h1
        obtain ⟨-, b, cap, rfl, hcap, g⟩ := H1.out
        rcases g with g | ⟨b, off, rfl, hb, hc⟩
        · cases g
        have f0 := hc 0 _ rfl 0 _ rfl
        have f1 := hc 0 _ rfl 1 _ rfl
        have f2 := hc 0 _ rfl 2 _ rfl
        simp only [Nat.zero_mul, Nat.add_zero, List.length_singleton] at f0 f1 f2 hb ⊢
        have hb' : b ≤ w5.heap.size := by omega
        clear hc H1 hcap
        go_upto_region 9 with (first | (go_at_call 55; (with_reducible refine (HE1.out _).mono ?_); rintro _ _ ⟨rfl, X_, rfl⟩))
        refine wp_region_mix (by kernel_rfl) ?_
        repeat (first | (refine mix_skip rfl ?_; simp only [List.nil_append, List.cons_append]) | (refine mix_ncheck rfl rfl rfl ?_; simp only [Act.put, List.setIfInBounds_toArray, List.set_cons_zero, List.set_cons_succ, List.nil_append, List.cons_append]) | (refine mix_calm rfl rfl ?_; intro K_ hK_; go_big_quiet_op; go_big_quiet_on; simp only [List.nil_append, List.cons_append]) | (refine mix_alloc rfl rfl Try.zeroValue62 ?_; simp only [List.nil_append, List.cons_append]) | (refine mix_fill 10 rfl rfl rfl rfl (by simp [Value.oneCell']) (by kernel_rfl) (by simp) rfl rfl rfl rfl ?_; simp only [List.nil_append, List.cons_append]) | (apply mix_call rfl; (intro X_; go_simp; go_at_call 52; with_reducible exact Calls.calm_ret (HA1.out _)); simp only [Act.put, List.setIfInBounds_toArray, List.set_cons_zero, List.set_cons_succ, List.nil_append, List.cons_append]))
        refine mix_nil (mix_end1 10 11 ⟨by kernel_rfl, by kernel_rfl⟩ rfl rfl rfl rfl rfl (by kernel_rfl) ?_)
        intro X7 p h
        have c_h := h.cell
        have f_h := h.frozen
        have g_h := h.gap
        have b_h := Lib.hid h.block
        simp only [World.size_ext, World.size_alloc, World.size_drew, World.size_setCell] at g_h
        clear h
        simp only [Act.put, List.setIfInBounds_toArray, List.set_cons_zero, List.set_cons_succ, ptr]
        go_upto_region 10 with fail
        have z1 : (K == K) = true := by simp
        have z2 : (x == x) = true := by simp
        have z3 : (y == y) = true := by simp
        refine wp_region_ext (by kernel_rfl) (by kernel_rfl) ?_
        repeat (go_big_quiet_step ((first | (go_at_call 38; with_reducible exact Calls.quiet_ret (awake_any _)))))
        refine wpQuiet_nil ?_
        intro _ hw_ext
        obtain ⟨X8, hw_ext⟩ := hw_ext
        subst hw_ext
        go_wp2
        go_ret
        obtain ⟨X5, hX5⟩ := HX5.out
        subst hX5
        obtain ⟨X2, hX2⟩ := HX.out
        subst hX2
        exact Ret.of' rfl (by (repeat (first | with_reducible assumption | with_reducible exact Below.refl _ _ | with_reducible refine Below.drew ?_ | with_reducible refine Below.ext ?_ (by first | exact Nat.le_refl _ | omega | (simp; done) | (simp; omega)) _ | with_reducible refine Below.alloc ?_ (by first | exact Nat.le_refl _ | omega | (simp; done) | (simp; omega)) _ | with_reducible refine Below.setCell ?_ (by first | exact Nat.le_refl _ | omega | (simp; done) | (simp; omega)) _)))
      · have e1 := within_none r he
        have HE1 := Lib.hid (fun w => (decide_eq_false he) ▸ HE.out w)
        have HW1 := Lib.hid (fun w => e1 ▸ HW.out w)
        clear A B r he e1 HE HW HA
        go_wp2_with (first | (go_at_call 40; (with_reducible refine (HW1.out _).mono ?_); rintro _ w3 ⟨v1, rfl, ⟨-, b, cap, rfl, -, -⟩, X3, rfl⟩) | (go_at_call 55; (with_reducible refine (HE1.out _).mono ?_); rintro _ _ ⟨rfl, X_, rfl⟩) | (go_at_call 38; (with_reducible refine (awake_any _).mono ?_); rintro _ _ ⟨rfl, X_, rfl⟩))
        go_ret
        obtain ⟨X2, hX2⟩ := HX.out
        subst hX2
        exact Ret.of' rfl (by (repeat (first | with_reducible assumption | with_reducible exact Below.refl _ _ | with_reducible refine Below.drew ?_ | with_reducible refine Below.ext ?_ (by first | exact Nat.le_refl _ | omega | (simp; done) | (simp; omega)) _ | with_reducible refine Below.alloc ?_ (by first | exact Nat.le_refl _ | omega | (simp; done) | (simp; omega)) _ | with_reducible refine Below.setCell ?_ (by first | exact Nat.le_refl _ | omega | (simp; done) | (simp; omega)) _)))
    · go_wp2_with (first | (go_at_call 38; (with_reducible refine (awake_any _).mono ?_); rintro _ _ ⟨rfl, X_, rfl⟩))
      go_ret
      obtain ⟨X2, hX2⟩ := HX.out
      subst hX2
      exact Ret.of' rfl (by (repeat (first | with_reducible assumption | with_reducible exact Below.refl _ _ | with_reducible refine Below.drew ?_ | with_reducible refine Below.ext ?_ (by first | exact Nat.le_refl _ | omega | (simp; done) | (simp; omega)) _ | with_reducible refine Below.alloc ?_ (by first | exact Nat.le_refl _ | omega | (simp; done) | (simp; omega)) _ | with_reducible refine Below.setCell ?_ (by first | exact Nat.le_refl _ | omega | (simp; done) | (simp; omega)) _)))
theorem WalkMeets_holds : Rows.WalkMeetsSaid := WalkMeets_end WalkMeets_true
end Go.Proofs.Ytmlhbbkgfffmcaa
