/- Layer 14's law WalkAts: how many pixels a line has, and which one any is, is the reference's. No condition. -/
import Derived.Test.YtmlhbbkgfffmcaaXRelS
import Derived.Test.YtmlhbbkgfffmcaaWalkX
import Derived.Test.YtmlhbbkgfffmcaaEWalkAts
namespace Go.Proofs.Ytmlhbbkgfffmcaa
set_option linter.unusedVariables false
set_option linter.unusedSimpArgs false
open Go.RowKit
theorem atL_K {ax ay bx y2 k : Int} {s : St} (h : atL ax ay bx y2 k = some s) : s.K = k := by
  unfold atL at h
  split at h
  · cases h
  · have := line_num h; omega
theorem atL_len {ax ay bx y2 : Int} : atL ax ay bx y2 (((lineL ax ay bx y2).length : Nat) : Int) = none := by
  unfold atL; rw [if_neg (by omega)]; simp
theorem atL_last {ax ay bx y2 : Int} (h : 0 < (lineL ax ay bx y2).length) : ∃ s, atL ax ay bx y2 ((((lineL ax ay bx y2).length : Nat) : Int) - 1) = some s := by
  unfold atL; rw [if_neg (by omega)]
  have e : ((((lineL ax ay bx y2).length : Nat) : Int) - 1).toNat = (lineL ax ay bx y2).length - 1 := by omega
  rw [e]
  exact ⟨_, List.getElem?_eq_getElem (by omega)⟩
theorem atL_first {ax ay bx y2 : Int} (h : (lineL ax ay bx y2).length = 0) : atL ax ay bx y2 ((((lineL ax ay bx y2).length : Nat) : Int) - 1) = none := by
  unfold atL; rw [if_pos (by omega)]
theorem line_len {ax ay bx y2 : Int} (ha : MayP ax ay) (hb : MayP bx y2) : (lineL ax ay bx y2).length ≤ 4194308 := by
  by_cases c : ax = bx ∧ ay = y2
  · obtain ⟨rfl, rfl⟩ := c; rw [lineL_self]; simp
  · by_cases h : (lineL ax ay bx y2).length = 0
    · omega
    · have hl : (lineL ax ay bx y2)[(lineL ax ay bx y2).length - 1]? = some ((lineL ax ay bx y2)[(lineL ax ay bx y2).length - 1]'(by omega)) := List.getElem?_eq_getElem (by omega)
      obtain ⟨g1, g2, g3⟩ := (line_at c _ _).1 hl
      have := idx_bd ha hb g1
      omega
/-- What At tells, by its parts. -/
def atN (o : Option St) : St := o.getD ⟨0, 0, 0⟩
theorem atV_is (o : Option St) : atV o = .tuple #[.agg #[.int .i64 (atN o).K, .int .i64 (atN o).X, .int .i64 (atN o).Y], .bool o.isSome] := rfl
set_option maxRecDepth 100000 in
set_option maxHeartbeats 8000000 in
theorem WalkAts_true : WalkAts_stmt := by
  intro aX aY bX bY k w _ _ ⟨c0, c1⟩
  have M1 := Lib.hid (fun w => may14_any aX aY w)
  have M2 := Lib.hid (fun w => may14_any bX bY w)
  obtain ⟨m, hm⟩ : ∃ m, mayB aX aY = m := ⟨_, rfl⟩
  obtain ⟨n, hn⟩ : ∃ m, mayB bX bY = m := ⟨_, rfl⟩
  rw [hm] at M1
  rw [hn] at M2
  have HM := Lib.hid hm
  have HN := Lib.hid hn
  clear hm hn
  cases m
  · go_enter Try.func10, Try.ntmps10
    go_wp2_with (first | (go_at_call 36; (with_reducible refine (M1.out _).mono ?_); rintro _ _ ⟨rfl, X_, rfl⟩) | (go_at_call 38; (with_reducible refine (awake_any _).mono ?_); rintro _ _ ⟨rfl, X_, rfl⟩))
    go_ret
    exact Ret.of' rfl (by (repeat (first | exact Below.refl _ _ | with_reducible refine Below.drew ?_ | with_reducible refine Below.ext ?_ (by first | exact Nat.le_refl _ | (simp; done) | (simp; omega)) _ | with_reducible refine Below.alloc ?_ (by first | exact Nat.le_refl _ | (simp; done) | (simp; omega)) _ | with_reducible refine Below.setCell ?_ (by first | exact Nat.le_refl _ | (simp; done) | (simp; omega)) _)))
  cases n
  · go_enter Try.func10, Try.ntmps10
    go_wp2_with (first | (go_at_call 36; (first | (with_reducible refine (M1.out _).mono ?_) | (with_reducible refine (M2.out _).mono ?_)); rintro _ _ ⟨rfl, X_, rfl⟩) | (go_at_call 38; (with_reducible refine (awake_any _).mono ?_); rintro _ _ ⟨rfl, X_, rfl⟩))
    go_ret
    exact Ret.of' rfl (by (repeat (first | exact Below.refl _ _ | with_reducible refine Below.drew ?_ | with_reducible refine Below.ext ?_ (by first | exact Nat.le_refl _ | (simp; done) | (simp; omega)) _ | with_reducible refine Below.alloc ?_ (by first | exact Nat.le_refl _ | (simp; done) | (simp; omega)) _ | with_reducible refine Below.setCell ?_ (by first | exact Nat.le_refl _ | (simp; done) | (simp; omega)) _)))
  have A := mayB_may HM.out
  have B := mayB_may HN.out
  have C1 := Lib.hid (fun w => walk_count aX aY bX bY A B w)
  have C2 := Lib.hid (fun w => rcount_any aX aY bX bY A B w)
  have ll := line_len A B
  have T1 := Lib.hid (fun w => walk_at aX aY bX bY k A B w)
  have T2 := Lib.hid (fun w => rat_any aX aY bX bY k A B c0 c1 w)
  have T3 := Lib.hid (fun w => walk_at aX aY bX bY ((((lineL aX aY bX bY).length : Nat) : Int) - 1) A B w)
  have T4 := Lib.hid (fun w => (atL_len (ax := aX) (ay := aY) (bx := bX) (y2 := bY)) ▸ walk_at aX aY bX bY (((lineL aX aY bX bY).length : Nat) : Int) A B w)
  have F0 := Lib.hid (atL_first (ax := aX) (ay := aY) (bx := bX) (y2 := bY))
  have F1 := Lib.hid (fun (h : 0 < (lineL aX aY bX bY).length) => show ∃ x y, atL aX aY bX bY ((((lineL aX aY bX bY).length : Nat) : Int) - 1) = some ⟨(((lineL aX aY bX bY).length : Nat) : Int) - 1, x, y⟩ by
    obtain ⟨s, hs⟩ := atL_last h
    have := atL_K hs
    obtain ⟨K, x, y⟩ := s
    exact ⟨x, y, by rw [hs]; simp only at this; rw [this]⟩)
  obtain ⟨o, ho⟩ : ∃ o, atL aX aY bX bY k = o := ⟨_, rfl⟩
  rw [ho] at T1 T2
  clear ho A B
  obtain ⟨N, hN⟩ : ∃ N, (lineL aX aY bX bY).length = N := ⟨_, rfl⟩
  rw [hN] at C1 C2 ll T3 T4 F0 F1
  clear hN
  simp only [atV_is] at T1 T2 T4
  obtain ⟨b, hb⟩ : ∃ b, o.isSome = b := ⟨_, rfl⟩
  generalize atN o = s at T1 T2
  rw [hb] at T1 T2
  clear hb
  obtain ⟨K, X, Y⟩ := s
  have z1 : (K == K) = true := by simp
  have z2 : (X == X) = true := by simp
  have z3 : (Y == Y) = true := by simp
  have z4 : ((N : Int) == (N : Int)) = true := by simp
  have z5 : (b == b) = true := by simp
  simp only [atN, Option.getD_none, Option.isSome_none] at T4
  by_cases hN0 : N = 0
  · subst hN0
    have e3 := F0.out rfl
    have T3' := T3.out
    simp only [e3, atN, Option.getD_none, Option.isSome_none, atV_is] at T3'
    have T3 := Lib.hid (show ∀ w, Calls Try.prog 52 #[P2 aX aY, P2 bX bY, .int .i64 (-1)] w (Ret (.tuple #[.agg #[.int .i64 0, .int .i64 0, .int .i64 0], .bool false]) w) from T3')
    have T4 := Lib.hid (show ∀ w, Calls Try.prog 52 #[P2 aX aY, P2 bX bY, .int .i64 0] w (Ret (.tuple #[.agg #[.int .i64 0, .int .i64 0, .int .i64 0], .bool false]) w) from T4.out)
    have C1 := Lib.hid (show ∀ w, Calls Try.prog 42 #[P2 aX aY, P2 bX bY] w (Ret (.int .i64 0) w) from C1.out)
    have C2 := Lib.hid (show ∀ w, Calls Try.prog 54 #[P2 aX aY, P2 bX bY] w (Ret (.int .i64 0) w) from C2.out)
    clear T3' e3 F0 F1 z4
    go_enter Try.func10, Try.ntmps10
    go_wp2_with (first
      | (go_at_call 36; (first | (with_reducible refine (M1.out _).mono ?_) | (with_reducible refine (M2.out _).mono ?_)); rintro _ _ ⟨rfl, X_, rfl⟩)
      | (go_at_call 52; (first | (with_reducible refine (T1.out _).mono ?_) | (with_reducible refine (T3.out _).mono ?_) | (with_reducible refine (T4.out _).mono ?_)); rintro _ _ ⟨rfl, X_, rfl⟩)
      | (go_at_call 53; (with_reducible refine (T2.out _).mono ?_); rintro _ _ ⟨rfl, X_, rfl⟩) | (go_at_call 42; (with_reducible refine (C1.out _).mono ?_); rintro _ _ ⟨rfl, X_, rfl⟩) | (go_at_call 54; (with_reducible refine (C2.out _).mono ?_); rintro _ _ ⟨rfl, X_, rfl⟩) | (go_at_call 38; (with_reducible refine (awake_any _).mono ?_); rintro _ _ ⟨rfl, X_, rfl⟩))
    go_ret
    exact Ret.of' rfl (by (repeat (first | exact Below.refl _ _ | with_reducible refine Below.drew ?_ | with_reducible refine Below.ext ?_ (by first | exact Nat.le_refl _ | (simp; done) | (simp; omega)) _ | with_reducible refine Below.alloc ?_ (by first | exact Nat.le_refl _ | (simp; done) | (simp; omega)) _ | with_reducible refine Below.setCell ?_ (by first | exact Nat.le_refl _ | (simp; done) | (simp; omega)) _)))
  · obtain ⟨x, y, e3⟩ := F1.out (by omega)
    have T3' := T3.out
    simp only [e3, atN, Option.getD_some, Option.isSome_some, atV_is] at T3'
    have T3 := Lib.hid T3'
    have z6 : ((N : Int) == 0) = false := by simp; omega
    have z7 : ((N : Int) - 1 == (N : Int) - 1) = true := by simp
    have d1 : decide (0 < (N : Int)) = true := by simp; omega
    have d2 : decide (0 < N) = true := by simp; omega
    clear T3' e3 F0 F1 hN0
    go_enter Try.func10, Try.ntmps10
    go_wp2_with (first
      | (go_at_call 36; (first | (with_reducible refine (M1.out _).mono ?_) | (with_reducible refine (M2.out _).mono ?_)); rintro _ _ ⟨rfl, X_, rfl⟩)
      | (go_at_call 52; (first | (with_reducible refine (T1.out _).mono ?_) | (with_reducible refine (T3.out _).mono ?_) | (with_reducible refine (T4.out _).mono ?_)); rintro _ _ ⟨rfl, X_, rfl⟩)
      | (go_at_call 53; (with_reducible refine (T2.out _).mono ?_); rintro _ _ ⟨rfl, X_, rfl⟩) | (go_at_call 42; (with_reducible refine (C1.out _).mono ?_); rintro _ _ ⟨rfl, X_, rfl⟩) | (go_at_call 54; (with_reducible refine (C2.out _).mono ?_); rintro _ _ ⟨rfl, X_, rfl⟩) | (go_at_call 38; (with_reducible refine (awake_any _).mono ?_); rintro _ _ ⟨rfl, X_, rfl⟩))
    go_ret
    exact Ret.of' rfl (by (repeat (first | exact Below.refl _ _ | with_reducible refine Below.drew ?_ | with_reducible refine Below.ext ?_ (by first | exact Nat.le_refl _ | (simp; done) | (simp; omega)) _ | with_reducible refine Below.alloc ?_ (by first | exact Nat.le_refl _ | (simp; done) | (simp; omega)) _ | with_reducible refine Below.setCell ?_ (by first | exact Nat.le_refl _ | (simp; done) | (simp; omega)) _)))
theorem WalkAts_holds : Rows.WalkAtsSaid := WalkAts_end WalkAts_true
end Go.Proofs.Ytmlhbbkgfffmcaa
