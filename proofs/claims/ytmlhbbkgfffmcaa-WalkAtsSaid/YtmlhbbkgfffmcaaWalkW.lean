/- The walks of the reference's At and Count (layer 14). Conditions: the points' bounds. -/
import Derived.Test.YtmlhbbkgfffmcaaWalkV
import Derived.Test.YtmlhbbkgfffmcaaLineI
import Derived.Test.YtmlhbbkgfffmcaaWalkH
namespace Go.Proofs.Ytmlhbbkgfffmcaa
set_option linter.unusedVariables false
set_option linter.unusedSimpArgs false
open Go.RowKit
theorem ofL_bd (ax ay bx y2 : Int) (ha : MayP ax ay) (hb : MayP bx y2) : -2097154 ≤ (ofL ax ay bx y2).From ∧ (ofL ax ay bx y2).From ≤ 2097154 ∧ -2097154 ≤ (ofL ax ay bx y2).To ∧ (ofL ax ay bx y2).To ≤ 2097154 := by
  have b1 := uC_bd (decide (turnP ax ay bx y2)) ha
  have b2 := uC_bd (decide (turnP ax ay bx y2)) hb
  have ft := ofL_ft ax ay bx y2
  rw [ft.1, ft.2]; unfold leastC; omega
set_option maxRecDepth 100000 in
set_option maxHeartbeats 8000000 in
theorem rcount_any (ax ay bx y2 : Int) (ha : MayP ax ay) (hb : MayP bx y2) (w : World) : Calls Try.prog 54 #[P2 ax ay, P2 bx y2] w (Ret (.int .i64 (((lineL ax ay bx y2).length : Nat) : Int)) w) := by
  by_cases c : ax = bx ∧ ay = y2
  · obtain ⟨rfl, rfl⟩ := c
    rw [lineL_self]
    have hz1 : (ax == ax) = true := by simp
    have hz2 : (ay == ay) = true := by simp
    go_enter Try.func54, Try.ntmps54
    go_wp2
    go_ret
    exact Ret.of' (by simp) (by (repeat (first | exact Below.refl _ _ | with_reducible refine Below.drew ?_ | with_reducible refine Below.ext ?_ (by first | exact Nat.le_refl _ | (simp; done) | (simp; omega)) _ | with_reducible refine Below.alloc ?_ (by first | exact Nat.le_refl _ | (simp; done) | (simp; omega)) _ | with_reducible refine Below.setCell ?_ (by first | exact Nat.le_refl _ | (simp; done) | (simp; omega)) _)))
  rw [← ref_count c]
  have HO := Lib.hid (fun w => rof_any ax ay bx y2 ha hb w)
  have HC := Lib.hid (fun u w (hu : crP (ofL ax ay bx y2).From (ofL ax ay bx y2).To u) => rcolumn_any ax ay bx y2 u ha hb c (by have ft := ofL_ft ax ay bx y2; rw [ft.1, ft.2] at hu; exact hu) w)
  have lb := ofL_bd ax ay bx y2 ha hb
  have hz := ne_bools c
  obtain ⟨R, hR⟩ : ∃ R, refCount ax ay bx y2 (ofL ax ay bx y2) = R := ⟨_, rfl⟩
  rw [hR]
  obtain ⟨l, hl⟩ : ∃ l, ofL ax ay bx y2 = l := ⟨_, rfl⟩
  rw [hl] at HO HC lb hR
  clear hl ha hb c
  unfold refCount at hR
  obtain ⟨F, G, X, Y, E⟩ := l
  simp only [Ln.w] at *
  obtain ⟨lb0, lb1, lb2, lb3⟩ := lb
  by_cases hm : min F G < max F G
  · have hmm : 0 < refM ⟨F, G, X, Y, E⟩ := by unfold refM; simp only; omega
    have hu : crP F G (refU ⟨F, G, X, Y, E⟩ (refM ⟨F, G, X, Y, E⟩ - 1)) := ref_cr (l := ⟨F, G, X, Y, E⟩) (n := refM ⟨F, G, X, Y, E⟩ - 1) (by omega) (by omega)
    have HC1 := Lib.hid (fun w => HC.out _ w hu)
    obtain ⟨e, he⟩ : ∃ e, decide (exP ax ay bx y2 (colX ax ay bx y2 (refU ⟨F, G, X, Y, E⟩ (refM ⟨F, G, X, Y, E⟩ - 1))) (colY ax ay bx y2 (refU ⟨F, G, X, Y, E⟩ (refM ⟨F, G, X, Y, E⟩ - 1)))) = e := ⟨_, rfl⟩
    have hR2 : (max F G - min F G) - (if e = true then 0 else 1) + (if E = true then 1 else 0) = R := by
      have hM : refM ⟨F, G, X, Y, E⟩ = max F G - min F G := rfl
      cases e
      · rw [if_pos ⟨hmm, of_decide_eq_false he⟩, hM] at hR
        rw [← hR, if_neg (by simp)]
      · rw [if_neg (fun h => h.2 (of_decide_eq_true he)), hM] at hR
        rw [← hR, if_pos rfl, Int.sub_zero]
    rw [he] at HC1
    have hU : refU ⟨F, G, X, Y, E⟩ (refM ⟨F, G, X, Y, E⟩ - 1) = if G < F then G else G - 1 := by
      unfold refU refM; simp only; split <;> omega
    rw [hU] at HC1
    clear hU he hR hu hmm HC
    generalize colX ax ay bx y2 _ = x at HC1
    generalize colY ax ay bx y2 _ = y at HC1
    have d1 : decide (0 < max F G - min F G) = true := by simp; omega
    have HR2 := Lib.hid hR2
    clear hR2
    by_cases hGF : G < F
    · simp only [if_pos hGF] at HC1
      rcases hz with hz1 | ⟨hz1, hz2⟩
      all_goals
        cases e
        all_goals
          cases E
          all_goals
            simp only [colV] at HC1
            go_enter Try.func54, Try.ntmps54
            go_wp2_with (first | (go_at_call 97; (with_reducible refine (HO.out _).mono ?_); rintro _ _ ⟨rfl, X_, rfl⟩) | (go_at_call 113; (with_reducible refine (HC1.out _).mono ?_); rintro _ _ ⟨rfl, X_, rfl⟩))
            go_ret
            exact Ret.of' (congrArg (Value.int .i64) (by have h_ := HR2.out; simp at h_; first | exact h_ | (simp; omega) | omega)) (by (repeat (first | exact Below.refl _ _ | with_reducible refine Below.drew ?_ | with_reducible refine Below.ext ?_ (by first | exact Nat.le_refl _ | (simp; done) | (simp; omega)) _ | with_reducible refine Below.alloc ?_ (by first | exact Nat.le_refl _ | (simp; done) | (simp; omega)) _ | with_reducible refine Below.setCell ?_ (by first | exact Nat.le_refl _ | (simp; done) | (simp; omega)) _)))
    · simp only [if_neg hGF] at HC1
      rcases hz with hz1 | ⟨hz1, hz2⟩
      all_goals
        cases e
        all_goals
          cases E
          all_goals
            simp only [colV] at HC1
            go_enter Try.func54, Try.ntmps54
            go_wp2_with (first | (go_at_call 97; (with_reducible refine (HO.out _).mono ?_); rintro _ _ ⟨rfl, X_, rfl⟩) | (go_at_call 113; (with_reducible refine (HC1.out _).mono ?_); rintro _ _ ⟨rfl, X_, rfl⟩))
            go_ret
            exact Ret.of' (congrArg (Value.int .i64) (by have h_ := HR2.out; simp at h_; first | exact h_ | (simp; omega) | omega)) (by (repeat (first | exact Below.refl _ _ | with_reducible refine Below.drew ?_ | with_reducible refine Below.ext ?_ (by first | exact Nat.le_refl _ | (simp; done) | (simp; omega)) _ | with_reducible refine Below.alloc ?_ (by first | exact Nat.le_refl _ | (simp; done) | (simp; omega)) _ | with_reducible refine Below.setCell ?_ (by first | exact Nat.le_refl _ | (simp; done) | (simp; omega)) _)))
  · have hmm : ¬ 0 < refM ⟨F, G, X, Y, E⟩ := by unfold refM; simp only; omega
    have hR2 : (max F G - min F G) + (if E = true then 1 else 0) = R := by
      have hM : refM ⟨F, G, X, Y, E⟩ = max F G - min F G := rfl
      rw [if_neg (fun q => hmm q.1), hM] at hR
      exact hR
    have d1 : decide (0 < max F G - min F G) = false := by simp; omega
    have HR2 := Lib.hid hR2
    clear hR2 hR HC hmm
    rcases hz with hz1 | ⟨hz1, hz2⟩
    all_goals
      cases E
      all_goals
        go_enter Try.func54, Try.ntmps54
        go_wp2_with (first | (go_at_call 97; (with_reducible refine (HO.out _).mono ?_); rintro _ _ ⟨rfl, X_, rfl⟩))
        go_ret
        exact Ret.of' (congrArg (Value.int .i64) (by have h_ := HR2.out; simp at h_; first | exact h_ | (simp; omega) | omega)) (by (repeat (first | exact Below.refl _ _ | with_reducible refine Below.drew ?_ | with_reducible refine Below.ext ?_ (by first | exact Nat.le_refl _ | (simp; done) | (simp; omega)) _ | with_reducible refine Below.alloc ?_ (by first | exact Nat.le_refl _ | (simp; done) | (simp; omega)) _ | with_reducible refine Below.setCell ?_ (by first | exact Nat.le_refl _ | (simp; done) | (simp; omega)) _)))
end Go.Proofs.Ytmlhbbkgfffmcaa
