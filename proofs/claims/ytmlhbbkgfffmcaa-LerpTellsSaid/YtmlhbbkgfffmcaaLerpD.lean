/- The laws of layer 16 (lerp): their guards; what stands between, from either end, and further on. No condition. -/
import Derived.Test.YtmlhbbkgfffmcaaLerpC
namespace Go.Proofs.Ytmlhbbkgfffmcaa
set_option linter.unusedVariables false
set_option linter.unusedSimpArgs false
open Go.RowKit
def WinP.fitsP (a : WinP) : Prop := (0 ≤ a.c0 ∧ a.c0 ≤ 255) ∧ (0 ≤ a.c1 ∧ a.c1 ≤ 255) ∧ (0 ≤ a.c2 ∧ a.c2 ≤ 255) ∧ (0 ≤ a.c3 ∧ a.c3 ≤ 255) ∧ (-268435456 ≤ a.x ∧ a.x ≤ 268435456) ∧ (-268435456 ≤ a.y ∧ a.y ≤ 268435456) ∧ 0 ≤ a.z ∧ a.z ≤ 16777215
instance (a : WinP) : Decidable a.fitsP := by unfold WinP.fitsP; exact inferInstance
theorem WinP.fitsP.f {a : WinP} (h : a.fitsP) : a.fits := by
  obtain ⟨⟨a0, a1⟩, ⟨b0, b1⟩, ⟨c0, c1⟩, ⟨d0, d1⟩, ⟨x0, x1⟩, ⟨y0, y1⟩, z0, z1⟩ := h
  exact ⟨x0, x1, y0, y1, z0, z1, ⟨a0, a1, b0, b1, c0, c1, d0, d1⟩⟩
def nearP (x y : Int) : Prop := (-4194304 ≤ x ∧ x ≤ 4194304) ∧ -4194304 ≤ y ∧ y ≤ 4194304
instance (x y : Int) : Decidable (nearP x y) := by unfold nearP; exact inferInstance
theorem nearP.f {x y : Int} (h : nearP x y) : Near x y := ⟨h.1.1, h.1.2, h.2.1, h.2.2⟩
set_option maxHeartbeats 2000000 in
theorem fits16_any (a : WinP) (w : World) : Calls Try.prog 56 #[a.v] w (Ret (.bool (decide a.fitsP)) w) := by
  go_enter Try.func56, Try.ntmps56
  go_wp2
  refine wp_loop_rounds 5 ?_
  iterate 5 try any_goals (rw [rounds_succ]; go_wp2)
  all_goals go_ret
  all_goals refine Ret.of' ?_ (by (repeat (first | exact Below.refl _ _ | with_reducible refine Below.drew ?_ | with_reducible refine Below.ext ?_ (by first | exact Nat.le_refl _ | (simp; done) | (simp; omega)) _ | with_reducible refine Below.alloc ?_ (by first | exact Nat.le_refl _ | (simp; done) | (simp; omega)) _ | with_reducible refine Below.setCell ?_ (by first | exact Nat.le_refl _ | (simp; done) | (simp; omega)) _)))
  all_goals first
    | (refine bool_t ?_; unfold WinP.fitsP; omega)
    | (refine bool_f ?_; unfold WinP.fitsP; omega)
    | (refine bool_d ?_; unfold WinP.fitsP; omega)
theorem near16_any (x y : Int) (w : World) : Calls Try.prog 57 #[.agg #[.int .i64 x, .int .i64 y]] w (Ret (.bool (decide (nearP x y))) w) := by
  go_enter Try.func57, Try.ntmps57
  go_wp2
  all_goals go_ret
  all_goals refine Ret.of' ?_ (by (repeat (first | exact Below.refl _ _ | with_reducible refine Below.drew ?_ | with_reducible refine Below.ext ?_ (by first | exact Nat.le_refl _ | (simp; done) | (simp; omega)) _ | with_reducible refine Below.alloc ?_ (by first | exact Nat.le_refl _ | (simp; done) | (simp; omega)) _ | with_reducible refine Below.setCell ?_ (by first | exact Nat.le_refl _ | (simp; done) | (simp; omega)) _)))
  all_goals first
    | (refine bool_t ?_; unfold nearP; omega)
    | (refine bool_f ?_; unfold nearP; omega)
    | (refine bool_d ?_; unfold nearP; omega)
theorem awake16 (w : World) : Calls Try.prog 33 #[] w (Ret (.bool true) w) := by
  go_enter Try.func33, Try.ntmps33
  go_wp2_with (first | (go_at_call 34; (with_reducible refine (mid_any 0 10 1 4 (by unfold tame; decide) (by unfold tame; decide) (by decide) (by decide) _).mono ?_); rintro _ _ ⟨rfl, X_, rfl⟩) | (go_at_call 34; (with_reducible refine (mid_any 10 0 9 4 (by unfold tame; decide) (by unfold tame; decide) (by decide) (by decide) _).mono ?_); rintro _ _ ⟨rfl, X_, rfl⟩))
  all_goals go_ret
  all_goals exact Ret.of' (by simp [mid]) (by (repeat (first | exact Below.refl _ _ | with_reducible refine Below.drew ?_ | with_reducible refine Below.ext ?_ (by first | exact Nat.le_refl _ | (simp; done) | (simp; omega)) _ | with_reducible refine Below.alloc ?_ (by first | exact Nat.le_refl _ | (simp; done) | (simp; omega)) _ | with_reducible refine Below.setCell ?_ (by first | exact Nat.le_refl _ | (simp; done) | (simp; omega)) _)))
/-- From the other end the same stands there. -/
theorem mid_turn {p q n d : Int} (hd : 1 ≤ d) : mid p q n d = mid q p (d - n) d := by
  by_cases h : n ≤ 0
  · rw [mid_p (.inr h), mid_q (by omega) (by omega)]
  · by_cases h2 : d ≤ n
    · rw [mid_q (by omega) h2, mid_p (.inr (by omega))]
    · rw [mid_m (by omega) h2, mid_m (by omega) (by omega)]
      have e : (p - q) * (d - n) = (q - p) * n + d * (p - q) := by grind
      rw [e, Int.add_mul_ediv_left _ _ (by omega)]; omega
/-- Further on it is not nearer. -/
theorem mid_mono {p q n m d : Int} (h : n ≤ m) : (p ≤ q → mid p q n d ≤ mid p q m d) ∧ (q ≤ p → mid p q m d ≤ mid p q n d) := by
  by_cases h1 : d < 1 ∨ n ≤ 0
  · rw [mid_p h1]; exact ⟨fun h => ((mid_between p q m d).1 h).1, fun h => ((mid_between p q m d).2 h).2⟩
  · by_cases h2 : d ≤ m
    · rw [mid_q (p := p) (q := q) (n := m) (by omega) h2]; exact ⟨fun h => ((mid_between p q n d).1 h).2, fun h => ((mid_between p q n d).2 h).1⟩
    · rw [mid_m h1 (by omega), mid_m (n := m) (by omega) h2]
      refine ⟨fun hpq => ?_, fun hpq => ?_⟩
      · have := Int.mul_le_mul_of_nonneg_left h (show 0 ≤ q - p by omega)
        have := Int.ediv_le_ediv (show 0 < d by omega) this
        omega
      · have : (q - p) * m ≤ (q - p) * n := Int.mul_le_mul_of_nonpos_left (show q - p ≤ 0 by omega) h
        have := Int.ediv_le_ediv (show 0 < d by omega) this
        omega
theorem al_turn {a b : WinP} (x y : Int) (h : ¬ (a.x = b.x ∧ a.y = b.y)) : 1 ≤ alD a b ∧ alD b a = alD a b ∧ alN b a x y = alD a b - alN a b x y := by
  unfold alD alN
  by_cases c : max (b.x - a.x) (-(b.x - a.x)) < max (b.y - a.y) (-(b.y - a.y))
  · have c' : max (a.x - b.x) (-(a.x - b.x)) < max (a.y - b.y) (-(a.y - b.y)) := by omega
    simp only [if_pos c, if_pos c']
    by_cases s : b.y - a.y < 0
    · simp only [if_pos s, if_neg (show ¬ a.y - b.y < 0 by omega)]; omega
    · simp only [if_neg s, if_pos (show a.y - b.y < 0 by omega)]; omega
  · have c' : ¬ max (a.x - b.x) (-(a.x - b.x)) < max (a.y - b.y) (-(a.y - b.y)) := by omega
    simp only [if_neg c, if_neg c']
    by_cases s : b.x - a.x < 0
    · simp only [if_pos s, if_neg (show ¬ a.x - b.x < 0 by omega)]; omega
    · simp only [if_neg s, if_pos (show a.x - b.x < 0 by omega)]; omega
theorem sq_pos {u v : Int} (h : ¬ (u = 0 ∧ v = 0)) : 1 ≤ u * u + v * v := by
  have h1 : 0 ≤ u * u := by rcases Int.le_total 0 u with h | h; exact Int.mul_nonneg h h; exact Int.mul_nonneg_of_nonpos_of_nonpos h h
  have h2 : 0 ≤ v * v := by rcases Int.le_total 0 v with h | h; exact Int.mul_nonneg h h; exact Int.mul_nonneg_of_nonpos_of_nonpos h h
  apply Int.not_lt.1
  intro h3
  have h4 : u * u = 0 := by omega
  have h5 : v * v = 0 := by omega
  have h6 := Int.mul_eq_zero.1 h4
  have h7 := Int.mul_eq_zero.1 h5
  omega
theorem ac_turn {a b : WinP} (x y : Int) (h : ¬ (a.x = b.x ∧ a.y = b.y)) : 1 ≤ acD a b ∧ acD b a = acD a b ∧ acN b a x y = acD a b - acN a b x y := by
  unfold acD acN
  refine ⟨sq_pos (by omega), by grind, by grind⟩
end Go.Proofs.Ytmlhbbkgfffmcaa
