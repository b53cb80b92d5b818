/- The walks of the laws of layer 21: their guards; awake. No condition. -/
import Derived.Test.YtamfjfnceeagiaaSlopeI
namespace Go.Proofs.Ytamfjfnceeagiaa
set_option linter.unusedVariables false
set_option linter.unusedSimpArgs false
open Go.RowKit
set_option maxHeartbeats 2000000 in
theorem rmay17_any (a : WinP) (w : World) : Calls Try.prog 53 #[a.v] w (Ret (.bool (decide a.fitsP)) w) := by
  go_enter Try.func53, Try.ntmps53
  go_wp2
  refine wp_loop_rounds 5 ?_
  iterate 5 try any_goals (rw [rounds_succ]; go_wp2)
  all_goals go_ret
  all_goals refine Ret.of' ?_ (by (repeat (first | exact Below.refl _ _ | with_reducible refine Below.drew ?_ | with_reducible refine Below.ext ?_ (by first | exact Nat.le_refl _ | (simp; done) | (simp; omega)) _ | with_reducible refine Below.alloc ?_ (by first | exact Nat.le_refl _ | (simp; done) | (simp; omega)) _ | with_reducible refine Below.setCell ?_ (by first | exact Nat.le_refl _ | (simp; done) | (simp; omega)) _)))
  all_goals first
    | (refine bool_t ?_; unfold WinP.fitsP; omega)
    | (refine bool_f ?_; unfold WinP.fitsP; omega)
    | (refine bool_d ?_; unfold WinP.fitsP; omega)
/-- A triangle, an offset's factor and units. -/
abbrev faceL (a b c : WinP) (f u : Int) : Value := .agg #[.int .i64 a.x, .int .i64 a.y, .int .i64 a.z, .int .i64 a.c0, .int .i64 a.c1, .int .i64 a.c2, .int .i64 a.c3, .int .i64 b.x, .int .i64 b.y, .int .i64 b.z, .int .i64 b.c0, .int .i64 b.c1, .int .i64 b.c2, .int .i64 b.c3, .int .i64 c.x, .int .i64 c.y, .int .i64 c.z, .int .i64 c.c0, .int .i64 c.c1, .int .i64 c.c2, .int .i64 c.c3, .int .i64 f, .int .i64 u]
def factP (f u : Int) : Prop := (-65536 ≤ f ∧ f ≤ 65536) ∧ -16777216 ≤ u ∧ u ≤ 16777216
instance (f u : Int) : Decidable (factP f u) := by unfold factP; exact inferInstance
def mayF (a b c : WinP) (f u : Int) : Prop := a.fitsP ∧ b.fitsP ∧ c.fitsP ∧ factP f u
instance (a b c : WinP) (f u : Int) : Decidable (mayF a b c f u) := by unfold mayF; exact inferInstance
set_option maxRecDepth 100000 in
set_option maxHeartbeats 4000000 in
theorem may21_any (a b c : WinP) (f u : Int) (w : World) : Calls Try.prog 19 #[faceL a b c f u] w (Ret (.bool (decide (mayF a b c f u))) w) := by
  have M1 := Lib.hid (fun w => rmay17_any a w)
  have M2 := Lib.hid (fun w => rmay17_any b w)
  have M3 := Lib.hid (fun w => rmay17_any c w)
  have H2 : decide (mayF a b c f u) = (decide a.fitsP && (decide b.fitsP && (decide c.fitsP && decide (factP f u)))) := by
    rw [← Bool.decide_and, ← Bool.decide_and, ← Bool.decide_and]; exact decide_eq_decide.2 Iff.rfl
  rw [H2]
  clear H2
  obtain ⟨m1, e1⟩ : ∃ l, decide a.fitsP = l := ⟨_, rfl⟩
  obtain ⟨m2, e2⟩ : ∃ l, decide b.fitsP = l := ⟨_, rfl⟩
  obtain ⟨m3, e3⟩ : ∃ l, decide c.fitsP = l := ⟨_, rfl⟩
  rw [e1] at M1 ⊢
  rw [e2] at M2 ⊢
  rw [e3] at M3 ⊢
  clear e1 e2 e3
  cases m1 <;> cases m2 <;> cases m3
  all_goals
    go_enter Try.func19, Try.ntmps19
    go_wp2_with (first | (go_at_call 53; (with_reducible refine (M1.out _).mono ?_); rintro _ _ ⟨rfl, X_, rfl⟩) | (go_at_call 53; (with_reducible refine (M2.out _).mono ?_); rintro _ _ ⟨rfl, X_, rfl⟩) | (go_at_call 53; (with_reducible refine (M3.out _).mono ?_); rintro _ _ ⟨rfl, X_, rfl⟩))
    all_goals go_ret
    all_goals refine Ret.of' ?_ (by (repeat (first | exact Below.refl _ _ | with_reducible refine Below.drew ?_ | with_reducible refine Below.ext ?_ (by first | exact Nat.le_refl _ | (simp; done) | (simp; omega)) _ | with_reducible refine Below.alloc ?_ (by first | exact Nat.le_refl _ | (simp; done) | (simp; omega)) _ | with_reducible refine Below.setCell ?_ (by first | exact Nat.le_refl _ | (simp; done) | (simp; omega)) _)))
    all_goals simp only [Bool.true_and, Bool.false_and]
    all_goals first
      | rfl
      | (refine bool_t ?_; unfold factP; omega)
      | (refine bool_f ?_; unfold factP; omega)
      | (refine bool_d ?_; unfold factP; omega)
def hasF (a b c : WinP) (x y : Int) : Prop := nearP x y ∧ triHas a b c x y
instance (a b c : WinP) (x y : Int) : Decidable (hasF a b c x y) := by unfold hasF; exact inferInstance
set_option maxRecDepth 100000 in
set_option maxHeartbeats 4000000 in
theorem has21_any (a b c : WinP) (f u x y : Int) (ha : a.fits) (hb : b.fits) (hc : c.fits) (w : World) : Calls Try.prog 23 #[faceL a b c f u, .agg #[.int .i64 x, .int .i64 y]] w (Ret (.bool (decide (hasF a b c x y))) w) := by
  have H2 : decide (hasF a b c x y) = (decide (nearP x y) && decide (triHas a b c x y)) := by
    rw [← Bool.decide_and]; exact decide_eq_decide.2 Iff.rfl
  rw [H2]
  clear H2
  by_cases hn : nearP x y
  · have T := Lib.hid (fun w => rhas20_any a b c x y ha hb hc hn.f w)
    obtain ⟨t, e⟩ : ∃ t, decide (triHas a b c x y) = t := ⟨_, rfl⟩
    rw [e] at T ⊢
    simp only [hn, decide_true, Bool.true_and]
    obtain ⟨⟨x0, x1⟩, y0, y1⟩ := hn
    clear e ha hb hc
    go_enter Try.func23, Try.ntmps23
    go_wp2_with (first | (go_at_call 73; (with_reducible refine (T.out _).mono ?_); rintro _ _ ⟨rfl, X_, rfl⟩))
    go_ret
    exact Ret.of' rfl (by (repeat (first | exact Below.refl _ _ | with_reducible refine Below.drew ?_ | with_reducible refine Below.ext ?_ (by first | exact Nat.le_refl _ | (simp; done) | (simp; omega)) _ | with_reducible refine Below.alloc ?_ (by first | exact Nat.le_refl _ | (simp; done) | (simp; omega)) _ | with_reducible refine Below.setCell ?_ (by first | exact Nat.le_refl _ | (simp; done) | (simp; omega)) _)))
  · simp only [hn, decide_false, Bool.false_and]
    have hn' : ¬ ((-4194304 ≤ x ∧ x ≤ 4194304) ∧ -4194304 ≤ y ∧ y ≤ 4194304) := hn
    clear hn ha hb hc
    go_enter Try.func23, Try.ntmps23
    go_wp2_with (fail)
    all_goals first
      | (exfalso; omega)
      | (go_ret; exact Ret.of' rfl (by (repeat (first | exact Below.refl _ _ | with_reducible refine Below.drew ?_ | with_reducible refine Below.ext ?_ (by first | exact Nat.le_refl _ | (simp; done) | (simp; omega)) _ | with_reducible refine Below.alloc ?_ (by first | exact Nat.le_refl _ | (simp; done) | (simp; omega)) _ | with_reducible refine Below.setCell ?_ (by first | exact Nat.le_refl _ | (simp; done) | (simp; omega)) _))))
theorem awake21 (w : World) : Calls Try.prog 20 #[] w (Ret (.bool true) w) := by
  have fa : (⟨0, 0, 0, 0, 0, 0, 0⟩ : WinP).fits := by constructor <;> first | decide | (constructor <;> decide)
  have fb : (⟨1024, 0, 1000, 0, 0, 0, 0⟩ : WinP).fits := by constructor <;> first | decide | (constructor <;> decide)
  have fc : (⟨0, 1024, 0, 0, 0, 0, 0⟩ : WinP).fits := by constructor <;> first | decide | (constructor <;> decide)
  have A := Lib.hid (fun w => at21_any ⟨0, 0, 0, 0, 0, 0, 0⟩ ⟨1024, 0, 1000, 0, 0, 0, 0⟩ ⟨0, 1024, 0, 0, 0, 0, 0⟩ 1 1 fa fb fc ⟨by decide, by decide, by decide, by decide⟩ (by decide) w)
  have O := Lib.hid (fun w => offset21_any ⟨0, 0, 0, 0, 0, 0, 0⟩ ⟨1024, 0, 1000, 0, 0, 0, 0⟩ ⟨0, 1024, 0, 0, 0, 0, 0⟩ 256 0 fa fb fc (by decide) (by decide) (by decide) (by decide) w)
  rw [show atT ⟨0, 0, 0, 0, 0, 0, 0⟩ (triB ⟨0, 0, 0, 0, 0, 0, 0⟩ ⟨1024, 0, 1000, 0, 0, 0, 0⟩ ⟨0, 1024, 0, 0, 0, 0, 0⟩) (triC ⟨0, 0, 0, 0, 0, 0, 0⟩ ⟨1024, 0, 1000, 0, 0, 0, 0⟩ ⟨0, 1024, 0, 0, 0, 0, 0⟩) (triN ⟨0, 0, 0, 0, 0, 0, 0⟩ ⟨1024, 0, 1000, 0, 0, 0, 0⟩ ⟨0, 1024, 0, 0, 0, 0, 0⟩) 1 1 = .tuple #[.int .i64 375, C4 0 0 0 0] by kernel_rfl] at A
  rw [show offV ⟨0, 0, 0, 0, 0, 0, 0⟩ ⟨1024, 0, 1000, 0, 0, 0, 0⟩ ⟨0, 1024, 0, 0, 0, 0, 0⟩ 256 0 = 250 by kernel_rfl] at O
  clear fa fb fc
  go_enter Try.func20, Try.ntmps20
  go_wp2_with (first | (go_at_call 24; (with_reducible refine (A.out _).mono ?_); rintro _ _ ⟨rfl, X_, rfl⟩) | (go_at_call 21; (with_reducible refine (O.out _).mono ?_); rintro _ _ ⟨rfl, X_, rfl⟩))
  go_ret
  exact Ret.of' rfl (by (repeat (first | exact Below.refl _ _ | with_reducible refine Below.drew ?_ | with_reducible refine Below.ext ?_ (by first | exact Nat.le_refl _ | (simp; done) | (simp; omega)) _ | with_reducible refine Below.alloc ?_ (by first | exact Nat.le_refl _ | (simp; done) | (simp; omega)) _ | with_reducible refine Below.setCell ?_ (by first | exact Nat.le_refl _ | (simp; done) | (simp; omega)) _)))
end Go.Proofs.Ytamfjfnceeagiaa
