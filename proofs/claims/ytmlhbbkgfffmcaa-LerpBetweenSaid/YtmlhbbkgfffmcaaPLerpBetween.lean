/- LerpBetween: whatever the input, the law returns true and leaves its arguments as they read. No condition. -/
import Derived.Test.YtmlhbbkgfffmcaaLerpBX
import Derived.Test.YtmlhbbkgfffmcaaLerpBY
import Derived.Test.YtmlhbbkgfffmcaaELerpBetween
namespace Go.Proofs.Ytmlhbbkgfffmcaa
set_option linter.unusedVariables false
set_option linter.unusedSimpArgs false
open Go.RowKit
set_option maxRecDepth 100000 in
set_option maxHeartbeats 8000000 in
theorem between_out (a b : WinP) (x y : Int) (h : ¬ (a.fitsP ∧ b.fitsP ∧ nearP x y ∧ ¬ (a.x = b.x ∧ a.y = b.y))) (w : World) : Calls Try.prog 13 #[a.v, b.v, .agg #[.int .i64 x, .int .i64 y]] w (Ret (.bool true) w) := by
  have F1 := Lib.hid (fun w => fits16_any a w)
  have F2 := Lib.hid (fun w => fits16_any b w)
  have F3 := Lib.hid (fun w => near16_any x y w)
  by_cases ha : a.fitsP
  · by_cases hb : b.fitsP
    · by_cases hx : nearP x y
      · obtain ⟨h1, h2⟩ : a.x = b.x ∧ a.y = b.y := by
          apply Classical.byContradiction
          intro hh
          exact h ⟨ha, hb, hx, hh⟩
        have hxb : (a.x == b.x) = true := by simp [h1]
        have hyb : (a.y == b.y) = true := by simp [h2]
        simp only [ha, hb, hx, decide_true] at F1 F2 F3
        clear h h1 h2 ha hb hx
        go_enter Try.func13, Try.ntmps13
        go_wp2_with (first | (go_at_call 56; (with_reducible refine (F1.out _).mono ?_); rintro _ _ ⟨rfl, X_, rfl⟩) | (go_at_call 56; (with_reducible refine (F2.out _).mono ?_); rintro _ _ ⟨rfl, X_, rfl⟩) | (go_at_call 57; (with_reducible refine (F3.out _).mono ?_); rintro _ _ ⟨rfl, X_, rfl⟩) | (go_at_call 33; (with_reducible refine (awake16 _).mono ?_); rintro _ _ ⟨rfl, X_, rfl⟩))
        go_ret
        exact Ret.of' (by simp) (by (repeat (first | exact Below.refl _ _ | with_reducible refine Below.drew ?_ | with_reducible refine Below.ext ?_ (by first | exact Nat.le_refl _ | (simp; done) | (simp; omega)) _ | with_reducible refine Below.alloc ?_ (by first | exact Nat.le_refl _ | (simp; done) | (simp; omega)) _ | with_reducible refine Below.setCell ?_ (by first | exact Nat.le_refl _ | (simp; done) | (simp; omega)) _)))
      · simp only [ha, hb, hx, decide_true, decide_false] at F1 F2 F3
        clear h ha hb hx
        go_enter Try.func13, Try.ntmps13
        go_wp2_with (first | (go_at_call 56; (with_reducible refine (F1.out _).mono ?_); rintro _ _ ⟨rfl, X_, rfl⟩) | (go_at_call 56; (with_reducible refine (F2.out _).mono ?_); rintro _ _ ⟨rfl, X_, rfl⟩) | (go_at_call 57; (with_reducible refine (F3.out _).mono ?_); rintro _ _ ⟨rfl, X_, rfl⟩) | (go_at_call 33; (with_reducible refine (awake16 _).mono ?_); rintro _ _ ⟨rfl, X_, rfl⟩))
        go_ret
        exact Ret.of' (by simp) (by (repeat (first | exact Below.refl _ _ | with_reducible refine Below.drew ?_ | with_reducible refine Below.ext ?_ (by first | exact Nat.le_refl _ | (simp; done) | (simp; omega)) _ | with_reducible refine Below.alloc ?_ (by first | exact Nat.le_refl _ | (simp; done) | (simp; omega)) _ | with_reducible refine Below.setCell ?_ (by first | exact Nat.le_refl _ | (simp; done) | (simp; omega)) _)))
    · simp only [ha, hb, decide_true, decide_false] at F1 F2
      clear h ha hb
      go_enter Try.func13, Try.ntmps13
      go_wp2_with (first | (go_at_call 56; (with_reducible refine (F1.out _).mono ?_); rintro _ _ ⟨rfl, X_, rfl⟩) | (go_at_call 56; (with_reducible refine (F2.out _).mono ?_); rintro _ _ ⟨rfl, X_, rfl⟩) | (go_at_call 33; (with_reducible refine (awake16 _).mono ?_); rintro _ _ ⟨rfl, X_, rfl⟩))
      go_ret
      exact Ret.of' (by simp) (by (repeat (first | exact Below.refl _ _ | with_reducible refine Below.drew ?_ | with_reducible refine Below.ext ?_ (by first | exact Nat.le_refl _ | (simp; done) | (simp; omega)) _ | with_reducible refine Below.alloc ?_ (by first | exact Nat.le_refl _ | (simp; done) | (simp; omega)) _ | with_reducible refine Below.setCell ?_ (by first | exact Nat.le_refl _ | (simp; done) | (simp; omega)) _)))
  · simp only [ha, decide_false] at F1
    clear h ha
    go_enter Try.func13, Try.ntmps13
    go_wp2_with (first | (go_at_call 56; (with_reducible refine (F1.out _).mono ?_); rintro _ _ ⟨rfl, X_, rfl⟩) | (go_at_call 33; (with_reducible refine (awake16 _).mono ?_); rintro _ _ ⟨rfl, X_, rfl⟩))
    go_ret
    exact Ret.of' (by simp) (by (repeat (first | exact Below.refl _ _ | with_reducible refine Below.drew ?_ | with_reducible refine Below.ext ?_ (by first | exact Nat.le_refl _ | (simp; done) | (simp; omega)) _ | with_reducible refine Below.alloc ?_ (by first | exact Nat.le_refl _ | (simp; done) | (simp; omega)) _ | with_reducible refine Below.setCell ?_ (by first | exact Nat.le_refl _ | (simp; done) | (simp; omega)) _)))
theorem LerpBetween_all : LerpBetween_stmt := by
  intro aX aY aZ aC0 aC1 aC2 aC3 bX bY bZ bC0 bC1 bC2 bC3 c0 c1 w ha hb hc
  let a : WinP := ⟨aX, aY, aZ, aC0, aC1, aC2, aC3⟩
  let b : WinP := ⟨bX, bY, bZ, bC0, bC1, bC2, bC3⟩
  by_cases h : a.fitsP ∧ b.fitsP ∧ nearP c0 c1 ∧ ¬ (a.x = b.x ∧ a.y = b.y)
  · obtain ⟨h1, h2, h3, h4⟩ := h
    by_cases hx : a.x = b.x
    · exact between_y a b c0 c1 h1 h2 h3 hx (fun hy => h4 ⟨hx, hy⟩) w
    · exact between_x a b c0 c1 h1 h2 h3 hx w
  · exact between_out a b c0 c1 h w
theorem LerpBetween_holds : Rows.LerpBetweenSaid := LerpBetween_end LerpBetween_all
end Go.Proofs.Ytmlhbbkgfffmcaa
