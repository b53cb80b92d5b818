/- LerpTells: whatever the input, the law returns true and leaves its arguments as they read. No condition. -/
import Derived.Test.YtmlhbbkgfffmcaaLerpF
import Derived.Test.YtmlhbbkgfffmcaaLerpD
import Derived.Test.YtmlhbbkgfffmcaaELerpTells
namespace Go.Proofs.Ytmlhbbkgfffmcaa
set_option linter.unusedVariables false
set_option linter.unusedSimpArgs false
open Go.RowKit
set_option maxRecDepth 100000 in
set_option maxHeartbeats 8000000 in
theorem tells16_out (a b : WinP) (x y : Int) (h : ¬ (a.fitsP ∧ b.fitsP ∧ nearP x y)) (w : World) : Calls Try.prog 12 #[a.v, b.v, .agg #[.int .i64 x, .int .i64 y]] w (Ret (.bool true) w) := by
  have F1 := Lib.hid (fun w => fits16_any a w)
  have F2 := Lib.hid (fun w => fits16_any b w)
  have F3 := Lib.hid (fun w => near16_any x y w)
  by_cases ha : a.fitsP
  · by_cases hb : b.fitsP
    · have hx : ¬ nearP x y := fun hx => h ⟨ha, hb, hx⟩
      simp only [ha, hb, hx, decide_true, decide_false] at F1 F2 F3
      clear h ha hb hx
      go_enter Try.func12, Try.ntmps12
      go_wp2_with (first | (go_at_call 56; (with_reducible refine (F1.out _).mono ?_); rintro _ _ ⟨rfl, X_, rfl⟩) | (go_at_call 56; (with_reducible refine (F2.out _).mono ?_); rintro _ _ ⟨rfl, X_, rfl⟩) | (go_at_call 57; (with_reducible refine (F3.out _).mono ?_); rintro _ _ ⟨rfl, X_, rfl⟩) | (go_at_call 33; (with_reducible refine (awake16 _).mono ?_); rintro _ _ ⟨rfl, X_, rfl⟩))
      go_ret
      exact Ret.of' (by simp) (by (repeat (first | exact Below.refl _ _ | with_reducible refine Below.drew ?_ | with_reducible refine Below.ext ?_ (by first | exact Nat.le_refl _ | (simp; done) | (simp; omega)) _ | with_reducible refine Below.alloc ?_ (by first | exact Nat.le_refl _ | (simp; done) | (simp; omega)) _ | with_reducible refine Below.setCell ?_ (by first | exact Nat.le_refl _ | (simp; done) | (simp; omega)) _)))
    · simp only [ha, hb, decide_true, decide_false] at F1 F2
      clear h ha hb
      go_enter Try.func12, Try.ntmps12
      go_wp2_with (first | (go_at_call 56; (with_reducible refine (F1.out _).mono ?_); rintro _ _ ⟨rfl, X_, rfl⟩) | (go_at_call 56; (with_reducible refine (F2.out _).mono ?_); rintro _ _ ⟨rfl, X_, rfl⟩) | (go_at_call 33; (with_reducible refine (awake16 _).mono ?_); rintro _ _ ⟨rfl, X_, rfl⟩))
      go_ret
      exact Ret.of' (by simp) (by (repeat (first | exact Below.refl _ _ | with_reducible refine Below.drew ?_ | with_reducible refine Below.ext ?_ (by first | exact Nat.le_refl _ | (simp; done) | (simp; omega)) _ | with_reducible refine Below.alloc ?_ (by first | exact Nat.le_refl _ | (simp; done) | (simp; omega)) _ | with_reducible refine Below.setCell ?_ (by first | exact Nat.le_refl _ | (simp; done) | (simp; omega)) _)))
  · simp only [ha, decide_false] at F1
    clear h ha
    go_enter Try.func12, Try.ntmps12
    go_wp2_with (first | (go_at_call 56; (with_reducible refine (F1.out _).mono ?_); rintro _ _ ⟨rfl, X_, rfl⟩) | (go_at_call 33; (with_reducible refine (awake16 _).mono ?_); rintro _ _ ⟨rfl, X_, rfl⟩))
    go_ret
    exact Ret.of' (by simp) (by (repeat (first | exact Below.refl _ _ | with_reducible refine Below.drew ?_ | with_reducible refine Below.ext ?_ (by first | exact Nat.le_refl _ | (simp; done) | (simp; omega)) _ | with_reducible refine Below.alloc ?_ (by first | exact Nat.le_refl _ | (simp; done) | (simp; omega)) _ | with_reducible refine Below.setCell ?_ (by first | exact Nat.le_refl _ | (simp; done) | (simp; omega)) _)))
set_option maxRecDepth 100000 in
set_option maxHeartbeats 8000000 in
theorem tells16_in (a b : WinP) (x y : Int) (ha : a.fitsP) (hb : b.fitsP) (hx : nearP x y) (w : World) : Calls Try.prog 12 #[a.v, b.v, .agg #[.int .i64 x, .int .i64 y]] w (Ret (.bool true) w) := by
  have F1 := Lib.hid (fun w => fits16_any a w)
  have F2 := Lib.hid (fun w => fits16_any b w)
  have F3 := Lib.hid (fun w => near16_any x y w)
  simp only [ha, hb, hx, decide_true] at F1 F2 F3
  have A1 := Lib.hid (fun w => along_any a b x y ha.f hb.f hx.f w)
  have A2 := Lib.hid (fun w => ralong_any a b x y ha.f hb.f hx.f w)
  have B1 := Lib.hid (fun w => across_any a b x y ha.f hb.f hx.f w)
  have B2 := Lib.hid (fun w => racross_any a b x y ha.f hb.f hx.f w)
  unfold mixed at A1 A2 B1 B2
  generalize mid a.z b.z (alN a b x y) (alD a b) = z1 at *
  generalize mid a.c0 b.c0 (alN a b x y) (alD a b) = z2 at *
  generalize mid a.c1 b.c1 (alN a b x y) (alD a b) = z3 at *
  generalize mid a.c2 b.c2 (alN a b x y) (alD a b) = z4 at *
  generalize mid a.c3 b.c3 (alN a b x y) (alD a b) = z5 at *
  generalize mid a.z b.z (acN a b x y) (acD a b) = y1 at *
  generalize mid a.c0 b.c0 (acN a b x y) (acD a b) = y2 at *
  generalize mid a.c1 b.c1 (acN a b x y) (acD a b) = y3 at *
  generalize mid a.c2 b.c2 (acN a b x y) (acD a b) = y4 at *
  generalize mid a.c3 b.c3 (acN a b x y) (acD a b) = y5 at *
  clear ha hb hx
  go_enter Try.func12, Try.ntmps12
  go_wp2_with (first | (go_at_call 56; (with_reducible refine (F1.out _).mono ?_); rintro _ _ ⟨rfl, X_, rfl⟩) | (go_at_call 56; (with_reducible refine (F2.out _).mono ?_); rintro _ _ ⟨rfl, X_, rfl⟩) | (go_at_call 57; (with_reducible refine (F3.out _).mono ?_); rintro _ _ ⟨rfl, X_, rfl⟩) | (go_at_call 58; (with_reducible refine (A1.out _).mono ?_); rintro _ _ ⟨rfl, X_, rfl⟩) | (go_at_call 59; (with_reducible refine (A2.out _).mono ?_); rintro _ _ ⟨rfl, X_, rfl⟩) | (go_at_call 60; (with_reducible refine (B1.out _).mono ?_); rintro _ _ ⟨rfl, X_, rfl⟩) | (go_at_call 61; (with_reducible refine (B2.out _).mono ?_); rintro _ _ ⟨rfl, X_, rfl⟩) | (go_at_call 33; (with_reducible refine (awake16 _).mono ?_); rintro _ _ ⟨rfl, X_, rfl⟩))
  go_ret
  exact Ret.of' (by simp) (by (repeat (first | exact Below.refl _ _ | with_reducible refine Below.drew ?_ | with_reducible refine Below.ext ?_ (by first | exact Nat.le_refl _ | (simp; done) | (simp; omega)) _ | with_reducible refine Below.alloc ?_ (by first | exact Nat.le_refl _ | (simp; done) | (simp; omega)) _ | with_reducible refine Below.setCell ?_ (by first | exact Nat.le_refl _ | (simp; done) | (simp; omega)) _)))
theorem LerpTells_all : LerpTells_stmt := by
  intro aX aY aZ aC0 aC1 aC2 aC3 bX bY bZ bC0 bC1 bC2 bC3 c0 c1 w ha hb hc
  let a : WinP := ⟨aX, aY, aZ, aC0, aC1, aC2, aC3⟩
  let b : WinP := ⟨bX, bY, bZ, bC0, bC1, bC2, bC3⟩
  by_cases h : a.fitsP ∧ b.fitsP ∧ nearP c0 c1
  · exact tells16_in a b c0 c1 h.1 h.2.1 h.2.2 w
  · exact tells16_out a b c0 c1 h w
theorem LerpTells_holds : Rows.LerpTellsSaid := LerpTells_end LerpTells_all
end Go.Proofs.Ytmlhbbkgfffmcaa
