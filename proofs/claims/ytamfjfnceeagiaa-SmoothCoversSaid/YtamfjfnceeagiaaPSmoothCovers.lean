/- SmoothCovers: whatever the input, the law returns true and leaves its arguments as they read. No condition. -/
import Derived.Test.YtamfjfnceeagiaaSmoK
import Derived.Test.YtamfjfnceeagiaaSmoF
import Derived.Test.YtamfjfnceeagiaaESmoothCovers
namespace Go.Proofs.Ytamfjfnceeagiaa
set_option linter.unusedVariables false
set_option linter.unusedSimpArgs false
open Go.RowKit
/-- The fragments of one pixel. -/
theorem smL4_one (a b : WinP) (n x y : Int) (hx : -4194304 ≤ x ∧ x < 4194304) (hy : -4194304 ≤ y ∧ y < 4194304) : ∃ c : Int, cover a b n x y = c ∧ (0 ≤ c ∧ c ≤ 64) ∧ ((c = 0 ∧ smL4 a b n x y (x + 1) (y + 1) = []) ∨ (c ≠ 0 ∧ ∃ f : FrP, smL4 a b n x y (x + 1) (y + 1) = [f] ∧ f.x = x ∧ f.y = y ∧ f.cov = c)) := by
  refine ⟨_, rfl, ?_⟩
  unfold cover smL4
  by_cases h : smoP a b n
  · have hr : rightP x y (x + 1) (y + 1) := by unfold rightP; omega
    rw [if_pos h, if_pos ⟨h, hr⟩]
    have hc : covN a b n x y ≤ 64 := covN_le a b n x y
    refine ⟨by omega, ?_⟩
    unfold smTo
    rw [rng_snoc (Int.le_refl y), rng_nil (Int.le_refl y), List.nil_append, List.flatMap_cons, List.flatMap_nil, List.append_nil]
    by_cases h0 : covN a b n x y = 0
    · exact .inl ⟨by omega, by rw [smRowL_no a b n _ x x y (Int.le_refl x) h0]; exact smRowL_start a b n _ x x y fun z h1 h2 => by omega⟩
    · refine .inr ⟨by omega, smFr a b n x y (smV a b), ?_, rfl, rfl, rfl⟩
      rw [smRowL_yes a b n _ x x y (Int.le_refl x) h0, smRowL_start a b n _ x x y fun z h1 h2 => by omega]
      rfl
  · rw [if_neg h, if_neg fun k => h k.1]
    exact ⟨by omega, .inl ⟨rfl, rfl⟩⟩
set_option maxHeartbeats 4000000 in
theorem covers18_no (a b : WinP) (n x0 y0 x1 y1 x y : Int) (h : ¬ ((-4194304 ≤ x ∧ x < 4194304) ∧ -4194304 ≤ y ∧ y < 4194304)) (w : World) : Calls Try.prog 8 #[lineV a b n x0 y0 x1 y1, .agg #[.int .i64 x, .int .i64 y]] w (Ret (.bool true) w) := by
  by_cases c1 : x < -4194304
  · clear h
    go_enter Try.func8, Try.ntmps8
    go_upto_region 1 with fail
    refine wp_region_ext (by kernel_rfl) (by kernel_rfl) ?_
    repeat (go_big_quiet_step ((fail)))
    refine wpQuiet_nil ?_
    intro _ hw_ext
    obtain ⟨X, hw_ext⟩ := hw_ext
    subst hw_ext
    go_wp2_with (first | (go_at_call 27; (with_reducible refine (awake18 _).mono ?_); rintro _ _ ⟨rfl, X_, rfl⟩))
    go_ret
    exact Ret.of' rfl (by (repeat (first | exact Below.refl _ _ | with_reducible refine Below.drew ?_ | with_reducible refine Below.ext ?_ (by first | exact Nat.le_refl _ | (simp; done) | (simp; omega)) _ | with_reducible refine Below.alloc ?_ (by first | exact Nat.le_refl _ | (simp; done) | (simp; omega)) _ | with_reducible refine Below.setCell ?_ (by first | exact Nat.le_refl _ | (simp; done) | (simp; omega)) _)))
  by_cases c2 : 4194304 ≤ x
  · clear h
    go_enter Try.func8, Try.ntmps8
    go_upto_region 1 with fail
    refine wp_region_ext (by kernel_rfl) (by kernel_rfl) ?_
    repeat (go_big_quiet_step ((fail)))
    refine wpQuiet_nil ?_
    intro _ hw_ext
    obtain ⟨X, hw_ext⟩ := hw_ext
    subst hw_ext
    go_wp2_with (first | (go_at_call 27; (with_reducible refine (awake18 _).mono ?_); rintro _ _ ⟨rfl, X_, rfl⟩))
    go_ret
    exact Ret.of' rfl (by (repeat (first | exact Below.refl _ _ | with_reducible refine Below.drew ?_ | with_reducible refine Below.ext ?_ (by first | exact Nat.le_refl _ | (simp; done) | (simp; omega)) _ | with_reducible refine Below.alloc ?_ (by first | exact Nat.le_refl _ | (simp; done) | (simp; omega)) _ | with_reducible refine Below.setCell ?_ (by first | exact Nat.le_refl _ | (simp; done) | (simp; omega)) _)))
  by_cases c3 : y < -4194304
  · clear h
    go_enter Try.func8, Try.ntmps8
    go_upto_region 1 with fail
    refine wp_region_ext (by kernel_rfl) (by kernel_rfl) ?_
    repeat (go_big_quiet_step ((fail)))
    refine wpQuiet_nil ?_
    intro _ hw_ext
    obtain ⟨X, hw_ext⟩ := hw_ext
    subst hw_ext
    go_wp2_with (first | (go_at_call 27; (with_reducible refine (awake18 _).mono ?_); rintro _ _ ⟨rfl, X_, rfl⟩))
    go_ret
    exact Ret.of' rfl (by (repeat (first | exact Below.refl _ _ | with_reducible refine Below.drew ?_ | with_reducible refine Below.ext ?_ (by first | exact Nat.le_refl _ | (simp; done) | (simp; omega)) _ | with_reducible refine Below.alloc ?_ (by first | exact Nat.le_refl _ | (simp; done) | (simp; omega)) _ | with_reducible refine Below.setCell ?_ (by first | exact Nat.le_refl _ | (simp; done) | (simp; omega)) _)))
  have c4 : 4194304 ≤ y := by omega
  clear h
  go_enter Try.func8, Try.ntmps8
  go_upto_region 1 with fail
  refine wp_region_ext (by kernel_rfl) (by kernel_rfl) ?_
  repeat (go_big_quiet_step ((fail)))
  refine wpQuiet_nil ?_
  intro _ hw_ext
  obtain ⟨X, hw_ext⟩ := hw_ext
  subst hw_ext
  go_wp2_with (first | (go_at_call 27; (with_reducible refine (awake18 _).mono ?_); rintro _ _ ⟨rfl, X_, rfl⟩))
  go_ret
  exact Ret.of' rfl (by (repeat (first | exact Below.refl _ _ | with_reducible refine Below.drew ?_ | with_reducible refine Below.ext ?_ (by first | exact Nat.le_refl _ | (simp; done) | (simp; omega)) _ | with_reducible refine Below.alloc ?_ (by first | exact Nat.le_refl _ | (simp; done) | (simp; omega)) _ | with_reducible refine Below.setCell ?_ (by first | exact Nat.le_refl _ | (simp; done) | (simp; omega)) _)))
set_option maxRecDepth 100000 in
set_option maxHeartbeats 8000000 in
theorem covers18_in (a b : WinP) (n x0 y0 x1 y1 x y : Int) (ha : a.wide) (hb : b.wide) (hx : -4194304 ≤ x ∧ x < 4194304) (hy : -4194304 ≤ y ∧ y < 4194304) (w : World) : Calls Try.prog 8 #[lineV a b n x0 y0 x1 y1, .agg #[.int .i64 x, .int .i64 y]] w (Ret (.bool true) w) := by
  obtain ⟨c, hc, ⟨k0, k1⟩, ho⟩ := smL4_one a b n x y hx hy
  have har : areaP x y (x + 1) (y + 1) ≤ 1048576 := by
    unfold areaP
    rw [if_pos (show rightP x y (x + 1) (y + 1) by unfold rightP; omega), show x + 1 - x = 1 by omega, show y + 1 - y = 1 by omega]
    omega
  have C1 := Lib.hid (fun w => scover_any a b n x y ha hb (by omega) (by omega) (by omega) (by omega) w)
  have C2 := Lib.hid (fun w => rscover_any a b n x y (by omega) (by omega) (by omega) (by omega) w)
  have W1 := Lib.hid (fun w => line_any a b n x y (x + 1) (y + 1) ha hb har w)
  rw [hc] at C1 C2
  obtain ⟨xa, xb⟩ := hx
  obtain ⟨ya, yb⟩ := hy
  clear har hc
  rcases ho with ⟨rfl, hl⟩ | ⟨hne, f, hl, fx, fy, fc⟩
  · rw [hl] at W1
    clear hl
    go_enter Try.func8, Try.ntmps8
    go_upto_region 1 with fail
    refine wp_region_ext (by kernel_rfl) (by kernel_rfl) ?_
    repeat (go_big_quiet_step ((fail)))
    refine wpQuiet_nil ?_
    intro _ hw_ext
    obtain ⟨X, hw_ext⟩ := hw_ext
    subst hw_ext
    go_wp2_with (first
      | (go_at_call 33; (with_reducible refine (C1.out _).mono ?_); rintro _ _ ⟨rfl, X_, rfl⟩)
      | (go_at_call 34; (with_reducible refine (C2.out _).mono ?_); rintro _ _ ⟨rfl, X_, rfl⟩)
      | (go_at_call 27; (with_reducible refine (awake18 _).mono ?_); rintro _ _ ⟨rfl, X_, rfl⟩)
      | (go_at_call 31; (with_reducible refine (W1.out _).mono ?_); rintro _ _ ⟨v, rfl, hv, ⟨XF, rfl⟩⟩; obtain ⟨-, av, cap, rfl, -, -⟩ := hv))
    go_ret
    exact Ret.of' rfl (by (repeat (first | exact Below.refl _ _ | with_reducible refine Below.drew ?_ | with_reducible refine Below.ext ?_ (by first | exact Nat.le_refl _ | (simp; done) | (simp; omega)) _ | with_reducible refine Below.alloc ?_ (by first | exact Nat.le_refl _ | (simp; done) | (simp; omega)) _ | with_reducible refine Below.setCell ?_ (by first | exact Nat.le_refl _ | (simp; done) | (simp; omega)) _)))
  · rw [hl] at W1
    have z0 : (c == 0) = false := by simp [hne]
    have z1 : decide (c = 0) = false := by simp [hne]
    subst fx fy fc
    clear hl
    go_enter Try.func8, Try.ntmps8
    go_upto_region 1 with fail
    refine wp_region_ext (by kernel_rfl) (by kernel_rfl) ?_
    repeat (go_big_quiet_step ((fail)))
    refine wpQuiet_nil ?_
    intro _ hw_ext
    obtain ⟨X, hw_ext⟩ := hw_ext
    subst hw_ext
    go_upto_region 8 with (first
      | (go_at_call 33; (with_reducible refine (C1.out _).mono ?_); rintro _ _ ⟨rfl, X_, rfl⟩)
      | (go_at_call 34; (with_reducible refine (C2.out _).mono ?_); rintro _ _ ⟨rfl, X_, rfl⟩)
      | (go_at_call 31; (with_reducible refine (W1.out _).mono ?_); rintro _ _ ⟨v, rfl, hv, ⟨XF, rfl⟩⟩; have HV := Lib.hid hv; obtain ⟨-, av, cap, rfl, -, -⟩ := hv))
    refine wp_abs (F := fun w1 => Recs frK w1 (.slice av 1 cap) [f] ∧ ∃ X, w1 = w.ext X) ⟨HV.out.ext _, RowKit.Below.toExt (by (repeat (first | exact Below.refl _ _ | with_reducible refine Below.drew ?_ | with_reducible refine Below.ext ?_ (by first | exact Nat.le_refl _ | (simp; done) | (simp; omega)) _ | with_reducible refine Below.alloc ?_ (by first | exact Nat.le_refl _ | (simp; done) | (simp; omega)) _ | with_reducible refine Below.setCell ?_ (by first | exact Nat.le_refl _ | (simp; done) | (simp; omega)) _)))⟩ ?_
    rintro w1 ⟨⟨-, av', cap', hq, -, hcl⟩, hX⟩
    obtain ⟨rfl, rfl⟩ : av = av' ∧ cap = cap' := by simpa using hq
    have HX := Lib.hid hX
    rcases hcl with hcl | ⟨q, o, rfl, hb, hc⟩
    · cases hcl
    have d0 := hc 0 _ rfl 0 _ rfl
    have d1 := hc 0 _ rfl 1 _ rfl
    have d7 := hc 0 _ rfl 7 _ rfl
    simp only [frK, Nat.zero_mul, Nat.add_zero] at d0 d1 d7
    have hb' : q ≤ w1.heap.size := by omega
    clear hc hq HV hX W1 C1 C2
    go_wp2_with (first | (go_at_call 27; (with_reducible refine (awake18 _).mono ?_); rintro _ _ ⟨rfl, X_, rfl⟩))
    go_ret
    obtain ⟨X0, hX0⟩ := HX.out
    subst hX0
    exact Ret.of' (by simp) (by (repeat (first | exact Below.refl _ _ | with_reducible refine Below.drew ?_ | with_reducible refine Below.ext ?_ (by first | exact Nat.le_refl _ | (simp; done) | (simp; omega)) _ | with_reducible refine Below.alloc ?_ (by first | exact Nat.le_refl _ | (simp; done) | (simp; omega)) _ | with_reducible refine Below.setCell ?_ (by first | exact Nat.le_refl _ | (simp; done) | (simp; omega)) _)))
theorem SmoothCovers_all : SmoothCovers_stmt := by
  rintro aX aY aZ aC0 aC1 aC2 aC3 bX bY bZ bC0 bC1 bC2 bC3 n x0 y0 x1 y1 x y w ⟨h1, h2, h3, h4, h5, h6, h7, g1, g2, g3, g4, g5, g6, g7, -⟩ _
  by_cases h : (-4194304 ≤ x ∧ x < 4194304) ∧ -4194304 ≤ y ∧ y < 4194304
  · exact covers18_in ⟨aX, aY, aZ, aC0, aC1, aC2, aC3⟩ ⟨bX, bY, bZ, bC0, bC1, bC2, bC3⟩ n x0 y0 x1 y1 x y ⟨h1, h2, h3, h4, h5, h6, h7⟩ ⟨g1, g2, g3, g4, g5, g6, g7⟩ h.1 h.2 w
  · exact covers18_no ⟨aX, aY, aZ, aC0, aC1, aC2, aC3⟩ ⟨bX, bY, bZ, bC0, bC1, bC2, bC3⟩ n x0 y0 x1 y1 x y h w
theorem SmoothCovers_holds : Rows.SmoothCoversSaid := SmoothCovers_end SmoothCovers_all
end Go.Proofs.Ytamfjfnceeagiaa
