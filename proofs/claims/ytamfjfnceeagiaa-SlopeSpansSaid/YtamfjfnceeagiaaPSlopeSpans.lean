/- SlopeSpans: whatever the input, the law returns true and leaves its arguments as they read. No condition. -/
import Derived.Test.YtamfjfnceeagiaaSpanG
import Derived.Test.YtamfjfnceeagiaaSlopeL
import Derived.Test.YtamfjfnceeagiaaESlopeSpans
namespace Go.Proofs.Ytamfjfnceeagiaa
set_option linter.unusedVariables false
set_option linter.unusedSimpArgs false
open Go.RowKit
theorem fillTo_get (a b c : WinP) (o : Int) (S : List SpP) (k : Nat) (s : SpP) (hs : S[k]? = some s) (x : Int) (h0 : s.x0 ≤ x) (h1 : x < s.x1) : (fillTo a b c o S)[(fillTo a b c o (S.take k)).length + (x - s.x0).toNat]? = some (frAt a b c o x s.y) := by
  obtain ⟨hk, rfl⟩ := List.getElem?_eq_some_iff.1 hs
  have e : fillTo a b c o S = fillTo a b c o (S.take k) ++ (fillRow a b c o S[k] ++ fillTo a b c o (S.drop (k + 1))) := by
    rw [← List.append_assoc, ← fillTo_take a b c o S k hk, ← fillTo_append, List.take_append_drop]
  have l : (fillRow a b c o S[k]).length = (S[k].x1 - S[k].x0).toNat := by unfold fillRow; rw [List.length_map, ints_len]
  rw [e, List.getElem?_append_right (by omega), Nat.add_sub_cancel_left, List.getElem?_append_left (by omega)]
  unfold fillRow ints
  rw [List.getElem?_map, List.getElem?_map, List.getElem?_range (by omega)]
  simp only [Option.map_some]
  rw [show S[k].x0 + ((x - S[k].x0).toNat : Int) = x by omega]
theorem fillTo_next (a b c : WinP) (o : Int) (S : List SpP) (k : Nat) (s : SpP) (hs : S[k]? = some s) : (fillTo a b c o (S.take (k + 1))).length = (fillTo a b c o (S.take k)).length + (s.x1 - s.x0).toNat := by
  obtain ⟨hk, rfl⟩ := List.getElem?_eq_some_iff.1 hs
  rw [fillTo_take a b c o S k hk, List.length_append]
  unfold fillRow
  rw [List.length_map, ints_len]
set_option maxHeartbeats 4000000 in
theorem spans21_no (a b c : WinP) (f u o x0 y0 x1 y1 : Int) (h : ¬ mayF a b c f u ∨ o < -33554432 ∨ 33554432 < o ∨ 600 < areaP x0 y0 x1 y1) (w : World) : Calls Try.prog 13 #[faceL a b c f u, .int .i64 o, R4 x0 y0 x1 y1] w (Ret (.bool true) w) := by
  have M := fun w => may21_any a b c f u w
  have A := Lib.hid (fun w => rrect_area x0 y0 x1 y1 w)
  generalize areaP x0 y0 x1 y1 = ar at *
  by_cases hm : mayF a b c f u
  · simp only [hm, decide_true] at M
    have M1 := Lib.hid M
    have h1 : o < -33554432 ∨ 33554432 < o ∨ 600 < ar := h.resolve_left fun k => k hm
    clear M h hm
    by_cases c1 : o < -33554432
    · clear h1
      go_enter Try.func13, Try.ntmps13
      go_wp2_with (first | (go_at_call 19; (with_reducible refine (M1.out _).mono ?_); rintro _ _ ⟨rfl, X_, rfl⟩) | (go_at_call 20; (with_reducible refine (awake21 _).mono ?_); rintro _ _ ⟨rfl, X_, rfl⟩))
      go_ret
      exact Ret.of' rfl (by (repeat (first | exact Below.refl _ _ | with_reducible refine Below.drew ?_ | with_reducible refine Below.ext ?_ (by first | exact Nat.le_refl _ | (simp; done) | (simp; omega)) _ | with_reducible refine Below.alloc ?_ (by first | exact Nat.le_refl _ | (simp; done) | (simp; omega)) _ | with_reducible refine Below.setCell ?_ (by first | exact Nat.le_refl _ | (simp; done) | (simp; omega)) _)))
    · by_cases c2 : 33554432 < o
      · clear h1
        go_enter Try.func13, Try.ntmps13
        go_wp2_with (first | (go_at_call 19; (with_reducible refine (M1.out _).mono ?_); rintro _ _ ⟨rfl, X_, rfl⟩) | (go_at_call 20; (with_reducible refine (awake21 _).mono ?_); rintro _ _ ⟨rfl, X_, rfl⟩))
        go_ret
        exact Ret.of' rfl (by (repeat (first | exact Below.refl _ _ | with_reducible refine Below.drew ?_ | with_reducible refine Below.ext ?_ (by first | exact Nat.le_refl _ | (simp; done) | (simp; omega)) _ | with_reducible refine Below.alloc ?_ (by first | exact Nat.le_refl _ | (simp; done) | (simp; omega)) _ | with_reducible refine Below.setCell ?_ (by first | exact Nat.le_refl _ | (simp; done) | (simp; omega)) _)))
      · have c3 : 600 < ar := by omega
        clear h1
        go_enter Try.func13, Try.ntmps13
        go_wp2_with (first | (go_at_call 19; (with_reducible refine (M1.out _).mono ?_); rintro _ _ ⟨rfl, X_, rfl⟩) | (go_at_call 36; (with_reducible refine (A.out _).mono ?_); rintro _ _ ⟨rfl, X_, rfl⟩) | (go_at_call 20; (with_reducible refine (awake21 _).mono ?_); rintro _ _ ⟨rfl, X_, rfl⟩))
        go_ret
        exact Ret.of' rfl (by (repeat (first | exact Below.refl _ _ | with_reducible refine Below.drew ?_ | with_reducible refine Below.ext ?_ (by first | exact Nat.le_refl _ | (simp; done) | (simp; omega)) _ | with_reducible refine Below.alloc ?_ (by first | exact Nat.le_refl _ | (simp; done) | (simp; omega)) _ | with_reducible refine Below.setCell ?_ (by first | exact Nat.le_refl _ | (simp; done) | (simp; omega)) _)))
  · simp only [hm, decide_false] at M
    have M1 := Lib.hid M
    clear M h hm
    go_enter Try.func13, Try.ntmps13
    go_wp2_with (first | (go_at_call 19; (with_reducible refine (M1.out _).mono ?_); rintro _ _ ⟨rfl, X_, rfl⟩) | (go_at_call 20; (with_reducible refine (awake21 _).mono ?_); rintro _ _ ⟨rfl, X_, rfl⟩))
    go_ret
    exact Ret.of' rfl (by (repeat (first | exact Below.refl _ _ | with_reducible refine Below.drew ?_ | with_reducible refine Below.ext ?_ (by first | exact Nat.le_refl _ | (simp; done) | (simp; omega)) _ | with_reducible refine Below.alloc ?_ (by first | exact Nat.le_refl _ | (simp; done) | (simp; omega)) _ | with_reducible refine Below.setCell ?_ (by first | exact Nat.le_refl _ | (simp; done) | (simp; omega)) _)))
set_option maxRecDepth 100000 in
set_option maxHeartbeats 8000000 in
theorem spans21_in (a b c : WinP) (f u o x0 y0 x1 y1 : Int) (h : mayF a b c f u) (o0 : -33554432 ≤ o) (o1 : o ≤ 33554432) (har : areaP x0 y0 x1 y1 ≤ 600) (w : World) : Calls Try.prog 13 #[faceL a b c f u, .int .i64 o, R4 x0 y0 x1 y1] w (Ret (.bool true) w) := by
  have M := fun w => may21_any a b c f u w
  simp only [h, decide_true] at M
  have M1 := Lib.hid M
  obtain ⟨⟨fa, fb, fc⟩, -⟩ := h.f
  have A := Lib.hid (fun w => rrect_area x0 y0 x1 y1 w)
  have W1 := Lib.hid (fun w => fill_any a b c o x0 y0 x1 y1 fa fb fc o0 o1 (by omega) w)
  have W2 := Lib.hid (fun w => rspans_any a b c x0 y0 x1 y1 fa fb fc w)
  have HS := Lib.hid (fun s (hs : s ∈ spansL a b c x0 y0 x1 y1) => (spans_mem hs))
  have HL : (fillL a b c o x0 y0 x1 y1).length ≤ 1048576 := by
    by_cases hr : rightP x0 y0 x1 y1
    · rw [fillL_any a b c o x0 y0 x1 y1 hr]
      have rr := hr
      unfold rightP at rr
      exact Nat.le_trans (fiTo_len a b c o x0 x1 y0 y1 (by omega)) (area_nat hr (by omega))
    · unfold fillL spansL; rw [if_pos (.inr hr)]; show ([] : List FrP).length ≤ _; simp
  have HSn : (spansL a b c x0 y0 x1 y1).length ≤ 8388608 := by
    by_cases hr : rightP x0 y0 x1 y1
    · rw [spansL_any a b c x0 y0 x1 y1 hr]
      unfold rightP at hr
      split
      · simp
      · have := spansTo_len a b c x0 x1 y0 y1; omega
    · unfold spansL; rw [if_pos (.inr hr)]; simp
  have eL : fillL a b c o x0 y0 x1 y1 = fillTo a b c o (spansL a b c x0 y0 x1 y1) := rfl
  obtain ⟨ar, har'⟩ : ∃ r, areaP x0 y0 x1 y1 = r := ⟨_, rfl⟩
  rw [har'] at A har
  obtain ⟨S, hS⟩ : ∃ S, spansL a b c x0 y0 x1 y1 = S := ⟨_, rfl⟩
  rw [hS] at W2 HS HSn eL
  obtain ⟨L, hL⟩ : ∃ S, fillL a b c o x0 y0 x1 y1 = S := ⟨_, rfl⟩
  rw [hL] at W1 HL eL
  have HG := Lib.hid (fun (k : Nat) (s : SpP) (hs : S[k]? = some s) (x : Int) (h0 : s.x0 ≤ x) (h1 : x < s.x1) => (by rw [eL]; exact fillTo_get a b c o S k s hs x h0 h1 : L[(fillTo a b c o (S.take k)).length + (x - s.x0).toNat]? = some (frAt a b c o x s.y)))
  have HNx := Lib.hid (fun k s hs => fillTo_next a b c o S k s hs)
  have HE := Lib.hid (show (fillTo a b c o (S.take S.length)).length = L.length by rw [List.take_length, eL])
  have HN0 := Lib.hid (show (fillTo a b c o (S.take 0)).length = 0 from rfl)
  obtain ⟨N, hN⟩ : ∃ N : Nat → Nat, N = fun k => (fillTo a b c o (S.take k)).length := ⟨_, rfl⟩
  have eN : ∀ k, (fillTo a b c o (S.take k)).length = N k := fun k => by rw [hN]
  simp only [eN] at HG HNx HE HN0
  clear eN hN eL hL hS har' M h fa fb fc
  go_enter Try.func13, Try.ntmps13
  go_upto_region 5 with (first
    | (go_at_call 19; (with_reducible refine (M1.out _).mono ?_); rintro _ _ ⟨rfl, X_, rfl⟩)
    | (go_at_call 36; (with_reducible refine (A.out _).mono ?_); rintro _ _ ⟨rfl, X_, rfl⟩)
    | (go_at_call 39; (with_reducible refine (W1.out _).mono ?_); rintro _ _ ⟨v, rfl, hv, ⟨XF, rfl⟩⟩; have HV := Lib.hid hv; obtain ⟨-, av, cap, rfl, -, -⟩ := hv)
    | (go_at_call 41; (with_reducible refine (W2.out _).mono ?_); rintro _ _ ⟨v, rfl, hv, ⟨XS, rfl⟩⟩; have HU := Lib.hid hv; obtain ⟨-, au, caq, rfl, -, -⟩ := hv))
  refine wp_abs (F := fun w1 => Recs frK w1 (.slice av L.length cap) L ∧ Recs spK w1 (.slice au S.length caq) S ∧ ∃ X, w1 = w.ext X) ⟨HV.out.ext _, HU.out, RowKit.Below.toExt (by (repeat (first | exact Below.refl _ _ | with_reducible refine Below.drew ?_ | with_reducible refine Below.ext ?_ (by first | exact Nat.le_refl _ | (simp; done) | (simp; omega)) _ | with_reducible refine Below.alloc ?_ (by first | exact Nat.le_refl _ | (simp; done) | (simp; omega)) _ | with_reducible refine Below.setCell ?_ (by first | exact Nat.le_refl _ | (simp; done) | (simp; omega)) _)))⟩ ?_
  rintro w1 ⟨⟨-, av', cap', hq, -, hcl⟩, ⟨-, au', caq', hq2, -, hsl⟩, hX⟩
  obtain ⟨rfl, rfl⟩ : av = av' ∧ cap = cap' := by simpa using hq
  obtain ⟨rfl, rfl⟩ : au = au' ∧ caq = caq' := by simpa using hq2
  have HX := Lib.hid hX
  have HCL := Lib.hid hcl
  have HSL := Lib.hid hsl
  clear hq hq2 hX hcl hsl HV HU
  go_wp2
  go_loopw [10, 9] (fun i n wr => ∃ (k : Nat) (m : Nat) (X : Xt), k ≤ S.length ∧ i = .int .i64 k ∧ n = .int .i64 m ∧ Hid (m = N k) ∧ wr = w1.ext X)
    (fun i _ _ => S.length - (intOf i).toNat)
  case atStart => exact ⟨0, 0, ⟨#[], w1.drawn⟩, by omega, rfl, rfl, Lib.hid HN0.out.symm, (ext_none' _).symm⟩
  case round =>
    obtain ⟨k, m, X, hk, rfl, rfl, hm, rfl⟩ := hrel
    by_cases hlt : k < S.length
    · have HKL := Lib.hid (show k + 1 ≤ S.length from hlt)
      obtain ⟨s, hgs, hms⟩ : ∃ s, S[k]? = some s ∧ s ∈ S := ⟨S[k]'hlt, List.getElem?_eq_getElem hlt, List.getElem_mem hlt⟩
      rcases HSL.out with rfl | ⟨sb, so, rfl, hsb, hsl⟩
      · simp at hlt
      have e0 := hsl k _ hgs 0 _ rfl
      have e1 := hsl k _ hgs 1 _ rfl
      have e2 := hsl k _ hgs 2 _ rfl
      have HG1 := Lib.hid (fun x h0 h1 => HG.out k s hgs x h0 h1)
      have HN1 := Lib.hid (HNx.out k s hgs)
      obtain ⟨⟨b0, b1, b2, b3, b4⟩, ⟨⟨r0, r1⟩, ⟨r2, r3⟩, ⟨r4, r5⟩, ⟨r6, r7⟩, rx, ry⟩, -, -⟩ := HS.out s hms
      obtain ⟨sy, sx0, sx1⟩ := s
      simp only at e0 e1 e2 HG1 HN1 b0 b1 b2 b3 b4
      have d0 : w1.cell? ⟨sb, so + k * 3, none⟩ = some (.int .i64 sy) := e0
      have d1 : w1.cell? ⟨sb, so + k * 3 + 1, none⟩ = some (.int .i64 sx0) := e1
      have d2 : w1.cell? ⟨sb, so + k * 3 + 2, none⟩ = some (.int .i64 sx1) := e2
      clear e0 e1 e2 hsl hgs hms
      have hki : (k : Int) < S.length := by omega
      go_wp2
      go_loopw [11, 9] (fun i n wr => ∃ (x : Int) (m : Nat) (X : Xt), sx0 ≤ x ∧ x ≤ sx1 ∧ i = .int .i64 x ∧ n = .int .i64 m ∧ Hid (m = N k + (x - sx0).toNat) ∧ wr = w1.ext X)
        (fun i _ _ => (sx1 - intOf i).toNat)
      case atStart => exact ⟨sx0, m, X, by omega, by omega, rfl, rfl, Lib.hid (by rw [hm.out]; simp), rfl⟩
      case round =>
        clear hm
        obtain ⟨x, m, X, hx0, hx1, rfl, rfl, hm, rfl⟩ := hrel
        by_cases hl2 : x < sx1
        · have hg := HG1.out x hx0 hl2
          rw [← hm.out] at hg
          rcases HCL.out with rfl | ⟨lb, lo, rfl, hlb, hcl⟩
          · simp at hg
          have hml : m < L.length := (List.getElem?_eq_some_iff.1 hg).1
          have e0 := hcl m _ hg 0 _ rfl
          have e1 := hcl m _ hg 1 _ rfl
          have e2 := hcl m _ hg 2 _ rfl
          have e7 := hcl m _ hg 7 _ rfl
          simp only [frAt] at e0 e1 e2 e7
          have zb : 0 ≤ max 0 (min (atV a b c x sy (·.z) + o) 16777215) ∧ max 0 (min (atV a b c x sy (·.z) + o) 16777215) ≤ 16777215 := by omega
          generalize max 0 (min (atV a b c x sy (·.z) + o) 16777215) = z at *
          obtain ⟨zb0, zb1⟩ := zb
          have g0 : w1.cell? ⟨lb, lo + m * 8, none⟩ = some (.int .i64 x) := e0
          have g1 : w1.cell? ⟨lb, lo + m * 8 + 1, none⟩ = some (.int .i64 sy) := e1
          have g2 : w1.cell? ⟨lb, lo + m * 8 + 2, none⟩ = some (.int .i64 z) := e2
          have g7 : w1.cell? ⟨lb, lo + m * 8 + 7, none⟩ = some (.int .i64 64) := e7
          have t0 : decide (L.length ≤ m) = false := by simp; omega
          have t1 : decide (z < 0) = false := by simp; omega
          have t2 : decide (16777215 < z) = false := by simp; omega
          have hmi : (m : Int) < L.length := by omega
          have HML := Lib.hid hml
          clear e0 e1 e2 e7 hcl hg hml
          go_wp2
          refine wp_region_ext (by kernel_rfl) (by kernel_rfl) ?_
          repeat (go_big_quiet_step ((fail)))
          refine wpQuiet_nil ?_
          intro _ hw_ext
          obtain ⟨Y, hw_ext⟩ := hw_ext
          subst hw_ext
          go_wp2
          go_roundw
          case rel => exact ⟨x + 1, m + 1, _, by omega, by omega, rfl, by go_num, Lib.hid (by rw [hm.out]; omega), World.ext_ext⟩
          case measure => simp [intOf]; omega
        · obtain rfl : x = sx1 := by omega
          have hm2 := Lib.hid (show m = N (k + 1) by rw [HN1.out]; exact hm.out)
          have hkl := HKL.out
          go_wp2
          go_roundw
          case rel => exact ⟨k + 1, m, _, HKL.out, by go_num, rfl, hm2, rfl⟩
          case measure => have := HKL.out; simp [intOf]; omega
    · obtain rfl : k = S.length := by omega
      have e := hm.out
      rw [HE.out] at e
      subst e
      go_wp2_with (first | (go_at_call 20; (with_reducible refine (awake21 _).mono ?_); rintro _ _ ⟨rfl, X_, rfl⟩))
      go_ret
      obtain ⟨X0, hX0⟩ := HX.out
      subst hX0
      exact Ret.of' (by simp) (by (repeat (first | exact Below.refl _ _ | with_reducible refine Below.drew ?_ | with_reducible refine Below.ext ?_ (by first | exact Nat.le_refl _ | (simp; done) | (simp; omega)) _ | with_reducible refine Below.alloc ?_ (by first | exact Nat.le_refl _ | (simp; done) | (simp; omega)) _ | with_reducible refine Below.setCell ?_ (by first | exact Nat.le_refl _ | (simp; done) | (simp; omega)) _)))
theorem SlopeSpans_all : SlopeSpans_stmt := by
  intro aX aY aZ aC0 aC1 aC2 aC3 bX bY bZ bC0 bC1 bC2 bC3 cX cY cZ cC0 cC1 cC2 cC3 f u o x0 y0 x1 y1 w ha hb hc
  let a : WinP := ⟨aX, aY, aZ, aC0, aC1, aC2, aC3⟩
  let b : WinP := ⟨bX, bY, bZ, bC0, bC1, bC2, bC3⟩
  let c : WinP := ⟨cX, cY, cZ, cC0, cC1, cC2, cC3⟩
  by_cases h : ¬ mayF a b c f u ∨ o < -33554432 ∨ 33554432 < o ∨ 600 < areaP x0 y0 x1 y1
  · exact spans21_no a b c f u o x0 y0 x1 y1 h w
  · have hm : mayF a b c f u := Classical.byContradiction fun k => h (.inl k)
    exact spans21_in a b c f u o x0 y0 x1 y1 hm (by omega) (by omega) (by omega) w
theorem SlopeSpans_holds : Rows.SlopeSpansSaid := SlopeSpans_end SlopeSpans_all
end Go.Proofs.Ytamfjfnceeagiaa
