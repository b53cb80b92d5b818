/- The walks of layer 14 (walk): in; what the ends add and take away. Conditions: the way's bounds. -/
import Derived.Test.YtmlhbbkgfffmcaaWalkD
namespace Go.Proofs.Ytmlhbbkgfffmcaa
set_option linter.unusedVariables false
set_option linter.unusedSimpArgs false
open Go.RowKit
theorem way_in {W : Way} {w : World} {p : Nat} (h : WayAt w p W) (x y : Int) (hm : MayP x y) : Calls Try.prog 143 #[ptr p, P2 x y] w (Ret (.tuple #[.int .i64 (W.px (inX x y) (inY x y)), .int .i64 (W.py (inX x y) (inY x y)), .bool (inOk x y)]) w) := by
  have hc := h.cell
  simp only [Way.cells] at hc
  have hf := h.frozen
  have hl := h.lt
  have HI := Lib.hid (fun w => diamond_in x y hm w)
  obtain ⟨i, hi⟩ : ∃ i, inX x y = i := ⟨_, rfl⟩
  obtain ⟨k, hk⟩ : ∃ k, inY x y = k := ⟨_, rfl⟩
  obtain ⟨o, ho⟩ : ∃ o, inOk x y = o := ⟨_, rfl⟩
  simp only [In3, hi, hk, ho] at HI ⊢
  clear h hi hk ho
  simp only [ptr]
  cases ht : W.turned
  all_goals
    simp only [ht] at hc
    go_enter Try.func143, Try.ntmps143
    go_wp2_with (first | (go_at_call 145; (with_reducible refine (HI.out _).mono ?_); rintro _ _ ⟨rfl, X_, rfl⟩))
    go_ret3
    exact Ret.of' (by unfold Way.px Way.py; rw [ht]; rfl) (by (repeat (first | exact Below.refl _ _ | with_reducible refine Below.drew ?_ | with_reducible refine Below.ext ?_ (by first | exact Nat.le_refl _ | (simp; done) | (simp; omega)) _ | with_reducible refine Below.alloc ?_ (by first | exact Nat.le_refl _ | (simp; done) | (simp; omega)) _ | with_reducible refine Below.setCell ?_ (by first | exact Nat.le_refl _ | (simp; done) | (simp; omega)) _)))
/-- What the ends add and take away. -/
def Way.endA (W : Way) (ax ay bx y2 : Int) : Prop := inOk ax ay = true ∧ (W.size = 0 ∨ W.px (inX ax ay) (inY ax ay) ≠ W.first) ∧ ¬ (inOk bx y2 = true ∧ W.px (inX ax ay) (inY ax ay) = W.px (inX bx y2) (inY bx y2) ∧ W.py (inX ax ay) (inY ax ay) = W.py (inX bx y2) (inY bx y2))
def Way.endB (W : Way) (bx y2 : Int) : Prop := 0 < W.size ∧ inOk bx y2 = true ∧ W.px (inX bx y2) (inY bx y2) = W.last - W.step
instance (W : Way) (ax ay bx y2 : Int) : Decidable (W.endA ax ay bx y2) := by unfold Way.endA; exact inferInstance
instance (W : Way) (bx y2 : Int) : Decidable (W.endB bx y2) := by unfold Way.endB; exact inferInstance
def Way.ended1 (W : Way) (ax ay bx y2 : Int) : Way := if W.endA ax ay bx y2 then { W with extra := true, u := W.px (inX ax ay) (inY ax ay), v := W.py (inX ax ay) (inY ax ay) } else W
def Way.ended2 (W V : Way) (bx y2 : Int) : Way := if W.endB bx y2 then { V with opn := decide (W.across (W.px (inX bx y2) (inY bx y2)) = W.py (inX bx y2) (inY bx y2)) } else V
def Way.ended (W : Way) (ax ay bx y2 : Int) : Way := W.ended2 (W.ended1 ax ay bx y2) bx y2
/-- Nothing but the block p is written. -/
def Turns (w : World) (p : Nat) (V : Way) (e : Ending) (w' : World) : Prop := e = .returned (.tuple #[]) ∧ WayAt w' p V ∧ Chg (fun k => k = p) w w'
set_option maxRecDepth 100000 in
set_option maxHeartbeats 8000000 in
theorem way_ends {W : Way} {w : World} {p : Nat} (ok : W.Ok) (h : WayAt w p W) (ax ay bx y2 : Int) (ha : MayP ax ay) (hb : MayP bx y2) (hd : 0 < W.du) :
    Calls Try.prog 129 #[ptr p, P2 ax ay, P2 bx y2] w (Turns w p (W.ended ax ay bx y2)) := by
  obtain ⟨V, hV⟩ : ∃ V, W.ended ax ay bx y2 = V := ⟨_, rfl⟩
  rw [hV]
  have HV := Lib.hid hV
  clear hV
  obtain ⟨bA, hA⟩ : ∃ b, decide (W.endA ax ay bx y2) = b := ⟨_, rfl⟩
  obtain ⟨bB, hB⟩ : ∃ b, decide (W.endB bx y2) = b := ⟨_, rfl⟩
  have EA := Lib.hid hA
  have EB := Lib.hid hB
  unfold Way.endA at hA
  unfold Way.endB at hB
  obtain ⟨n, hn⟩ : ∃ n, W.size = n := ⟨_, rfl⟩
  obtain ⟨s, hs⟩ : ∃ s, W.step = s := ⟨_, rfl⟩
  have HS := Lib.hid (fun (w : World) (h : WayAt w p W) => by have := way_size ok h; rw [hn] at this; exact this)
  have HA := Lib.hid (fun (w : World) (h : WayAt w p W) => way_in h ax ay ha)
  have HB := Lib.hid (fun (w : World) (h : WayAt w p W) => way_in h bx y2 hb)
  obtain ⟨oa, hoa⟩ : ∃ o, inOk ax ay = o := ⟨_, rfl⟩
  obtain ⟨ob, hob⟩ : ∃ o, inOk bx y2 = o := ⟨_, rfl⟩
  obtain ⟨u, hu⟩ : ∃ o, W.px (inX ax ay) (inY ax ay) = o := ⟨_, rfl⟩
  obtain ⟨v, hv⟩ : ∃ o, W.py (inX ax ay) (inY ax ay) = o := ⟨_, rfl⟩
  obtain ⟨i, hi⟩ : ∃ o, W.px (inX bx y2) (inY bx y2) = o := ⟨_, rfl⟩
  obtain ⟨k, hk⟩ : ∃ o, W.py (inX bx y2) (inY bx y2) = o := ⟨_, rfl⟩
  simp only [hn, hs, hoa, hob, hu, hv, hi, hk] at hA hB HA HB
  have HW := Lib.hid h
  have hc := h.cell
  simp only [Way.cells] at hc
  have hf := h.frozen
  have hl := h.lt
  have sb : 0 ≤ n ∧ n ≤ 8388608 ∧ (s = 1 ∨ s = -1) := by
    have f0 := ok.f0; have f1 := ok.f1; have l0 := ok.l0; have l1 := ok.l1
    refine ⟨?_, ?_, ?_⟩
    · rw [← hn]; unfold Way.size; omega
    · rw [← hn]; unfold Way.size; omega
    · rw [← hs]; unfold Way.step; split <;> simp
  obtain ⟨n0, n1, s01⟩ := sb
  have i8 : -8388608 ≤ i ∧ i ≤ 8388608 := by
    obtain ⟨b0, b1, b2, b3⟩ := hb
    rw [← hi]; unfold Way.px inX inY; constructor <;> (repeat' split) <;> omega
  have CA := Lib.hid hA
  have CB := Lib.hid hB
  have Hn := Lib.hid hn
  have Hs := Lib.hid hs
  have Hu := Lib.hid hu
  have Hv := Lib.hid hv
  have Hi := Lib.hid hi
  have Hk := Lib.hid hk
  have OK := Lib.hid ok
  have hl0 := ok.l0
  have hl1 := ok.l1
  clear hA hB hn hs hoa hob hu hv hi hk ok
  simp only [ptr] at HS HA HB ⊢
  go_enter Try.func129, Try.ntmps129
  go_upto_region 4 with (first | (go_at_call 94; (with_reducible refine (HS.out _ ?_).mono ?_); (repeat (first | assumption | with_reducible refine Row.ext ?_ _ | with_reducible refine row_drew ?_ | (with_reducible refine row_last ?_; first | rfl | (simp; done)) | with_reducible refine Row.alloc ?_ _)); rintro _ _ ⟨rfl, X_, rfl⟩) | (go_at_call 143; (with_reducible refine (HA.out _ ?_).mono ?_); (repeat (first | assumption | with_reducible refine Row.ext ?_ _ | with_reducible refine row_drew ?_ | (with_reducible refine row_last ?_; first | rfl | (simp; done)) | with_reducible refine Row.alloc ?_ _)); rintro _ _ ⟨rfl, X_, rfl⟩) | (go_at_call 143; (with_reducible refine (HB.out _ ?_).mono ?_); (repeat (first | assumption | with_reducible refine Row.ext ?_ _ | with_reducible refine row_drew ?_ | (with_reducible refine row_last ?_; first | rfl | (simp; done)) | with_reducible refine Row.alloc ?_ _)); rintro _ _ ⟨rfl, X_, rfl⟩))
  refine wp_abs (F := fun w1 => WayAt w1 p W ∧ ∃ X, w1 = w.ext X) ⟨by (repeat (first | assumption | with_reducible refine Row.ext ?_ _ | with_reducible refine row_drew ?_ | (with_reducible refine row_last ?_; first | rfl | (simp; done)) | with_reducible refine Row.alloc ?_ _)), RowKit.Below.toExt (by (repeat (first | exact Below.refl _ _ | with_reducible refine Below.drew ?_ | with_reducible refine Below.ext ?_ (by first | exact Nat.le_refl _ | (simp; done) | (simp; omega)) _ | with_reducible refine Below.alloc ?_ (by first | exact Nat.le_refl _ | (simp; done) | (simp; omega)) _ | with_reducible refine Below.setCell ?_ (by first | exact Nat.le_refl _ | (simp; done) | (simp; omega)) _)))⟩ ?_
  rintro w1 ⟨h1, hw1⟩
  have HW1 := Lib.hid h1
  have HX1 := Lib.hid hw1
  clear hc hf h HW hw1
  have hc := h1.cell
  simp only [Way.cells] at hc
  have hf := h1.frozen
  have hl := h1.lt
  clear h1
  obtain ⟨z1, hz1⟩ : ∃ z, (n == 0) = z := ⟨_, rfl⟩
  obtain ⟨z2, hz2⟩ : ∃ z, (u == W.first) = z := ⟨_, rfl⟩
  have hz2' : (u != W.first) = !z2 := by rw [← hz2]; rfl
  obtain ⟨z3, hz3⟩ : ∃ z, (u == i) = z := ⟨_, rfl⟩
  obtain ⟨z4, hz4⟩ : ∃ z, (v == k) = z := ⟨_, rfl⟩
  have HbA := Lib.hid (show bA = (oa && (z1 || !z2) && !(ob && (z3 && z4))) by
    rw [← CA.out, ← hz1, ← hz2, ← hz3, ← hz4, Bool.eq_iff_iff]; simp [and_assoc]; try omega)
  go_cut [55] (fun t55 wx => t55 = .bool bA ∧ wx = w1)
  case first =>
    cases oa
    all_goals cases ob
    all_goals go_wp2
    all_goals go_meet
    all_goals refine ⟨congrArg Value.bool ?_, rfl⟩
    all_goals (rw [HbA.out]; clear hz1 hz2 hz2' hz3 hz4; cases z1 <;> cases z2 <;> cases z3 <;> cases z4 <;> first | rfl | contradiction)
  case rest =>
    obtain ⟨rfl, rfl⟩ := hcut
    obtain ⟨w1, rfl⟩ : ∃ w1, w1 = wc := ⟨_, rfl⟩
    clear hz1 hz2 hz2' hz3 hz4
    obtain ⟨V1, hV1⟩ : ∃ V1, W.ended1 ax ay bx y2 = V1 := ⟨_, rfl⟩
    have v0 : V1.last = W.last ∧ V1.first = W.first ∧ V1.Ok ∧ V1.du = W.du ∧ V1.across i = W.across i ∧ V1.step = s := by
      have ok := OK.out
      rw [← hV1]; unfold Way.ended1
      split
      · exact ⟨rfl, rfl, ⟨ok.1, ok.2, ok.3, ok.4, ok.5, ok.6, ok.7, ok.8, ok.9, ok.10, ok.11, ok.12, ok.13, ok.14⟩, rfl, rfl, Hs.out⟩
      · exact ⟨rfl, rfl, ok, rfl, rfl, Hs.out⟩
    have hw1 : WayAt w1 p W → ∀ (hA : bA = true), WayAt (((w1.setCell ⟨p, 8, none⟩ (.bool true)).setCell ⟨p, 10, none⟩ (.int .i64 u)).setCell ⟨p, 11, none⟩ (.int .i64 v)) p V1 := fun h1 hA => by
      have e : W.endA ax ay bx y2 := by rw [← decide_eq_true_iff (p := W.endA ax ay bx y2), EA.out, hA]
      rw [← hV1]; unfold Way.ended1; rw [if_pos e, Hu.out, Hv.out]
      have := ((h1.set 8 (.bool true)).set 10 (.int .i64 u)).set 11 (.int .i64 v)
      simpa using this
    have hw2 : bA = false → V1 = W := fun hA => by
      have e : ¬ W.endA ax ay bx y2 := by rw [← decide_eq_false_iff_not, EA.out, hA]
      rw [← hV1]; unfold Way.ended1; rw [if_neg e]
    have HW3 := Lib.hid hw1
    have HW4 := Lib.hid hw2
    have V0 := Lib.hid v0
    have HV1 := Lib.hid hV1
    clear hV1 v0 hw1 hw2
    cases bA
    · go_upto_region 6 with fail
      refine wp_abs (F := fun w2 => WayAt w2 p V1 ∧ Chg (fun k => k = p) w w2) (by
        obtain ⟨X, hX⟩ := HX1.out
        have e := HW4.out rfl
        rw [e]
        exact ⟨HW1.out, hX ▸ Chg.refl.ext X⟩) ?_
      rintro w2 ⟨h2, k2⟩
      have HW2 := Lib.hid h2
      have HK2 := Lib.hid k2
      clear hc hf hl k2
      have hc := h2.cell
      simp only [Way.cells] at hc
      have hf := h2.frozen
      have hl := h2.lt
      clear h2
      have HS2 := Lib.hid (fun (w : World) (h : WayAt w p V1) => by have := way_step h V0.out.2.2.1; rw [V0.out.2.2.2.2.2] at this; exact this)
      have HC2 := Lib.hid (fun (w : World) (h : WayAt w p V1) => by have := way_across V0.out.2.2.1 h i i8.1 i8.2 (by rw [V0.out.2.2.2.1]; exact hd); rw [show V1.across i = W.across i from V0.out.2.2.2.2.1] at this; exact this)
      obtain ⟨c, hcc⟩ : ∃ c, W.across i = c := ⟨_, rfl⟩
      rw [hcc] at HC2
      have Hcc := Lib.hid hcc
      clear hcc
      simp only [ptr] at HS2 HC2
      obtain ⟨m, hm⟩ : ∃ m, V1.last = m := ⟨_, rfl⟩
      have m0 : -2097153 ≤ m ∧ m ≤ 2097153 := by rw [← hm, V0.out.1]; exact ⟨hl0, hl1⟩
      obtain ⟨m0, m1⟩ := m0
      rw [hm] at hc
      obtain ⟨z6, hz6⟩ : ∃ z, decide (0 < n) = z := ⟨_, rfl⟩
      obtain ⟨z5, hz5⟩ : ∃ z, (i == m - s) = z := ⟨_, rfl⟩
      have HbB := Lib.hid (show bB = (z6 && (ob && z5)) by
        rw [← CB.out, ← hz6, ← hz5, ← hm, V0.out.1, Bool.eq_iff_iff]; simp)
      have Hm := Lib.hid hm
      clear hm
      go_cut [82] (fun t82 wx => t82 = .bool bB ∧ ∃ X, wx = w2.ext X)
      case first =>
        have h2 := HW2.out
        cases z6
        all_goals cases ob
        all_goals refine wp_region_ext (by kernel_rfl) (by kernel_rfl) ?_
        all_goals repeat (go_big_quiet_step (first | (go_at_call 95; with_reducible refine Calls.quiet_ret (HS2.out _ ?_); (repeat (first | assumption | with_reducible refine Row.ext ?_ _ | with_reducible refine row_drew ?_ | (with_reducible refine row_last ?_; first | rfl | (simp; done)) | with_reducible refine Row.alloc ?_ _)))))
        all_goals refine wpQuiet_nil ?_
        all_goals intro _ hw_ext
        all_goals obtain ⟨X3, hw_ext⟩ := hw_ext
        all_goals subst hw_ext
        all_goals go_wp2
        all_goals go_meet
        all_goals refine ⟨congrArg Value.bool ?_, _, rfl⟩
        all_goals (rw [HbB.out]; clear hz5 hz6; cases z5 <;> first | rfl | contradiction)
      case rest =>
        obtain ⟨rfl, X3, rfl⟩ := hcut
        clear hz5 hz6
        have hV2 : ∀ w : World, WayAt w p V1 → (bB = false → WayAt w p V) ∧ (bB = true → WayAt (w.setCell ⟨p, 9, none⟩ (.bool (c == k))) p V) := fun w h => by
          have e : W.ended2 V1 bx y2 = V := by rw [← HV.out, ← HV1.out]; rfl
          refine ⟨fun hB => ?_, fun hB => ?_⟩
          · have : ¬ W.endB bx y2 := by rw [← decide_eq_false_iff_not, EB.out, hB]
            rw [← e]; unfold Way.ended2; rw [if_neg this]; exact h
          · have : W.endB bx y2 := by rw [← decide_eq_true_iff (p := W.endB bx y2), EB.out, hB]
            rw [← e]; unfold Way.ended2; rw [if_pos this, Hi.out, Hk.out, Hcc.out]
            have := h.set 9 (.bool (decide (c = k)))
            have e9 : (c == k) = decide (c = k) := rfl
            rw [e9]
            simpa using this
        have HV2 := Lib.hid hV2
        clear hV2
        cases bB
        · go_wp2
          go_end0
          exact ⟨rfl, (HV2.out _ (HW2.out.ext _)).1 (by simp), HK2.out.ext _⟩
        · have h2 := HW2.out
          go_wp2_with (first | (go_at_call 112; (with_reducible refine (HC2.out _ ?_).mono ?_); (repeat (first | assumption | with_reducible refine Row.ext ?_ _ | with_reducible refine row_drew ?_ | (with_reducible refine row_last ?_; first | rfl | (simp; done)) | with_reducible refine Row.alloc ?_ _)); rintro _ _ ⟨rfl, X_, rfl⟩))
          go_end0
          exact ⟨rfl, (((HV2.out _ HW2.out).2 (by simp)).ext _).ext _, ((HK2.out.setCell (fun _ => rfl) _).ext _).ext _⟩
    · go_upto_region 6 with fail
      refine wp_abs (F := fun w2 => WayAt w2 p V1 ∧ Chg (fun k => k = p) w w2) (by
        obtain ⟨X, hX⟩ := HX1.out
        have k1 : Chg (fun k => k = p) w w1 := hX ▸ Chg.refl.ext X
        exact ⟨HW3.out HW1.out rfl, ((k1.setCell (fun _ => rfl) _).setCell (fun _ => rfl) _).setCell (fun _ => rfl) _⟩) ?_
      rintro w2 ⟨h2, k2⟩
      have HW2 := Lib.hid h2
      have HK2 := Lib.hid k2
      clear hc hf hl k2
      have hc := h2.cell
      simp only [Way.cells] at hc
      have hf := h2.frozen
      have hl := h2.lt
      clear h2
      have HS2 := Lib.hid (fun (w : World) (h : WayAt w p V1) => by have := way_step h V0.out.2.2.1; rw [V0.out.2.2.2.2.2] at this; exact this)
      have HC2 := Lib.hid (fun (w : World) (h : WayAt w p V1) => by have := way_across V0.out.2.2.1 h i i8.1 i8.2 (by rw [V0.out.2.2.2.1]; exact hd); rw [show V1.across i = W.across i from V0.out.2.2.2.2.1] at this; exact this)
      obtain ⟨c, hcc⟩ : ∃ c, W.across i = c := ⟨_, rfl⟩
      rw [hcc] at HC2
      have Hcc := Lib.hid hcc
      clear hcc
      simp only [ptr] at HS2 HC2
      obtain ⟨m, hm⟩ : ∃ m, V1.last = m := ⟨_, rfl⟩
      have m0 : -2097153 ≤ m ∧ m ≤ 2097153 := by rw [← hm, V0.out.1]; exact ⟨hl0, hl1⟩
      obtain ⟨m0, m1⟩ := m0
      rw [hm] at hc
      obtain ⟨z6, hz6⟩ : ∃ z, decide (0 < n) = z := ⟨_, rfl⟩
      obtain ⟨z5, hz5⟩ : ∃ z, (i == m - s) = z := ⟨_, rfl⟩
      have HbB := Lib.hid (show bB = (z6 && (ob && z5)) by
        rw [← CB.out, ← hz6, ← hz5, ← hm, V0.out.1, Bool.eq_iff_iff]; simp)
      have Hm := Lib.hid hm
      clear hm
      go_cut [82] (fun t82 wx => t82 = .bool bB ∧ ∃ X, wx = w2.ext X)
      case first =>
        have h2 := HW2.out
        cases z6
        all_goals cases ob
        all_goals refine wp_region_ext (by kernel_rfl) (by kernel_rfl) ?_
        all_goals repeat (go_big_quiet_step (first | (go_at_call 95; with_reducible refine Calls.quiet_ret (HS2.out _ ?_); (repeat (first | assumption | with_reducible refine Row.ext ?_ _ | with_reducible refine row_drew ?_ | (with_reducible refine row_last ?_; first | rfl | (simp; done)) | with_reducible refine Row.alloc ?_ _)))))
        all_goals refine wpQuiet_nil ?_
        all_goals intro _ hw_ext
        all_goals obtain ⟨X3, hw_ext⟩ := hw_ext
        all_goals subst hw_ext
        all_goals go_wp2
        all_goals go_meet
        all_goals refine ⟨congrArg Value.bool ?_, _, rfl⟩
        all_goals (rw [HbB.out]; clear hz5 hz6; cases z5 <;> first | rfl | contradiction)
      case rest =>
        obtain ⟨rfl, X3, rfl⟩ := hcut
        clear hz5 hz6
        have hV2 : ∀ w : World, WayAt w p V1 → (bB = false → WayAt w p V) ∧ (bB = true → WayAt (w.setCell ⟨p, 9, none⟩ (.bool (c == k))) p V) := fun w h => by
          have e : W.ended2 V1 bx y2 = V := by rw [← HV.out, ← HV1.out]; rfl
          refine ⟨fun hB => ?_, fun hB => ?_⟩
          · have : ¬ W.endB bx y2 := by rw [← decide_eq_false_iff_not, EB.out, hB]
            rw [← e]; unfold Way.ended2; rw [if_neg this]; exact h
          · have : W.endB bx y2 := by rw [← decide_eq_true_iff (p := W.endB bx y2), EB.out, hB]
            rw [← e]; unfold Way.ended2; rw [if_pos this, Hi.out, Hk.out, Hcc.out]
            have := h.set 9 (.bool (decide (c = k)))
            have e9 : (c == k) = decide (c = k) := rfl
            rw [e9]
            simpa using this
        have HV2 := Lib.hid hV2
        clear hV2
        cases bB
        · go_wp2
          go_end0
          exact ⟨rfl, (HV2.out _ (HW2.out.ext _)).1 (by simp), HK2.out.ext _⟩
        · have h2 := HW2.out
          go_wp2_with (first | (go_at_call 112; (with_reducible refine (HC2.out _ ?_).mono ?_); (repeat (first | assumption | with_reducible refine Row.ext ?_ _ | with_reducible refine row_drew ?_ | (with_reducible refine row_last ?_; first | rfl | (simp; done)) | with_reducible refine Row.alloc ?_ _)); rintro _ _ ⟨rfl, X_, rfl⟩))
          go_end0
          exact ⟨rfl, (((HV2.out _ HW2.out).2 (by simp)).ext _).ext _, ((HK2.out.setCell (fun _ => rfl) _).ext _).ext _⟩
end Go.Proofs.Ytmlhbbkgfffmcaa
