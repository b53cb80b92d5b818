/- The walks of layer 14 (walk): newWay, Count. Conditions: the points' bounds. -/
import Derived.Test.YtmlhbbkgfffmcaaLineC
namespace Go.Proofs.Ytmlhbbkgfffmcaa
set_option linter.unusedVariables false
set_option linter.unusedSimpArgs false
open Go.RowKit
theorem least_any (u : Int) (u0 : -536870912 ≤ u) (u1 : u ≤ 536870912) (w : World) : Calls Try.prog 128 #[.int .i64 u] w (Ret (.int .i64 (leastC u)) w) := by
  unfold leastC
  go_enter Try.func128, Try.ntmps128
  go_wp2
  go_ret
  exact Ret.of' (by simp [shr8]) (by (repeat (first | exact Below.refl _ _ | with_reducible refine Below.drew ?_ | with_reducible refine Below.ext ?_ (by first | exact Nat.le_refl _ | (simp; done) | (simp; omega)) _ | with_reducible refine Below.alloc ?_ (by first | exact Nat.le_refl _ | (simp; done) | (simp; omega)) _ | with_reducible refine Below.setCell ?_ (by first | exact Nat.le_refl _ | (simp; done) | (simp; omega)) _)))
/-- A pointer to a new way. -/
def Comes (w : World) (V : Way) (e : Ending) (w' : World) : Prop := ∃ p, e = .returned (.pointer (some ⟨p, 0, none⟩)) ∧ WayAt w' p V ∧ w.heap.size ≤ p ∧ ∃ X, w' = w.ext X
/-- The new way, as it is laid. -/
def wayY (t : Bool) (back ax ay bx y2 : Int) : Way := ⟨uC t ax ay, vC t ax ay, uC t bx y2, vC t bx y2, t, back, 0, 0, false, false, 0, 0⟩
theorem wayY_T (ax ay bx y2 : Int) (h : turnP ax ay bx y2) : wayY (decide (turnP ax ay bx y2)) (backOf ax ay bx y2) ax ay bx y2 = ⟨ay, ax, y2, bx, true, 1, 0, 0, false, false, 0, 0⟩ := by
  unfold backOf; rw [decide_eq_true h, if_neg (fun q => q.1 h)]; rfl
theorem wayY_P (ax ay bx y2 : Int) (h : ¬ turnP ax ay bx y2) (k : signP (bx - ax) (y2 - ay)) : wayY (decide (turnP ax ay bx y2)) (backOf ax ay bx y2) ax ay bx y2 = ⟨ax, ay, bx, y2, false, 0, 0, 0, false, false, 0, 0⟩ := by
  unfold backOf; rw [decide_eq_false h, if_pos ⟨h, k⟩]; rfl
theorem wayY_N (ax ay bx y2 : Int) (h : ¬ turnP ax ay bx y2) (k : ¬ signP (bx - ax) (y2 - ay)) : wayY (decide (turnP ax ay bx y2)) (backOf ax ay bx y2) ax ay bx y2 = ⟨ax, ay, bx, y2, false, 1, 0, 0, false, false, 0, 0⟩ := by
  unfold backOf; rw [decide_eq_false h, if_neg (fun q => k q.2)]; rfl
theorem toExt2 {w w' : World} {B : Nat} (h : Below B w w') (hB : B = w.heap.size) : ∃ X, w' = w.ext X := by subst hB; exact h.toExt
set_option maxRecDepth 100000 in
set_option maxHeartbeats 8000000 in
theorem way_new (ax ay bx y2 : Int) (ha : MayP ax ay) (hb : MayP bx y2) (hz : ¬ (ax = bx ∧ ay = y2)) (w : World) : Calls Try.prog 91 #[P2 ax ay, P2 bx y2] w (Comes w (mkWay ax ay bx y2)) := by
  have HA := Lib.hid ha
  have HB := Lib.hid hb
  obtain ⟨a0, a1, a2, a3⟩ := ha
  obtain ⟨b0, b1, b2, b3⟩ := hb
  obtain ⟨V, hV⟩ : ∃ V, mkWay ax ay bx y2 = V := ⟨_, rfl⟩
  rw [hV]
  have HV := Lib.hid hV
  have HZ := Lib.hid hz
  clear hV hz
  obtain ⟨W1, hW1⟩ : ∃ W1, wayY (decide (turnP ax ay bx y2)) (backOf ax ay bx y2) ax ay bx y2 = W1 := ⟨_, rfl⟩
  have HW1 := Lib.hid hW1
  clear hW1
  go_enter Try.func91, Try.ntmps91
  go_upto_region 1 with fail
  refine wp_region_ext (by kernel_rfl) (by kernel_rfl) ?_
  repeat (go_big_quiet_step ((fail)))
  refine wpQuiet_nil ?_
  intro _ hw_ext
  obtain ⟨X1, hw_ext⟩ := hw_ext
  subst hw_ext
  go_upto_if 36 with fail
  go_cut [7] (fun t7 wx => ∃ p, t7 = ptr p ∧ WayAt wx p W1 ∧ w.heap.size + 2 ≤ p ∧ Row wx w.heap.size #[.int .i64 ax, .int .i64 ay] 50 ∧ Row wx (w.heap.size + 1) #[.int .i64 bx, .int .i64 y2] 50 ∧ ∃ X, wx = w.ext X)
  case first =>
    go_wp2
    all_goals go_meet
    all_goals refine ⟨_, rfl, ?_, by simp <;> omega, by (repeat (first | assumption | with_reducible refine Row.ext ?_ _ | with_reducible refine row_drew ?_ | (with_reducible refine row_last ?_; first | rfl | (simp; done)) | with_reducible refine Row.alloc ?_ _)), by (repeat (first | assumption | with_reducible refine Row.ext ?_ _ | with_reducible refine row_drew ?_ | (with_reducible refine row_last ?_; first | rfl | (simp; done)) | with_reducible refine Row.alloc ?_ _)), RowKit.Below.toExt (by (repeat (first | exact Below.refl _ _ | with_reducible refine Below.drew ?_ | with_reducible refine Below.ext ?_ (by first | exact Nat.le_refl _ | (simp; done) | (simp; omega)) _ | with_reducible refine Below.alloc ?_ (by first | exact Nat.le_refl _ | (simp; done) | (simp; omega)) _ | with_reducible refine Below.setCell ?_ (by first | exact Nat.le_refl _ | (simp; done) | (simp; omega)) _)))⟩
    all_goals rw [← HW1.out]
    all_goals first
      | (rw [wayY_T _ _ _ _ (by unfold turnP; omega)]; (repeat (first | assumption | with_reducible refine Row.ext ?_ _ | with_reducible refine row_drew ?_ | (with_reducible refine row_last ?_; first | rfl | (simp; done)) | with_reducible refine Row.alloc ?_ _)); done)
      | (rw [wayY_P _ _ _ _ (by unfold turnP; omega) (by unfold signP; omega)]; (repeat (first | assumption | with_reducible refine Row.ext ?_ _ | with_reducible refine row_drew ?_ | (with_reducible refine row_last ?_; first | rfl | (simp; done)) | with_reducible refine Row.alloc ?_ _)); done)
      | (rw [wayY_N _ _ _ _ (by unfold turnP; omega) (by unfold signP; omega)]; (repeat (first | assumption | with_reducible refine Row.ext ?_ _ | with_reducible refine row_drew ?_ | (with_reducible refine row_last ?_; first | rfl | (simp; done)) | with_reducible refine Row.alloc ?_ _)); done)
  case rest =>
    obtain ⟨p, rfl, h1, hp, ra, rb, hX⟩ := hcut
    obtain ⟨w1, rfl⟩ : ∃ w1, w1 = wc := ⟨_, rfl⟩
    have U1 : -536870912 ≤ W1.au ∧ W1.au ≤ 536870912 := by rw [← HW1.out]; exact uC_bd _ HA.out
    have U2 : -536870912 ≤ W1.bu ∧ W1.bu ≤ 536870912 := by rw [← HW1.out]; exact uC_bd _ HB.out
    obtain ⟨L, hL⟩ : ∃ L, leastC W1.au = L := ⟨_, rfl⟩
    obtain ⟨M, hM⟩ : ∃ M, leastC W1.bu = M := ⟨_, rfl⟩
    have L0 : -2097152 ≤ L ∧ L ≤ 2097152 := by rw [← hL]; unfold leastC; omega
    have M0 : -2097152 ≤ M ∧ M ≤ 2097152 := by rw [← hM]; unfold leastC; omega
    obtain ⟨L0, L1⟩ := L0
    obtain ⟨M0, M1⟩ := M0
    have C1 := Lib.hid (fun w => hL ▸ least_any W1.au U1.1 U1.2 w)
    have C2 := Lib.hid (fun w => hM ▸ least_any W1.bu U2.1 U2.2 w)
    have HL := Lib.hid hL
    have HM := Lib.hid hM
    have H1 := Lib.hid h1
    have RA := Lib.hid ra
    have RB := Lib.hid rb
    have HX := Lib.hid hX
    have hc := h1.cell
    simp only [Way.cells] at hc
    have hf := h1.frozen
    have hl := h1.lt
    clear h1 ra rb hX hL hM U1 U2
    simp only [ptr]
    go_upto_region 7 with fail
    have S1 := Lib.hid (fun a b : Int => show WayAt ((w1.setCell ⟨p, 6, none⟩ (.int .i64 a)).setCell ⟨p, 7, none⟩ (.int .i64 b)) p { W1 with first := a, last := b } by
      have := (H1.out.set 6 (.int .i64 a)).set 7 (.int .i64 b)
      simpa using this)
    have KS1 := Lib.hid (fun a b : Int => show Chg (fun k => k = p) w1 ((w1.setCell ⟨p, 6, none⟩ (.int .i64 a)).setCell ⟨p, 7, none⟩ (.int .i64 b)) from
      Chg.setCell (p := fun k => k = p) (Chg.setCell (p := fun k => k = p) Chg.refl (fun _ => rfl) _) (fun _ => rfl) _)
    go_cut [] (fun wx => WayAt wx p { W1 with first := L, last := M } ∧ Chg (fun k => k = p) w1 wx)
    case first =>
      go_region_with (first | (go_at_call 128; (with_reducible refine (C1.out _).mono ?_); rintro _ _ ⟨rfl, X_, rfl⟩) | (go_at_call 128; (with_reducible refine (C2.out _).mono ?_); rintro _ _ ⟨rfl, X_, rfl⟩))
      all_goals go_wp2
      all_goals go_meet
      all_goals refine ⟨?_, ?_⟩
      any_goals exact ((S1.out L M).ext _).ext _
      any_goals exact ((KS1.out L M).ext _).ext _
    case rest =>
      obtain ⟨h2, k2⟩ := hcut
      obtain ⟨w2, rfl⟩ : ∃ w2, w2 = wc := ⟨_, rfl⟩
      have H2 := Lib.hid h2
      have K2 := Lib.hid k2
      clear hc hf hl k2
      have hc := h2.cell
      simp only [Way.cells] at hc
      have hf := h2.frozen
      have hl := h2.lt
      clear h2
      have S2 := Lib.hid (fun a b : Int => show WayAt ((w2.setCell ⟨p, 6, none⟩ (.int .i64 a)).setCell ⟨p, 7, none⟩ (.int .i64 b)) p { W1 with first := a, last := b } by
        have := (H2.out.set 6 (.int .i64 a)).set 7 (.int .i64 b)
        simpa using this)
      -- the last step, from whatever way
      have FIN : ∀ (w3 : World) (z : Int), z = (if M < L then 1 else 0) → WayAt w3 p { W1 with first := L - z, last := M - z } → Chg (fun k => k = p) w1 w3 → ∃ W0 : Way, WayAt w3 p W0 ∧ W0.Ok ∧ 0 < W0.du ∧ W0.ended ax ay bx y2 = V ∧ Row w3 w.heap.size #[.int .i64 ax, .int .i64 ay] 50 ∧ Row w3 (w.heap.size + 1) #[.int .i64 bx, .int .i64 y2] 50 ∧ ∃ X, w3 = w.ext X := by
        intro w3 z hz h k
        refine ⟨mkWay0 ax ay bx y2, ?_, mkWay0_ok _ _ _ _ HA.out HB.out, Slope.pos (wayZ_good _ _ _ _ _ HZ.out), HV.out, k.row RA.out (by omega), k.row RB.out (by omega), ?_⟩
        · have e : ({ W1 with first := L - z, last := M - z } : Way) = mkWay0 ax ay bx y2 := by
            rw [hz, ← HL.out, ← HM.out, ← HW1.out]; rfl
          rw [← e]; exact h
        · obtain ⟨X, hX⟩ := HX.out
          exact RowKit.Below.toExt ((show Below w.heap.size w w1 from hX ▸ (Below.refl _ _).ext (Nat.le_refl _) X).trans (k.below (fun j hj => by omega) (by rw [hX]; simp)))
      have HF := Lib.hid FIN
      clear FIN
      go_upto_region 8 with fail
      refine wp_region_ext (by kernel_rfl) (by kernel_rfl) ?_
      repeat (go_big_quiet_step ((fail)))
      refine wpQuiet_nil ?_
      intro _ hw_ext
      obtain ⟨X3, hw_ext⟩ := hw_ext
      subst hw_ext
      have KS2 := Lib.hid (fun a b : Int => show Chg (fun k => k = p) w2 ((w2.setCell ⟨p, 6, none⟩ (.int .i64 a)).setCell ⟨p, 7, none⟩ (.int .i64 b)) from
        Chg.setCell (p := fun k => k = p) (Chg.setCell (p := fun k => k = p) Chg.refl (fun _ => rfl) _) (fun _ => rfl) _)
      by_cases cML : M < L
      · go_upto_region 9 with fail
        go_cut [] (fun wx => WayAt wx p { W1 with first := L - 1, last := M - 1 } ∧ Chg (fun k => k = p) w2 wx)
        case first =>
          go_region
          all_goals go_wp2
          all_goals go_meet
          all_goals refine ⟨?_, ?_⟩
          any_goals first | exact S2.out (L - 1) (M - 1) | exact ((S2.out (L - 1) (M - 1)).ext _) | exact ((S2.out (L - 1) (M - 1)).ext _).ext _
          any_goals first | exact KS2.out (L - 1) (M - 1) | exact ((KS2.out (L - 1) (M - 1)).ext _) | exact ((KS2.out (L - 1) (M - 1)).ext _).ext _
        case rest =>
        obtain ⟨h3, k3⟩ := hcut
        obtain ⟨w3, rfl⟩ : ∃ w3, w3 = wc := ⟨_, rfl⟩
        have k3 := K2.out.trans k3
        clear hc hf hl
        obtain ⟨W0, h3, ok0, hd0, hV0, ra, rb, hX3⟩ := HF.out w3 1 (by simp [cML]) h3 k3
        have HW3 := Lib.hid h3
        have OK0 := Lib.hid ok0
        have HD0 := Lib.hid hd0
        have HV0 := Lib.hid hV0
        have HX3 := Lib.hid hX3
        have hc := ra.cell
        have hf := ra.frozen
        have hl := ra.lt
        have hcb := rb.cell
        have hfb := rb.frozen
        have hlb := rb.lt
        clear h3 ok0 hd0 hV0 hX3 k3 ra rb
        have HE := Lib.hid (fun (w : World) (h : WayAt w p W0) => show Calls Try.prog 129 #[.pointer (some ⟨p, 0, none⟩), P2 ax ay, P2 bx y2] w (Turns w p V) from HV0.out ▸ way_ends OK0.out h ax ay bx y2 HA.out HB.out HD0.out)
        go_wp2_with (first | (go_at_call 129; (with_reducible refine (HE.out _ HW3.out).mono ?_); rintro _ w4 ⟨rfl, h4, k4⟩))
        go_ret
        refine ⟨p, rfl, h4, by omega, ?_⟩
        obtain ⟨X, hX⟩ := HX3.out
        exact RowKit.Below.toExt ((show Below w.heap.size w w3 from hX ▸ (Below.refl _ _).ext (Nat.le_refl _) X).trans (k4.below (fun j hj => by omega) (by rw [hX]; simp)))
      · go_upto_region 10 with fail
        refine wp_abs (F := fun w3 => WayAt w3 p { W1 with first := L - 0, last := M - 0 } ∧ Chg (fun k => k = p) w1 w3) ⟨by rw [Int.sub_zero, Int.sub_zero]; exact H2.out.ext _, K2.out.ext _⟩ ?_
        rintro w3 ⟨h3, k3⟩
        clear hc hf hl
        obtain ⟨W0, h3, ok0, hd0, hV0, ra, rb, hX3⟩ := HF.out w3 0 (by simp [cML]) h3 k3
        have HW3 := Lib.hid h3
        have OK0 := Lib.hid ok0
        have HD0 := Lib.hid hd0
        have HV0 := Lib.hid hV0
        have HX3 := Lib.hid hX3
        have hc := ra.cell
        have hf := ra.frozen
        have hl := ra.lt
        have hcb := rb.cell
        have hfb := rb.frozen
        have hlb := rb.lt
        clear h3 ok0 hd0 hV0 hX3 k3 ra rb
        have HE := Lib.hid (fun (w : World) (h : WayAt w p W0) => show Calls Try.prog 129 #[.pointer (some ⟨p, 0, none⟩), P2 ax ay, P2 bx y2] w (Turns w p V) from HV0.out ▸ way_ends OK0.out h ax ay bx y2 HA.out HB.out HD0.out)
        go_wp2_with (first | (go_at_call 129; (with_reducible refine (HE.out _ HW3.out).mono ?_); rintro _ w4 ⟨rfl, h4, k4⟩))
        go_ret
        refine ⟨p, rfl, h4, by omega, ?_⟩
        obtain ⟨X, hX⟩ := HX3.out
        exact RowKit.Below.toExt ((show Below w.heap.size w w3 from hX ▸ (Below.refl _ _).ext (Nat.le_refl _) X).trans (k4.below (fun j hj => by omega) (by rw [hX]; simp)))
end Go.Proofs.Ytmlhbbkgfffmcaa
