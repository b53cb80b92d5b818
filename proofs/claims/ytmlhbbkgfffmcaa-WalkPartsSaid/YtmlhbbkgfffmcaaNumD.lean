/- The walks of the reference of layer 2: numbers with a sign, trimmed. Conditions: the slices read as bits. -/
import Derived.Test.YtmlhbbkgfffmcaaNumC
namespace Go.Proofs.Ytmlhbbkgfffmcaa
set_option linter.unusedVariables false
set_option linter.unusedSimpArgs false
open Go.RowKit
/-- It reads as this number, of so many bits at most. -/
def RN (w : World) (v : Value) (z : Int) (n : Nat) : Prop := ∃ m sv l, v = .agg #[.bool m, sv] ∧ Rb w sv l ∧ Can l ∧ (m = true → bv l ≠ 0) ∧ z = pmv (bv l) m ∧ l.length ≤ n
theorem RN.ext {w : World} {v : Value} {z : Int} {n : Nat} (h : RN w v z n) (X : Xt) : RN (w.ext X) v z n := by
  obtain ⟨m, sv, l, h1, h2, h3⟩ := h
  exact ⟨m, sv, l, h1, h2.ext X, h3⟩
theorem RN.below {w w1 : World} {v : Value} {z : Int} {n : Nat} (h : RN w v z n) (hb : Below w.heap.size w w1) : RN w1 v z n := by
  obtain ⟨X, rfl⟩ := hb.toExt
  exact h.ext X
theorem RN.mono {w : World} {v : Value} {z : Int} {n k : Nat} (h : RN w v z n) (hk : n ≤ k) : RN w v z k := by
  obtain ⟨m, sv, l, h1, h2, h3, h4, h5, h6⟩ := h
  exact ⟨m, sv, l, h1, h2, h3, h4, h5, Nat.le_trans h6 hk⟩
def isNm (v : Value) : Prop := ∃ m a k cap, v = .agg #[.bool m, .slice a k cap]
theorem RN.form {w : World} {v : Value} {z : Int} {n : Nat} (h : RN w v z n) : isNm v := by
  obtain ⟨m, sv, l, rfl, h2, h3⟩ := h
  obtain ⟨a, cap, rfl, -⟩ := h2.form
  exact ⟨m, _, _, _, rfl⟩
def srN (z : Int) (n : Nat) : SR Grows := ⟨fun v w => RN w v z n, fun v w w' h ⟨X, e⟩ => by subst e; exact h.ext X, isNm, .agg #[.bool false, .slice none 0 0], ⟨_, _, _, _, rfl⟩, fun v w h => h.form⟩
theorem RetR.of {R : Value → World → Prop} {w w' : World} {v : Value} (h : R v w') (hb : Below w.heap.size w w') : RetR R w (.returned v) w' := ⟨v, rfl, h, hb.toExt⟩
theorem Rb.take {w : World} {a : Option Addr} {cap : Nat} {l : List Int} {k : Nat} (h : Rb w (.slice a l.length cap) l) (hk : k ≤ l.length) (hb : Bin (l.take k)) : Rb w (.slice a k cap) (l.take k) := by
  obtain ⟨h0, h1, a', cap', e, h2, h3, h4⟩ := h
  cases e
  refine ⟨hb, by rw [List.length_take]; omega, a, cap, by rw [List.length_take, Nat.min_eq_left hk], by rw [List.length_take]; omega, h3, ?_⟩
  rcases h4 with rfl | ⟨b, off, rfl, hlt, hc⟩
  · left; simp
  · refine .inr ⟨b, off, rfl, hlt, fun i hi => ?_⟩
    simp only [List.length_take] at hi
    rw [hc i (by omega)]
    simp only [bt, List.getD_eq_getElem?_getD, List.getElem?_take, if_pos (show i < k by omega)]
set_option maxRecDepth 100000 in
set_option maxHeartbeats 4000000 in
theorem trim_any (m : Bool) (sv : Value) (l : List Int) (w : World) (hl : Rb w sv l) : Calls Try.prog 135 #[.agg #[.bool m, sv]] w (RetR (fun v w => RN w v (pmv (bv l) m) l.length) w) := by
  obtain ⟨i0, hi, hz0, hz1, hz2⟩ := info_parts info_u8
  have HL := Lib.hid hl
  have BL := hl.bin
  have ll := hl.len
  obtain ⟨a0, cap0, rfl, -, -, -⟩ := hl.form
  clear hl
  go_enter Try.func135, Try.ntmps135
  go_wp2_with (first
    | (at_builtin; refine wpList_append_bits rfl _ _ 136 5 rfl i0 Try.underlying136 hi hz0 hz1 hz2 (w.heap.size + 2) 0 0 [] l rfl ⟨Bin.nil, by simp, _, 0, rfl, by simp, by simp [maxLen], .inl rfl⟩ (((HL.out.alloc _).alloc _).alloc _) (by simp; omega) ?_; rintro v1 _ g1 ⟨X1, rfl⟩ g2))
  rw [List.nil_append] at g1
  refine wp_abs (F := fun wx => Row wx w.heap.size #[.bool m, .slice a0 l.length cap0] 138 ∧ Row wx (w.heap.size + 1) #[.bool false, .slice none 0 0] 138 ∧ Below w.heap.size w wx ∧ Rb wx v1 l ∧ ∀ q, v1.ownBlock = some q → ¬ q = w.heap.size + 1) ⟨?_, ?_, ?_, g1, fun q hq => by rcases g2 q hq with h | h <;> first | omega | (simp at h; omega)⟩ ?_
  · (repeat (first | assumption | with_reducible refine Row.ext ?_ _ | with_reducible refine row_drew ?_ | (with_reducible refine row_last ?_; first | rfl | (simp; done)) | with_reducible refine Row.alloc ?_ _))
  · (repeat (first | assumption | with_reducible refine Row.ext ?_ _ | with_reducible refine row_drew ?_ | (with_reducible refine row_last ?_; first | rfl | (simp; done)) | with_reducible refine Row.alloc ?_ _))
  · (repeat (first | exact Below.refl _ _ | with_reducible refine Below.drew ?_ | with_reducible refine Below.ext ?_ (by first | exact Nat.le_refl _ | (simp; done) | (simp; omega)) _ | with_reducible refine Below.alloc ?_ (by first | exact Nat.le_refl _ | (simp; done) | (simp; omega)) _ | with_reducible refine Below.setCell ?_ (by first | exact Nat.le_refl _ | (simp; done) | (simp; omega)) _))
  clear g1 g2 X1
  intro wx ⟨R0, R1, BW, RV, OW⟩
  have sz0 := R0.lt
  have sz1 := R1.lt
  have c0 := R0.cell 0
  have c1 := R0.cell 1
  simp at c0 c1
  have f10 := R1.frozen 0
  have f11 := R1.frozen 1
  have d10 := R1.cell 0
  have d11 := R1.cell 1
  simp at d10 d11
  obtain ⟨a1, cap1, rfl, cl1, cl2, HC⟩ := RV.form
  have HRV := Lib.hid RV
  have HOW := Lib.hid OW
  have HCL := Lib.hid HC
  have HBW := Lib.hid BW
  have HR1 := Lib.hid R1
  clear RV HC R0 R1 OW
  go_loopw [3] (fun b wr => ∃ (k : Nat), b = .slice a1 k cap1 ∧ wr = wx ∧ k ≤ l.length ∧ bv (l.take k) = bv l ∧ Bin (l.take k))
    (fun b _ => match b with | .slice _ k _ => k | _ => 0)
  case atStart => exact ⟨l.length, rfl, rfl, Nat.le_refl _, by rw [List.take_length], by rw [List.take_length]; exact BL⟩
  case round =>
    obtain ⟨k, rfl, rfl, hk, hv, hb⟩ := hrel
    -- what is returned
    have fin : ∀ (c : Bool), c = (m && decide (0 < k)) → (0 < k → bt l (k - 1) = 1) → ∀ w2, w2 = (wr.setCell ⟨w.heap.size + 1, 0, none⟩ (.bool c)).setCell ⟨w.heap.size + 1, 1, none⟩ (.slice a1 k cap1) → RetR (fun v w => RN w v (pmv (bv l) m) l.length) w (.returned (.agg #[.bool c, .slice a1 k cap1])) w2 := by
      intro c hc h1 w2 hw2
      have hkl : (l.take k).length = k := by rw [List.length_take]; omega
      have can : Can (l.take k) := ⟨hb, fun h => by
        rw [hkl] at h ⊢
        have := h1 h
        rw [← this]
        simp only [bt, List.getD_eq_getElem?_getD, List.getElem?_take, if_pos (show k - 1 < k by omega)]⟩
      have cz := can.zero
      rw [hkl, hv] at cz
      refine RetR.of ⟨c, _, l.take k, rfl, ?_, can, fun h => ?_, ?_, by rw [hkl]; exact hk⟩ ?_
      · rw [hw2]
        refine ((HRV.out.take hk hb).chg (Chg.one _ _ _ _) ?_).chg (Chg.one _ _ _ _) ?_
        · exact fun q hq => HOW.out q (by cases a1 <;> exact hq)
        · exact fun q hq => HOW.out q (by cases a1 <;> exact hq)
      · rw [hv, ne_eq, cz]
        rw [hc] at h
        simp at h; omega
      · rw [hv, hc]
        unfold pmv
        by_cases hk0 : 0 < k
        · simp [hk0]
        · have := cz.2 (by omega)
          rw [this]; simp
      · rw [hw2]
        exact Below.setCell (Below.setCell HBW.out (by simp) _) (by simp) _
    have FIN := Lib.hid fin
    clear fin
    cases k with
    | zero =>
      clear hv hb
      cases m
      all_goals
        go_wp2
        refine bodyPost_ret (v := .agg #[.bool false, .slice a1 0 cap1]) (by simp [results, Try.results135, go_sem, d10, d11, f10, f11]) rfl (FIN.out _ (by simp) (by omega) _ rfl)
    | succ k =>
      rcases HCL.out with hz | ⟨b1, off, rfl, hlt, hcell⟩
      · simp [hz] at hk
      have hc := hcell k (by omega)
      have e1 : ((k + 1 : Nat) : Int) = (k : Int) + 1 := by omega
      obtain ⟨b01, b02⟩ := BL k
      clear hcell
      by_cases hbt : bt l k = 0
      · have d : (bt l k == 0) = true := by simp [hbt]
        obtain ⟨tv, tb⟩ := take_drop_bv (l := l.take (k + 1)) hb (k := k) (by rw [List.length_take]; omega) (by simp only [bt, List.getD_eq_getElem?_getD, List.getElem?_take, if_pos (show k < k + 1 by omega)]; simpa [bt] using hbt) (by rw [List.length_take]; omega)
        rw [List.take_take, Nat.min_eq_left (by omega)] at tv tb
        clear hbt
        go_wp2
        go_roundw
        case rel => exact ⟨k, by simp, by first | rfl | trivial, by omega, tv.trans hv, tb⟩
        case measure => (simp) <;> omega
      · have d : (bt l k == 0) = false := by simp [hbt]
        cases m
        all_goals
          go_wp2
          refine bodyPost_ret (v := .agg #[.bool _, .slice _ _ cap1]) (by simp [results, Try.results135, go_sem, d10, d11, f10, f11]; first | done | exact ⟨rfl, rfl⟩ | rfl) rfl (FIN.out _ (by simp) (fun _ => by simp; omega) _ rfl)
end Go.Proofs.Ytmlhbbkgfffmcaa
