/- The walks of the laws of layer 14: the same steps; awake. No condition. -/
import Derived.Test.YtmlhbbkgfffmcaaWalkN
namespace Go.Proofs.Ytmlhbbkgfffmcaa
set_option linter.unusedVariables false
set_option linter.unusedSimpArgs false
open Go.RowKit
set_option maxHeartbeats 4000000 in
theorem same_sts {w : World} {a b : Value} {L : List St} (ha : Sts w a L) (hb : Sts w b L) : Calls Try.prog 39 #[a, b] w (Ret (.bool true) w) := by
  obtain ⟨hl, a1, cap1, rfl, hcap1, h1⟩ := ha
  obtain ⟨-, a2, cap2, rfl, hcap2, h2⟩ := hb
  go_enter Try.func39, Try.ntmps39
  go_wp2
  go_loopw [5] (fun i wr => ∃ (k : Nat) (X : Xt), k ≤ L.length ∧ i = .int .i64 k ∧ wr = w.ext X)
    (fun i _ => L.length - (intOf i).toNat)
  case atStart => exact ⟨0, _, by omega, rfl, ext_self _⟩
  case round =>
    obtain ⟨k, X, hk, rfl, rfl⟩ := hrel
    by_cases hlt : k < L.length
    · rcases h1 with rfl | ⟨b1, off1, rfl, hb1, hc1⟩
      · simp at hlt
      rcases h2 with rfl | ⟨b2, off2, rfl, hb2, hc2⟩
      · simp at hlt
      have hf : L[k]? = some L[k] := by simp [hlt]
      have d0 := hc1 k L[k] hf 0 _ rfl
      have d1 := hc1 k L[k] hf 1 _ rfl
      have d2 := hc1 k L[k] hf 2 _ rfl
      have e0 := hc2 k L[k] hf 0 _ rfl
      have e1 := hc2 k L[k] hf 1 _ rfl
      have e2 := hc2 k L[k] hf 2 _ rfl
      generalize L[k] = s at *
      simp only [Nat.add_zero] at d0 e0
      clear hc1 hc2 hf
      go_wp2
      refine wp_region_ext (by kernel_rfl) (by kernel_rfl) ?_
      repeat (go_big_quiet_step ((fail)))
      refine wpQuiet_nil ?_
      intro _ hw_ext
      obtain ⟨Y, hw_ext⟩ := hw_ext
      subst hw_ext
      go_wp2
      go_roundw
      case rel => exact ⟨k + 1, _, by omega, by go_num, World.ext_ext⟩
      case measure => simp [intOf]; omega
    · go_wp2
      go_ret
      exact Ret.of (by (repeat (first | exact Below.refl _ _ | with_reducible refine Below.drew ?_ | with_reducible refine Below.ext ?_ (by first | exact Nat.le_refl _ | (simp; done) | (simp; omega)) _ | with_reducible refine Below.alloc ?_ (by first | exact Nat.le_refl _ | (simp; done) | (simp; omega)) _ | with_reducible refine Below.setCell ?_ (by first | exact Nat.le_refl _ | (simp; done) | (simp; omega)) _)))
/-- The document's example. -/
theorem awake_line : withinL 128 128 640 384 (-9) (-9) 9 9 = [⟨0, 0, 0⟩, ⟨1, 1, 1⟩] := by kernel_rfl
theorem awake_count : (lineL 128 128 640 384).length = 2 := by kernel_rfl
theorem walk_within (ax ay bx y2 x0 y0 x1 y1 : Int) (ha : MayP ax ay) (hb : MayP bx y2) (w : World) : Calls Try.prog 40 #[P2 ax ay, P2 bx y2, R4 x0 y0 x1 y1] w (Lists w (withinL ax ay bx y2 x0 y0 x1 y1)) := by
  by_cases c : (ax = bx ∧ ay = y2) ∨ ¬ rightP x0 y0 x1 y1
  · rw [withinL_no _ _ _ _ _ _ _ _ c]; exact walk_within_no ax ay bx y2 x0 y0 x1 y1 c w
  · exact walk_within_in ax ay bx y2 x0 y0 x1 y1 ha hb (fun h => c (Or.inl h)) (Classical.byContradiction (fun h => c (Or.inr h))) w
theorem Sts.alloc {w : World} {v : Value} {L : List St} (h : Sts w v L) (o : Obj) : Sts (w.alloc o) v L := h.chg (p := fun _ => False) (Chg.refl.alloc o) (fun _ _ _ _ h => h)
theorem Sts.drew {w : World} {v : Value} {L : List St} (h : Sts w v L) : Sts w.drew v L := h.chg (p := fun _ => False) Chg.refl.drew (fun _ _ _ _ h => h)
theorem sts_lit {w : World} {n : Nat} (h : w.heap.size = n) (L : List St) (c : Array Value) (hc : c.toList = L.flatMap St.cells) (T : TypeId) (hl : L.length ≤ 8388608) : Sts (w.alloc (.cells c T)) (.slice (some ⟨n, 0, none⟩) L.length L.length) L := by
  refine ⟨hl, _, L.length, rfl, Nat.le_refl _, .inr ⟨n, 0, rfl, by rw [World.hp_alloc, Array.size_push]; omega, fun i s hi j u hj => ?_⟩⟩
  have := cells_newS h c T (i * 3 + j) u (by rw [hc]; exact flat_atS L i s j u hi hj)
  rw [addr_addS, Nat.zero_add] at this
  rw [Nat.zero_add]; exact this
set_option maxHeartbeats 4000000 in
theorem awake_any (w : World) : Calls Try.prog 38 #[] w (Ret (.bool true) w) := by
  have HA := Lib.hid (fun w => awake_line ▸ walk_within 128 128 640 384 (-9) (-9) 9 9 ⟨by decide, by decide, by decide, by decide⟩ ⟨by decide, by decide, by decide, by decide⟩ w)
  have HC := Lib.hid (fun w => walk_count 128 128 640 384 ⟨by decide, by decide, by decide, by decide⟩ ⟨by decide, by decide, by decide, by decide⟩ w)
  rw [awake_count] at HC
  have HS := Lib.hid (fun w a b (ha : Sts w a [⟨0, 0, 0⟩, ⟨1, 1, 1⟩]) (hb : Sts w b [⟨0, 0, 0⟩, ⟨1, 1, 1⟩]) => same_sts ha hb)
  go_enter Try.func38, Try.ntmps38
  go_upto_region 2 with (first | (go_at_call 40; (with_reducible refine (HA.out _).mono ?_); rintro _ w1 ⟨v, rfl, h1, X1, rfl⟩))
  have H1 := Lib.hid h1
  clear h1
  have SB := Lib.hid (fun (w : World) (n : Nat) (T : TypeId) (h : w.heap.size = n) => show Sts (w.alloc (.cells #[.int .i64 0, .int .i64 0, .int .i64 0, .int .i64 1, .int .i64 1, .int .i64 1] T)) (.slice (some ⟨n, 0, none⟩) 2 2) [⟨0, 0, 0⟩, ⟨1, 1, 1⟩] from sts_lit h _ _ rfl _ (by decide))
  go_wp2_with (first | (go_at_call 39; (with_reducible refine (HS.out _ _ _ (H1.out.alloc _) (SB.out _ _ _ (by first | rfl | simp))).mono ?_); rintro _ _ ⟨rfl, X_, rfl⟩) | (go_at_call 42; (with_reducible refine (HC.out _).mono ?_); rintro _ _ ⟨rfl, X_, rfl⟩))
  go_ret
  exact Ret.of' rfl (by (repeat (first | exact Below.refl _ _ | with_reducible refine Below.drew ?_ | with_reducible refine Below.ext ?_ (by first | exact Nat.le_refl _ | (simp; done) | (simp; omega)) _ | with_reducible refine Below.alloc ?_ (by first | exact Nat.le_refl _ | (simp; done) | (simp; omega)) _ | with_reducible refine Below.setCell ?_ (by first | exact Nat.le_refl _ | (simp; done) | (simp; omega)) _)))
end Go.Proofs.Ytmlhbbkgfffmcaa
