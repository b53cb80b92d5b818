/- The walks of layer 23 (store): the same images; small ones; what has no image. Conditions: the slices read as lists. -/
import Derived.Test.YtdbbeggenbhbfaaStoreG
namespace Go.Proofs.Ytdbbeggenbhbfaa
set_option linter.unusedVariables false
set_option linter.unusedSimpArgs false
open Go.RowKit
theorem small_yes (W H : Int) (c z : Value) (C Z : List Int) (w : World) (hc : Rd w c C) (hz : Rd w z Z) (lc : C.length ≤ 400) (lz : Z.length ≤ 400) :
    Calls Try.prog 31 #[Im W H c z] w (Ret (.bool true) w) := by
  obtain ⟨-, -, a, cap, rfl, -, -⟩ := hc
  obtain ⟨-, -, a', cap', rfl, -, -⟩ := hz
  go_enter Try.func31, Try.ntmps31
  go_wp2
  go_ret
  exact Ret.of' (by simp; omega) (by (repeat (first | exact Below.refl _ _ | with_reducible refine Below.drew ?_ | with_reducible refine Below.ext ?_ (by first | exact Nat.le_refl _ | (simp; done) | (simp; omega)) _ | with_reducible refine Below.alloc ?_ (by first | exact Nat.le_refl _ | (simp; done) | (simp; omega)) _ | with_reducible refine Below.setCell ?_ (by first | exact Nat.le_refl _ | (simp; done) | (simp; omega)) _)))
theorem small_no (W H : Int) (c z : Value) (C Z : List Int) (w : World) (hc : Rd w c C) (hz : Rd w z Z) (h : ¬ (C.length ≤ 400 ∧ Z.length ≤ 400)) :
    Calls Try.prog 31 #[Im W H c z] w (Ret (.bool false) w) := by
  obtain ⟨-, -, a, cap, rfl, -, -⟩ := hc
  obtain ⟨-, -, a', cap', rfl, -, -⟩ := hz
  by_cases l : C.length ≤ 400
  · have l2 : 400 < Z.length := by omega
    clear h
    go_enter Try.func31, Try.ntmps31
    go_wp2
    go_ret
    exact Ret.of' (by simp; omega) (by (repeat (first | exact Below.refl _ _ | with_reducible refine Below.drew ?_ | with_reducible refine Below.ext ?_ (by first | exact Nat.le_refl _ | (simp; done) | (simp; omega)) _ | with_reducible refine Below.alloc ?_ (by first | exact Nat.le_refl _ | (simp; done) | (simp; omega)) _ | with_reducible refine Below.setCell ?_ (by first | exact Nat.le_refl _ | (simp; done) | (simp; omega)) _)))
  · clear h
    go_enter Try.func31, Try.ntmps31
    go_wp2
    go_ret
    exact Ret.of (by (repeat (first | exact Below.refl _ _ | with_reducible refine Below.drew ?_ | with_reducible refine Below.ext ?_ (by first | exact Nat.le_refl _ | (simp; done) | (simp; omega)) _ | with_reducible refine Below.alloc ?_ (by first | exact Nat.le_refl _ | (simp; done) | (simp; omega)) _ | with_reducible refine Below.setCell ?_ (by first | exact Nat.le_refl _ | (simp; done) | (simp; omega)) _)))
theorem ext_none (w : World) : w.ext ⟨#[], w.drawn⟩ = w := by simp [World.ext]
set_option maxHeartbeats 4000000 in
theorem same_yes (W H : Int) (c z c' z' : Value) (C Z : List Int) (w : World) (hc : Rd w c C) (hz : Rd w z Z) (hc' : Rd w c' C) (hz' : Rd w z' Z) (lc : C.length ≤ 1048576) (lz : Z.length ≤ 1048576) :
    Calls Try.prog 36 #[Im W H c z, Im W H c' z'] w (Ret (.bool true) w) := by
  obtain ⟨-, -, a1, cap1, rfl, hcap1, h1⟩ := hc
  obtain ⟨-, -, a2, cap2, rfl, hcap2, h2⟩ := hz
  obtain ⟨-, -, a3, cap3, rfl, hcap3, h3⟩ := hc'
  obtain ⟨-, -, a4, cap4, rfl, hcap4, h4⟩ := hz'
  go_enter Try.func36, Try.ntmps36
  go_wp2
  go_loopw [5] (fun i wr => ∃ (k : Nat) (X : Xt), k ≤ C.length ∧ i = .int .i64 k ∧ wr = ((w.alloc (.cells #[.int .i64 W, .int .i64 H, .slice a1 C.length cap1, .slice a2 Z.length cap2] 39)).alloc (.cells #[.int .i64 W, .int .i64 H, .slice a3 C.length cap3, .slice a4 Z.length cap4] 39)).ext X)
    (fun i _ => C.length - (intOf i).toNat)
  case atStart => exact ⟨0, _, by omega, rfl, (ext_none _).symm⟩
  case round =>
    obtain ⟨k, X, hk, rfl, rfl⟩ := hrel
    by_cases hlt : k < C.length
    · rcases h1 with rfl | ⟨b1, off1, rfl, hb1, hc1⟩
      · simp at hlt
      rcases h3 with rfl | ⟨b3, off3, rfl, hb3, hc3⟩
      · simp at hlt
      have e1 := hc1 k hlt
      have e3 := hc3 k hlt
      have hb1' : b1 ≤ w.heap.size := by omega
      have hb3' : b3 ≤ w.heap.size := by omega
      clear hc1 hc3 h2 h4
      go_wp2
      refine wp_region_ext (by kernel_rfl) (by kernel_rfl) ?_
      repeat (go_big_quiet_step ((fail)))
      refine wpQuiet_nil ?_
      intro _ hw_ext
      obtain ⟨Y, hw_ext⟩ := hw_ext
      subst hw_ext
      go_wp2
      go_roundw
      case rel => exact ⟨k + 1, _, by omega, by go_num, World.ext_ext⟩
      case measure => simp [intOf]; omega
    · go_wp2
      go_loopw [6] (fun i wr => ∃ (k : Nat) (X : Xt), k ≤ Z.length ∧ i = .int .i64 k ∧ wr = ((w.alloc (.cells #[.int .i64 W, .int .i64 H, .slice a1 C.length cap1, .slice a2 Z.length cap2] 39)).alloc (.cells #[.int .i64 W, .int .i64 H, .slice a3 C.length cap3, .slice a4 Z.length cap4] 39)).ext X)
        (fun i _ => Z.length - (intOf i).toNat)
      case atStart => exact ⟨0, X, by omega, rfl, rfl⟩
      case round =>
        clear hlt hk
        obtain ⟨k, X, hk, rfl, rfl⟩ := hrel
        by_cases hlt : k < Z.length
        · rcases h2 with rfl | ⟨b1, off1, rfl, hb1, hc1⟩
          · simp at hlt
          rcases h4 with rfl | ⟨b3, off3, rfl, hb3, hc3⟩
          · simp at hlt
          have e1 := hc1 k hlt
          have e3 := hc3 k hlt
          have hb1' : b1 ≤ w.heap.size := by omega
          have hb3' : b3 ≤ w.heap.size := by omega
          clear hc1 hc3 h1 h3
          go_wp2
          refine wp_region_ext (by kernel_rfl) (by kernel_rfl) ?_
          repeat (go_big_quiet_step ((fail)))
          refine wpQuiet_nil ?_
          intro _ hw_ext
          obtain ⟨Y, hw_ext⟩ := hw_ext
          subst hw_ext
          go_wp2
          go_roundw
          case rel => exact ⟨k + 1, _, by omega, by go_num, World.ext_ext⟩
          case measure => simp [intOf]; omega
        · go_wp2
          go_ret
          exact Ret.of (by (repeat (first | exact Below.refl _ _ | with_reducible refine Below.drew ?_ | with_reducible refine Below.ext ?_ (by first | exact Nat.le_refl _ | (simp; done) | (simp; omega)) _ | with_reducible refine Below.alloc ?_ (by first | exact Nat.le_refl _ | (simp; done) | (simp; omega)) _ | with_reducible refine Below.setCell ?_ (by first | exact Nat.le_refl _ | (simp; done) | (simp; omega)) _)))
end Go.Proofs.Ytdbbeggenbhbfaa
