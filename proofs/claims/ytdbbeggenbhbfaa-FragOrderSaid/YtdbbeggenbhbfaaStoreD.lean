/- The walks of layer 23 (store): the reference tells whether an image may be. Conditions: its slices read as lists of ints of 64 bits. -/
import Derived.Test.YtdbbeggenbhbfaaStoreB
namespace Go.Proofs.Ytdbbeggenbhbfaa
set_option linter.unusedVariables false
set_option linter.unusedSimpArgs false
open Go.RowKit
set_option maxHeartbeats 2000000 in
theorem rright_yes (W H : Int) (c z : Value) (C Z : List Int) (w : World) (hc : Rd w c C) (hz : Rd w z Z) (h : ImOk W H C Z) :
    Calls Try.prog 35 #[Im W H c z] w (Ret (.bool true) w) := by
  obtain ⟨w0, w1, h0, h1, lc, lz, cs, zs⟩ := h
  obtain ⟨a0, a1⟩ := area_01 w0 w1 h0 h1
  obtain ⟨-, -, a, cap, rfl, hcap, h3⟩ := hc
  obtain ⟨-, -, a', cap', rfl, hcap', h3'⟩ := hz
  rcases h3 with rfl | ⟨b, off, rfl, hb, hcell⟩
  · simp at lc; omega
  rcases h3' with rfl | ⟨b', off', rfl, hb', hcell'⟩
  · simp at lz; omega
  have ec : ((C.length : Int) != W * H) = false := by rw [bne_eq_false_iff_eq]; exact lc
  have ez : ((Z.length : Int) != W * H) = false := by rw [bne_eq_false_iff_eq]; exact lz
  have LC := Lib.hid lc
  have LZ := Lib.hid lz
  have HC := Lib.hid hcell
  have HZ := Lib.hid hcell'
  have CS := Lib.hid cs
  have ZS := Lib.hid zs
  have n0 : 1 ≤ C.length := by omega
  have n1 : C.length ≤ 1048576 := by omega
  have n2 : C.length ≤ Z.length := by omega
  have d1 : decide (W < 1) = false := by simp; omega
  have d2 : decide (1024 < W) = false := by simp; omega
  have d3 : decide (H < 1) = false := by simp; omega
  have d4 : decide (1024 < H) = false := by simp; omega
  clear lc lz hcell hcell' cs zs w0 w1 h0 h1
  go_enter Try.func35, Try.ntmps35
  go_wp2
  go_loop [3] (fun i => ∃ k : Nat, k ≤ C.length ∧ i = .int .i64 k) (fun i => C.length - (intOf i).toNat)
  case atStart => exact ⟨0, by omega, rfl⟩
  case round =>
    obtain ⟨k, hk, rfl⟩ := hrel
    by_cases hlt : k < C.length
    · have c1 := HC.out k hlt
      have c2 := HZ.out k (by omega)
      obtain ⟨l1, l2⟩ := CS.out k hlt
      obtain ⟨l3, l4⟩ := ZS.out k hlt
      have u0 : decide (elt C k < 0) = false := by simp; omega
      have u1 : decide (4294967295 < elt C k) = false := by simp; omega
      have u2 : decide (elt Z k < 0) = false := by simp; omega
      have u3 : decide (16777215 < elt Z k) = false := by simp; omega
      go_wp2
      go_round
      case rel => exact ⟨k + 1, by omega, by go_num⟩
      case measure => simp [intOf]; omega
    · go_wp2
      go_ret
      exact Ret.of (by (repeat (first | exact Below.refl _ _ | with_reducible refine Below.drew ?_ | with_reducible refine Below.ext ?_ (by first | exact Nat.le_refl _ | (simp; done) | (simp; omega)) _ | with_reducible refine Below.alloc ?_ (by first | exact Nat.le_refl _ | (simp; done) | (simp; omega)) _ | with_reducible refine Below.setCell ?_ (by first | exact Nat.le_refl _ | (simp; done) | (simp; omega)) _)))
set_option maxHeartbeats 4000000 in
theorem rright_dims (W H : Int) (c z : Value) (C Z : List Int) (w : World) (hc : Rd w c C) (hz : Rd w z Z) (h : ¬ (1 ≤ W ∧ W ≤ 1024 ∧ 1 ≤ H ∧ H ≤ 1024)) :
    Calls Try.prog 35 #[Im W H c z] w (Ret (.bool false) w) := by
  obtain ⟨-, -, a, cap, rfl, -, -⟩ := hc
  obtain ⟨-, -, a', cap', rfl, -, -⟩ := hz
  by_cases w0 : 1 ≤ W
  · have d1 : decide (W < 1) = false := by simp; omega
    by_cases w1 : W ≤ 1024
    · have d2 : decide (1024 < W) = false := by simp; omega
      by_cases h0 : 1 ≤ H
      · have d3 : decide (H < 1) = false := by simp; omega
        have h1 : 1024 < H := by omega
        have d4 : decide (1024 < H) = true := by simp; omega
        clear h w0 w1 h0 h1
        go_enter Try.func35, Try.ntmps35
        go_wp2
        go_ret
        exact Ret.of (by (repeat (first | exact Below.refl _ _ | with_reducible refine Below.drew ?_ | with_reducible refine Below.ext ?_ (by first | exact Nat.le_refl _ | (simp; done) | (simp; omega)) _ | with_reducible refine Below.alloc ?_ (by first | exact Nat.le_refl _ | (simp; done) | (simp; omega)) _ | with_reducible refine Below.setCell ?_ (by first | exact Nat.le_refl _ | (simp; done) | (simp; omega)) _)))
      · have d3 : decide (H < 1) = true := by simp; omega
        clear h w0 w1 h0
        go_enter Try.func35, Try.ntmps35
        go_wp2
        go_ret
        exact Ret.of (by (repeat (first | exact Below.refl _ _ | with_reducible refine Below.drew ?_ | with_reducible refine Below.ext ?_ (by first | exact Nat.le_refl _ | (simp; done) | (simp; omega)) _ | with_reducible refine Below.alloc ?_ (by first | exact Nat.le_refl _ | (simp; done) | (simp; omega)) _ | with_reducible refine Below.setCell ?_ (by first | exact Nat.le_refl _ | (simp; done) | (simp; omega)) _)))
    · have d2 : decide (1024 < W) = true := by simp; omega
      clear h w0 w1
      go_enter Try.func35, Try.ntmps35
      go_wp2
      go_ret
      exact Ret.of (by (repeat (first | exact Below.refl _ _ | with_reducible refine Below.drew ?_ | with_reducible refine Below.ext ?_ (by first | exact Nat.le_refl _ | (simp; done) | (simp; omega)) _ | with_reducible refine Below.alloc ?_ (by first | exact Nat.le_refl _ | (simp; done) | (simp; omega)) _ | with_reducible refine Below.setCell ?_ (by first | exact Nat.le_refl _ | (simp; done) | (simp; omega)) _)))
  · have d1 : decide (W < 1) = true := by simp; omega
    clear h w0
    go_enter Try.func35, Try.ntmps35
    go_wp2
    go_ret
    exact Ret.of (by (repeat (first | exact Below.refl _ _ | with_reducible refine Below.drew ?_ | with_reducible refine Below.ext ?_ (by first | exact Nat.le_refl _ | (simp; done) | (simp; omega)) _ | with_reducible refine Below.alloc ?_ (by first | exact Nat.le_refl _ | (simp; done) | (simp; omega)) _ | with_reducible refine Below.setCell ?_ (by first | exact Nat.le_refl _ | (simp; done) | (simp; omega)) _)))
set_option maxHeartbeats 4000000 in
theorem rright_lens (W H : Int) (c z : Value) (C Z : List Int) (w : World) (hc : Rd w c C) (hz : Rd w z Z) (w0 : 1 ≤ W) (w1 : W ≤ 1024) (h0 : 1 ≤ H) (h1 : H ≤ 1024) (h : ¬ ((C.length : Int) = W * H ∧ (Z.length : Int) = W * H)) :
    Calls Try.prog 35 #[Im W H c z] w (Ret (.bool false) w) := by
  obtain ⟨-, n1, a, cap, rfl, -, -⟩ := hc
  obtain ⟨-, n2, a', cap', rfl, -, -⟩ := hz
  have d1 : decide (W < 1) = false := by simp; omega
  have d2 : decide (1024 < W) = false := by simp; omega
  have d3 : decide (H < 1) = false := by simp; omega
  have d4 : decide (1024 < H) = false := by simp; omega
  obtain ⟨p0, p1⟩ := area_01 w0 w1 h0 h1
  clear w0 w1 h0 h1
  by_cases hC : (C.length : Int) = W * H
  · have ec : ((C.length : Int) != W * H) = false := by rw [bne_eq_false_iff_eq]; exact hC
    have ez : ((Z.length : Int) != W * H) = true := by rw [bne_iff_ne]; exact fun e => h ⟨hC, e⟩
    clear h hC
    go_enter Try.func35, Try.ntmps35
    go_wp2
    go_ret
    exact Ret.of (by (repeat (first | exact Below.refl _ _ | with_reducible refine Below.drew ?_ | with_reducible refine Below.ext ?_ (by first | exact Nat.le_refl _ | (simp; done) | (simp; omega)) _ | with_reducible refine Below.alloc ?_ (by first | exact Nat.le_refl _ | (simp; done) | (simp; omega)) _ | with_reducible refine Below.setCell ?_ (by first | exact Nat.le_refl _ | (simp; done) | (simp; omega)) _)))
  · have ec : ((C.length : Int) != W * H) = true := by rw [bne_iff_ne]; exact hC
    clear h hC
    go_enter Try.func35, Try.ntmps35
    go_wp2
    go_ret
    exact Ret.of (by (repeat (first | exact Below.refl _ _ | with_reducible refine Below.drew ?_ | with_reducible refine Below.ext ?_ (by first | exact Nat.le_refl _ | (simp; done) | (simp; omega)) _ | with_reducible refine Below.alloc ?_ (by first | exact Nat.le_refl _ | (simp; done) | (simp; omega)) _ | with_reducible refine Below.setCell ?_ (by first | exact Nat.le_refl _ | (simp; done) | (simp; omega)) _)))
set_option maxHeartbeats 8000000 in
theorem rright_bad (W H : Int) (c z : Value) (C Z : List Int) (w : World) (hc : Rd w c C) (hz : Rd w z Z) (w0 : 1 ≤ W) (w1 : W ≤ 1024) (h0 : 1 ≤ H) (h1 : H ≤ 1024) (lc : (C.length : Int) = W * H) (lz : (Z.length : Int) = W * H)
    (h : ¬ ∀ i, i < C.length → (0 ≤ elt C i ∧ elt C i ≤ 4294967295) ∧ 0 ≤ elt Z i ∧ elt Z i ≤ 16777215) :
    Calls Try.prog 35 #[Im W H c z] w (Ret (.bool false) w) := by
  obtain ⟨bc, -, a, cap, rfl, hcap, h3⟩ := hc
  obtain ⟨bz, -, a', cap', rfl, hcap', h3'⟩ := hz
  have d1 : decide (W < 1) = false := by simp; omega
  have d2 : decide (1024 < W) = false := by simp; omega
  have d3 : decide (H < 1) = false := by simp; omega
  have d4 : decide (1024 < H) = false := by simp; omega
  obtain ⟨p0, p1⟩ := area_01 w0 w1 h0 h1
  clear w0 w1 h0 h1
  rcases h3 with rfl | ⟨b, off, rfl, hb, hcell⟩
  · simp at lc; omega
  rcases h3' with rfl | ⟨b', off', rfl, hb', hcell'⟩
  · simp at lz; omega
  have ec : ((C.length : Int) != W * H) = false := by rw [bne_eq_false_iff_eq]; exact lc
  have ez : ((Z.length : Int) != W * H) = false := by rw [bne_eq_false_iff_eq]; exact lz
  have LC := Lib.hid lc
  have LZ := Lib.hid lz
  have HC := Lib.hid hcell
  have HZ := Lib.hid hcell'
  have BC := Lib.hid bc
  have BZ := Lib.hid bz
  have HB := Lib.hid h
  have n0 : 1 ≤ C.length := by omega
  have n1 : C.length ≤ 1048576 := by omega
  have n2 : C.length ≤ Z.length := by omega
  clear lc lz hcell hcell' bc bz h
  go_enter Try.func35, Try.ntmps35
  go_wp2
  go_loop [3] (fun i => ∃ k : Nat, k ≤ C.length ∧ i = .int .i64 k ∧ Hid (∀ j, j < k → (0 ≤ elt C j ∧ elt C j ≤ 4294967295) ∧ 0 ≤ elt Z j ∧ elt Z j ≤ 16777215)) (fun i => C.length - (intOf i).toNat)
  case atStart => exact ⟨0, by omega, rfl, fun j hj => absurd hj (by omega)⟩
  case round =>
    obtain ⟨k, hk, rfl, hall⟩ := hrel
    by_cases hlt : k < C.length
    · have c1 := HC.out k hlt
      have c2 := HZ.out k (by omega)
      obtain ⟨b1, b2⟩ := BC.out _ (elt_mem hlt)
      obtain ⟨b3, b4⟩ := BZ.out _ (elt_mem (l := Z) (i := k) (by omega))
      by_cases x : elt C k < 0
      · have u0 : decide (elt C k < 0) = true := by simp; omega
        go_wp2
        go_ret
        exact Ret.of (by (repeat (first | exact Below.refl _ _ | with_reducible refine Below.drew ?_ | with_reducible refine Below.ext ?_ (by first | exact Nat.le_refl _ | (simp; done) | (simp; omega)) _ | with_reducible refine Below.alloc ?_ (by first | exact Nat.le_refl _ | (simp; done) | (simp; omega)) _ | with_reducible refine Below.setCell ?_ (by first | exact Nat.le_refl _ | (simp; done) | (simp; omega)) _)))
      have y0 := Int.not_lt.1 x
      clear x
      by_cases x : 4294967295 < elt C k
      · have u0 : decide (elt C k < 0) = false := by simp; omega
        have u1 : decide (4294967295 < elt C k) = true := by simp; omega
        go_wp2
        go_ret
        exact Ret.of (by (repeat (first | exact Below.refl _ _ | with_reducible refine Below.drew ?_ | with_reducible refine Below.ext ?_ (by first | exact Nat.le_refl _ | (simp; done) | (simp; omega)) _ | with_reducible refine Below.alloc ?_ (by first | exact Nat.le_refl _ | (simp; done) | (simp; omega)) _ | with_reducible refine Below.setCell ?_ (by first | exact Nat.le_refl _ | (simp; done) | (simp; omega)) _)))
      have y1 := Int.not_lt.1 x
      clear x
      by_cases x : elt Z k < 0
      · have u0 : decide (elt C k < 0) = false := by simp; omega
        have u1 : decide (4294967295 < elt C k) = false := by simp; omega
        have u2 : decide (elt Z k < 0) = true := by simp; omega
        go_wp2
        go_ret
        exact Ret.of (by (repeat (first | exact Below.refl _ _ | with_reducible refine Below.drew ?_ | with_reducible refine Below.ext ?_ (by first | exact Nat.le_refl _ | (simp; done) | (simp; omega)) _ | with_reducible refine Below.alloc ?_ (by first | exact Nat.le_refl _ | (simp; done) | (simp; omega)) _ | with_reducible refine Below.setCell ?_ (by first | exact Nat.le_refl _ | (simp; done) | (simp; omega)) _)))
      have y2 := Int.not_lt.1 x
      clear x
      by_cases x : 16777215 < elt Z k
      · have u0 : decide (elt C k < 0) = false := by simp; omega
        have u1 : decide (4294967295 < elt C k) = false := by simp; omega
        have u2 : decide (elt Z k < 0) = false := by simp; omega
        have u3 : decide (16777215 < elt Z k) = true := by simp; omega
        go_wp2
        go_ret
        exact Ret.of (by (repeat (first | exact Below.refl _ _ | with_reducible refine Below.drew ?_ | with_reducible refine Below.ext ?_ (by first | exact Nat.le_refl _ | (simp; done) | (simp; omega)) _ | with_reducible refine Below.alloc ?_ (by first | exact Nat.le_refl _ | (simp; done) | (simp; omega)) _ | with_reducible refine Below.setCell ?_ (by first | exact Nat.le_refl _ | (simp; done) | (simp; omega)) _)))
      have y3 := Int.not_lt.1 x
      clear x
      · have u0 : decide (elt C k < 0) = false := by simp; omega
        have u1 : decide (4294967295 < elt C k) = false := by simp; omega
        have u2 : decide (elt Z k < 0) = false := by simp; omega
        have u3 : decide (16777215 < elt Z k) = false := by simp; omega
        go_wp2
        go_round
        case rel => exact ⟨k + 1, by omega, by go_num, fun j hj => by
          by_cases e : j = k
          · subst e; exact ⟨⟨by omega, by omega⟩, by omega, by omega⟩
          · exact hall.out j (by omega)⟩
        case measure => simp [intOf]; omega
    · exact absurd (fun i hi => hall.out i (by omega)) HB.out
theorem rright_no (W H : Int) (c z : Value) (C Z : List Int) (w : World) (hc : Rd w c C) (hz : Rd w z Z) (h : ¬ ImOk W H C Z) : Calls Try.prog 35 #[Im W H c z] w (Ret (.bool false) w) := by
  by_cases hd : 1 ≤ W ∧ W ≤ 1024 ∧ 1 ≤ H ∧ H ≤ 1024
  · obtain ⟨w0, w1, h0, h1⟩ := hd
    by_cases hl : (C.length : Int) = W * H ∧ (Z.length : Int) = W * H
    · exact rright_bad W H c z C Z w hc hz w0 w1 h0 h1 hl.1 hl.2 fun hall => h ⟨w0, w1, h0, h1, hl.1, hl.2, fun i hi => (hall i hi).1, fun i hi => (hall i hi).2⟩
    · exact rright_lens W H c z C Z w hc hz w0 w1 h0 h1 hl
  · exact rright_dims W H c z C Z w hc hz hd
end Go.Proofs.Ytdbbeggenbhbfaa
