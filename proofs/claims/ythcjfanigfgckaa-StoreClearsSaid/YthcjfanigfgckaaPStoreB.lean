/- Parts of the proofs, laid together: StoreC, StoreD, StoreK, StoreL, StoreM, StoreJ, StoreN. Conditions: at each. -/
import Derived.Test.YthcjfanigfgckaaPStoreA
import Derived.Deep.RegionLaw
import Derived.Deep.RegionLawGrows
section
/- The walks of layer 23 (store): the program tells an image that may not be. Conditions: its slices read as lists of ints of 64 bits. -/
namespace Go.Proofs.Ythcjfanigfgckaa
set_option linter.unusedVariables false
set_option linter.unusedSimpArgs false
set_option maxRecDepth 10000
open Go.RowKit
set_option maxHeartbeats 4000000 in
theorem right_dims (W H : Int) (c z : Value) (C Z : List Int) (w : World) (hc : Rd w c C) (hz : Rd w z Z) (h : ¬ (1 ≤ W ∧ W ≤ 1024 ∧ 1 ≤ H ∧ H ≤ 1024)) :
    Calls Try.prog 20 #[Im W H c z] w (Ret (.bool false) w) := by
  obtain ⟨-, -, a, cap, rfl, -, -⟩ := hc
  obtain ⟨-, -, a', cap', rfl, -, -⟩ := hz
  by_cases w0 : 1 ≤ W
  · have d1 : decide (W < 1) = false := by simp; omega
    by_cases w1 : W ≤ 1024
    · have d2 : decide (1024 < W) = false := by simp; omega
      by_cases h0 : 1 ≤ H
      · have d3 : decide (H < 1) = false := by simp; omega
        have h1 : 1024 < H := by omega
        have d4 : decide (1024 < H) = true := by simp; omega
        clear h w0 w1 h0 h1
        go_enter Try.func20, Try.ntmps20
        go_wp2
        go_ret
        exact Ret.of (by (repeat (first | exact Below.refl _ _ | with_reducible refine Below.drew ?_ | with_reducible refine Below.ext ?_ (by first | exact Nat.le_refl _ | (simp; done) | (simp; omega)) _ | with_reducible refine Below.alloc ?_ (by first | exact Nat.le_refl _ | (simp; done) | (simp; omega)) _ | with_reducible refine Below.setCell ?_ (by first | exact Nat.le_refl _ | (simp; done) | (simp; omega)) _)))
      · have d3 : decide (H < 1) = true := by simp; omega
        clear h w0 w1 h0
        go_enter Try.func20, Try.ntmps20
        go_wp2
        go_ret
        exact Ret.of (by (repeat (first | exact Below.refl _ _ | with_reducible refine Below.drew ?_ | with_reducible refine Below.ext ?_ (by first | exact Nat.le_refl _ | (simp; done) | (simp; omega)) _ | with_reducible refine Below.alloc ?_ (by first | exact Nat.le_refl _ | (simp; done) | (simp; omega)) _ | with_reducible refine Below.setCell ?_ (by first | exact Nat.le_refl _ | (simp; done) | (simp; omega)) _)))
    · have d2 : decide (1024 < W) = true := by simp; omega
      clear h w0 w1
      go_enter Try.func20, Try.ntmps20
      go_wp2
      go_ret
      exact Ret.of (by (repeat (first | exact Below.refl _ _ | with_reducible refine Below.drew ?_ | with_reducible refine Below.ext ?_ (by first | exact Nat.le_refl _ | (simp; done) | (simp; omega)) _ | with_reducible refine Below.alloc ?_ (by first | exact Nat.le_refl _ | (simp; done) | (simp; omega)) _ | with_reducible refine Below.setCell ?_ (by first | exact Nat.le_refl _ | (simp; done) | (simp; omega)) _)))
  · have d1 : decide (W < 1) = true := by simp; omega
    clear h w0
    go_enter Try.func20, Try.ntmps20
    go_wp2
    go_ret
    exact Ret.of (by (repeat (first | exact Below.refl _ _ | with_reducible refine Below.drew ?_ | with_reducible refine Below.ext ?_ (by first | exact Nat.le_refl _ | (simp; done) | (simp; omega)) _ | with_reducible refine Below.alloc ?_ (by first | exact Nat.le_refl _ | (simp; done) | (simp; omega)) _ | with_reducible refine Below.setCell ?_ (by first | exact Nat.le_refl _ | (simp; done) | (simp; omega)) _)))
set_option maxHeartbeats 4000000 in
theorem right_lens (W H : Int) (c z : Value) (C Z : List Int) (w : World) (hc : Rd w c C) (hz : Rd w z Z) (w0 : 1 ≤ W) (w1 : W ≤ 1024) (h0 : 1 ≤ H) (h1 : H ≤ 1024) (h : ¬ ((C.length : Int) = W * H ∧ (Z.length : Int) = W * H)) :
    Calls Try.prog 20 #[Im W H c z] w (Ret (.bool false) w) := by
  obtain ⟨-, n1, a, cap, rfl, -, -⟩ := hc
  obtain ⟨-, n2, a', cap', rfl, -, -⟩ := hz
  have d1 : decide (W < 1) = false := by simp; omega
  have d2 : decide (1024 < W) = false := by simp; omega
  have d3 : decide (H < 1) = false := by simp; omega
  have d4 : decide (1024 < H) = false := by simp; omega
  obtain ⟨p0, p1⟩ := area_01 w0 w1 h0 h1
  clear w0 w1 h0 h1
  by_cases hC : (C.length : Int) = W * H
  · have ec : ((C.length : Int) != W * H) = false := by rw [bne_eq_false_iff_eq]; exact hC
    have ez : ((Z.length : Int) != W * H) = true := by rw [bne_iff_ne]; exact fun e => h ⟨hC, e⟩
    clear h hC
    go_enter Try.func20, Try.ntmps20
    go_wp2
    go_ret
    exact Ret.of (by (repeat (first | exact Below.refl _ _ | with_reducible refine Below.drew ?_ | with_reducible refine Below.ext ?_ (by first | exact Nat.le_refl _ | (simp; done) | (simp; omega)) _ | with_reducible refine Below.alloc ?_ (by first | exact Nat.le_refl _ | (simp; done) | (simp; omega)) _ | with_reducible refine Below.setCell ?_ (by first | exact Nat.le_refl _ | (simp; done) | (simp; omega)) _)))
  · have ec : ((C.length : Int) != W * H) = true := by rw [bne_iff_ne]; exact hC
    clear h hC
    go_enter Try.func20, Try.ntmps20
    go_wp2
    go_ret
    exact Ret.of (by (repeat (first | exact Below.refl _ _ | with_reducible refine Below.drew ?_ | with_reducible refine Below.ext ?_ (by first | exact Nat.le_refl _ | (simp; done) | (simp; omega)) _ | with_reducible refine Below.alloc ?_ (by first | exact Nat.le_refl _ | (simp; done) | (simp; omega)) _ | with_reducible refine Below.setCell ?_ (by first | exact Nat.le_refl _ | (simp; done) | (simp; omega)) _)))
set_option maxHeartbeats 8000000 in
theorem right_bad (W H : Int) (c z : Value) (C Z : List Int) (w : World) (hc : Rd w c C) (hz : Rd w z Z) (w0 : 1 ≤ W) (w1 : W ≤ 1024) (h0 : 1 ≤ H) (h1 : H ≤ 1024) (lc : (C.length : Int) = W * H) (lz : (Z.length : Int) = W * H)
    (h : ¬ ∀ i, i < C.length → (0 ≤ elt C i ∧ elt C i ≤ 4294967295) ∧ 0 ≤ elt Z i ∧ elt Z i ≤ 16777215) :
    Calls Try.prog 20 #[Im W H c z] w (Ret (.bool false) w) := by
  obtain ⟨bc, -, a, cap, rfl, hcap, h3⟩ := hc
  obtain ⟨bz, -, a', cap', rfl, hcap', h3'⟩ := hz
  have d1 : decide (W < 1) = false := by simp; omega
  have d2 : decide (1024 < W) = false := by simp; omega
  have d3 : decide (H < 1) = false := by simp; omega
  have d4 : decide (1024 < H) = false := by simp; omega
  obtain ⟨p0, p1⟩ := area_01 w0 w1 h0 h1
  clear w0 w1 h0 h1
  rcases h3 with rfl | ⟨b, off, rfl, hb, hcell⟩
  · simp at lc; omega
  rcases h3' with rfl | ⟨b', off', rfl, hb', hcell'⟩
  · simp at lz; omega
  have ec : ((C.length : Int) != W * H) = false := by rw [bne_eq_false_iff_eq]; exact lc
  have ez : ((Z.length : Int) != W * H) = false := by rw [bne_eq_false_iff_eq]; exact lz
  have LC := Lib.hid lc
  have LZ := Lib.hid lz
  have HC := Lib.hid hcell
  have HZ := Lib.hid hcell'
  have BC := Lib.hid bc
  have BZ := Lib.hid bz
  have HB := Lib.hid h
  have n0 : 1 ≤ C.length := by omega
  have n1 : C.length ≤ 1048576 := by omega
  have n2 : C.length ≤ Z.length := by omega
  clear lc lz hcell hcell' bc bz h
  go_enter Try.func20, Try.ntmps20
  go_wp2
  go_loop [44] (fun i => ∃ k : Nat, k ≤ C.length ∧ i = .int .i64 k ∧ Hid (∀ j, j < k → (0 ≤ elt C j ∧ elt C j ≤ 4294967295) ∧ 0 ≤ elt Z j ∧ elt Z j ≤ 16777215)) (fun i => C.length - (intOf i).toNat)
  case atStart => exact ⟨0, by omega, rfl, fun j hj => absurd hj (by omega)⟩
  case round =>
    obtain ⟨k, hk, rfl, hall⟩ := hrel
    by_cases hlt : k < C.length
    · have c1 := HC.out k hlt
      have c2 := HZ.out k (by omega)
      obtain ⟨b1, b2⟩ := BC.out _ (elt_mem hlt)
      obtain ⟨b3, b4⟩ := BZ.out _ (elt_mem (l := Z) (i := k) (by omega))
      by_cases x : elt C k < 0
      · have u1 : decide (4294967296 ≤ IntKind.u64.wrap (elt C k)) = true := by rw [decide_eq_true_eq, IntKind.wrap_u64]; omega
        go_wp2
        go_ret
        exact Ret.of (by (repeat (first | exact Below.refl _ _ | with_reducible refine Below.drew ?_ | with_reducible refine Below.ext ?_ (by first | exact Nat.le_refl _ | (simp; done) | (simp; omega)) _ | with_reducible refine Below.alloc ?_ (by first | exact Nat.le_refl _ | (simp; done) | (simp; omega)) _ | with_reducible refine Below.setCell ?_ (by first | exact Nat.le_refl _ | (simp; done) | (simp; omega)) _)))
      have y0 := Int.not_lt.1 x
      clear x
      by_cases x : 4294967295 < elt C k
      · have u1 : decide (4294967296 ≤ elt C k) = true := by rw [decide_eq_true_eq]; omega
        go_wp2
        go_ret
        exact Ret.of (by (repeat (first | exact Below.refl _ _ | with_reducible refine Below.drew ?_ | with_reducible refine Below.ext ?_ (by first | exact Nat.le_refl _ | (simp; done) | (simp; omega)) _ | with_reducible refine Below.alloc ?_ (by first | exact Nat.le_refl _ | (simp; done) | (simp; omega)) _ | with_reducible refine Below.setCell ?_ (by first | exact Nat.le_refl _ | (simp; done) | (simp; omega)) _)))
      have y1 := Int.not_lt.1 x
      clear x
      by_cases x : elt Z k < 0
      · have u1 : decide (4294967296 ≤ elt C k) = false := by simp; omega
        have u2 : decide (16777215 < IntKind.u64.wrap (elt Z k)) = true := by rw [decide_eq_true_eq, IntKind.wrap_u64]; omega
        go_wp2
        go_ret
        exact Ret.of (by (repeat (first | exact Below.refl _ _ | with_reducible refine Below.drew ?_ | with_reducible refine Below.ext ?_ (by first | exact Nat.le_refl _ | (simp; done) | (simp; omega)) _ | with_reducible refine Below.alloc ?_ (by first | exact Nat.le_refl _ | (simp; done) | (simp; omega)) _ | with_reducible refine Below.setCell ?_ (by first | exact Nat.le_refl _ | (simp; done) | (simp; omega)) _)))
      have y2 := Int.not_lt.1 x
      clear x
      by_cases x : 16777215 < elt Z k
      · have u1 : decide (4294967296 ≤ elt C k) = false := by simp; omega
        have u2 : decide (16777215 < elt Z k) = true := by rw [decide_eq_true_eq]; omega
        go_wp2
        go_ret
        exact Ret.of (by (repeat (first | exact Below.refl _ _ | with_reducible refine Below.drew ?_ | with_reducible refine Below.ext ?_ (by first | exact Nat.le_refl _ | (simp; done) | (simp; omega)) _ | with_reducible refine Below.alloc ?_ (by first | exact Nat.le_refl _ | (simp; done) | (simp; omega)) _ | with_reducible refine Below.setCell ?_ (by first | exact Nat.le_refl _ | (simp; done) | (simp; omega)) _)))
      have y3 := Int.not_lt.1 x
      clear x
      · have u1 : decide (4294967296 ≤ elt C k) = false := by simp; omega
        have u2 : decide (16777215 < elt Z k) = false := by simp; omega
        go_wp2
        go_round
        case rel => exact ⟨k + 1, by omega, by go_num, fun j hj => by
          by_cases e : j = k
          · subst e; exact ⟨⟨by omega, by omega⟩, by omega, by omega⟩
          · exact hall.out j (by omega)⟩
        case measure => simp [intOf]; omega
    · exact absurd (fun i hi => hall.out i (by omega)) HB.out
theorem right_no (W H : Int) (c z : Value) (C Z : List Int) (w : World) (hc : Rd w c C) (hz : Rd w z Z) (h : ¬ ImOk W H C Z) : Calls Try.prog 20 #[Im W H c z] w (Ret (.bool false) w) := by
  by_cases hd : 1 ≤ W ∧ W ≤ 1024 ∧ 1 ≤ H ∧ H ≤ 1024
  · obtain ⟨w0, w1, h0, h1⟩ := hd
    by_cases hl : (C.length : Int) = W * H ∧ (Z.length : Int) = W * H
    · exact right_bad W H c z C Z w hc hz w0 w1 h0 h1 hl.1 hl.2 fun hall => h ⟨w0, w1, h0, h1, hl.1, hl.2, fun i hi => (hall i hi).1, fun i hi => (hall i hi).2⟩
    · exact right_lens W H c z C Z w hc hz w0 w1 h0 h1 hl
  · exact right_dims W H c z C Z w hc hz hd
end Go.Proofs.Ythcjfanigfgckaa
end
section
/- The walks of layer 23 (store): the reference tells whether an image may be. Conditions: its slices read as lists of ints of 64 bits. -/
namespace Go.Proofs.Ythcjfanigfgckaa
set_option linter.unusedVariables false
set_option linter.unusedSimpArgs false
set_option maxRecDepth 10000
open Go.RowKit
set_option maxHeartbeats 2000000 in
theorem rright_yes (W H : Int) (c z : Value) (C Z : List Int) (w : World) (hc : Rd w c C) (hz : Rd w z Z) (h : ImOk W H C Z) :
    Calls Try.prog 5 #[Im W H c z] w (Ret (.bool true) w) := by
  obtain ⟨w0, w1, h0, h1, lc, lz, cs, zs⟩ := h
  obtain ⟨a0, a1⟩ := area_01 w0 w1 h0 h1
  obtain ⟨-, -, a, cap, rfl, hcap, h3⟩ := hc
  obtain ⟨-, -, a', cap', rfl, hcap', h3'⟩ := hz
  rcases h3 with rfl | ⟨b, off, rfl, hb, hcell⟩
  · simp at lc; omega
  rcases h3' with rfl | ⟨b', off', rfl, hb', hcell'⟩
  · simp at lz; omega
  have ec : ((C.length : Int) != W * H) = false := by rw [bne_eq_false_iff_eq]; exact lc
  have ez : ((Z.length : Int) != W * H) = false := by rw [bne_eq_false_iff_eq]; exact lz
  have LC := Lib.hid lc
  have LZ := Lib.hid lz
  have HC := Lib.hid hcell
  have HZ := Lib.hid hcell'
  have CS := Lib.hid cs
  have ZS := Lib.hid zs
  have n0 : 1 ≤ C.length := by omega
  have n1 : C.length ≤ 1048576 := by omega
  have n2 : C.length ≤ Z.length := by omega
  have d1 : decide (W < 1) = false := by simp; omega
  have d2 : decide (1024 < W) = false := by simp; omega
  have d3 : decide (H < 1) = false := by simp; omega
  have d4 : decide (1024 < H) = false := by simp; omega
  clear lc lz hcell hcell' cs zs w0 w1 h0 h1
  go_enter Try.func5, Try.ntmps5
  go_wp2
  go_loop [3] (fun i => ∃ k : Nat, k ≤ C.length ∧ i = .int .i64 k) (fun i => C.length - (intOf i).toNat)
  case atStart => exact ⟨0, by omega, rfl⟩
  case round =>
    obtain ⟨k, hk, rfl⟩ := hrel
    by_cases hlt : k < C.length
    · have c1 := HC.out k hlt
      have c2 := HZ.out k (by omega)
      obtain ⟨l1, l2⟩ := CS.out k hlt
      obtain ⟨l3, l4⟩ := ZS.out k hlt
      have u0 : decide (elt C k < 0) = false := by simp; omega
      have u1 : decide (4294967295 < elt C k) = false := by simp; omega
      have u2 : decide (elt Z k < 0) = false := by simp; omega
      have u3 : decide (16777215 < elt Z k) = false := by simp; omega
      go_wp2
      go_round
      case rel => exact ⟨k + 1, by omega, by go_num⟩
      case measure => simp [intOf]; omega
    · go_wp2
      go_ret
      exact Ret.of (by (repeat (first | exact Below.refl _ _ | with_reducible refine Below.drew ?_ | with_reducible refine Below.ext ?_ (by first | exact Nat.le_refl _ | (simp; done) | (simp; omega)) _ | with_reducible refine Below.alloc ?_ (by first | exact Nat.le_refl _ | (simp; done) | (simp; omega)) _ | with_reducible refine Below.setCell ?_ (by first | exact Nat.le_refl _ | (simp; done) | (simp; omega)) _)))
set_option maxHeartbeats 4000000 in
theorem rright_dims (W H : Int) (c z : Value) (C Z : List Int) (w : World) (hc : Rd w c C) (hz : Rd w z Z) (h : ¬ (1 ≤ W ∧ W ≤ 1024 ∧ 1 ≤ H ∧ H ≤ 1024)) :
    Calls Try.prog 5 #[Im W H c z] w (Ret (.bool false) w) := by
  obtain ⟨-, -, a, cap, rfl, -, -⟩ := hc
  obtain ⟨-, -, a', cap', rfl, -, -⟩ := hz
  by_cases w0 : 1 ≤ W
  · have d1 : decide (W < 1) = false := by simp; omega
    by_cases w1 : W ≤ 1024
    · have d2 : decide (1024 < W) = false := by simp; omega
      by_cases h0 : 1 ≤ H
      · have d3 : decide (H < 1) = false := by simp; omega
        have h1 : 1024 < H := by omega
        have d4 : decide (1024 < H) = true := by simp; omega
        clear h w0 w1 h0 h1
        go_enter Try.func5, Try.ntmps5
        go_wp2
        go_ret
        exact Ret.of (by (repeat (first | exact Below.refl _ _ | with_reducible refine Below.drew ?_ | with_reducible refine Below.ext ?_ (by first | exact Nat.le_refl _ | (simp; done) | (simp; omega)) _ | with_reducible refine Below.alloc ?_ (by first | exact Nat.le_refl _ | (simp; done) | (simp; omega)) _ | with_reducible refine Below.setCell ?_ (by first | exact Nat.le_refl _ | (simp; done) | (simp; omega)) _)))
      · have d3 : decide (H < 1) = true := by simp; omega
        clear h w0 w1 h0
        go_enter Try.func5, Try.ntmps5
        go_wp2
        go_ret
        exact Ret.of (by (repeat (first | exact Below.refl _ _ | with_reducible refine Below.drew ?_ | with_reducible refine Below.ext ?_ (by first | exact Nat.le_refl _ | (simp; done) | (simp; omega)) _ | with_reducible refine Below.alloc ?_ (by first | exact Nat.le_refl _ | (simp; done) | (simp; omega)) _ | with_reducible refine Below.setCell ?_ (by first | exact Nat.le_refl _ | (simp; done) | (simp; omega)) _)))
    · have d2 : decide (1024 < W) = true := by simp; omega
      clear h w0 w1
      go_enter Try.func5, Try.ntmps5
      go_wp2
      go_ret
      exact Ret.of (by (repeat (first | exact Below.refl _ _ | with_reducible refine Below.drew ?_ | with_reducible refine Below.ext ?_ (by first | exact Nat.le_refl _ | (simp; done) | (simp; omega)) _ | with_reducible refine Below.alloc ?_ (by first | exact Nat.le_refl _ | (simp; done) | (simp; omega)) _ | with_reducible refine Below.setCell ?_ (by first | exact Nat.le_refl _ | (simp; done) | (simp; omega)) _)))
  · have d1 : decide (W < 1) = true := by simp; omega
    clear h w0
    go_enter Try.func5, Try.ntmps5
    go_wp2
    go_ret
    exact Ret.of (by (repeat (first | exact Below.refl _ _ | with_reducible refine Below.drew ?_ | with_reducible refine Below.ext ?_ (by first | exact Nat.le_refl _ | (simp; done) | (simp; omega)) _ | with_reducible refine Below.alloc ?_ (by first | exact Nat.le_refl _ | (simp; done) | (simp; omega)) _ | with_reducible refine Below.setCell ?_ (by first | exact Nat.le_refl _ | (simp; done) | (simp; omega)) _)))
set_option maxHeartbeats 4000000 in
theorem rright_lens (W H : Int) (c z : Value) (C Z : List Int) (w : World) (hc : Rd w c C) (hz : Rd w z Z) (w0 : 1 ≤ W) (w1 : W ≤ 1024) (h0 : 1 ≤ H) (h1 : H ≤ 1024) (h : ¬ ((C.length : Int) = W * H ∧ (Z.length : Int) = W * H)) :
    Calls Try.prog 5 #[Im W H c z] w (Ret (.bool false) w) := by
  obtain ⟨-, n1, a, cap, rfl, -, -⟩ := hc
  obtain ⟨-, n2, a', cap', rfl, -, -⟩ := hz
  have d1 : decide (W < 1) = false := by simp; omega
  have d2 : decide (1024 < W) = false := by simp; omega
  have d3 : decide (H < 1) = false := by simp; omega
  have d4 : decide (1024 < H) = false := by simp; omega
  obtain ⟨p0, p1⟩ := area_01 w0 w1 h0 h1
  clear w0 w1 h0 h1
  by_cases hC : (C.length : Int) = W * H
  · have ec : ((C.length : Int) != W * H) = false := by rw [bne_eq_false_iff_eq]; exact hC
    have ez : ((Z.length : Int) != W * H) = true := by rw [bne_iff_ne]; exact fun e => h ⟨hC, e⟩
    clear h hC
    go_enter Try.func5, Try.ntmps5
    go_wp2
    go_ret
    exact Ret.of (by (repeat (first | exact Below.refl _ _ | with_reducible refine Below.drew ?_ | with_reducible refine Below.ext ?_ (by first | exact Nat.le_refl _ | (simp; done) | (simp; omega)) _ | with_reducible refine Below.alloc ?_ (by first | exact Nat.le_refl _ | (simp; done) | (simp; omega)) _ | with_reducible refine Below.setCell ?_ (by first | exact Nat.le_refl _ | (simp; done) | (simp; omega)) _)))
  · have ec : ((C.length : Int) != W * H) = true := by rw [bne_iff_ne]; exact hC
    clear h hC
    go_enter Try.func5, Try.ntmps5
    go_wp2
    go_ret
    exact Ret.of (by (repeat (first | exact Below.refl _ _ | with_reducible refine Below.drew ?_ | with_reducible refine Below.ext ?_ (by first | exact Nat.le_refl _ | (simp; done) | (simp; omega)) _ | with_reducible refine Below.alloc ?_ (by first | exact Nat.le_refl _ | (simp; done) | (simp; omega)) _ | with_reducible refine Below.setCell ?_ (by first | exact Nat.le_refl _ | (simp; done) | (simp; omega)) _)))
set_option maxHeartbeats 8000000 in
theorem rright_bad (W H : Int) (c z : Value) (C Z : List Int) (w : World) (hc : Rd w c C) (hz : Rd w z Z) (w0 : 1 ≤ W) (w1 : W ≤ 1024) (h0 : 1 ≤ H) (h1 : H ≤ 1024) (lc : (C.length : Int) = W * H) (lz : (Z.length : Int) = W * H)
    (h : ¬ ∀ i, i < C.length → (0 ≤ elt C i ∧ elt C i ≤ 4294967295) ∧ 0 ≤ elt Z i ∧ elt Z i ≤ 16777215) :
    Calls Try.prog 5 #[Im W H c z] w (Ret (.bool false) w) := by
  obtain ⟨bc, -, a, cap, rfl, hcap, h3⟩ := hc
  obtain ⟨bz, -, a', cap', rfl, hcap', h3'⟩ := hz
  have d1 : decide (W < 1) = false := by simp; omega
  have d2 : decide (1024 < W) = false := by simp; omega
  have d3 : decide (H < 1) = false := by simp; omega
  have d4 : decide (1024 < H) = false := by simp; omega
  obtain ⟨p0, p1⟩ := area_01 w0 w1 h0 h1
  clear w0 w1 h0 h1
  rcases h3 with rfl | ⟨b, off, rfl, hb, hcell⟩
  · simp at lc; omega
  rcases h3' with rfl | ⟨b', off', rfl, hb', hcell'⟩
  · simp at lz; omega
  have ec : ((C.length : Int) != W * H) = false := by rw [bne_eq_false_iff_eq]; exact lc
  have ez : ((Z.length : Int) != W * H) = false := by rw [bne_eq_false_iff_eq]; exact lz
  have LC := Lib.hid lc
  have LZ := Lib.hid lz
  have HC := Lib.hid hcell
  have HZ := Lib.hid hcell'
  have BC := Lib.hid bc
  have BZ := Lib.hid bz
  have HB := Lib.hid h
  have n0 : 1 ≤ C.length := by omega
  have n1 : C.length ≤ 1048576 := by omega
  have n2 : C.length ≤ Z.length := by omega
  clear lc lz hcell hcell' bc bz h
  go_enter Try.func5, Try.ntmps5
  go_wp2
  go_loop [3] (fun i => ∃ k : Nat, k ≤ C.length ∧ i = .int .i64 k ∧ Hid (∀ j, j < k → (0 ≤ elt C j ∧ elt C j ≤ 4294967295) ∧ 0 ≤ elt Z j ∧ elt Z j ≤ 16777215)) (fun i => C.length - (intOf i).toNat)
  case atStart => exact ⟨0, by omega, rfl, fun j hj => absurd hj (by omega)⟩
  case round =>
    obtain ⟨k, hk, rfl, hall⟩ := hrel
    by_cases hlt : k < C.length
    · have c1 := HC.out k hlt
      have c2 := HZ.out k (by omega)
      obtain ⟨b1, b2⟩ := BC.out _ (elt_mem hlt)
      obtain ⟨b3, b4⟩ := BZ.out _ (elt_mem (l := Z) (i := k) (by omega))
      by_cases x : elt C k < 0
      · have u0 : decide (elt C k < 0) = true := by simp; omega
        go_wp2
        go_ret
        exact Ret.of (by (repeat (first | exact Below.refl _ _ | with_reducible refine Below.drew ?_ | with_reducible refine Below.ext ?_ (by first | exact Nat.le_refl _ | (simp; done) | (simp; omega)) _ | with_reducible refine Below.alloc ?_ (by first | exact Nat.le_refl _ | (simp; done) | (simp; omega)) _ | with_reducible refine Below.setCell ?_ (by first | exact Nat.le_refl _ | (simp; done) | (simp; omega)) _)))
      have y0 := Int.not_lt.1 x
      clear x
      by_cases x : 4294967295 < elt C k
      · have u0 : decide (elt C k < 0) = false := by simp; omega
        have u1 : decide (4294967295 < elt C k) = true := by simp; omega
        go_wp2
        go_ret
        exact Ret.of (by (repeat (first | exact Below.refl _ _ | with_reducible refine Below.drew ?_ | with_reducible refine Below.ext ?_ (by first | exact Nat.le_refl _ | (simp; done) | (simp; omega)) _ | with_reducible refine Below.alloc ?_ (by first | exact Nat.le_refl _ | (simp; done) | (simp; omega)) _ | with_reducible refine Below.setCell ?_ (by first | exact Nat.le_refl _ | (simp; done) | (simp; omega)) _)))
      have y1 := Int.not_lt.1 x
      clear x
      by_cases x : elt Z k < 0
      · have u0 : decide (elt C k < 0) = false := by simp; omega
        have u1 : decide (4294967295 < elt C k) = false := by simp; omega
        have u2 : decide (elt Z k < 0) = true := by simp; omega
        go_wp2
        go_ret
        exact Ret.of (by (repeat (first | exact Below.refl _ _ | with_reducible refine Below.drew ?_ | with_reducible refine Below.ext ?_ (by first | exact Nat.le_refl _ | (simp; done) | (simp; omega)) _ | with_reducible refine Below.alloc ?_ (by first | exact Nat.le_refl _ | (simp; done) | (simp; omega)) _ | with_reducible refine Below.setCell ?_ (by first | exact Nat.le_refl _ | (simp; done) | (simp; omega)) _)))
      have y2 := Int.not_lt.1 x
      clear x
      by_cases x : 16777215 < elt Z k
      · have u0 : decide (elt C k < 0) = false := by simp; omega
        have u1 : decide (4294967295 < elt C k) = false := by simp; omega
        have u2 : decide (elt Z k < 0) = false := by simp; omega
        have u3 : decide (16777215 < elt Z k) = true := by simp; omega
        go_wp2
        go_ret
        exact Ret.of (by (repeat (first | exact Below.refl _ _ | with_reducible refine Below.drew ?_ | with_reducible refine Below.ext ?_ (by first | exact Nat.le_refl _ | (simp; done) | (simp; omega)) _ | with_reducible refine Below.alloc ?_ (by first | exact Nat.le_refl _ | (simp; done) | (simp; omega)) _ | with_reducible refine Below.setCell ?_ (by first | exact Nat.le_refl _ | (simp; done) | (simp; omega)) _)))
      have y3 := Int.not_lt.1 x
      clear x
      · have u0 : decide (elt C k < 0) = false := by simp; omega
        have u1 : decide (4294967295 < elt C k) = false := by simp; omega
        have u2 : decide (elt Z k < 0) = false := by simp; omega
        have u3 : decide (16777215 < elt Z k) = false := by simp; omega
        go_wp2
        go_round
        case rel => exact ⟨k + 1, by omega, by go_num, fun j hj => by
          by_cases e : j = k
          · subst e; exact ⟨⟨by omega, by omega⟩, by omega, by omega⟩
          · exact hall.out j (by omega)⟩
        case measure => simp [intOf]; omega
    · exact absurd (fun i hi => hall.out i (by omega)) HB.out
theorem rright_no (W H : Int) (c z : Value) (C Z : List Int) (w : World) (hc : Rd w c C) (hz : Rd w z Z) (h : ¬ ImOk W H C Z) : Calls Try.prog 5 #[Im W H c z] w (Ret (.bool false) w) := by
  by_cases hd : 1 ≤ W ∧ W ≤ 1024 ∧ 1 ≤ H ∧ H ≤ 1024
  · obtain ⟨w0, w1, h0, h1⟩ := hd
    by_cases hl : (C.length : Int) = W * H ∧ (Z.length : Int) = W * H
    · exact rright_bad W H c z C Z w hc hz w0 w1 h0 h1 hl.1 hl.2 fun hall => h ⟨w0, w1, h0, h1, hl.1, hl.2, fun i hi => (hall i hi).1, fun i hi => (hall i hi).2⟩
    · exact rright_lens W H c z C Z w hc hz w0 w1 h0 h1 hl
  · exact rright_dims W H c z C Z w hc hz hd
end Go.Proofs.Ythcjfanigfgckaa
end
section
/- The walks of layer 23 (store): a mask's bits, mixed colors. No condition. -/
namespace Go.Proofs.Ythcjfanigfgckaa
set_option linter.unusedVariables false
set_option linter.unusedSimpArgs false
set_option maxRecDepth 10000
open Go.RowKit
/-- A mask's value. -/
abbrev M4 (a b c d : Bool) : Value := .agg #[.bool a, .bool b, .bool c, .bool d]
@[go_sem] theorem indexM_0 (a b c d : Bool) (w : World) : (Instr.index 29 (M4 a b c d) (.int .i64 0)).run Try.prog w = .ok (.bool a) w := by kernel_rfl
@[go_sem] theorem indexM_1 (a b c d : Bool) (w : World) : (Instr.index 29 (M4 a b c d) (.int .i64 1)).run Try.prog w = .ok (.bool b) w := by kernel_rfl
@[go_sem] theorem indexM_2 (a b c d : Bool) (w : World) : (Instr.index 29 (M4 a b c d) (.int .i64 2)).run Try.prog w = .ok (.bool c) w := by kernel_rfl
@[go_sem] theorem indexM_3 (a b c d : Bool) (w : World) : (Instr.index 29 (M4 a b c d) (.int .i64 3)).run Try.prog w = .ok (.bool d) w := by kernel_rfl
set_option maxHeartbeats 4000000 in
theorem bits_any (m0 m1 m2 m3 : Bool) (w : World) : Calls Try.prog 22 #[M4 m0 m1 m2 m3] w (Ret (.int .i64 (mk m0 m1 m2 m3)) w) := by
  cases m0 <;> cases m1 <;> cases m2 <;> cases m3
  all_goals
    go_enter Try.func22, Try.ntmps22
    go_wp2
    refine wp_loop_rounds 5 ?_
    rw [rounds_succ]
    go_wp2
    rw [rounds_succ]
    go_wp2
    rw [rounds_succ]
    go_wp2
    rw [rounds_succ]
    go_wp2
    rw [rounds_succ]
    go_wp2
    go_ret
    exact Ret.of' (by kernel_rfl) (by (repeat (first | exact Below.refl _ _ | with_reducible refine Below.drew ?_ | with_reducible refine Below.ext ?_ (by first | exact Nat.le_refl _ | (simp; done) | (simp; omega)) _ | with_reducible refine Below.alloc ?_ (by first | exact Nat.le_refl _ | (simp; done) | (simp; omega)) _ | with_reducible refine Below.setCell ?_ (by first | exact Nat.le_refl _ | (simp; done) | (simp; omega)) _)))
set_option maxHeartbeats 4000000 in
theorem mixed_any (a b c d x y z t : Int) (m0 m1 m2 m3 : Bool) (w : World) :
    Calls Try.prog 31 #[C4 a b c d, C4 x y z t, M4 m0 m1 m2 m3] w (Ret (C4 (if m0 then x else a) (if m1 then y else b) (if m2 then z else c) (if m3 then t else d)) w) := by
  cases m0 <;> cases m1 <;> cases m2 <;> cases m3
  all_goals
    go_enter Try.func31, Try.ntmps31
    go_wp2
    refine wp_loop_rounds 5 ?_
    rw [rounds_succ]
    go_wp2
    rw [rounds_succ]
    go_wp2
    rw [rounds_succ]
    go_wp2
    rw [rounds_succ]
    go_wp2
    rw [rounds_succ]
    go_wp2
    refine bodyPost_ret (v := C4 _ _ _ _) (by simp [results, Try.results31, go_sem]; exact ⟨rfl, rfl, rfl, rfl⟩) rfl (Ret.of' (by simp) (by (repeat (first | exact Below.refl _ _ | with_reducible refine Below.drew ?_ | with_reducible refine Below.ext ?_ (by first | exact Nat.le_refl _ | (simp; done) | (simp; omega)) _ | with_reducible refine Below.alloc ?_ (by first | exact Nat.le_refl _ | (simp; done) | (simp; omega)) _ | with_reducible refine Below.setCell ?_ (by first | exact Nat.le_refl _ | (simp; done) | (simp; omega)) _))))
end Go.Proofs.Ythcjfanigfgckaa
end
section
/- The walks of layer 23 (store): a pixel's color and depth are put. Conditions: the image's cells, told one by one. -/
namespace Go.Proofs.Ythcjfanigfgckaa
set_option linter.unusedVariables false
set_option linter.unusedSimpArgs false
set_option maxRecDepth 10000
open Go.RowKit
theorem in_no (W H x y : Int) (b : Nat) (w : World) (w0 : 1 ≤ W) (w1 : W ≤ 1024) (h0 : 1 ≤ H) (h1 : H ≤ 1024) (bx0 : -9223372036854775808 ≤ x) (bx1 : x ≤ 9223372036854775807) (by0 : -9223372036854775808 ≤ y) (by1 : y ≤ 9223372036854775807)
    (hi : ¬ inB W H x y) (cw : w.cell? ⟨b, 0, none⟩ = some (.int .i64 W)) (ch : w.cell? ⟨b, 1, none⟩ = some (.int .i64 H)) :
    Calls Try.prog 25 #[.pointer (some ⟨b, 0, none⟩), .int .i64 x, .int .i64 y] w (Still (.bool false) w) := by
  by_cases x0 : 0 ≤ x
  · by_cases x1 : x < W
    · by_cases y0 : 0 ≤ y
      · have y1 : ¬ y < H := fun y1 => hi ⟨x0, x1, y0, y1⟩
        clear hi
        go_enter Try.func25, Try.ntmps25
        go_wp2
        go_ret
        exact ⟨by simp, rfl⟩
      · have y1 : decide (IntKind.u64.wrap y < H) = false := by rw [decide_eq_false_iff_not, IntKind.wrap_u64]; omega
        clear hi y0
        go_enter Try.func25, Try.ntmps25
        go_wp2
        go_ret
        exact ⟨rfl, rfl⟩
    · clear hi
      go_enter Try.func25, Try.ntmps25
      go_wp2
      go_ret
      exact ⟨rfl, rfl⟩
  · have x1 : decide (IntKind.u64.wrap x < W) = false := by rw [decide_eq_false_iff_not, IntKind.wrap_u64]; omega
    clear hi x0
    go_enter Try.func25, Try.ntmps25
    go_wp2
    go_ret
    exact ⟨rfl, rfl⟩
theorem at_no (W H : Int) (c z : Value) (x y : Int) (w : World) (hi : ¬ inB W H x y) :
    Calls Try.prog 29 #[Im W H c z, .int .i64 x, .int .i64 y] w (Ret (.int .i64 (-1)) w) := by
  by_cases x0 : 0 ≤ x
  · have u0 : decide (x < 0) = false := by simp; omega
    by_cases x1 : x < W
    · have u1 : decide (W ≤ x) = false := by simp; omega
      by_cases y0 : 0 ≤ y
      · have u2 : decide (y < 0) = false := by simp; omega
        have u3 : decide (H ≤ y) = true := by simp; exact Int.not_lt.1 fun y1 => hi ⟨x0, x1, y0, y1⟩
        clear hi x0 x1 y0
        go_enter Try.func29, Try.ntmps29
        go_wp2
        go_ret
        exact Ret.of (by (repeat (first | exact Below.refl _ _ | with_reducible refine Below.drew ?_ | with_reducible refine Below.ext ?_ (by first | exact Nat.le_refl _ | (simp; done) | (simp; omega)) _ | with_reducible refine Below.alloc ?_ (by first | exact Nat.le_refl _ | (simp; done) | (simp; omega)) _ | with_reducible refine Below.setCell ?_ (by first | exact Nat.le_refl _ | (simp; done) | (simp; omega)) _)))
      · have u2 : decide (y < 0) = true := by simp; omega
        clear hi x0 x1 y0
        go_enter Try.func29, Try.ntmps29
        go_wp2
        go_ret
        exact Ret.of (by (repeat (first | exact Below.refl _ _ | with_reducible refine Below.drew ?_ | with_reducible refine Below.ext ?_ (by first | exact Nat.le_refl _ | (simp; done) | (simp; omega)) _ | with_reducible refine Below.alloc ?_ (by first | exact Nat.le_refl _ | (simp; done) | (simp; omega)) _ | with_reducible refine Below.setCell ?_ (by first | exact Nat.le_refl _ | (simp; done) | (simp; omega)) _)))
    · have u1 : decide (W ≤ x) = true := by simp; omega
      clear hi x0 x1
      go_enter Try.func29, Try.ntmps29
      go_wp2
      go_ret
      exact Ret.of (by (repeat (first | exact Below.refl _ _ | with_reducible refine Below.drew ?_ | with_reducible refine Below.ext ?_ (by first | exact Nat.le_refl _ | (simp; done) | (simp; omega)) _ | with_reducible refine Below.alloc ?_ (by first | exact Nat.le_refl _ | (simp; done) | (simp; omega)) _ | with_reducible refine Below.setCell ?_ (by first | exact Nat.le_refl _ | (simp; done) | (simp; omega)) _)))
  · have u0 : decide (x < 0) = true := by simp; omega
    clear hi x0
    go_enter Try.func29, Try.ntmps29
    go_wp2
    go_ret
    exact Ret.of (by (repeat (first | exact Below.refl _ _ | with_reducible refine Below.drew ?_ | with_reducible refine Below.ext ?_ (by first | exact Nat.le_refl _ | (simp; done) | (simp; omega)) _ | with_reducible refine Below.alloc ?_ (by first | exact Nat.le_refl _ | (simp; done) | (simp; omega)) _ | with_reducible refine Below.setCell ?_ (by first | exact Nat.le_refl _ | (simp; done) | (simp; omega)) _)))
/-- A packed color, mixed. -/
def mixN (v x y z t : Int) (m0 m1 m2 m3 : Bool) : Int := pk (if m0 then x else up0 v) (if m1 then y else up1 v) (if m2 then z else up2 v) (if m3 then t else up3 v)
theorem mix_may (v x y z t : Int) (m0 m1 m2 m3 : Bool) (k : May x y z t) : May (if m0 then x else up0 v) (if m1 then y else up1 v) (if m2 then z else up2 v) (if m3 then t else up3 v) := by
  obtain ⟨a0, a1, b0, b1, c0, c1, d0, d1⟩ := up_may v
  obtain ⟨x0, x1, y0, y1, z0, z1, t0, t1⟩ := k
  constructor <;> split <;> assumption
/-- What is known of an image that is written to. -/
structure Wr (w : World) (bm pc pz oc oz cc cz n : Nat) (W H : Int) (x y : Int) : Prop where
  w0 : 1 ≤ W
  w1 : W ≤ 1024
  h0 : 1 ≤ H
  h1 : H ≤ 1024
  c0 : w.cell? ⟨bm, 0, none⟩ = some (.int .i64 W)
  c1 : w.cell? ⟨bm, 1, none⟩ = some (.int .i64 H)
  c2 : w.cell? ⟨bm, 2, none⟩ = some (.slice (some ⟨pc, oc, none⟩) n cc)
  c3 : w.cell? ⟨bm, 3, none⟩ = some (.slice (some ⟨pz, oz, none⟩) n cz)
  n0 : (n : Int) = W * H
  bm : bm < w.heap.size
  pc : pc < w.heap.size
  pz : pz < w.heap.size
set_option maxHeartbeats 4000000 in
theorem put_in (bm pc pz oc oz cc cz n : Nat) (W H x y : Int) (a b c d v : Int) (m0 m1 m2 m3 : Bool) (w : World) (h : Wr w bm pc pz oc oz cc cz n W H x y) (hi : inB W H x y) (k : May a b c d) (v0 : 0 ≤ v) (v1 : v ≤ 4294967295)
    (hc : w.cell? ⟨pc, oc + (y * W + x).toNat, none⟩ = some (.int .i64 v)) (hf : w.frozen? ⟨pc, oc + (y * W + x).toNat, none⟩ = false) :
    Calls Try.prog 14 #[.pointer (some ⟨bm, 0, none⟩), .int .i64 x, .int .i64 y, C4 a b c d, M4 m0 m1 m2 m3] w (Ret (.bool true) (w.setCell ⟨pc, oc + (y * W + x).toNat, none⟩ (.int .i64 (mixN v a b c d m0 m1 m2 m3)))) := by
  obtain ⟨w0, w1, h0, h1, c0, c1, c2, c3, hn, lbm, lpc, lpz⟩ := h
  have HI := hi
  obtain ⟨x0, x1, y0, y1⟩ := hi
  obtain ⟨q0, q1⟩ := ix_in x0 x1 y0 y1
  obtain ⟨a0, a1⟩ := area_01 w0 w1 h0 h1
  have q3 : 0 ≤ y * W + x := by omega
  have n1 : y * W + x < n := by omega
  have n3 : n ≤ 1048576 := by omega
  have lbm' : bm ≤ w.heap.size := by omega
  have lpc' : pc ≤ w.heap.size := by omega
  have hput : bits .or .i64 (bits .andNot .i64 v (mk m0 m1 m2 m3)) (bits .and .i64 (pk a b c d) (mk m0 m1 m2 m3)) = mixN v a b c d m0 m1 m2 m3 := by
    have := put_bits (up_may v) k m0 m1 m2 m3
    rwa [pk_up v0 v1] at this
  clear hn
  go_enter Try.func14, Try.ntmps14
  go_wp2_with (first | (go_at_call 25; (with_reducible refine (in_yes W H x y bm _ w0 w1 h0 h1 HI ?_ ?_).mono ?_); go_simp; go_simp; rintro _ _ ⟨rfl, rfl⟩))
  refine wp_region_ext (by kernel_rfl) (by kernel_rfl) ?_
  repeat (go_big_quiet_step ((first | (go_at_call 22; with_reducible exact Calls.quiet_ret (bits_any m0 m1 m2 m3 _)))))
  refine wpQuiet_nil ?_
  intro _ hw_ext
  obtain ⟨X, hw_ext⟩ := hw_ext
  subst hw_ext
  go_wp2
  refine wp_region_ext_tail 12 (by kernel_rfl) (by kernel_rfl) ?_
  simp only [List.take_succ_cons, List.take_zero, List.drop_succ_cons, List.drop_zero]
  repeat (go_big_quiet_step ((first | (go_at_call 19; with_reducible exact Calls.quiet_ret (pack_any _ _ _ _ k _)))))
  refine wpQuiet_nil ?_
  intro _ hw_ext
  obtain ⟨Y, hw_ext⟩ := hw_ext
  subst hw_ext
  go_wp2
  go_ret
  exact Ret.of (by (repeat (first | exact Below.refl _ _ | with_reducible refine Below.drew ?_ | with_reducible refine Below.ext ?_ (by first | exact Nat.le_refl _ | (simp; done) | (simp; omega)) _ | with_reducible refine Below.alloc ?_ (by first | exact Nat.le_refl _ | (simp; done) | (simp; omega)) _ | with_reducible refine Below.setCell ?_ (by first | exact Nat.le_refl _ | (simp; done) | (simp; omega)) _)))
set_option maxHeartbeats 4000000 in
theorem rput_in (bm pc pz oc oz cc cz n : Nat) (W H x y : Int) (a b c d v : Int) (m0 m1 m2 m3 : Bool) (w : World) (h : Wr w bm pc pz oc oz cc cz n W H x y) (hi : inB W H x y) (k : May a b c d) (v0 : 0 ≤ v) (v1 : v ≤ 4294967295)
    (hc : w.cell? ⟨pc, oc + (y * W + x).toNat, none⟩ = some (.int .i64 v)) (hf : w.frozen? ⟨pc, oc + (y * W + x).toNat, none⟩ = false) :
    Calls Try.prog 24 #[.pointer (some ⟨bm, 0, none⟩), .int .i64 x, .int .i64 y, C4 a b c d, M4 m0 m1 m2 m3] w (Ret (.bool true) (w.setCell ⟨pc, oc + (y * W + x).toNat, none⟩ (.int .i64 (mixN v a b c d m0 m1 m2 m3)))) := by
  obtain ⟨w0, w1, h0, h1, c0, c1, c2, c3, hn, lbm, lpc, lpz⟩ := h
  have HI := hi
  obtain ⟨x0, x1, y0, y1⟩ := hi
  obtain ⟨q0, q1⟩ := ix_in x0 x1 y0 y1
  obtain ⟨a0, a1⟩ := area_01 w0 w1 h0 h1
  have q3 : 0 ≤ y * W + x := by omega
  have n1 : y * W + x < n := by omega
  have n3 : n ≤ 1048576 := by omega
  have lbm' : bm ≤ w.heap.size := by omega
  have lpc' : pc ≤ w.heap.size := by omega
  have HM := mix_may v a b c d m0 m1 m2 m3 k
  have hmix := fun w => mixed_any (up0 v) (up1 v) (up2 v) (up3 v) a b c d m0 m1 m2 m3 w
  simp only [mixN]
  generalize (if m0 then a else up0 v) = p0 at hmix HM ⊢
  generalize (if m1 then b else up1 v) = p1 at hmix HM ⊢
  generalize (if m2 then c else up2 v) = p2 at hmix HM ⊢
  generalize (if m3 then d else up3 v) = p3 at hmix HM ⊢
  have HX := Lib.hid hmix
  clear hn hmix
  go_enter Try.func24, Try.ntmps24
  go_wp2_with (first | (go_at_call 29; (with_reducible refine (at_yes _ _ _ _ _ _ _ w0 w1 h0 h1 HI).mono ?_); rintro _ _ ⟨rfl, X_, rfl⟩))
  refine wp_region_ext_tail 18 (by kernel_rfl) (by kernel_rfl) ?_
  simp only [List.take_succ_cons, List.take_zero, List.drop_succ_cons, List.drop_zero]
  repeat (go_big_quiet_step ((first | (go_at_call 32; with_reducible exact Calls.quiet_ret (runpack_any v v0 v1 _)) | (go_at_call 31; with_reducible exact Calls.quiet_ret (HX.out _)) | (go_at_call 30; with_reducible exact Calls.quiet_ret (rpack_any _ _ _ _ HM _)))))
  refine wpQuiet_nil ?_
  intro _ hw_ext
  obtain ⟨Y, hw_ext⟩ := hw_ext
  subst hw_ext
  go_wp2
  go_ret
  exact Ret.of (by (repeat (first | exact Below.refl _ _ | with_reducible refine Below.drew ?_ | with_reducible refine Below.ext ?_ (by first | exact Nat.le_refl _ | (simp; done) | (simp; omega)) _ | with_reducible refine Below.alloc ?_ (by first | exact Nat.le_refl _ | (simp; done) | (simp; omega)) _ | with_reducible refine Below.setCell ?_ (by first | exact Nat.le_refl _ | (simp; done) | (simp; omega)) _)))
set_option maxHeartbeats 4000000 in
theorem deep_in (bm pc pz oc oz cc cz n : Nat) (W H x y : Int) (u v : Int) (w : World) (h : Wr w bm pc pz oc oz cc cz n W H x y) (hi : inB W H x y)
    (hc : w.cell? ⟨pz, oz + (y * W + x).toNat, none⟩ = some (.int .i64 v)) (hf : w.frozen? ⟨pz, oz + (y * W + x).toNat, none⟩ = false) :
    Calls Try.prog 13 #[.pointer (some ⟨bm, 0, none⟩), .int .i64 x, .int .i64 y, .int .i64 u] w (Ret (.bool true) (w.setCell ⟨pz, oz + (y * W + x).toNat, none⟩ (.int .i64 u))) := by
  obtain ⟨w0, w1, h0, h1, c0, c1, c2, c3, hn, lbm, lpc, lpz⟩ := h
  have HI := hi
  obtain ⟨x0, x1, y0, y1⟩ := hi
  obtain ⟨q0, q1⟩ := ix_in x0 x1 y0 y1
  obtain ⟨a0, a1⟩ := area_01 w0 w1 h0 h1
  have q3 : 0 ≤ y * W + x := by omega
  have n1 : y * W + x < n := by omega
  have n3 : n ≤ 1048576 := by omega
  have lbm' : bm ≤ w.heap.size := by omega
  have lpc' : pc ≤ w.heap.size := by omega
  clear hn
  go_enter Try.func13, Try.ntmps13
  go_wp2_with (first | (go_at_call 25; (with_reducible refine (in_yes W H x y bm _ w0 w1 h0 h1 HI ?_ ?_).mono ?_); go_simp; go_simp; rintro _ _ ⟨rfl, rfl⟩))
  go_region
  all_goals go_wp2
  all_goals go_ret
  all_goals exact Ret.of (by (repeat (first | exact Below.refl _ _ | with_reducible refine Below.drew ?_ | with_reducible refine Below.ext ?_ (by first | exact Nat.le_refl _ | (simp; done) | (simp; omega)) _ | with_reducible refine Below.alloc ?_ (by first | exact Nat.le_refl _ | (simp; done) | (simp; omega)) _ | with_reducible refine Below.setCell ?_ (by first | exact Nat.le_refl _ | (simp; done) | (simp; omega)) _)))
end Go.Proofs.Ythcjfanigfgckaa
end
section
/- The walks of layer 23 (store): no pixel, nothing put. Conditions: the image's cells, told one by one. -/
namespace Go.Proofs.Ythcjfanigfgckaa
set_option linter.unusedVariables false
set_option linter.unusedSimpArgs false
set_option maxRecDepth 10000
open Go.RowKit
theorem put_no (bm pc pz oc oz cc cz n : Nat) (W H x y : Int) (a b c d : Int) (m0 m1 m2 m3 : Bool) (w : World) (h : Wr w bm pc pz oc oz cc cz n W H x y) (bx0 : -9223372036854775808 ≤ x) (bx1 : x ≤ 9223372036854775807) (by0 : -9223372036854775808 ≤ y) (by1 : y ≤ 9223372036854775807) (hi : ¬ inB W H x y) :
    Calls Try.prog 14 #[.pointer (some ⟨bm, 0, none⟩), .int .i64 x, .int .i64 y, C4 a b c d, M4 m0 m1 m2 m3] w (Ret (.bool false) w) := by
  obtain ⟨w0, w1, h0, h1, c0, c1, c2, c3, hn, lbm, lpc, lpz⟩ := h
  have HI := Lib.hid hi
  have lbm' : bm ≤ w.heap.size := by omega
  clear hn hi
  go_enter Try.func14, Try.ntmps14
  go_wp2_with (first | (go_at_call 25; (with_reducible refine (in_no W H x y bm _ w0 w1 h0 h1 bx0 bx1 by0 by1 HI.out ?_ ?_).mono ?_); go_simp; go_simp; rintro _ _ ⟨rfl, rfl⟩))
  go_ret
  exact Ret.of (by (repeat (first | exact Below.refl _ _ | with_reducible refine Below.drew ?_ | with_reducible refine Below.ext ?_ (by first | exact Nat.le_refl _ | (simp; done) | (simp; omega)) _ | with_reducible refine Below.alloc ?_ (by first | exact Nat.le_refl _ | (simp; done) | (simp; omega)) _ | with_reducible refine Below.setCell ?_ (by first | exact Nat.le_refl _ | (simp; done) | (simp; omega)) _)))
theorem deep_no (bm pc pz oc oz cc cz n : Nat) (W H x y : Int) (u : Int) (w : World) (h : Wr w bm pc pz oc oz cc cz n W H x y) (bx0 : -9223372036854775808 ≤ x) (bx1 : x ≤ 9223372036854775807) (by0 : -9223372036854775808 ≤ y) (by1 : y ≤ 9223372036854775807) (hi : ¬ inB W H x y) :
    Calls Try.prog 13 #[.pointer (some ⟨bm, 0, none⟩), .int .i64 x, .int .i64 y, .int .i64 u] w (Ret (.bool false) w) := by
  obtain ⟨w0, w1, h0, h1, c0, c1, c2, c3, hn, lbm, lpc, lpz⟩ := h
  have HI := Lib.hid hi
  have lbm' : bm ≤ w.heap.size := by omega
  clear hn hi
  go_enter Try.func13, Try.ntmps13
  go_wp2_with (first | (go_at_call 25; (with_reducible refine (in_no W H x y bm _ w0 w1 h0 h1 bx0 bx1 by0 by1 HI.out ?_ ?_).mono ?_); go_simp; go_simp; rintro _ _ ⟨rfl, rfl⟩))
  go_ret
  exact Ret.of (by (repeat (first | exact Below.refl _ _ | with_reducible refine Below.drew ?_ | with_reducible refine Below.ext ?_ (by first | exact Nat.le_refl _ | (simp; done) | (simp; omega)) _ | with_reducible refine Below.alloc ?_ (by first | exact Nat.le_refl _ | (simp; done) | (simp; omega)) _ | with_reducible refine Below.setCell ?_ (by first | exact Nat.le_refl _ | (simp; done) | (simp; omega)) _)))
theorem rput_no (bm pc pz oc oz cc cz n : Nat) (W H x y : Int) (a b c d : Int) (m0 m1 m2 m3 : Bool) (w : World) (h : Wr w bm pc pz oc oz cc cz n W H x y) (bx0 : -9223372036854775808 ≤ x) (bx1 : x ≤ 9223372036854775807) (by0 : -9223372036854775808 ≤ y) (by1 : y ≤ 9223372036854775807) (hi : ¬ inB W H x y) :
    Calls Try.prog 24 #[.pointer (some ⟨bm, 0, none⟩), .int .i64 x, .int .i64 y, C4 a b c d, M4 m0 m1 m2 m3] w (Ret (.bool false) w) := by
  obtain ⟨w0, w1, h0, h1, c0, c1, c2, c3, hn, lbm, lpc, lpz⟩ := h
  have HI := Lib.hid hi
  have lbm' : bm ≤ w.heap.size := by omega
  clear hn hi
  go_enter Try.func24, Try.ntmps24
  go_wp2_with (first | (go_at_call 29; (with_reducible refine (at_no W H _ _ x y _ HI.out).mono ?_); rintro _ _ ⟨rfl, X_, rfl⟩))
  go_ret
  exact Ret.of (by (repeat (first | exact Below.refl _ _ | with_reducible refine Below.drew ?_ | with_reducible refine Below.ext ?_ (by first | exact Nat.le_refl _ | (simp; done) | (simp; omega)) _ | with_reducible refine Below.alloc ?_ (by first | exact Nat.le_refl _ | (simp; done) | (simp; omega)) _ | with_reducible refine Below.setCell ?_ (by first | exact Nat.le_refl _ | (simp; done) | (simp; omega)) _)))
end Go.Proofs.Ythcjfanigfgckaa
end
section
/- The walks of layer 23 (store): the reference's new image; no image. Conditions: the sides' bounds. -/
namespace Go.Proofs.Ythcjfanigfgckaa
set_option linter.unusedVariables false
set_option linter.unusedSimpArgs false
set_option maxRecDepth 10000
open Go.RowKit
theorem cell_one_at {w : World} {n : Nat} (h : w.heap.size = n) (x : Value) (t : TypeId) : ∀ j u, [x][j]? = some u → (w.alloc (.cells #[x] t)).cell? ((⟨n, 0, none⟩ : Addr).add j) = some u := by
  subst h; exact cell_one_new _ _ _
theorem new_makes (W H : Int) (n : Nat) (w : World) (w0 : 1 ≤ W) (w1 : W ≤ 1024) (h0 : 1 ≤ H) (h1 : H ≤ 1024) (hn : W * H = n) :
    Calls Try.prog 17 #[.int .i64 W, .int .i64 H] w (Makes W H (List.replicate n 0) (List.replicate n 16777215) (fun m => .tuple #[m, .int .i64 0]) w) := by
  obtain ⟨a0, a1⟩ := area_01 w0 w1 h0 h1
  refine (new_ok W H n w w0 w1 h0 h1 hn).mono ?_
  rintro _ _ ⟨pc, pz, rfl, hx, -, -, -, r1, r2⟩
  refine ⟨_, _, rfl, hx, rd_row r1 (by simp) (by omega) ?_, rd_row r2 (by simp) (by omega) ?_⟩
  · intro z hz; rw [List.eq_of_mem_replicate hz]; decide
  · intro z hz; rw [List.eq_of_mem_replicate hz]; decide
set_option maxHeartbeats 4000000 in
theorem new_no (W H : Int) (w : World) (h : ¬ (1 ≤ W ∧ W ≤ 1024 ∧ 1 ≤ H ∧ H ≤ 1024)) :
    Calls Try.prog 17 #[.int .i64 W, .int .i64 H] w (Ret (.tuple #[Im 0 0 (.slice none 0 0) (.slice none 0 0), .int .i64 10]) w) := by
  by_cases w0 : 1 ≤ W
  · have d1 : decide (W < 1) = false := by simp; omega
    by_cases w1 : W ≤ 1024
    · have d2 : decide (1024 < W) = false := by simp; omega
      by_cases h0 : 1 ≤ H
      · have d3 : decide (H < 1) = false := by simp; omega
        have d4 : decide (1024 < H) = true := by simp; omega
        clear h w0 w1 h0
        go_enter Try.func17, Try.ntmps17
        go_wp2
        exact bodyPost_ret (v := .tuple #[Im 0 0 (.slice none 0 0) (.slice none 0 0), .int .i64 10]) (by simp [results, Try.results17, go_sem]) rfl (Ret.of (by (repeat (first | exact Below.refl _ _ | with_reducible refine Below.drew ?_ | with_reducible refine Below.ext ?_ (by first | exact Nat.le_refl _ | (simp; done) | (simp; omega)) _ | with_reducible refine Below.alloc ?_ (by first | exact Nat.le_refl _ | (simp; done) | (simp; omega)) _ | with_reducible refine Below.setCell ?_ (by first | exact Nat.le_refl _ | (simp; done) | (simp; omega)) _))))
      · have d3 : decide (H < 1) = true := by simp; omega
        clear h w0 w1 h0
        go_enter Try.func17, Try.ntmps17
        go_wp2
        exact bodyPost_ret (v := .tuple #[Im 0 0 (.slice none 0 0) (.slice none 0 0), .int .i64 10]) (by simp [results, Try.results17, go_sem]) rfl (Ret.of (by (repeat (first | exact Below.refl _ _ | with_reducible refine Below.drew ?_ | with_reducible refine Below.ext ?_ (by first | exact Nat.le_refl _ | (simp; done) | (simp; omega)) _ | with_reducible refine Below.alloc ?_ (by first | exact Nat.le_refl _ | (simp; done) | (simp; omega)) _ | with_reducible refine Below.setCell ?_ (by first | exact Nat.le_refl _ | (simp; done) | (simp; omega)) _))))
    · have d2 : decide (1024 < W) = true := by simp; omega
      clear h w0 w1
      go_enter Try.func17, Try.ntmps17
      go_wp2
      exact bodyPost_ret (v := .tuple #[Im 0 0 (.slice none 0 0) (.slice none 0 0), .int .i64 10]) (by simp [results, Try.results17, go_sem]) rfl (Ret.of (by (repeat (first | exact Below.refl _ _ | with_reducible refine Below.drew ?_ | with_reducible refine Below.ext ?_ (by first | exact Nat.le_refl _ | (simp; done) | (simp; omega)) _ | with_reducible refine Below.alloc ?_ (by first | exact Nat.le_refl _ | (simp; done) | (simp; omega)) _ | with_reducible refine Below.setCell ?_ (by first | exact Nat.le_refl _ | (simp; done) | (simp; omega)) _))))
  · have d1 : decide (W < 1) = true := by simp; omega
    clear h w0
    go_enter Try.func17, Try.ntmps17
    go_wp2
    exact bodyPost_ret (v := .tuple #[Im 0 0 (.slice none 0 0) (.slice none 0 0), .int .i64 10]) (by simp [results, Try.results17, go_sem]) rfl (Ret.of (by (repeat (first | exact Below.refl _ _ | with_reducible refine Below.drew ?_ | with_reducible refine Below.ext ?_ (by first | exact Nat.le_refl _ | (simp; done) | (simp; omega)) _ | with_reducible refine Below.alloc ?_ (by first | exact Nat.le_refl _ | (simp; done) | (simp; omega)) _ | with_reducible refine Below.setCell ?_ (by first | exact Nat.le_refl _ | (simp; done) | (simp; omega)) _))))
end Go.Proofs.Ythcjfanigfgckaa
end
section
/- The walk of layer 23 (store): the reference's copy of an image. Conditions: its slices' cells, told for all grown worlds. -/
namespace Go.Proofs.Ythcjfanigfgckaa
set_option linter.unusedVariables false
set_option linter.unusedSimpArgs false
open Go.RowKit
theorem row_grown {w w' : World} {p : Nat} {c : Array Value} {T : TypeId} (h : Row w p c T) (hg : w.grownBy w' none) : Row w' p c T := by
  unfold Row; rw [hg.block p h.lt (by simp)]; exact h
/-- What the reference's copying lays. -/
def Laid (w : World) (W H : Int) (n : Nat) (nc nz : List Value) (wx : World) : Prop :=
  ∃ g1 k1 g2 k2 : Nat, Below w.heap.size w wx ∧ Row wx w.heap.size #[.int .i64 W, .int .i64 H, sl g1 n k1, sl g2 n k2] 24 ∧ Row wx (w.heap.size + 1) #[.int .i64 0, .int .i64 0, .slice none 0 0, .slice none 0 0] 24 ∧
    wx.ownsRow (w.heap.size + 2) 3 1 (sl g1 n k1) n nc ∧ wx.ownsRow (w.heap.size + 2) 3 1 (sl g2 n k2) n nz ∧ g1 ≠ g2
theorem owns_rebase {w : World} {q q' g n k : Nat} {e : TypeId} {xs : List Value} (h : w.ownsRow q e 1 (sl g n k) n xs) (hq : q' ≤ g) : w.ownsRow q' e 1 (sl g n k) n xs := by
  obtain ⟨h1, h2⟩ := h
  refine ⟨h1, ?_⟩
  rcases h2 with ⟨h2, h3⟩ | ⟨g', c', cur, e', h4, h5⟩
  · cases h2
  · obtain ⟨rfl, rfl⟩ : g = g' ∧ k = c' := by simpa using e'
    exact .inr ⟨g, k, cur, rfl, hq, h5⟩
theorem laid_mk {w w2 : World} {W H : Int} {n q1 q2 g1 k1 g2 k2 : Nat} {nc nz : List Value} {c z : Value} (B2 : Below w.heap.size w w2) (R2 : Row w2 w.heap.size #[.int .i64 W, .int .i64 H, c, z] 24) (S2 : Row w2 (w.heap.size + 1) #[.int .i64 0, .int .i64 0, .slice none 0 0, .slice none 0 0] 24)
    (O1 : w2.ownsRow q1 3 1 (sl g1 (0 + n) k1) (0 + n) ([] ++ nc)) (O2 : w2.ownsRow q2 3 1 (sl g2 (0 + n) k2) (0 + n) ([] ++ nz)) (b1 : w.heap.size + 2 ≤ g1) (b2 : w.heap.size + 2 ≤ g2) (ne : g1 ≠ g2) :
    Laid w W H n nc nz ((w2.setCell ⟨w.heap.size, 2, none⟩ (sl g1 n k1)).setCell ⟨w.heap.size, 3, none⟩ (sl g2 n k2)) := by
  rw [Nat.zero_add, List.nil_append] at O1 O2
  have P1 := owns_rebase (q' := w.heap.size + 2) O1 b1
  have P2 := owns_rebase (q' := w.heap.size + 2) O2 b2
  have kp : ∀ (w' : World) (k : Nat) (v : Value) (g kk : Nat) (xs : List Value), w.heap.size + 2 ≤ g → w'.ownsRow (w.heap.size + 2) 3 1 (sl g n kk) n xs → (w'.setCell ⟨w.heap.size, k, none⟩ v).ownsRow (w.heap.size + 2) 3 1 (sl g n kk) n xs := fun w' k v g kk xs hg h =>
    h.kept (grown_set _ _ _ _) (.inr (by simp [Value.ownBlock]; omega))
  refine ⟨g1, k1, g2, k2, (B2.setCell (Nat.le_refl _) _).setCell (Nat.le_refl _) _, ?_, (S2.other (by omega) _ _).other (by omega) _ _, kp _ _ _ _ _ _ b1 (kp _ _ _ _ _ _ b1 P1), kp _ _ _ _ _ _ b2 (kp _ _ _ _ _ _ b2 P2), ne⟩
  have := (R2.set 2 (sl g1 n k1)).set 3 (sl g2 n k2)
  simpa using this
/-- A copy is returned, of its own. -/
def Copied (W H : Int) (n : Nat) (nc nz : List Value) (w : World) (e : Ending) (w' : World) : Prop :=
  ∃ g1 k1 g2 k2 : Nat, e = .returned (Im W H (sl g1 n k1) (sl g2 n k2)) ∧ (∃ X, w' = w.ext X) ∧ w'.ownsRow (w.heap.size + 2) 3 1 (sl g1 n k1) n nc ∧ w'.ownsRow (w.heap.size + 2) 3 1 (sl g2 n k2) n nz ∧ g1 ≠ g2
set_option maxRecDepth 100000 in
set_option maxHeartbeats 4000000 in
theorem rcopy_any (W H : Int) (b off cap b' off' cap' n : Nat) (nc nz : List Value) (w : World) (n0 : 1 ≤ n) (n1 : n ≤ 1048576) (hb : b < w.heap.size) (hb' : b' < w.heap.size)
    (hl : nc.length = n * 1) (hl' : nz.length = n * 1) (ho : ∀ u ∈ nc, u.oneCell' = true) (ho' : ∀ u ∈ nz, u.oneCell' = true)
    (HC : ∀ W, Below w.heap.size w W → ∀ j u, nc[j]? = some u → W.cell? ((⟨b, off, none⟩ : Addr).add j) = some u)
    (HZ : ∀ W, Below w.heap.size w W → ∀ j u, nz[j]? = some u → W.cell? ((⟨b', off', none⟩ : Addr).add j) = some u) :
    Calls Try.prog 8 #[Im W H (.slice (some ⟨b, off, none⟩) n cap) (.slice (some ⟨b', off', none⟩) n cap')] w (Copied W H n nc nz w) := by
  obtain ⟨i0, hi, hz0, hz1, hz2⟩ := info_parts info_int
  have K1 := Lib.hid HC
  have K2 := Lib.hid HZ
  have hn1 : n ≤ maxLen := by unfold maxLen; omega
  clear HC HZ
  go_enter Try.func8, Try.ntmps8
  go_upto_region 1 with fail
  go_cut [] (fun wx => Laid w W H n nc nz wx)
  case first =>
    go_region_law (first
      | (refine step_append_grows rfl (.tmp 3) (.tmp 5) 22 rfl 3 i0 (.int .i64 0) 1 8 Try.underlying22 hi hz0 hz1 hz2 rfl (by decide) _ 0 0 [] rfl ?_ rfl ?_ ⟨b, off, none⟩ n cap nc rfl hl ?_ ho (by omega) (by omega) (by omega) ?_
         · intro h; cases h
         · intro _ _ j u h; simp at h
         · exact K1.out _ (by (repeat (first | exact Below.refl _ _ | with_reducible refine Below.drew ?_ | with_reducible refine Below.ext ?_ (by first | exact Nat.le_refl _ | (simp; done) | (simp; omega)) _ | with_reducible refine Below.alloc ?_ (by first | exact Nat.le_refl _ | (simp; done) | (simp; omega)) _ | with_reducible refine Below.setCell ?_ (by first | exact Nat.le_refl _ | (simp; done) | (simp; omega)) _)))
         intro v1 w1 hown1 hgrow1
         have B1 : Below w.heap.size w w1 := Below.grown (w := _) (by (repeat (first | exact Below.refl _ _ | with_reducible refine Below.drew ?_ | with_reducible refine Below.ext ?_ (by first | exact Nat.le_refl _ | (simp; done) | (simp; omega)) _ | with_reducible refine Below.alloc ?_ (by first | exact Nat.le_refl _ | (simp; done) | (simp; omega)) _ | with_reducible refine Below.setCell ?_ (by first | exact Nat.le_refl _ | (simp; done) | (simp; omega)) _))) hgrow1 (by simp; omega) (by simp)
         have R1 : Row w1 w.heap.size #[.int .i64 W, .int .i64 H, .slice (some ⟨b, off, none⟩) n cap, .slice (some ⟨b', off', none⟩) n cap'] 24 := row_grown (by (repeat (first | assumption | with_reducible refine row_drew ?_ | (with_reducible refine row_last ?_; simp; done) | with_reducible refine Row.alloc ?_ _))) hgrow1
         have S1 : Row w1 (w.heap.size + 1) #[.int .i64 0, .int .i64 0, .slice none 0 0, .slice none 0 0] 24 := row_grown (by (repeat (first | assumption | with_reducible refine row_drew ?_ | (with_reducible refine row_last ?_; simp; done) | with_reducible refine Row.alloc ?_ _))) hgrow1
         have z1 := hgrow1.size
         obtain ⟨g1, k1, rfl, hg1, hg1'⟩ := hown1.form (by omega)
         have y1 : w.heap.size < w1.heap.size := R1.lt
         have y1' : w.heap.size ≤ w1.heap.size := by omega
         have e13 := R1.cell 3
         simp at e13 z1 hg1
         clear hgrow1)
      | (refine step_append_grows rfl (.tmp 7) (.tmp 9) 22 rfl 3 i0 (.int .i64 0) 1 8 Try.underlying22 hi hz0 hz1 hz2 rfl (by decide) _ 0 0 [] rfl ?_ rfl ?_ ⟨b', off', none⟩ n cap' nz rfl hl' ?_ ho' (by omega) (by omega) (by omega) ?_
         · intro h; cases h
         · intro _ _ j u h; simp at h
         · exact K2.out _ (by (repeat (first | assumption | with_reducible refine Below.drew ?_ | with_reducible refine Below.alloc ?_ (by first | omega | (simp; omega)) _)))
         intro v2 w2 hown2 hgrow2
         have b1s := B1.size
         have B2 : Below w.heap.size w w2 := Below.grown (w := _) (by (repeat (first | assumption | with_reducible refine Below.drew ?_ | with_reducible refine Below.alloc ?_ (by first | omega | (simp; omega)) _))) hgrow2 (by first | omega | (simp; omega)) (by simp)
         have R2 : Row w2 w.heap.size #[.int .i64 W, .int .i64 H, .slice (some ⟨b, off, none⟩) n cap, .slice (some ⟨b', off', none⟩) n cap'] 24 := row_grown (by (repeat (first | assumption | with_reducible refine row_drew ?_ | (with_reducible refine row_last ?_; simp; done) | with_reducible refine Row.alloc ?_ _))) hgrow2
         have S2 : Row w2 (w.heap.size + 1) #[.int .i64 0, .int .i64 0, .slice none 0 0, .slice none 0 0] 24 := row_grown (by (repeat (first | assumption | with_reducible refine row_drew ?_ | (with_reducible refine row_last ?_; simp; done) | with_reducible refine Row.alloc ?_ _))) hgrow2
         obtain ⟨q1, O1⟩ : ∃ q, w2.ownsRow q 3 1 (.slice (some ⟨g1, 0, none⟩) (0 + n) k1) (0 + n) ([] ++ nc) := ⟨_, by first | exact hown1.kept hgrow2 (.inr (by simp [Value.ownBlock])) | exact (hown1.alloc _).kept hgrow2 (.inr (by simp [Value.ownBlock]))⟩
         have z2 := hgrow2.size
         obtain ⟨g2, k2, rfl, hg2, hg2'⟩ := hown2.form (by omega)
         have f22 := R2.frozen 2
         have f23 := R2.frozen 3
         have e22 := R2.cell 2
         have e23 := R2.cell 3
         simp at e22 e23 z2 hg2
         clear hgrow2))
    all_goals (go_wp2_with fail; go_meet)
    all_goals (with_reducible refine laid_mk B2 R2 S2 O1 hown2 ?_ ?_ ?_)
    all_goals omega
  case rest =>
    obtain ⟨g1, k1, g2, k2, B, R, S, O1, O2, ne⟩ := hcut
    have c0 := R.cell 0
    have c1 := R.cell 1
    have c2 := R.cell 2
    have c3 := R.cell 3
    have s0 := S.cell 0
    have s1 := S.cell 1
    have s2 := S.cell 2
    have s3 := S.cell 3
    have t0 := S.frozen 0
    have t1 := S.frozen 1
    have t2 := S.frozen 2
    have t3 := S.frozen 3
    simp at c0 c1 c2 c3 s0 s1 s2 s3
    have S4 := (((S.set 0 (.int .i64 W)).set 1 (.int .i64 H)).set 2 (sl g1 n k1)).set 3 (sl g2 n k2)
    simp at S4
    have r0 := S4.cell 0
    have r1 := S4.cell 1
    have r2 := S4.cell 2
    have r3 := S4.cell 3
    simp at r0 r1 r2 r3
    have kp : ∀ (w' : World) (k : Nat) (v : Value) (g kk : Nat) (xs : List Value), w'.ownsRow (w.heap.size + 2) 3 1 (sl g n kk) n xs → (w'.setCell ⟨w.heap.size + 1, k, none⟩ v).ownsRow (w.heap.size + 2) 3 1 (sl g n kk) n xs := fun w' k v g kk xs h =>
      h.kept (grown_set _ _ _ _) (.inr fun e => by have := (h.lt _ e).1; omega)
    have P1 := kp _ 3 (sl g2 n k2) _ _ _ (kp _ 2 (sl g1 n k1) _ _ _ (kp _ 1 (.int .i64 H) _ _ _ (kp _ 0 (.int .i64 W) _ _ _ O1)))
    have P2 := kp _ 3 (sl g2 n k2) _ _ _ (kp _ 2 (sl g1 n k1) _ _ _ (kp _ 1 (.int .i64 H) _ _ _ (kp _ 0 (.int .i64 W) _ _ _ O2)))
    have BB := (((B.setCell (p := ⟨w.heap.size + 1, 0, none⟩) (by simp) (.int .i64 W)).setCell (p := ⟨w.heap.size + 1, 1, none⟩) (by simp) (.int .i64 H)).setCell (p := ⟨w.heap.size + 1, 2, none⟩) (by simp) (sl g1 n k1)).setCell (p := ⟨w.heap.size + 1, 3, none⟩) (by simp) (sl g2 n k2)
    clear O1 O2 kp
    go_wp2
    refine bodyPost_ret (v := Im W H (sl g1 n k1) (sl g2 n k2)) (by simp [results, Try.results8, go_sem, r0, r1, r2, r3]) rfl ?_
    exact ⟨g1, k1, g2, k2, rfl, BB.toExt, P1, P2, ne⟩
end Go.Proofs.Ythcjfanigfgckaa
end
