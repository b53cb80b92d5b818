/- The walks of layer 23 (store), second part: may an image be. Conditions: its slices read as lists of ints of 64 bits. -/
import Derived.Test.YtdbbeggenbhbfaaStoreA
namespace Go.Proofs.Ytdbbeggenbhbfaa
set_option linter.unusedVariables false
set_option linter.unusedSimpArgs false
open Go.RowKit
/-- An image's value. -/
abbrev Im (W H : Int) (c z : Value) : Value := .agg #[.int .i64 W, .int .i64 H, c, z]
/-- A slice that reads zs. -/
def Rd (w : World) (v : Value) (zs : List Int) : Prop :=
  (∀ z ∈ zs, -9223372036854775808 ≤ z ∧ z ≤ 9223372036854775807) ∧ zs.length ≤ 9223372036854775807 ∧
  ∃ a cap, v = .slice a zs.length cap ∧ zs.length ≤ cap ∧ (zs = [] ∨ ∃ b off, a = some ⟨b, off, none⟩ ∧ b < w.heap.size ∧ ∀ i, i < zs.length → w.cell? ⟨b, off + i, none⟩ = some (.int .i64 (elt zs i)))
theorem Rd.ext {w : World} {v : Value} {zs : List Int} (h : Rd w v zs) (X : Xt) : Rd (w.ext X) v zs := by
  obtain ⟨h0, h1, a, cap, rfl, h2, h3⟩ := h
  refine ⟨h0, h1, a, cap, rfl, h2, ?_⟩
  rcases h3 with h3 | ⟨b, off, rfl, hb, hc⟩
  · exact .inl h3
  · exact .inr ⟨b, off, rfl, by simp; omega, fun i hi => by rw [World.cell?_ext hb]; exact hc i hi⟩
/-- May an image be? -/
structure ImOk (W H : Int) (C Z : List Int) : Prop where
  w0 : 1 ≤ W
  w1 : W ≤ 1024
  h0 : 1 ≤ H
  h1 : H ≤ 1024
  c : (C.length : Int) = W * H
  z : (Z.length : Int) = W * H
  cs : ∀ i, i < C.length → 0 ≤ elt C i ∧ elt C i ≤ 4294967295
  zs : ∀ i, i < C.length → 0 ≤ elt Z i ∧ elt Z i ≤ 16777215
theorem area_01 {W H : Int} (w0 : 1 ≤ W) (w1 : W ≤ 1024) (h0 : 1 ≤ H) (h1 : H ≤ 1024) : 1 ≤ W * H ∧ W * H ≤ 1048576 := by
  have a : 1 * 1 ≤ W * H := Int.mul_le_mul w0 h0 (by decide) (by omega)
  have b : W * H ≤ 1024 * 1024 := Int.mul_le_mul w1 h1 (by omega) (by decide)
  omega
set_option maxHeartbeats 2000000 in
theorem right_yes (W H : Int) (c z : Value) (C Z : List Int) (w : World) (hc : Rd w c C) (hz : Rd w z Z) (h : ImOk W H C Z) :
    Calls Try.prog 34 #[Im W H c z] w (Ret (.bool true) w) := by
  obtain ⟨w0, w1, h0, h1, lc, lz, cs, zs⟩ := h
  obtain ⟨a0, a1⟩ := area_01 w0 w1 h0 h1
  obtain ⟨-, -, a, cap, rfl, hcap, h3⟩ := hc
  obtain ⟨-, -, a', cap', rfl, hcap', h3'⟩ := hz
  rcases h3 with rfl | ⟨b, off, rfl, hb, hcell⟩
  · simp at lc; omega
  rcases h3' with rfl | ⟨b', off', rfl, hb', hcell'⟩
  · simp at lz; omega
  have ec : ((C.length : Int) != W * H) = false := by rw [bne_eq_false_iff_eq]; exact lc
  have ez : ((Z.length : Int) != W * H) = false := by rw [bne_eq_false_iff_eq]; exact lz
  have LC := Lib.hid lc
  have LZ := Lib.hid lz
  have HC := Lib.hid hcell
  have HZ := Lib.hid hcell'
  have CS := Lib.hid cs
  have ZS := Lib.hid zs
  have n0 : 1 ≤ C.length := by omega
  have n1 : C.length ≤ 1048576 := by omega
  have n2 : C.length ≤ Z.length := by omega
  have d1 : decide (W < 1) = false := by simp; omega
  have d2 : decide (1024 < W) = false := by simp; omega
  have d3 : decide (H < 1) = false := by simp; omega
  have d4 : decide (1024 < H) = false := by simp; omega
  clear lc lz hcell hcell' cs zs w0 w1 h0 h1
  go_enter Try.func34, Try.ntmps34
  go_wp2
  go_loop [44] (fun i => ∃ k : Nat, k ≤ C.length ∧ i = .int .i64 k) (fun i => C.length - (intOf i).toNat)
  case atStart => exact ⟨0, by omega, rfl⟩
  case round =>
    obtain ⟨k, hk, rfl⟩ := hrel
    by_cases hlt : k < C.length
    · have c1 := HC.out k hlt
      have c2 := HZ.out k (by omega)
      obtain ⟨l1, l2⟩ := CS.out k hlt
      obtain ⟨l3, l4⟩ := ZS.out k hlt
      have u1 : decide (4294967296 ≤ elt C k) = false := by simp; omega
      have u2 : decide (16777215 < elt Z k) = false := by simp; omega
      go_wp2
      go_round
      case rel => exact ⟨k + 1, by omega, by go_num⟩
      case measure => simp [intOf]; omega
    · go_wp2
      go_ret
      exact Ret.of (by (repeat (first | exact Below.refl _ _ | with_reducible refine Below.drew ?_ | with_reducible refine Below.ext ?_ (by first | exact Nat.le_refl _ | (simp; done) | (simp; omega)) _ | with_reducible refine Below.alloc ?_ (by first | exact Nat.le_refl _ | (simp; done) | (simp; omega)) _ | with_reducible refine Below.setCell ?_ (by first | exact Nat.le_refl _ | (simp; done) | (simp; omega)) _)))
end Go.Proofs.Ytdbbeggenbhbfaa
