/- Parts of the proofs, laid together: StoreA, StoreB, StoreE, StoreF, StoreG, StoreH, StoreI. Conditions: at each. -/
import Derived.Test.YthcjfanigfgckaaPMix
import Derived.Test.YthcjfanigfgckaaPBase
import Derived.Deep.OwnRows
import Derived.Deep.DeepCutAuto
import Derived.Deep.AppendLies
import Derived.OwnWalk
section
/- The walks of layer 23 (store), first part: colors as numbers. Conditions: numbers of colors from 0 to 255; packed numbers from 0 to 4294967295. -/
namespace Go.Proofs.Ythcjfanigfgckaa
set_option linter.unusedVariables false
set_option linter.unusedSimpArgs false
set_option maxRecDepth 10000
open Go.RowKit
set_option maxHeartbeats 1000000 in
theorem pack_any (a b c d : Int) (h : May a b c d) (w : World) : Calls Try.prog 19 #[C4 a b c d] w (Ret (.int .i64 (pk a b c d)) w) := by
  obtain ⟨a0, a1, b0, b1, c0, c1, e0, e1⟩ := h
  have h1 : bits .or .i64 (a * 16777216) (b * 65536) = a * 16777216 + b * 65536 := bits_or_low _ _ 24 a.toNat (by omega) (by omega) (by omega) (by omega) (by omega)
  have h2 : bits .or .i64 (a * 16777216 + b * 65536) (c * 256) = a * 16777216 + b * 65536 + c * 256 := bits_or_low _ _ 16 (a * 256 + b).toNat (by omega) (by omega) (by omega) (by omega) (by omega)
  have h3 : bits .or .i64 (a * 16777216 + b * 65536 + c * 256) d = a * 16777216 + b * 65536 + c * 256 + d := bits_or_low _ _ 8 ((a * 256 + b) * 256 + c).toNat (by omega) (by omega) (by omega) (by omega) (by omega)
  have H : a * 16777216 + b * 65536 + c * 256 + d = pk a b c d := by unfold pk; omega
  rw [← H]
  clear H
  go_enter Try.func19, Try.ntmps19
  go_wp2
  go_ret
  exact Ret.of (by (repeat (first | exact Below.refl _ _ | with_reducible refine Below.drew ?_ | with_reducible refine Below.ext ?_ (by first | exact Nat.le_refl _ | (simp; done) | (simp; omega)) _ | with_reducible refine Below.alloc ?_ (by first | exact Nat.le_refl _ | (simp; done) | (simp; omega)) _ | with_reducible refine Below.setCell ?_ (by first | exact Nat.le_refl _ | (simp; done) | (simp; omega)) _)))
set_option maxHeartbeats 1000000 in
theorem rpack_any (a b c d : Int) (h : May a b c d) (w : World) : Calls Try.prog 30 #[C4 a b c d] w (Ret (.int .i64 (pk a b c d)) w) := by
  obtain ⟨a0, a1, b0, b1, c0, c1, e0, e1⟩ := h
  go_enter Try.func30, Try.ntmps30
  go_wp2
  go_ret
  exact Ret.of' (by unfold pk; rfl) (by (repeat (first | exact Below.refl _ _ | with_reducible refine Below.drew ?_ | with_reducible refine Below.ext ?_ (by first | exact Nat.le_refl _ | (simp; done) | (simp; omega)) _ | with_reducible refine Below.alloc ?_ (by first | exact Nat.le_refl _ | (simp; done) | (simp; omega)) _ | with_reducible refine Below.setCell ?_ (by first | exact Nat.le_refl _ | (simp; done) | (simp; omega)) _)))
/-- A number's color. -/
def up0 (n : Int) : Int := n / 16777216 % 256
def up1 (n : Int) : Int := n / 65536 % 256
def up2 (n : Int) : Int := n / 256 % 256
def up3 (n : Int) : Int := n % 256
theorem up_may (n : Int) : May (up0 n) (up1 n) (up2 n) (up3 n) := by constructor <;> simp only [up0, up1, up2, up3] <;> omega
theorem pk_up {n : Int} (h0 : 0 ≤ n) (h1 : n ≤ 4294967295) : pk (up0 n) (up1 n) (up2 n) (up3 n) = n := by simp only [pk, up0, up1, up2, up3]; omega
theorem up_pk0 {a b c d : Int} (h : May a b c d) : up0 (pk a b c d) = a := by obtain ⟨a0, a1, b0, b1, c0, c1, e0, e1⟩ := h; simp only [pk, up0]; omega
theorem up_pk1 {a b c d : Int} (h : May a b c d) : up1 (pk a b c d) = b := by obtain ⟨a0, a1, b0, b1, c0, c1, e0, e1⟩ := h; simp only [pk, up1]; omega
theorem up_pk2 {a b c d : Int} (h : May a b c d) : up2 (pk a b c d) = c := by obtain ⟨a0, a1, b0, b1, c0, c1, e0, e1⟩ := h; simp only [pk, up2]; omega
theorem up_pk3 {a b c d : Int} (h : May a b c d) : up3 (pk a b c d) = d := by obtain ⟨a0, a1, b0, b1, c0, c1, e0, e1⟩ := h; simp only [pk, up3]; omega
abbrev U4 (n : Int) : Value := C4 (up0 n) (up1 n) (up2 n) (up3 n)
set_option maxHeartbeats 1000000 in
theorem unpack_any (n : Int) (h0 : 0 ≤ n) (h1 : n ≤ 4294967295) (w : World) : Calls Try.prog 26 #[.int .i64 n] w (Ret (U4 n) w) := by
  have e0 : bits .and .i64 (n / 16777216) 255 = n / 16777216 % 256 := bits_and_255 _ (by omega) (by omega)
  have e1 : bits .and .i64 (n / 65536) 255 = n / 65536 % 256 := bits_and_255 _ (by omega) (by omega)
  have e2 : bits .and .i64 (n / 256) 255 = n / 256 % 256 := bits_and_255 _ (by omega) (by omega)
  have e3 : bits .and .i64 n 255 = n % 256 := bits_and_255 _ (by omega) (by omega)
  go_enter Try.func26, Try.ntmps26
  go_wp2
  exact bodyPost_ret (v := U4 n) (by simp [results, Try.results26, go_sem, up0, up1, up2, up3, e0, e1, e2, e3]) rfl (Ret.of (by (repeat (first | exact Below.refl _ _ | with_reducible refine Below.drew ?_ | with_reducible refine Below.ext ?_ (by first | exact Nat.le_refl _ | (simp; done) | (simp; omega)) _ | with_reducible refine Below.alloc ?_ (by first | exact Nat.le_refl _ | (simp; done) | (simp; omega)) _ | with_reducible refine Below.setCell ?_ (by first | exact Nat.le_refl _ | (simp; done) | (simp; omega)) _))))
set_option maxHeartbeats 1000000 in
theorem runpack_any (n : Int) (h0 : 0 ≤ n) (h1 : n ≤ 4294967295) (w : World) : Calls Try.prog 32 #[.int .i64 n] w (Ret (U4 n) w) := by
  go_enter Try.func32, Try.ntmps32
  go_wp2
  exact bodyPost_ret (v := U4 n) (by simp [results, Try.results32, go_sem, up0, up1, up2, up3]) rfl (Ret.of (by (repeat (first | exact Below.refl _ _ | with_reducible refine Below.drew ?_ | with_reducible refine Below.ext ?_ (by first | exact Nat.le_refl _ | (simp; done) | (simp; omega)) _ | with_reducible refine Below.alloc ?_ (by first | exact Nat.le_refl _ | (simp; done) | (simp; omega)) _ | with_reducible refine Below.setCell ?_ (by first | exact Nat.le_refl _ | (simp; done) | (simp; omega)) _))))
set_option maxHeartbeats 1000000 in
theorem may23_yes (a b c d : Int) (h : May a b c d) (w : World) : Calls Try.prog 6 #[C4 a b c d] w (Ret (.bool true) w) := by
  obtain ⟨a0, a1, b0, b1, c0, c1, e0, e1⟩ := h
  go_enter Try.func6, Try.ntmps6
  go_wp2
  refine wp_loop_rounds 5 ?_
  rw [rounds_succ]
  go_wp2
  rw [rounds_succ]
  go_wp2
  rw [rounds_succ]
  go_wp2
  rw [rounds_succ]
  go_wp2
  rw [rounds_succ]
  go_wp2
  go_ret
  exact Ret.of (by (repeat (first | exact Below.refl _ _ | with_reducible refine Below.drew ?_ | with_reducible refine Below.ext ?_ (by first | exact Nat.le_refl _ | (simp; done) | (simp; omega)) _ | with_reducible refine Below.alloc ?_ (by first | exact Nat.le_refl _ | (simp; done) | (simp; omega)) _ | with_reducible refine Below.setCell ?_ (by first | exact Nat.le_refl _ | (simp; done) | (simp; omega)) _)))
set_option maxHeartbeats 4000000 in
theorem may23_no (a b c d : Int) (h : ¬ May a b c d) (w : World) : Calls Try.prog 6 #[C4 a b c d] w (Ret (.bool false) w) := by
  by_cases a0 : 0 ≤ a
  case neg =>
    clear h
    go_enter Try.func6, Try.ntmps6
    go_wp2
    refine wp_loop_rounds 1 ?_
    rw [rounds_succ]
    go_wp2
    go_ret
    exact Ret.of (by (repeat (first | exact Below.refl _ _ | with_reducible refine Below.drew ?_ | with_reducible refine Below.ext ?_ (by first | exact Nat.le_refl _ | (simp; done) | (simp; omega)) _ | with_reducible refine Below.alloc ?_ (by first | exact Nat.le_refl _ | (simp; done) | (simp; omega)) _ | with_reducible refine Below.setCell ?_ (by first | exact Nat.le_refl _ | (simp; done) | (simp; omega)) _)))
  by_cases a1 : a ≤ 255
  case neg =>
    clear h
    go_enter Try.func6, Try.ntmps6
    go_wp2
    refine wp_loop_rounds 1 ?_
    rw [rounds_succ]
    go_wp2
    go_ret
    exact Ret.of (by (repeat (first | exact Below.refl _ _ | with_reducible refine Below.drew ?_ | with_reducible refine Below.ext ?_ (by first | exact Nat.le_refl _ | (simp; done) | (simp; omega)) _ | with_reducible refine Below.alloc ?_ (by first | exact Nat.le_refl _ | (simp; done) | (simp; omega)) _ | with_reducible refine Below.setCell ?_ (by first | exact Nat.le_refl _ | (simp; done) | (simp; omega)) _)))
  by_cases b0 : 0 ≤ b
  case neg =>
    clear h
    go_enter Try.func6, Try.ntmps6
    go_wp2
    refine wp_loop_rounds 2 ?_
    rw [rounds_succ]
    go_wp2
    rw [rounds_succ]
    go_wp2
    go_ret
    exact Ret.of (by (repeat (first | exact Below.refl _ _ | with_reducible refine Below.drew ?_ | with_reducible refine Below.ext ?_ (by first | exact Nat.le_refl _ | (simp; done) | (simp; omega)) _ | with_reducible refine Below.alloc ?_ (by first | exact Nat.le_refl _ | (simp; done) | (simp; omega)) _ | with_reducible refine Below.setCell ?_ (by first | exact Nat.le_refl _ | (simp; done) | (simp; omega)) _)))
  by_cases b1 : b ≤ 255
  case neg =>
    clear h
    go_enter Try.func6, Try.ntmps6
    go_wp2
    refine wp_loop_rounds 2 ?_
    rw [rounds_succ]
    go_wp2
    rw [rounds_succ]
    go_wp2
    go_ret
    exact Ret.of (by (repeat (first | exact Below.refl _ _ | with_reducible refine Below.drew ?_ | with_reducible refine Below.ext ?_ (by first | exact Nat.le_refl _ | (simp; done) | (simp; omega)) _ | with_reducible refine Below.alloc ?_ (by first | exact Nat.le_refl _ | (simp; done) | (simp; omega)) _ | with_reducible refine Below.setCell ?_ (by first | exact Nat.le_refl _ | (simp; done) | (simp; omega)) _)))
  by_cases c0 : 0 ≤ c
  case neg =>
    clear h
    go_enter Try.func6, Try.ntmps6
    go_wp2
    refine wp_loop_rounds 3 ?_
    rw [rounds_succ]
    go_wp2
    rw [rounds_succ]
    go_wp2
    rw [rounds_succ]
    go_wp2
    go_ret
    exact Ret.of (by (repeat (first | exact Below.refl _ _ | with_reducible refine Below.drew ?_ | with_reducible refine Below.ext ?_ (by first | exact Nat.le_refl _ | (simp; done) | (simp; omega)) _ | with_reducible refine Below.alloc ?_ (by first | exact Nat.le_refl _ | (simp; done) | (simp; omega)) _ | with_reducible refine Below.setCell ?_ (by first | exact Nat.le_refl _ | (simp; done) | (simp; omega)) _)))
  by_cases c1 : c ≤ 255
  case neg =>
    clear h
    go_enter Try.func6, Try.ntmps6
    go_wp2
    refine wp_loop_rounds 3 ?_
    rw [rounds_succ]
    go_wp2
    rw [rounds_succ]
    go_wp2
    rw [rounds_succ]
    go_wp2
    go_ret
    exact Ret.of (by (repeat (first | exact Below.refl _ _ | with_reducible refine Below.drew ?_ | with_reducible refine Below.ext ?_ (by first | exact Nat.le_refl _ | (simp; done) | (simp; omega)) _ | with_reducible refine Below.alloc ?_ (by first | exact Nat.le_refl _ | (simp; done) | (simp; omega)) _ | with_reducible refine Below.setCell ?_ (by first | exact Nat.le_refl _ | (simp; done) | (simp; omega)) _)))
  by_cases d0 : 0 ≤ d
  case neg =>
    clear h
    go_enter Try.func6, Try.ntmps6
    go_wp2
    refine wp_loop_rounds 4 ?_
    rw [rounds_succ]
    go_wp2
    rw [rounds_succ]
    go_wp2
    rw [rounds_succ]
    go_wp2
    rw [rounds_succ]
    go_wp2
    go_ret
    exact Ret.of (by (repeat (first | exact Below.refl _ _ | with_reducible refine Below.drew ?_ | with_reducible refine Below.ext ?_ (by first | exact Nat.le_refl _ | (simp; done) | (simp; omega)) _ | with_reducible refine Below.alloc ?_ (by first | exact Nat.le_refl _ | (simp; done) | (simp; omega)) _ | with_reducible refine Below.setCell ?_ (by first | exact Nat.le_refl _ | (simp; done) | (simp; omega)) _)))
  by_cases d1 : d ≤ 255
  case neg =>
    clear h
    go_enter Try.func6, Try.ntmps6
    go_wp2
    refine wp_loop_rounds 4 ?_
    rw [rounds_succ]
    go_wp2
    rw [rounds_succ]
    go_wp2
    rw [rounds_succ]
    go_wp2
    rw [rounds_succ]
    go_wp2
    go_ret
    exact Ret.of (by (repeat (first | exact Below.refl _ _ | with_reducible refine Below.drew ?_ | with_reducible refine Below.ext ?_ (by first | exact Nat.le_refl _ | (simp; done) | (simp; omega)) _ | with_reducible refine Below.alloc ?_ (by first | exact Nat.le_refl _ | (simp; done) | (simp; omega)) _ | with_reducible refine Below.setCell ?_ (by first | exact Nat.le_refl _ | (simp; done) | (simp; omega)) _)))
  exact absurd ⟨a0, a1, b0, b1, c0, c1, d0, d1⟩ h
end Go.Proofs.Ythcjfanigfgckaa
end
section
/- The walks of layer 23 (store), second part: may an image be. Conditions: its slices read as lists of ints of 64 bits. -/
namespace Go.Proofs.Ythcjfanigfgckaa
set_option linter.unusedVariables false
set_option linter.unusedSimpArgs false
set_option maxRecDepth 10000
open Go.RowKit
/-- An image's value. -/
abbrev Im (W H : Int) (c z : Value) : Value := .agg #[.int .i64 W, .int .i64 H, c, z]
/-- A slice that reads zs. -/
def Rd (w : World) (v : Value) (zs : List Int) : Prop :=
  (∀ z ∈ zs, -9223372036854775808 ≤ z ∧ z ≤ 9223372036854775807) ∧ zs.length ≤ 9223372036854775807 ∧
  ∃ a cap, v = .slice a zs.length cap ∧ zs.length ≤ cap ∧ (zs = [] ∨ ∃ b off, a = some ⟨b, off, none⟩ ∧ b < w.heap.size ∧ ∀ i, i < zs.length → w.cell? ⟨b, off + i, none⟩ = some (.int .i64 (elt zs i)))
theorem Rd.ext {w : World} {v : Value} {zs : List Int} (h : Rd w v zs) (X : Xt) : Rd (w.ext X) v zs := by
  obtain ⟨h0, h1, a, cap, rfl, h2, h3⟩ := h
  refine ⟨h0, h1, a, cap, rfl, h2, ?_⟩
  rcases h3 with h3 | ⟨b, off, rfl, hb, hc⟩
  · exact .inl h3
  · exact .inr ⟨b, off, rfl, by simp; omega, fun i hi => by rw [World.cell?_ext hb]; exact hc i hi⟩
/-- May an image be? -/
structure ImOk (W H : Int) (C Z : List Int) : Prop where
  w0 : 1 ≤ W
  w1 : W ≤ 1024
  h0 : 1 ≤ H
  h1 : H ≤ 1024
  c : (C.length : Int) = W * H
  z : (Z.length : Int) = W * H
  cs : ∀ i, i < C.length → 0 ≤ elt C i ∧ elt C i ≤ 4294967295
  zs : ∀ i, i < C.length → 0 ≤ elt Z i ∧ elt Z i ≤ 16777215
theorem area_01 {W H : Int} (w0 : 1 ≤ W) (w1 : W ≤ 1024) (h0 : 1 ≤ H) (h1 : H ≤ 1024) : 1 ≤ W * H ∧ W * H ≤ 1048576 := by
  have a : 1 * 1 ≤ W * H := Int.mul_le_mul w0 h0 (by decide) (by omega)
  have b : W * H ≤ 1024 * 1024 := Int.mul_le_mul w1 h1 (by omega) (by decide)
  omega
set_option maxHeartbeats 2000000 in
theorem right_yes (W H : Int) (c z : Value) (C Z : List Int) (w : World) (hc : Rd w c C) (hz : Rd w z Z) (h : ImOk W H C Z) :
    Calls Try.prog 20 #[Im W H c z] w (Ret (.bool true) w) := by
  obtain ⟨w0, w1, h0, h1, lc, lz, cs, zs⟩ := h
  obtain ⟨a0, a1⟩ := area_01 w0 w1 h0 h1
  obtain ⟨-, -, a, cap, rfl, hcap, h3⟩ := hc
  obtain ⟨-, -, a', cap', rfl, hcap', h3'⟩ := hz
  rcases h3 with rfl | ⟨b, off, rfl, hb, hcell⟩
  · simp at lc; omega
  rcases h3' with rfl | ⟨b', off', rfl, hb', hcell'⟩
  · simp at lz; omega
  have ec : ((C.length : Int) != W * H) = false := by rw [bne_eq_false_iff_eq]; exact lc
  have ez : ((Z.length : Int) != W * H) = false := by rw [bne_eq_false_iff_eq]; exact lz
  have LC := Lib.hid lc
  have LZ := Lib.hid lz
  have HC := Lib.hid hcell
  have HZ := Lib.hid hcell'
  have CS := Lib.hid cs
  have ZS := Lib.hid zs
  have n0 : 1 ≤ C.length := by omega
  have n1 : C.length ≤ 1048576 := by omega
  have n2 : C.length ≤ Z.length := by omega
  have d1 : decide (W < 1) = false := by simp; omega
  have d2 : decide (1024 < W) = false := by simp; omega
  have d3 : decide (H < 1) = false := by simp; omega
  have d4 : decide (1024 < H) = false := by simp; omega
  clear lc lz hcell hcell' cs zs w0 w1 h0 h1
  go_enter Try.func20, Try.ntmps20
  go_wp2
  go_loop [44] (fun i => ∃ k : Nat, k ≤ C.length ∧ i = .int .i64 k) (fun i => C.length - (intOf i).toNat)
  case atStart => exact ⟨0, by omega, rfl⟩
  case round =>
    obtain ⟨k, hk, rfl⟩ := hrel
    by_cases hlt : k < C.length
    · have c1 := HC.out k hlt
      have c2 := HZ.out k (by omega)
      obtain ⟨l1, l2⟩ := CS.out k hlt
      obtain ⟨l3, l4⟩ := ZS.out k hlt
      have u1 : decide (4294967296 ≤ elt C k) = false := by simp; omega
      have u2 : decide (16777215 < elt Z k) = false := by simp; omega
      go_wp2
      go_round
      case rel => exact ⟨k + 1, by omega, by go_num⟩
      case measure => simp [intOf]; omega
    · go_wp2
      go_ret
      exact Ret.of (by (repeat (first | exact Below.refl _ _ | with_reducible refine Below.drew ?_ | with_reducible refine Below.ext ?_ (by first | exact Nat.le_refl _ | (simp; done) | (simp; omega)) _ | with_reducible refine Below.alloc ?_ (by first | exact Nat.le_refl _ | (simp; done) | (simp; omega)) _ | with_reducible refine Below.setCell ?_ (by first | exact Nat.le_refl _ | (simp; done) | (simp; omega)) _)))
end Go.Proofs.Ythcjfanigfgckaa
end
section
/- The walks of layer 23 (store): what a pixel has. Conditions: the image may be; its slices read as lists. -/
namespace Go.Proofs.Ythcjfanigfgckaa
set_option linter.unusedVariables false
set_option linter.unusedSimpArgs false
set_option maxRecDepth 10000
open Go.RowKit
theorem ix_in {W H x y : Int} (x0 : 0 ≤ x) (x1 : x < W) (y0 : 0 ≤ y) (y1 : y < H) : 0 ≤ y * W ∧ y * W + x < W * H := by
  have a : 0 ≤ y * W := Int.mul_nonneg y0 (by omega)
  have b : (y + 1) * W ≤ H * W := Int.mul_le_mul_of_nonneg_right (by omega) (by omega)
  rw [Int.add_mul, Int.one_mul, Int.mul_comm H W] at b
  omega
/-- Is a pixel in an image? -/
def inB (W H x y : Int) : Prop := 0 ≤ x ∧ x < W ∧ 0 ≤ y ∧ y < H
instance (W H x y : Int) : Decidable (inB W H x y) := by unfold inB; exact inferInstance
/-- It returns this value, and the world stays as it was. -/
def Still (v : Value) (w : World) (e : Ending) (w' : World) : Prop := e = .returned v ∧ w = w'
theorem in_yes (W H x y : Int) (b : Nat) (w : World) (w0 : 1 ≤ W) (w1 : W ≤ 1024) (h0 : 1 ≤ H) (h1 : H ≤ 1024) (hi : inB W H x y) (cw : w.cell? ⟨b, 0, none⟩ = some (.int .i64 W)) (ch : w.cell? ⟨b, 1, none⟩ = some (.int .i64 H)) :
    Calls Try.prog 25 #[.pointer (some ⟨b, 0, none⟩), .int .i64 x, .int .i64 y] w (Still (.bool true) w) := by
  obtain ⟨x0, x1, y0, y1⟩ := hi
  go_enter Try.func25, Try.ntmps25
  go_wp2
  go_ret
  exact ⟨rfl, rfl⟩
theorem at_yes (W H : Int) (c z : Value) (x y : Int) (w : World) (w0 : 1 ≤ W) (w1 : W ≤ 1024) (h0 : 1 ≤ H) (h1 : H ≤ 1024) (hi : inB W H x y) :
    Calls Try.prog 29 #[Im W H c z, .int .i64 x, .int .i64 y] w (Ret (.int .i64 (y * W + x)) w) := by
  obtain ⟨x0, x1, y0, y1⟩ := hi
  obtain ⟨q0, q1⟩ := ix_in x0 x1 y0 y1
  obtain ⟨a0, a1⟩ := area_01 w0 w1 h0 h1
  go_enter Try.func29, Try.ntmps29
  go_wp2
  go_ret
  exact Ret.of (by (repeat (first | exact Below.refl _ _ | with_reducible refine Below.drew ?_ | with_reducible refine Below.ext ?_ (by first | exact Nat.le_refl _ | (simp; done) | (simp; omega)) _ | with_reducible refine Below.alloc ?_ (by first | exact Nat.le_refl _ | (simp; done) | (simp; omega)) _ | with_reducible refine Below.setCell ?_ (by first | exact Nat.le_refl _ | (simp; done) | (simp; omega)) _)))
set_option maxHeartbeats 2000000 in
theorem get_in (W H : Int) (c z : Value) (C Z : List Int) (x y : Int) (w : World) (hc : Rd w c C) (hz : Rd w z Z) (h : ImOk W H C Z) (hi : inB W H x y) :
    Calls Try.prog 18 #[Im W H c z, .int .i64 x, .int .i64 y] w (Ret (.tuple #[U4 (elt C (y * W + x).toNat), .int .i64 (elt Z (y * W + x).toNat), .bool true]) w) := by
  obtain ⟨w0, w1, h0, h1, lc, lz, cs, zs⟩ := h
  have HI := hi
  obtain ⟨x0, x1, y0, y1⟩ := hi
  obtain ⟨q0, q1⟩ := ix_in x0 x1 y0 y1
  obtain ⟨a0, a1⟩ := area_01 w0 w1 h0 h1
  obtain ⟨-, -, a, cap, rfl, hcap, h3⟩ := hc
  obtain ⟨-, -, a', cap', rfl, hcap', h3'⟩ := hz
  rcases h3 with rfl | ⟨b, off, rfl, hb, hcell⟩
  · simp at lc; omega
  rcases h3' with rfl | ⟨b', off', rfl, hb', hcell'⟩
  · simp at lz; omega
  have q3 : 0 ≤ y * W + x := by omega
  have hb1 : b ≤ w.heap.size := by omega
  have hb2 : b' ≤ w.heap.size := by omega
  have c1 := hcell (y * W + x).toNat (by omega)
  have c2 := hcell' (y * W + x).toNat (by omega)
  obtain ⟨l1, l2⟩ := cs (y * W + x).toNat (by omega)
  obtain ⟨l3, l4⟩ := zs (y * W + x).toNat (by omega)
  have n1 : y * W + x < C.length := by omega
  have n2 : y * W + x < Z.length := by omega
  have n3 : C.length ≤ 1048576 := by omega
  clear lc lz hcell hcell' cs zs
  go_enter Try.func18, Try.ntmps18
  go_wp2_with (first | (go_at_call 25; (with_reducible refine (in_yes W H x y _ _ w0 w1 h0 h1 HI ?_ ?_).mono ?_); go_simp; go_simp; rintro _ _ ⟨rfl, rfl⟩))
  go_region_held3 (fun w' => w'.cell? ⟨w.heap.size, 2, none⟩ = some (.slice (some ⟨b, off, none⟩) C.length cap) ∧ w'.cell? ⟨w.heap.size, 3, none⟩ = some (.slice (some ⟨b', off', none⟩) Z.length cap') ∧ w'.cell? ⟨b, off + (y * W + x).toNat, none⟩ = some (.int .i64 (elt C (y * W + x).toNat)) ∧ w'.cell? ⟨b', off' + (y * W + x).toNat, none⟩ = some (.int .i64 (elt Z (y * W + x).toNat))) (go_simp) ((first | (go_at_call 26; (with_reducible refine (unpack_any _ l1 l2 _).mono ?_); rintro _ _ ⟨rfl, X_, rfl⟩)))
  go_wp2
  exact bodyPost_ret (v := .tuple #[U4 (elt C (y * W + x).toNat), .int .i64 (elt Z (y * W + x).toNat), .bool true]) (by simp [results, Try.results18, go_sem]) rfl (Ret.of (by (repeat (first | exact Below.refl _ _ | with_reducible refine Below.drew ?_ | with_reducible refine Below.ext ?_ (by first | exact Nat.le_refl _ | (simp; done) | (simp; omega)) _ | with_reducible refine Below.alloc ?_ (by first | exact Nat.le_refl _ | (simp; done) | (simp; omega)) _ | with_reducible refine Below.setCell ?_ (by first | exact Nat.le_refl _ | (simp; done) | (simp; omega)) _))))
set_option maxHeartbeats 2000000 in
theorem get_out (W H : Int) (c z : Value) (C Z : List Int) (x y : Int) (w : World) (hc : Rd w c C) (hz : Rd w z Z) (h : ImOk W H C Z) (bx0 : -9223372036854775808 ≤ x) (bx1 : x ≤ 9223372036854775807) (by0 : -9223372036854775808 ≤ y) (by1 : y ≤ 9223372036854775807) (hi : ¬ inB W H x y) :
    Calls Try.prog 18 #[Im W H c z, .int .i64 x, .int .i64 y] w (Ret (.tuple #[C4 0 0 0 0, .int .i64 0, .bool false]) w) := by
  obtain ⟨w0, w1, h0, h1, -, -, -, -⟩ := h
  obtain ⟨-, -, a, cap, rfl, -, -⟩ := hc
  obtain ⟨-, -, a', cap', rfl, -, -⟩ := hz
  by_cases x0 : 0 ≤ x
  · by_cases x1 : x < W
    · by_cases y0 : 0 ≤ y
      · have y1 : ¬ y < H := fun y1 => hi ⟨x0, x1, y0, y1⟩
        clear hi
        go_enter Try.func18, Try.ntmps18
        go_wp2
        exact bodyPost_ret (v := .tuple #[C4 0 0 0 0, .int .i64 0, .bool false]) (by simp [results, Try.results18, go_sem]) rfl (Ret.of (by (repeat (first | exact Below.refl _ _ | with_reducible refine Below.drew ?_ | with_reducible refine Below.ext ?_ (by first | exact Nat.le_refl _ | (simp; done) | (simp; omega)) _ | with_reducible refine Below.alloc ?_ (by first | exact Nat.le_refl _ | (simp; done) | (simp; omega)) _ | with_reducible refine Below.setCell ?_ (by first | exact Nat.le_refl _ | (simp; done) | (simp; omega)) _))))
      · have y1 : decide (IntKind.u64.wrap y < H) = false := by rw [decide_eq_false_iff_not, IntKind.wrap_u64]; omega
        clear hi y0
        go_enter Try.func18, Try.ntmps18
        go_wp2
        exact bodyPost_ret (v := .tuple #[C4 0 0 0 0, .int .i64 0, .bool false]) (by simp [results, Try.results18, go_sem]) rfl (Ret.of (by (repeat (first | exact Below.refl _ _ | with_reducible refine Below.drew ?_ | with_reducible refine Below.ext ?_ (by first | exact Nat.le_refl _ | (simp; done) | (simp; omega)) _ | with_reducible refine Below.alloc ?_ (by first | exact Nat.le_refl _ | (simp; done) | (simp; omega)) _ | with_reducible refine Below.setCell ?_ (by first | exact Nat.le_refl _ | (simp; done) | (simp; omega)) _))))
    · clear hi
      go_enter Try.func18, Try.ntmps18
      go_wp2
      exact bodyPost_ret (v := .tuple #[C4 0 0 0 0, .int .i64 0, .bool false]) (by simp [results, Try.results18, go_sem]) rfl (Ret.of (by (repeat (first | exact Below.refl _ _ | with_reducible refine Below.drew ?_ | with_reducible refine Below.ext ?_ (by first | exact Nat.le_refl _ | (simp; done) | (simp; omega)) _ | with_reducible refine Below.alloc ?_ (by first | exact Nat.le_refl _ | (simp; done) | (simp; omega)) _ | with_reducible refine Below.setCell ?_ (by first | exact Nat.le_refl _ | (simp; done) | (simp; omega)) _))))
  · have x1 : decide (IntKind.u64.wrap x < W) = false := by rw [decide_eq_false_iff_not, IntKind.wrap_u64]; omega
    clear hi x0
    go_enter Try.func18, Try.ntmps18
    go_wp2
    exact bodyPost_ret (v := .tuple #[C4 0 0 0 0, .int .i64 0, .bool false]) (by simp [results, Try.results18, go_sem]) rfl (Ret.of (by (repeat (first | exact Below.refl _ _ | with_reducible refine Below.drew ?_ | with_reducible refine Below.ext ?_ (by first | exact Nat.le_refl _ | (simp; done) | (simp; omega)) _ | with_reducible refine Below.alloc ?_ (by first | exact Nat.le_refl _ | (simp; done) | (simp; omega)) _ | with_reducible refine Below.setCell ?_ (by first | exact Nat.le_refl _ | (simp; done) | (simp; omega)) _))))
end Go.Proofs.Ythcjfanigfgckaa
end
section
/- Blocks that hold ints, and a new image. Conditions: none besides the sides' bounds. -/
namespace Go.Proofs.Ythcjfanigfgckaa
set_option linter.unusedVariables false
set_option linter.unusedSimpArgs false
set_option maxRecDepth 10000
open Go.RowKit
/-- Ints, as cells. -/
def ints (l : List Int) : Array Value := (l.map (Value.int .i64)).toArray
@[simp] theorem size_ints (l : List Int) : (ints l).size = l.length := by simp [ints]
theorem ints_at (l : List Int) (k : Nat) : (ints l)[k]? = (l[k]?).map (Value.int .i64) := by simp [ints]
theorem ints_set (l : List Int) (k : Nat) (v : Int) : (ints l).setIfInBounds k (.int .i64 v) = ints (l.set k v) := by
  simp [ints, List.map_set]
theorem made_ints (n : Nat) : madeCells #[.int .i64 0] n = ints (List.replicate n 0) := by
  apply Array.ext_getElem?
  intro k
  simp only [madeCells, ints, Array.getElem?_map, List.map_replicate, List.getElem?_toArray, List.getElem?_replicate, Array.getElem?_range]
  by_cases h : k < n <;> simp [h, Nat.mod_one]
/-- Of n numbers the first k are m, the others 0. -/
def lead (n k : Nat) (m : Int) : List Int := List.replicate k m ++ List.replicate (n - k) 0
theorem lead_len (n k : Nat) (m : Int) (h : k ≤ n) : (lead n k m).length = n := by simp [lead]; omega
theorem lead_set (n k : Nat) (m : Int) (h : k < n) : (lead n k m).set k m = lead n (k + 1) m := by
  unfold lead
  rw [List.set_append, if_neg (by simp), show n - k = (n - (k + 1)) + 1 by omega, List.replicate_succ, List.replicate_succ']
  simp
theorem info_int : (Try.prog.info? 3).map (fun i => (i.zero, i.size, i.bytes)) = some (some (.int .i64 0), 1, 8) := by kernel_rfl
/-- A new slice of ints. -/
def NSl (p n : Nat) : Value := .slice (some ⟨p, 0, none⟩) n n
/-- What the making of an image lays. -/
def Lays3 (w : World) (W H : Int) (n : Nat) (v : Value) (wx : World) : Prop :=
  ∃ pm pc pz : Nat, v = .pointer (some ⟨pm, 0, none⟩) ∧ (∃ X, wx = w.ext X) ∧ w.heap.size ≤ pm ∧ w.heap.size ≤ pc ∧ w.heap.size ≤ pz ∧ pc ≠ pz ∧ pm ≠ pz ∧
    Row wx pm #[.int .i64 W, .int .i64 H, NSl pc n, NSl pz n] 24 ∧ Row wx pc (ints (List.replicate n 0)) 3 ∧ Row wx pz (ints (List.replicate n 0)) 3
/-- A new image is returned: its slices' blocks are new, and lie apart. -/
def NewIm (W H : Int) (n : Nat) (C Z : List Int) (t : Value → Value) (w : World) (e : Ending) (w' : World) : Prop :=
  ∃ pc pz : Nat, e = .returned (t (Im W H (.slice (some ⟨pc, 0, none⟩) n n) (.slice (some ⟨pz, 0, none⟩) n n))) ∧ (∃ X, w' = w.ext X) ∧ w.heap.size ≤ pc ∧ w.heap.size ≤ pz ∧ pc ≠ pz ∧ Row w' pc (ints C) 3 ∧ Row w' pz (ints Z) 3
theorem lays3_mk {w : World} {W H : Int} {n : Nat} {wx : World} (pm pc pz : Nat) (h : RowKit.Below w.heap.size w wx) (g1 : w.heap.size ≤ pm) (g2 : w.heap.size ≤ pc) (g3 : w.heap.size ≤ pz) (g4 : pc ≠ pz) (g5 : pm ≠ pz)
    (r1 : wx.heap[pm]? = some (.cells #[.int .i64 W, .int .i64 H, NSl pc n, NSl pz n] 24 (0, 0))) (r2 : wx.heap[pc]? = some (.cells (madeCells #[.int .i64 0] n) 3 (0, 0))) (r3 : wx.heap[pz]? = some (.cells (madeCells #[.int .i64 0] n) 3 (0, 0))) :
    Lays3 w W H n (.pointer (some ⟨pm, 0, none⟩)) wx := by
  rw [made_ints] at r2 r3
  exact ⟨pm, pc, pz, rfl, h.toExt, g1, g2, g3, g4, g5, r1, r2, r3⟩
set_option maxHeartbeats 4000000 in
theorem new_ok (W H : Int) (n : Nat) (w : World) (w0 : 1 ≤ W) (w1 : W ≤ 1024) (h0 : 1 ≤ H) (h1 : H ≤ 1024) (hn : W * H = n) :
    Calls Try.prog 17 #[.int .i64 W, .int .i64 H] w (NewIm W H n (List.replicate n 0) (List.replicate n 16777215) (fun m => .tuple #[m, .int .i64 0]) w) := by
  obtain ⟨a0, a1⟩ := area_01 w0 w1 h0 h1
  have n0 : 1 ≤ n := by omega
  have n1 : n ≤ 1048576 := by omega
  have hmk := run_make_row' (P := Try.prog) 22 3 (.int .i64 0) 8 Try.underlying22 info_int rfl .i64 .i64 n (by omega) (by omega)
  go_enter Try.func17, Try.ntmps17
  go_upto_region 3 with fail
  go_cut [6] (fun v wx => Lays3 (w.alloc (.cells #[.int .i64 0, .int .i64 0, .slice none 0 0, .slice none 0 0] 24)) W H n v wx)
  case first =>
    go_region
    all_goals (go_wp2_with fail; go_meet)
    all_goals (first
      | ((with_reducible refine lays3_mk (w.heap.size + 1) (w.heap.size + 1 + 1) (w.heap.size + 1 + 1 + 1) ?_ ?_ ?_ ?_ ?_ ?_ ?_ ?_ ?_); all_goals first | (simp; done) | omega | (simp only [World.hp_alloc, World.hp_drew, Array.getElem?_push, Array.size_push, NSl]; simp; done) | ((repeat (first | exact Below.refl _ _ | with_reducible refine Below.drew ?_ | with_reducible refine Below.ext ?_ (by first | exact Nat.le_refl _ | (simp; done) | (simp; omega)) _ | with_reducible refine Below.alloc ?_ (by first | exact Nat.le_refl _ | (simp; done) | (simp; omega)) _ | with_reducible refine Below.setCell ?_ (by first | exact Nat.le_refl _ | (simp; done) | (simp; omega)) _)); done))
      | ((with_reducible refine lays3_mk (w.heap.size + 1) (w.heap.size + 1 + 1 + 1) (w.heap.size + 1 + 1) ?_ ?_ ?_ ?_ ?_ ?_ ?_ ?_ ?_); all_goals first | (simp; done) | omega | (simp only [World.hp_alloc, World.hp_drew, Array.getElem?_push, Array.size_push, NSl]; simp; done) | ((repeat (first | exact Below.refl _ _ | with_reducible refine Below.drew ?_ | with_reducible refine Below.ext ?_ (by first | exact Nat.le_refl _ | (simp; done) | (simp; omega)) _ | with_reducible refine Below.alloc ?_ (by first | exact Nat.le_refl _ | (simp; done) | (simp; omega)) _ | with_reducible refine Below.setCell ?_ (by first | exact Nat.le_refl _ | (simp; done) | (simp; omega)) _)); done))
      | ((with_reducible refine lays3_mk (w.heap.size + 1 + 1) (w.heap.size + 1) (w.heap.size + 1 + 1 + 1) ?_ ?_ ?_ ?_ ?_ ?_ ?_ ?_ ?_); all_goals first | (simp; done) | omega | (simp only [World.hp_alloc, World.hp_drew, Array.getElem?_push, Array.size_push, NSl]; simp; done) | ((repeat (first | exact Below.refl _ _ | with_reducible refine Below.drew ?_ | with_reducible refine Below.ext ?_ (by first | exact Nat.le_refl _ | (simp; done) | (simp; omega)) _ | with_reducible refine Below.alloc ?_ (by first | exact Nat.le_refl _ | (simp; done) | (simp; omega)) _ | with_reducible refine Below.setCell ?_ (by first | exact Nat.le_refl _ | (simp; done) | (simp; omega)) _)); done))
      | ((with_reducible refine lays3_mk (w.heap.size + 1 + 1) (w.heap.size + 1 + 1 + 1) (w.heap.size + 1) ?_ ?_ ?_ ?_ ?_ ?_ ?_ ?_ ?_); all_goals first | (simp; done) | omega | (simp only [World.hp_alloc, World.hp_drew, Array.getElem?_push, Array.size_push, NSl]; simp; done) | ((repeat (first | exact Below.refl _ _ | with_reducible refine Below.drew ?_ | with_reducible refine Below.ext ?_ (by first | exact Nat.le_refl _ | (simp; done) | (simp; omega)) _ | with_reducible refine Below.alloc ?_ (by first | exact Nat.le_refl _ | (simp; done) | (simp; omega)) _ | with_reducible refine Below.setCell ?_ (by first | exact Nat.le_refl _ | (simp; done) | (simp; omega)) _)); done))
      | ((with_reducible refine lays3_mk (w.heap.size + 1 + 1 + 1) (w.heap.size + 1) (w.heap.size + 1 + 1) ?_ ?_ ?_ ?_ ?_ ?_ ?_ ?_ ?_); all_goals first | (simp; done) | omega | (simp only [World.hp_alloc, World.hp_drew, Array.getElem?_push, Array.size_push, NSl]; simp; done) | ((repeat (first | exact Below.refl _ _ | with_reducible refine Below.drew ?_ | with_reducible refine Below.ext ?_ (by first | exact Nat.le_refl _ | (simp; done) | (simp; omega)) _ | with_reducible refine Below.alloc ?_ (by first | exact Nat.le_refl _ | (simp; done) | (simp; omega)) _ | with_reducible refine Below.setCell ?_ (by first | exact Nat.le_refl _ | (simp; done) | (simp; omega)) _)); done))
      | ((with_reducible refine lays3_mk (w.heap.size + 1 + 1 + 1) (w.heap.size + 1 + 1) (w.heap.size + 1) ?_ ?_ ?_ ?_ ?_ ?_ ?_ ?_ ?_); all_goals first | (simp; done) | omega | (simp only [World.hp_alloc, World.hp_drew, Array.getElem?_push, Array.size_push, NSl]; simp; done) | ((repeat (first | exact Below.refl _ _ | with_reducible refine Below.drew ?_ | with_reducible refine Below.ext ?_ (by first | exact Nat.le_refl _ | (simp; done) | (simp; omega)) _ | with_reducible refine Below.alloc ?_ (by first | exact Nat.le_refl _ | (simp; done) | (simp; omega)) _ | with_reducible refine Below.setCell ?_ (by first | exact Nat.le_refl _ | (simp; done) | (simp; omega)) _)); done)))
  case rest =>
    obtain ⟨pm, pc, pz, rfl, hx, g1, g2, g3, g4, g5, r1, r2, r3⟩ := hcut
    have c2 := r1.cell 2
    have c3 := r1.cell 3
    simp [NSl] at c2 c3
    go_wp2
    go_loopw [37] (fun i wr => ∃ k : Nat, k ≤ n ∧ i = .int .i64 k ∧ (∃ X, wr = (w.alloc (.cells #[.int .i64 0, .int .i64 0, .slice none 0 0, .slice none 0 0] 24)).ext X) ∧ Row wr pm #[.int .i64 W, .int .i64 H, NSl pc n, NSl pz n] 24 ∧ Row wr pc (ints (List.replicate n 0)) 3 ∧ Row wr pz (ints (lead n k 16777215)) 3)
      (fun i _ => n - (intOf i).toNat)
    case atStart => exact ⟨0, by omega, rfl, hx, r1, r2, by simpa [lead] using r3⟩
    case round =>
      obtain ⟨k, hk, rfl, hx, r1, r2, r3⟩ := hrel
      clear c2 c3
      have c2 := r1.cell 2
      have c3 := r1.cell 3
      simp [NSl] at c2 c3
      by_cases hlt : k < n
      · have d1 := r3.cell k
        have d2 := r3.frozen k
        have d3 : (ints (lead n k 16777215))[k]? = some (.int .i64 0) := by
          rw [ints_at]; unfold lead; rw [List.getElem?_append_right (by simp), List.getElem?_replicate, if_pos (by rw [List.length_replicate]; omega)]; rfl
        rw [d3] at d1
        go_wp2
        go_roundw
        case rel =>
          refine ⟨k + 1, by omega, by go_num, World.setCell_new hx (by simpa using g3), r1.other g5 _ _, r2.other g4 _ _, ?_⟩
          have := r3.set k (.int .i64 16777215)
          rwa [ints_set, lead_set n k _ hlt] at this
        case measure => simp [intOf]; omega
      · have hk' : k = n := by omega
        subst hk'
        have c0 := r1.cell 0
        have c1 := r1.cell 1
        simp [NSl] at c0 c1
        obtain ⟨X, rfl⟩ := hx
        go_wp2
        have q2 := r2.swap (o' := .cells #[.int .i64 W, .int .i64 H, .slice (some ⟨pc, 0, none⟩) k k, .slice (some ⟨pz, 0, none⟩) k k] 24) (by simp at g2; omega)
        have q3 := r3.swap (o' := .cells #[.int .i64 W, .int .i64 H, .slice (some ⟨pc, 0, none⟩) k k, .slice (some ⟨pz, 0, none⟩) k k] 24) (by simp at g3; omega)
        refine bodyPost_ret (v := .tuple #[Im W H (.slice (some ⟨pc, 0, none⟩) k k) (.slice (some ⟨pz, 0, none⟩) k k), .int .i64 0]) (by simp [results, Try.results17, go_sem]) rfl ?_
        refine ⟨pc, pz, rfl, RowKit.Below.toExt (by (repeat (first | exact Below.refl _ _ | with_reducible refine Below.drew ?_ | with_reducible refine Below.ext ?_ (by first | exact Nat.le_refl _ | (simp; done) | (simp; omega)) _ | with_reducible refine Below.alloc ?_ (by first | exact Nat.le_refl _ | (simp; done) | (simp; omega)) _ | with_reducible refine Below.setCell ?_ (by first | exact Nat.le_refl _ | (simp; done) | (simp; omega)) _))), ?_, ?_, g4, q2, ?_⟩
        · simp at g2; omega
        · simp at g3; omega
        · simpa [lead] using q3
end Go.Proofs.Ythcjfanigfgckaa
end
section
/- The document's example of layer 23 (store). No condition. -/
namespace Go.Proofs.Ythcjfanigfgckaa
set_option linter.unusedVariables false
set_option linter.unusedSimpArgs false
set_option maxRecDepth 10000
open Go.RowKit
theorem Rd.alloc {w : World} {v : Value} {zs : List Int} (h : Rd w v zs) (o : Obj) : Rd (w.alloc o) v zs := by
  obtain ⟨h0, h1, a, cap, rfl, h2, h3⟩ := h
  refine ⟨h0, h1, a, cap, rfl, h2, ?_⟩
  rcases h3 with h3 | ⟨b, off, rfl, hb, hc⟩
  · exact .inl h3
  · refine .inr ⟨b, off, rfl, by rw [World.hp_alloc, Array.size_push]; omega, fun i hi => ?_⟩
    rw [← hc i hi]
    simp only [World.cell?, World.hp_alloc, Array.getElem?_push, if_neg (show ¬ b = w.heap.size by omega)]
theorem Rd.drew {w : World} {v : Value} {zs : List Int} (h : Rd w v zs) : Rd w.drew v zs := h
theorem rd_row {w : World} {p n : Nat} {l : List Int} {T : TypeId} (h : Row w p (ints l) T) (hl : l.length = n) (hn : n ≤ 9223372036854775807) (hb : ∀ z ∈ l, -9223372036854775808 ≤ z ∧ z ≤ 9223372036854775807) :
    Rd w (.slice (some ⟨p, 0, none⟩) n n) l := by
  subst hl
  refine ⟨hb, hn, _, _, rfl, Nat.le_refl _, .inr ⟨p, 0, rfl, h.lt, fun i hi => ?_⟩⟩
  rw [Nat.zero_add, h.cell, ints_at, List.getElem?_eq_getElem hi]
  simp [elt, hi]
theorem im_ok6 : ImOk 2 3 (List.replicate 6 0) (List.replicate 6 16777215) :=
  ⟨by decide, by decide, by decide, by decide, by decide, by decide, by decide, by decide⟩
set_option maxHeartbeats 2000000 in
theorem awake23 (w : World) : Calls Try.prog 7 #[] w (Ret (.bool true) w) := by
  go_enter Try.func7, Try.ntmps7
  go_wp2_with (first
    | (go_at_call 17; (with_reducible refine (new_ok 2 3 6 _ (by decide) (by decide) (by decide) (by decide) (by decide)).mono ?_); rintro _ _ ⟨pc, pz, rfl, ⟨X, rfl⟩, g1, g2, g3, r1, r2⟩; have R1 := rd_row r1 (n := 6) rfl (by decide) (by decide); have R2 := rd_row r2 (n := 6) rfl (by decide) (by decide); clear r1 r2 g3)
    | (go_at_call 18; (with_reducible refine (get_in 2 3 _ _ (List.replicate 6 0) (List.replicate 6 16777215) 1 2 _ ?_ ?_ im_ok6 (by decide)).mono ?_); (repeat (first | assumption | with_reducible refine Rd.ext ?_ _ | with_reducible refine Rd.alloc ?_ _ | with_reducible refine Rd.drew ?_)); (repeat (first | assumption | with_reducible refine Rd.ext ?_ _ | with_reducible refine Rd.alloc ?_ _ | with_reducible refine Rd.drew ?_)); rintro _ _ ⟨rfl, ⟨Y, rfl⟩⟩; simp only [show elt (List.replicate 6 16777215) ((2 : Int) * 2 + 1).toNat = 16777215 from rfl])
    | (go_at_call 19; (with_reducible refine (pack_any 1 2 3 4 ⟨by decide, by decide, by decide, by decide, by decide, by decide, by decide, by decide⟩ _).mono ?_); rintro _ _ ⟨rfl, ⟨T, rfl⟩⟩; simp only [show pk 1 2 3 4 = 16909060 from rfl])
    | (go_at_call 20; (with_reducible refine (right_yes 2 3 _ _ (List.replicate 6 0) (List.replicate 6 16777215) _ ?_ ?_ im_ok6).mono ?_); (repeat (first | assumption | with_reducible refine Rd.ext ?_ _ | with_reducible refine Rd.alloc ?_ _ | with_reducible refine Rd.drew ?_)); (repeat (first | assumption | with_reducible refine Rd.ext ?_ _ | with_reducible refine Rd.alloc ?_ _ | with_reducible refine Rd.drew ?_)); rintro _ _ ⟨rfl, ⟨Z, rfl⟩⟩))
  go_ret
  exact Ret.of (by (repeat (first | exact Below.refl _ _ | with_reducible refine Below.drew ?_ | with_reducible refine Below.ext ?_ (by first | exact Nat.le_refl _ | (simp; done) | (simp; omega)) _ | with_reducible refine Below.alloc ?_ (by first | exact Nat.le_refl _ | (simp; done) | (simp; omega)) _ | with_reducible refine Below.setCell ?_ (by first | exact Nat.le_refl _ | (simp; done) | (simp; omega)) _)))
end Go.Proofs.Ythcjfanigfgckaa
end
section
/- The walks of layer 23 (store): the same images; small ones; what has no image. Conditions: the slices read as lists. -/
namespace Go.Proofs.Ythcjfanigfgckaa
set_option linter.unusedVariables false
set_option linter.unusedSimpArgs false
set_option maxRecDepth 10000
open Go.RowKit
theorem small_yes (W H : Int) (c z : Value) (C Z : List Int) (w : World) (hc : Rd w c C) (hz : Rd w z Z) (lc : C.length ≤ 400) (lz : Z.length ≤ 400) :
    Calls Try.prog 4 #[Im W H c z] w (Ret (.bool true) w) := by
  obtain ⟨-, -, a, cap, rfl, -, -⟩ := hc
  obtain ⟨-, -, a', cap', rfl, -, -⟩ := hz
  go_enter Try.func4, Try.ntmps4
  go_wp2
  go_ret
  exact Ret.of' (by simp; omega) (by (repeat (first | exact Below.refl _ _ | with_reducible refine Below.drew ?_ | with_reducible refine Below.ext ?_ (by first | exact Nat.le_refl _ | (simp; done) | (simp; omega)) _ | with_reducible refine Below.alloc ?_ (by first | exact Nat.le_refl _ | (simp; done) | (simp; omega)) _ | with_reducible refine Below.setCell ?_ (by first | exact Nat.le_refl _ | (simp; done) | (simp; omega)) _)))
theorem small_no (W H : Int) (c z : Value) (C Z : List Int) (w : World) (hc : Rd w c C) (hz : Rd w z Z) (h : ¬ (C.length ≤ 400 ∧ Z.length ≤ 400)) :
    Calls Try.prog 4 #[Im W H c z] w (Ret (.bool false) w) := by
  obtain ⟨-, -, a, cap, rfl, -, -⟩ := hc
  obtain ⟨-, -, a', cap', rfl, -, -⟩ := hz
  by_cases l : C.length ≤ 400
  · have l2 : 400 < Z.length := by omega
    clear h
    go_enter Try.func4, Try.ntmps4
    go_wp2
    go_ret
    exact Ret.of' (by simp; omega) (by (repeat (first | exact Below.refl _ _ | with_reducible refine Below.drew ?_ | with_reducible refine Below.ext ?_ (by first | exact Nat.le_refl _ | (simp; done) | (simp; omega)) _ | with_reducible refine Below.alloc ?_ (by first | exact Nat.le_refl _ | (simp; done) | (simp; omega)) _ | with_reducible refine Below.setCell ?_ (by first | exact Nat.le_refl _ | (simp; done) | (simp; omega)) _)))
  · clear h
    go_enter Try.func4, Try.ntmps4
    go_wp2
    go_ret
    exact Ret.of (by (repeat (first | exact Below.refl _ _ | with_reducible refine Below.drew ?_ | with_reducible refine Below.ext ?_ (by first | exact Nat.le_refl _ | (simp; done) | (simp; omega)) _ | with_reducible refine Below.alloc ?_ (by first | exact Nat.le_refl _ | (simp; done) | (simp; omega)) _ | with_reducible refine Below.setCell ?_ (by first | exact Nat.le_refl _ | (simp; done) | (simp; omega)) _)))
theorem ext_none (w : World) : w.ext ⟨#[], w.drawn⟩ = w := by simp [World.ext]
set_option maxHeartbeats 4000000 in
theorem same_yes (W H : Int) (c z c' z' : Value) (C Z : List Int) (w : World) (hc : Rd w c C) (hz : Rd w z Z) (hc' : Rd w c' C) (hz' : Rd w z' Z) (lc : C.length ≤ 1048576) (lz : Z.length ≤ 1048576) :
    Calls Try.prog 11 #[Im W H c z, Im W H c' z'] w (Ret (.bool true) w) := by
  obtain ⟨-, -, a1, cap1, rfl, hcap1, h1⟩ := hc
  obtain ⟨-, -, a2, cap2, rfl, hcap2, h2⟩ := hz
  obtain ⟨-, -, a3, cap3, rfl, hcap3, h3⟩ := hc'
  obtain ⟨-, -, a4, cap4, rfl, hcap4, h4⟩ := hz'
  go_enter Try.func11, Try.ntmps11
  go_wp2
  go_loopw [5] (fun i wr => ∃ (k : Nat) (X : Xt), k ≤ C.length ∧ i = .int .i64 k ∧ wr = ((w.alloc (.cells #[.int .i64 W, .int .i64 H, .slice a1 C.length cap1, .slice a2 Z.length cap2] 24)).alloc (.cells #[.int .i64 W, .int .i64 H, .slice a3 C.length cap3, .slice a4 Z.length cap4] 24)).ext X)
    (fun i _ => C.length - (intOf i).toNat)
  case atStart => exact ⟨0, _, by omega, rfl, (ext_none _).symm⟩
  case round =>
    obtain ⟨k, X, hk, rfl, rfl⟩ := hrel
    by_cases hlt : k < C.length
    · rcases h1 with rfl | ⟨b1, off1, rfl, hb1, hc1⟩
      · simp at hlt
      rcases h3 with rfl | ⟨b3, off3, rfl, hb3, hc3⟩
      · simp at hlt
      have e1 := hc1 k hlt
      have e3 := hc3 k hlt
      have hb1' : b1 ≤ w.heap.size := by omega
      have hb3' : b3 ≤ w.heap.size := by omega
      clear hc1 hc3 h2 h4
      go_wp2
      refine wp_region_ext (by kernel_rfl) (by kernel_rfl) ?_
      repeat (go_big_quiet_step ((fail)))
      refine wpQuiet_nil ?_
      intro _ hw_ext
      obtain ⟨Y, hw_ext⟩ := hw_ext
      subst hw_ext
      go_wp2
      go_roundw
      case rel => exact ⟨k + 1, _, by omega, by go_num, World.ext_ext⟩
      case measure => simp [intOf]; omega
    · go_wp2
      go_loopw [6] (fun i wr => ∃ (k : Nat) (X : Xt), k ≤ Z.length ∧ i = .int .i64 k ∧ wr = ((w.alloc (.cells #[.int .i64 W, .int .i64 H, .slice a1 C.length cap1, .slice a2 Z.length cap2] 24)).alloc (.cells #[.int .i64 W, .int .i64 H, .slice a3 C.length cap3, .slice a4 Z.length cap4] 24)).ext X)
        (fun i _ => Z.length - (intOf i).toNat)
      case atStart => exact ⟨0, X, by omega, rfl, rfl⟩
      case round =>
        clear hlt hk
        obtain ⟨k, X, hk, rfl, rfl⟩ := hrel
        by_cases hlt : k < Z.length
        · rcases h2 with rfl | ⟨b1, off1, rfl, hb1, hc1⟩
          · simp at hlt
          rcases h4 with rfl | ⟨b3, off3, rfl, hb3, hc3⟩
          · simp at hlt
          have e1 := hc1 k hlt
          have e3 := hc3 k hlt
          have hb1' : b1 ≤ w.heap.size := by omega
          have hb3' : b3 ≤ w.heap.size := by omega
          clear hc1 hc3 h1 h3
          go_wp2
          refine wp_region_ext (by kernel_rfl) (by kernel_rfl) ?_
          repeat (go_big_quiet_step ((fail)))
          refine wpQuiet_nil ?_
          intro _ hw_ext
          obtain ⟨Y, hw_ext⟩ := hw_ext
          subst hw_ext
          go_wp2
          go_roundw
          case rel => exact ⟨k + 1, _, by omega, by go_num, World.ext_ext⟩
          case measure => simp [intOf]; omega
        · go_wp2
          go_ret
          exact Ret.of (by (repeat (first | exact Below.refl _ _ | with_reducible refine Below.drew ?_ | with_reducible refine Below.ext ?_ (by first | exact Nat.le_refl _ | (simp; done) | (simp; omega)) _ | with_reducible refine Below.alloc ?_ (by first | exact Nat.le_refl _ | (simp; done) | (simp; omega)) _ | with_reducible refine Below.setCell ?_ (by first | exact Nat.le_refl _ | (simp; done) | (simp; omega)) _)))
end Go.Proofs.Ythcjfanigfgckaa
end
section
/- The walks of layer 23 (store): the reference's new image, grown by append. Conditions: the sides' bounds. -/
namespace Go.Proofs.Ythcjfanigfgckaa
set_option linter.unusedVariables false
set_option linter.unusedSimpArgs false
set_option maxRecDepth 10000
open Go.RowKit
/-- An image whose slices read so is returned; what was there stays. -/
def Makes (W H : Int) (C Z : List Int) (t : Value → Value) (w : World) (e : Ending) (w' : World) : Prop :=
  ∃ vc vz, e = .returned (t (Im W H vc vz)) ∧ (∃ X, w' = w.ext X) ∧ Rd w' vc C ∧ Rd w' vz Z
theorem grown_set (w : World) (p k : Nat) (v : Value) : w.grownBy (w.setCell ⟨p, k, none⟩ v) (some p) :=
  ⟨rfl, rfl, rfl, by simp [World.setCell], fun j hj hne => by
    have : ¬ p = j := fun e => hne (by rw [e])
    simp only [World.setCell, Array.getElem?_modify, if_neg this]⟩
theorem grown_swap {w : World} {o o' : Obj} {X : Xt} : ((w.alloc o).ext X).grownBy ((w.alloc o').ext X) (some w.heap.size) :=
  ⟨rfl, rfl, rfl, by simp [World.ext, World.hp_alloc], fun k hk hne => by
    have : ¬ k = w.heap.size := fun e => hne (by rw [e])
    simp only [World.ext, World.hp_alloc, Array.getElem?_append, Array.size_push, Array.getElem?_push, if_neg this]⟩
/-- A new slice's value. -/
abbrev sl (g n cap : Nat) : Value := .slice (some ⟨g, 0, none⟩) n cap
/-- An image that grows. -/
structure Grow (w0 wr : World) (pm : Nat) (W H : Int) (vc vz : Value) (kc kz : Nat) : Prop where
  bel : Below w0.heap.size w0 wr
  pml : w0.heap.size ≤ pm
  row : Row wr pm #[.int .i64 W, .int .i64 H, vc, vz] 24
  oc : wr.ownsRow (pm + 1) 3 1 vc kc (List.replicate kc (.int .i64 0))
  oz : wr.ownsRow (pm + 1) 3 1 vz kz (List.replicate kz (.int .i64 16777215))
  ne : ∀ g, vc.ownBlock = some g → vz.ownBlock ≠ some g
theorem Grow.c {w0 wr w1 : World} {pm : Nat} {W H : Int} {vc vz : Value} {kc kz g cap : Nat} {o : Obj} (h : Grow w0 wr pm W H vc vz kc kz)
    (hown : w1.ownsRow (pm + 1) 3 1 (sl g (kc + 1) cap) (kc + 1) (List.replicate kc (.int .i64 0) ++ [.int .i64 0])) (hg : (wr.alloc o).grownBy w1 vc.ownBlock) (hat : vc.ownBlock = some g ∨ g = wr.heap.size + 1) :
    Row w1 pm #[.int .i64 W, .int .i64 H, vc, vz] 24 ∧ Grow w0 (w1.setCell ⟨pm, 2, none⟩ (sl g (kc + 1) cap)) pm W H (sl g (kc + 1) cap) vz (kc + 1) kz := by
  have hs : (wr.alloc o).heap.size = wr.heap.size + 1 := by rw [World.hp_alloc, Array.size_push]
  have r1 : Row w1 pm #[.int .i64 W, .int .i64 H, vc, vz] 24 := by
    unfold Row
    rw [hg.block pm (by have := h.row.lt; omega) (fun e => by have := (h.oc.lt pm e.symm).1; omega)]
    exact h.row.alloc o
  have hz : w1.ownsRow (pm + 1) 3 1 vz kz (List.replicate kz (.int .i64 16777215)) := (h.oz.alloc o).kept hg (by
    cases e : vz.ownBlock with
    | none => exact .inl rfl
    | some q => exact .inr fun e' => h.ne q e'.symm e)
  refine ⟨r1, ?_, h.pml, ?_, ?_, ?_, ?_⟩
  · refine Below.setCell (Below.grown (h.bel.alloc h.bel.size o) hg (by have := h.bel.size; omega) fun k hk => ?_) h.pml _
    have := (h.oc.lt k hk).1; have := h.pml; omega
  · have := r1.set 2 (sl g (kc + 1) cap)
    simpa using this
  · rw [List.replicate_succ']
    exact hown.kept (grown_set _ _ _ _) (.inr fun e => by have := (hown.lt pm e).1; omega)
  · exact hz.kept (grown_set _ _ _ _) (.inr fun e => by have := (hz.lt pm e).1; omega)
  · intro g' e e'
    obtain rfl : g = g' := by simpa [Value.ownBlock] using e
    rcases hat with hat | hat
    · exact h.ne g hat e'
    · have := (h.oz.lt g e').2; omega
theorem Grow.z {w0 wr w1 : World} {pm : Nat} {W H : Int} {vc vz : Value} {kc kz g cap : Nat} {o : Obj} (h : Grow w0 wr pm W H vc vz kc kz)
    (hown : w1.ownsRow (pm + 1) 3 1 (sl g (kz + 1) cap) (kz + 1) (List.replicate kz (.int .i64 16777215) ++ [.int .i64 16777215])) (hg : (wr.alloc o).grownBy w1 vz.ownBlock) (hat : vz.ownBlock = some g ∨ g = wr.heap.size + 1) :
    Row w1 pm #[.int .i64 W, .int .i64 H, vc, vz] 24 ∧ Grow w0 (w1.setCell ⟨pm, 3, none⟩ (sl g (kz + 1) cap)) pm W H vc (sl g (kz + 1) cap) kc (kz + 1) := by
  have hs : (wr.alloc o).heap.size = wr.heap.size + 1 := by rw [World.hp_alloc, Array.size_push]
  have r1 : Row w1 pm #[.int .i64 W, .int .i64 H, vc, vz] 24 := by
    unfold Row
    rw [hg.block pm (by have := h.row.lt; omega) (fun e => by have := (h.oz.lt pm e.symm).1; omega)]
    exact h.row.alloc o
  have hz : w1.ownsRow (pm + 1) 3 1 vc kc (List.replicate kc (.int .i64 0)) := (h.oc.alloc o).kept hg (by
    cases e : vc.ownBlock with
    | none => exact .inl rfl
    | some q => exact .inr fun e' => h.ne q e e'.symm)
  refine ⟨r1, ?_, h.pml, ?_, ?_, ?_, ?_⟩
  · refine Below.setCell (Below.grown (h.bel.alloc h.bel.size o) hg (by have := h.bel.size; omega) fun k hk => ?_) h.pml _
    have := (h.oz.lt k hk).1; have := h.pml; omega
  · have := r1.set 3 (sl g (kz + 1) cap)
    simpa using this
  · exact hz.kept (grown_set _ _ _ _) (.inr fun e => by have := (hz.lt pm e).1; omega)
  · rw [List.replicate_succ']
    exact hown.kept (grown_set _ _ _ _) (.inr fun e => by have := (hown.lt pm e).1; omega)
  · intro g' e e'
    obtain rfl : g = g' := by simpa [Value.ownBlock] using e'
    rcases hat with hat | hat
    · exact h.ne g e hat
    · have := (h.oc.lt g e).2; omega
theorem rd_own {w : World} {base n : Nat} {v : Value} {l : List Int} (h : w.ownsRow base 3 1 v n (l.map (Value.int .i64))) (hb : ∀ z ∈ l, -9223372036854775808 ≤ z ∧ z ≤ 9223372036854775807) : Rd w v l := by
  obtain ⟨hl, h⟩ := h
  obtain rfl : n = l.length := by simpa using hl.symm
  rcases h with ⟨rfl, h0⟩ | ⟨g, cap, cur, rfl, -, hg, h1, h2, h3, h4⟩
  · obtain rfl : l = [] := List.length_eq_zero_iff.1 h0
    exact ⟨hb, by simp, none, 0, rfl, Nat.le_refl _, .inl rfl⟩
  · refine ⟨hb, by simp only [maxLen] at h2; omega, _, cap, rfl, h1, .inr ⟨g, 0, rfl, (Array.getElem?_eq_some_iff.1 hg).1, fun i hi => ?_⟩⟩
    have e : cur.toList[i]? = (cur.toList.take (l.length * 1))[i]? := by rw [List.getElem?_take, if_pos (by omega)]
    rw [Nat.zero_add, World.cell?]
    simp only [hg]
    rw [← Array.getElem?_toList, e, h4]
    simp [elt, hi]
end Go.Proofs.Ythcjfanigfgckaa
end
