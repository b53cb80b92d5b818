/- The walks of layer 23 (store), first part: colors as numbers. Conditions: numbers of colors from 0 to 255; packed numbers from 0 to 4294967295. -/
import Derived.Test.YtdbbeggenbhbfaaMix
import Derived.Test.YtdbbeggenbhbfaaBits
namespace Go.Proofs.Ytdbbeggenbhbfaa
set_option linter.unusedVariables false
set_option linter.unusedSimpArgs false
open Go.RowKit
set_option maxHeartbeats 1000000 in
theorem pack_any (a b c d : Int) (h : May a b c d) (w : World) : Calls Try.prog 28 #[C4 a b c d] w (Ret (.int .i64 (pk a b c d)) w) := by
  obtain ⟨a0, a1, b0, b1, c0, c1, e0, e1⟩ := h
  have h1 : bits .or .i64 (a * 16777216) (b * 65536) = a * 16777216 + b * 65536 := bits_or_low _ _ 24 a.toNat (by omega) (by omega) (by omega) (by omega) (by omega)
  have h2 : bits .or .i64 (a * 16777216 + b * 65536) (c * 256) = a * 16777216 + b * 65536 + c * 256 := bits_or_low _ _ 16 (a * 256 + b).toNat (by omega) (by omega) (by omega) (by omega) (by omega)
  have h3 : bits .or .i64 (a * 16777216 + b * 65536 + c * 256) d = a * 16777216 + b * 65536 + c * 256 + d := bits_or_low _ _ 8 ((a * 256 + b) * 256 + c).toNat (by omega) (by omega) (by omega) (by omega) (by omega)
  have H : a * 16777216 + b * 65536 + c * 256 + d = pk a b c d := by unfold pk; omega
  rw [← H]
  clear H
  go_enter Try.func28, Try.ntmps28
  go_wp2
  go_ret
  exact Ret.of (by (repeat (first | exact Below.refl _ _ | with_reducible refine Below.drew ?_ | with_reducible refine Below.ext ?_ (by first | exact Nat.le_refl _ | (simp; done) | (simp; omega)) _ | with_reducible refine Below.alloc ?_ (by first | exact Nat.le_refl _ | (simp; done) | (simp; omega)) _ | with_reducible refine Below.setCell ?_ (by first | exact Nat.le_refl _ | (simp; done) | (simp; omega)) _)))
set_option maxHeartbeats 1000000 in
theorem rpack_any (a b c d : Int) (h : May a b c d) (w : World) : Calls Try.prog 30 #[C4 a b c d] w (Ret (.int .i64 (pk a b c d)) w) := by
  obtain ⟨a0, a1, b0, b1, c0, c1, e0, e1⟩ := h
  go_enter Try.func30, Try.ntmps30
  go_wp2
  go_ret
  exact Ret.of' (by unfold pk; rfl) (by (repeat (first | exact Below.refl _ _ | with_reducible refine Below.drew ?_ | with_reducible refine Below.ext ?_ (by first | exact Nat.le_refl _ | (simp; done) | (simp; omega)) _ | with_reducible refine Below.alloc ?_ (by first | exact Nat.le_refl _ | (simp; done) | (simp; omega)) _ | with_reducible refine Below.setCell ?_ (by first | exact Nat.le_refl _ | (simp; done) | (simp; omega)) _)))
/-- A number's color. -/
def up0 (n : Int) : Int := n / 16777216 % 256
def up1 (n : Int) : Int := n / 65536 % 256
def up2 (n : Int) : Int := n / 256 % 256
def up3 (n : Int) : Int := n % 256
theorem up_may (n : Int) : May (up0 n) (up1 n) (up2 n) (up3 n) := by constructor <;> simp only [up0, up1, up2, up3] <;> omega
theorem pk_up {n : Int} (h0 : 0 ≤ n) (h1 : n ≤ 4294967295) : pk (up0 n) (up1 n) (up2 n) (up3 n) = n := by simp only [pk, up0, up1, up2, up3]; omega
theorem up_pk0 {a b c d : Int} (h : May a b c d) : up0 (pk a b c d) = a := by obtain ⟨a0, a1, b0, b1, c0, c1, e0, e1⟩ := h; simp only [pk, up0]; omega
theorem up_pk1 {a b c d : Int} (h : May a b c d) : up1 (pk a b c d) = b := by obtain ⟨a0, a1, b0, b1, c0, c1, e0, e1⟩ := h; simp only [pk, up1]; omega
theorem up_pk2 {a b c d : Int} (h : May a b c d) : up2 (pk a b c d) = c := by obtain ⟨a0, a1, b0, b1, c0, c1, e0, e1⟩ := h; simp only [pk, up2]; omega
theorem up_pk3 {a b c d : Int} (h : May a b c d) : up3 (pk a b c d) = d := by obtain ⟨a0, a1, b0, b1, c0, c1, e0, e1⟩ := h; simp only [pk, up3]; omega
abbrev U4 (n : Int) : Value := C4 (up0 n) (up1 n) (up2 n) (up3 n)
set_option maxHeartbeats 1000000 in
theorem unpack_any (n : Int) (h0 : 0 ≤ n) (h1 : n ≤ 4294967295) (w : World) : Calls Try.prog 25 #[.int .i64 n] w (Ret (U4 n) w) := by
  have e0 : bits .and .i64 (n / 16777216) 255 = n / 16777216 % 256 := bits_and_255 _ (by omega) (by omega)
  have e1 : bits .and .i64 (n / 65536) 255 = n / 65536 % 256 := bits_and_255 _ (by omega) (by omega)
  have e2 : bits .and .i64 (n / 256) 255 = n / 256 % 256 := bits_and_255 _ (by omega) (by omega)
  have e3 : bits .and .i64 n 255 = n % 256 := bits_and_255 _ (by omega) (by omega)
  go_enter Try.func25, Try.ntmps25
  go_wp2
  exact bodyPost_ret (v := U4 n) (by simp [results, Try.results25, go_sem, up0, up1, up2, up3, e0, e1, e2, e3]) rfl (Ret.of (by (repeat (first | exact Below.refl _ _ | with_reducible refine Below.drew ?_ | with_reducible refine Below.ext ?_ (by first | exact Nat.le_refl _ | (simp; done) | (simp; omega)) _ | with_reducible refine Below.alloc ?_ (by first | exact Nat.le_refl _ | (simp; done) | (simp; omega)) _ | with_reducible refine Below.setCell ?_ (by first | exact Nat.le_refl _ | (simp; done) | (simp; omega)) _))))
set_option maxHeartbeats 1000000 in
theorem runpack_any (n : Int) (h0 : 0 ≤ n) (h1 : n ≤ 4294967295) (w : World) : Calls Try.prog 27 #[.int .i64 n] w (Ret (U4 n) w) := by
  go_enter Try.func27, Try.ntmps27
  go_wp2
  exact bodyPost_ret (v := U4 n) (by simp [results, Try.results27, go_sem, up0, up1, up2, up3]) rfl (Ret.of (by (repeat (first | exact Below.refl _ _ | with_reducible refine Below.drew ?_ | with_reducible refine Below.ext ?_ (by first | exact Nat.le_refl _ | (simp; done) | (simp; omega)) _ | with_reducible refine Below.alloc ?_ (by first | exact Nat.le_refl _ | (simp; done) | (simp; omega)) _ | with_reducible refine Below.setCell ?_ (by first | exact Nat.le_refl _ | (simp; done) | (simp; omega)) _))))
set_option maxHeartbeats 1000000 in
theorem may23_yes (a b c d : Int) (h : May a b c d) (w : World) : Calls Try.prog 29 #[C4 a b c d] w (Ret (.bool true) w) := by
  obtain ⟨a0, a1, b0, b1, c0, c1, e0, e1⟩ := h
  go_enter Try.func29, Try.ntmps29
  go_wp2
  refine wp_loop_rounds 5 ?_
  rw [rounds_succ]
  go_wp2
  rw [rounds_succ]
  go_wp2
  rw [rounds_succ]
  go_wp2
  rw [rounds_succ]
  go_wp2
  rw [rounds_succ]
  go_wp2
  go_ret
  exact Ret.of (by (repeat (first | exact Below.refl _ _ | with_reducible refine Below.drew ?_ | with_reducible refine Below.ext ?_ (by first | exact Nat.le_refl _ | (simp; done) | (simp; omega)) _ | with_reducible refine Below.alloc ?_ (by first | exact Nat.le_refl _ | (simp; done) | (simp; omega)) _ | with_reducible refine Below.setCell ?_ (by first | exact Nat.le_refl _ | (simp; done) | (simp; omega)) _)))
set_option maxHeartbeats 4000000 in
theorem may23_no (a b c d : Int) (h : ¬ May a b c d) (w : World) : Calls Try.prog 29 #[C4 a b c d] w (Ret (.bool false) w) := by
  by_cases a0 : 0 ≤ a
  case neg =>
    clear h
    go_enter Try.func29, Try.ntmps29
    go_wp2
    refine wp_loop_rounds 1 ?_
    rw [rounds_succ]
    go_wp2
    go_ret
    exact Ret.of (by (repeat (first | exact Below.refl _ _ | with_reducible refine Below.drew ?_ | with_reducible refine Below.ext ?_ (by first | exact Nat.le_refl _ | (simp; done) | (simp; omega)) _ | with_reducible refine Below.alloc ?_ (by first | exact Nat.le_refl _ | (simp; done) | (simp; omega)) _ | with_reducible refine Below.setCell ?_ (by first | exact Nat.le_refl _ | (simp; done) | (simp; omega)) _)))
  by_cases a1 : a ≤ 255
  case neg =>
    clear h
    go_enter Try.func29, Try.ntmps29
    go_wp2
    refine wp_loop_rounds 1 ?_
    rw [rounds_succ]
    go_wp2
    go_ret
    exact Ret.of (by (repeat (first | exact Below.refl _ _ | with_reducible refine Below.drew ?_ | with_reducible refine Below.ext ?_ (by first | exact Nat.le_refl _ | (simp; done) | (simp; omega)) _ | with_reducible refine Below.alloc ?_ (by first | exact Nat.le_refl _ | (simp; done) | (simp; omega)) _ | with_reducible refine Below.setCell ?_ (by first | exact Nat.le_refl _ | (simp; done) | (simp; omega)) _)))
  by_cases b0 : 0 ≤ b
  case neg =>
    clear h
    go_enter Try.func29, Try.ntmps29
    go_wp2
    refine wp_loop_rounds 2 ?_
    rw [rounds_succ]
    go_wp2
    rw [rounds_succ]
    go_wp2
    go_ret
    exact Ret.of (by (repeat (first | exact Below.refl _ _ | with_reducible refine Below.drew ?_ | with_reducible refine Below.ext ?_ (by first | exact Nat.le_refl _ | (simp; done) | (simp; omega)) _ | with_reducible refine Below.alloc ?_ (by first | exact Nat.le_refl _ | (simp; done) | (simp; omega)) _ | with_reducible refine Below.setCell ?_ (by first | exact Nat.le_refl _ | (simp; done) | (simp; omega)) _)))
  by_cases b1 : b ≤ 255
  case neg =>
    clear h
    go_enter Try.func29, Try.ntmps29
    go_wp2
    refine wp_loop_rounds 2 ?_
    rw [rounds_succ]
    go_wp2
    rw [rounds_succ]
    go_wp2
    go_ret
    exact Ret.of (by (repeat (first | exact Below.refl _ _ | with_reducible refine Below.drew ?_ | with_reducible refine Below.ext ?_ (by first | exact Nat.le_refl _ | (simp; done) | (simp; omega)) _ | with_reducible refine Below.alloc ?_ (by first | exact Nat.le_refl _ | (simp; done) | (simp; omega)) _ | with_reducible refine Below.setCell ?_ (by first | exact Nat.le_refl _ | (simp; done) | (simp; omega)) _)))
  by_cases c0 : 0 ≤ c
  case neg =>
    clear h
    go_enter Try.func29, Try.ntmps29
    go_wp2
    refine wp_loop_rounds 3 ?_
    rw [rounds_succ]
    go_wp2
    rw [rounds_succ]
    go_wp2
    rw [rounds_succ]
    go_wp2
    go_ret
    exact Ret.of (by (repeat (first | exact Below.refl _ _ | with_reducible refine Below.drew ?_ | with_reducible refine Below.ext ?_ (by first | exact Nat.le_refl _ | (simp; done) | (simp; omega)) _ | with_reducible refine Below.alloc ?_ (by first | exact Nat.le_refl _ | (simp; done) | (simp; omega)) _ | with_reducible refine Below.setCell ?_ (by first | exact Nat.le_refl _ | (simp; done) | (simp; omega)) _)))
  by_cases c1 : c ≤ 255
  case neg =>
    clear h
    go_enter Try.func29, Try.ntmps29
    go_wp2
    refine wp_loop_rounds 3 ?_
    rw [rounds_succ]
    go_wp2
    rw [rounds_succ]
    go_wp2
    rw [rounds_succ]
    go_wp2
    go_ret
    exact Ret.of (by (repeat (first | exact Below.refl _ _ | with_reducible refine Below.drew ?_ | with_reducible refine Below.ext ?_ (by first | exact Nat.le_refl _ | (simp; done) | (simp; omega)) _ | with_reducible refine Below.alloc ?_ (by first | exact Nat.le_refl _ | (simp; done) | (simp; omega)) _ | with_reducible refine Below.setCell ?_ (by first | exact Nat.le_refl _ | (simp; done) | (simp; omega)) _)))
  by_cases d0 : 0 ≤ d
  case neg =>
    clear h
    go_enter Try.func29, Try.ntmps29
    go_wp2
    refine wp_loop_rounds 4 ?_
    rw [rounds_succ]
    go_wp2
    rw [rounds_succ]
    go_wp2
    rw [rounds_succ]
    go_wp2
    rw [rounds_succ]
    go_wp2
    go_ret
    exact Ret.of (by (repeat (first | exact Below.refl _ _ | with_reducible refine Below.drew ?_ | with_reducible refine Below.ext ?_ (by first | exact Nat.le_refl _ | (simp; done) | (simp; omega)) _ | with_reducible refine Below.alloc ?_ (by first | exact Nat.le_refl _ | (simp; done) | (simp; omega)) _ | with_reducible refine Below.setCell ?_ (by first | exact Nat.le_refl _ | (simp; done) | (simp; omega)) _)))
  by_cases d1 : d ≤ 255
  case neg =>
    clear h
    go_enter Try.func29, Try.ntmps29
    go_wp2
    refine wp_loop_rounds 4 ?_
    rw [rounds_succ]
    go_wp2
    rw [rounds_succ]
    go_wp2
    rw [rounds_succ]
    go_wp2
    rw [rounds_succ]
    go_wp2
    go_ret
    exact Ret.of (by (repeat (first | exact Below.refl _ _ | with_reducible refine Below.drew ?_ | with_reducible refine Below.ext ?_ (by first | exact Nat.le_refl _ | (simp; done) | (simp; omega)) _ | with_reducible refine Below.alloc ?_ (by first | exact Nat.le_refl _ | (simp; done) | (simp; omega)) _ | with_reducible refine Below.setCell ?_ (by first | exact Nat.le_refl _ | (simp; done) | (simp; omega)) _)))
  exact absurd ⟨a0, a1, b0, b1, c0, c1, d0, d1⟩ h
end Go.Proofs.Ytdbbeggenbhbfaa
