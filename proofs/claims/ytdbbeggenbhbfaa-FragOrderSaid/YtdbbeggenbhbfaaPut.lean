/- Layer 23 (store): the k-th pixel, what is got there, and what it is behind a color and a depth that are put. Condition: the image may be. -/
import Derived.Test.YtdbbeggenbhbfaaTwo
namespace Go.Proofs.Ytdbbeggenbhbfaa
set_option linter.unusedVariables false
set_option linter.unusedSimpArgs false
open Go.RowKit
theorem kth {W H : Int} {C Z : List Int} (h : ImOk W H C Z) {k : Nat} (hk : k < C.length) : inB W H ((k : Int) % W) ((k : Int) / W) ∧ (k : Int) / W * W + (k : Int) % W = k := by
  have w0 := h.w0
  have h1 := Int.emod_nonneg (k : Int) (show W ≠ 0 by omega)
  have h2 := Int.emod_lt_of_pos (k : Int) (show 0 < W by omega)
  have h3 : (k : Int) / W * W + (k : Int) % W = k := by have := Int.mul_ediv_add_emod (k : Int) W; rw [Int.mul_comm]; omega
  have h4 : 0 ≤ (k : Int) / W := Int.ediv_nonneg (by omega) (by omega)
  have hc := h.c
  refine ⟨⟨h1, h2, h4, ?_⟩, h3⟩
  refine Int.ediv_lt_of_lt_mul (by omega) ?_
  rw [Int.mul_comm H W]; omega
theorem kth_of {W H x y : Int} (hi : inB W H x y) : ((y * W + x).toNat : Int) % W = x ∧ ((y * W + x).toNat : Int) / W = y := by
  obtain ⟨x0, x1, y0, y1⟩ := hi
  have := ix_in x0 x1 y0 y1
  have e : ((y * W + x).toNat : Int) = x + y * W := by omega
  rw [e]
  refine ⟨?_, ?_⟩
  · rw [Int.add_mul_emod_self_right]; exact Int.emod_eq_of_lt x0 x1
  · rw [Int.add_mul_ediv_right _ _ (by omega), Int.ediv_eq_zero_of_lt x0 x1]; omega
theorem get_at (W H : Int) (c z : Value) (C Z : List Int) (k : Nat) (v0 v1 v2 v3 vz : Int) (w : World) (hc : Rd w c C) (hz : Rd w z Z) (h : ImOk W H C Z) (hk : k < C.length) (e : up0 (elt C k) = v0 ∧ up1 (elt C k) = v1 ∧ up2 (elt C k) = v2 ∧ up3 (elt C k) = v3 ∧ elt Z k = vz) :
    Calls Try.prog 37 #[Im W H c z, .int .i64 ((k : Int) % W), .int .i64 ((k : Int) / W)] w (Ret (.tuple #[C4 v0 v1 v2 v3, .int .i64 vz, .bool true]) w) := by
  obtain ⟨h1, h2⟩ := kth h hk
  obtain ⟨rfl, rfl, rfl, rfl, rfl⟩ := e
  have := get_in W H c z C Z _ _ w hc hz h h1
  rw [h2] at this
  exact this
theorem putC_len (W H : Int) (C : List Int) (x y a b c d : Int) (m0 m1 m2 m3 : Bool) : (putC W H C x y a b c d m0 m1 m2 m3).length = C.length := by unfold putC; split <;> simp
theorem putZ_len (W H : Int) (Z : List Int) (x y u : Int) : (putZ W H Z x y u).length = Z.length := by unfold putZ; split <;> simp
theorem putC_at {W H : Int} {C Z : List Int} (h : ImOk W H C Z) {x y a b c d : Int} (k : Nat) (hk : k < C.length) (hm : May a b c d) (e : (k : Int) % W = x) (e' : (k : Int) / W = y) : elt (putC W H C x y a b c d true true true true) k = pk a b c d := by
  obtain ⟨h1, h2⟩ := kth h hk
  subst e e'
  unfold putC
  rw [if_pos h1, h2, elt_set _ _ _ _ (by simpa using hk), if_pos (by simp)]
  simp [mixN]
theorem putZ_at {W H : Int} {C Z : List Int} (h : ImOk W H C Z) {x y u : Int} (k : Nat) (hk : k < C.length) (e : (k : Int) % W = x) (e' : (k : Int) / W = y) : elt (putZ W H Z x y u) k = u := by
  obtain ⟨h1, h2⟩ := kth h hk
  have := h.same
  subst e e'
  unfold putZ
  rw [if_pos h1, h2, elt_set _ _ _ _ (by simp; omega), if_pos (by simp)]
theorem putC_off {W H : Int} {C Z : List Int} (h : ImOk W H C Z) {x y a b c d : Int} {m0 m1 m2 m3 : Bool} (k : Nat) (ne : ¬ ((k : Int) % W = x ∧ (k : Int) / W = y)) : elt (putC W H C x y a b c d m0 m1 m2 m3) k = elt C k := by
  unfold putC
  split
  · rename_i hi
    rw [elt_set _ _ _ _ (ix_lt h hi).1, if_neg]
    intro e; subst e; exact ne (kth_of hi)
  · rfl
theorem putZ_off {W H : Int} {C Z : List Int} (h : ImOk W H C Z) {x y u : Int} (k : Nat) (ne : ¬ ((k : Int) % W = x ∧ (k : Int) / W = y)) : elt (putZ W H Z x y u) k = elt Z k := by
  unfold putZ
  split
  · rename_i hi
    rw [elt_set _ _ _ _ (ix_lt h hi).2, if_neg]
    intro e; subst e; exact ne (kth_of hi)
  · rfl
end Go.Proofs.Ytdbbeggenbhbfaa
