/- Clearing row by row: which pixels a rectangle has of an image, runs of numbers that stay, bits of a number; the walk of rect.And. No condition besides those that each says. -/
import Derived.Test.YthcjfanigfgckaaClrA
import Derived.Test.YthcjfanigfgckaaRectB
import Derived.Test.YthcjfanigfgckaaPImg
namespace Go.Proofs.Ythcjfanigfgckaa
set_option linter.unusedVariables false
set_option linter.unusedSimpArgs false
open Go.RowKit
theorem what_1 (x : Int) : (bits .and .i64 x 1 != 0) = (bits .and .i64 x 1 == 1) := by
  have e : bits .and .i64 x 1 = x % 2 := by
    show IntKind.i64.wrap (((BitVec.ofInt 64 x &&& BitVec.ofInt 64 1).toNat : Nat) : Int) = _
    rw [BitVec.toNat_and, show (BitVec.ofInt 64 1).toNat = 2 ^ 1 - 1 from by decide, Nat.and_two_pow_sub_one_eq_mod, wrap_nat _ (by omega), BitVec.toNat_ofInt]
    omega
  rw [e]
  have h : x % 2 = 0 ∨ x % 2 = 1 := by omega
  rcases h with h | h <;> rw [h] <;> rfl
theorem what_2 (x : Int) : (bits .and .i64 x 2 != 0) = (bits .and .i64 x 2 == 2) := by
  obtain ⟨t, ht⟩ : ∃ t, (BitVec.ofInt 64 x).toNat = t := ⟨_, rfl⟩
  have hl : t &&& 2 ≤ 2 := Nat.and_le_right
  have e : bits .and .i64 x 2 = ((t &&& 2 : Nat) : Int) := by
    show IntKind.i64.wrap (((BitVec.ofInt 64 x &&& BitVec.ofInt 64 2).toNat : Nat) : Int) = _
    rw [BitVec.toNat_and, ht, show (BitVec.ofInt 64 2).toNat = 2 from by decide]
    exact wrap_nat _ (by omega)
  have h1 : t &&& 2 ≠ 1 := by
    intro h
    have q := Nat.testBit_and t 2 0
    rw [h] at q
    simp at q
  rw [e]
  have h : t &&& 2 = 0 ∨ t &&& 2 = 2 := by omega
  rcases h with h | h <;> rw [h] <;> rfl
theorem clr_skip {f : Nat → Int} {C : List Int} (n i : Nat) (h : i + n ≤ C.length) (hf : ∀ k, i ≤ k → k < i + n → f k = elt C k) : clr f C (i + n) = clr f C i := by
  induction n with
  | zero => rfl
  | succ n ih =>
    rw [← Nat.add_assoc, clr_same (by omega) (hf _ (by omega) (by omega))]
    exact ih (by omega) fun k h1 h2 => hf k h1 (by omega)
theorem clr_span {f : Nat → Int} {C : List Int} {i j : Nat} (hij : i ≤ j) (h : j ≤ C.length) (hf : ∀ k, i ≤ k → k < j → f k = elt C k) : clr f C i = clr f C j := by
  obtain ⟨n, rfl⟩ : ∃ n, j = i + n := ⟨j - i, by omega⟩
  exact (clr_skip n i h hf).symm
theorem row_of {N y r k : Nat} (h : k = y * N + r) (hr : r < N) : k / N = y ∧ k % N = r := by
  subst h
  have e : (y * N + r) / N = y := by
    rw [Nat.mul_comm, Nat.mul_add_div (by omega), Nat.div_eq_of_lt hr]; omega
  refine ⟨e, ?_⟩
  have := Nat.div_add_mod (y * N + r) N
  rw [e, Nat.mul_comm] at this
  omega
/-- The rows of a rectangle in an image: a number that is none of its stays. -/
structure Band (N M a b c d : Nat) (f : Nat → Int) (C : List Int) : Prop where
  ac : a ≤ c
  cn : c ≤ N
  bd : b ≤ d
  dm : d ≤ M
  ne : b < d → a < c
  len : C.length = N * M
  no : ∀ k, k < C.length → ¬ (a ≤ k % N ∧ k % N < c ∧ b ≤ k / N ∧ k / N < d) → f k = elt C k
section
variable {N M a b c d : Nat} {f : Nat → Int} {C : List Int}
theorem Band.top (h : Band N M a b c d f C) {y : Nat} (hy : y ≤ d) : y * N ≤ C.length := by
  rw [h.len, Nat.mul_comm N M]; exact Nat.mul_le_mul_right _ (by have := h.dm; omega)
theorem Band.start (h : Band N M a b c d f C) : C = clr f C (b * N) := by
  refine (clr_zero f C).symm.trans (clr_span (Nat.zero_le _) (h.top h.bd) fun k _ hk => h.no k (by have := h.top h.bd; omega) fun q => ?_)
  have := Nat.div_lt_of_lt_mul (show k < N * b by rw [Nat.mul_comm]; exact hk)
  omega
theorem Band.done (h : Band N M a b c d f C) : clr f C (d * N) = clr f C C.length := by
  refine clr_span (h.top (Nat.le_refl d)) (Nat.le_refl _) fun k hk hl => h.no k hl fun q => ?_
  have hn : 0 < N := by
    rcases Nat.eq_zero_or_pos N with e | e
    · have := h.len; rw [e, Nat.zero_mul] at this; omega
    · exact e
  have := (Nat.le_div_iff_mul_le hn).2 hk
  omega
theorem Band.left (h : Band N M a b c d f C) {y : Nat} (hy : y < d) : clr f C (y * N) = clr f C (y * N + a) := by
  have ht := h.top (y := y + 1) hy
  rw [Nat.succ_mul] at ht
  have := h.ac
  have := h.cn
  refine clr_span (by omega) (by omega) fun k h1 h2 => h.no k (by omega) fun q => ?_
  have := (row_of (N := N) (y := y) (r := k - y * N) (k := k) (by omega) (by omega)).2
  omega
theorem Band.right (h : Band N M a b c d f C) {y : Nat} (hy : y < d) : clr f C (y * N + c) = clr f C ((y + 1) * N) := by
  have ht := h.top (y := y + 1) hy
  rw [Nat.succ_mul] at ht ⊢
  have := h.cn
  refine clr_span (by omega) (by omega) fun k h1 h2 => h.no k (by omega) fun q => ?_
  have := (row_of (N := N) (y := y) (r := k - y * N) (k := k) (by omega) (by omega)).2
  omega
end
theorem rect_share (x0 y0 x1 y1 : Int) (N M : Nat) (n0 : 1 ≤ N) (n1 : N ≤ 1024) (m0 : 1 ≤ M) (m1 : M ≤ 1024) :
    ∃ a b c d : Nat, (⟨0, 0, N, M⟩ : RcP).and ⟨x0, y0, x1, y1⟩ = ⟨a, b, c, d⟩ ∧ a ≤ c ∧ c ≤ N ∧ b ≤ d ∧ d ≤ M ∧ (b < d → a < c) ∧
      ∀ x y : Nat, x < N → y < M → (hasP x0 y0 x1 y1 x y ↔ (a ≤ x ∧ x < c ∧ b ≤ y ∧ y < d)) := by
  have key := fun x y => RcP.and_has ⟨0, 0, N, M⟩ ⟨x0, y0, x1, y1⟩ x y
  obtain ⟨q, hq⟩ : ∃ q, (⟨0, 0, N, M⟩ : RcP).and ⟨x0, y0, x1, y1⟩ = q := ⟨_, rfl⟩
  rw [hq] at key ⊢
  unfold RcP.and at hq
  split at hq
  · rename_i hok
    obtain ⟨-, h2, h3⟩ := hok
    have e : ∀ x y : Nat, hasP x0 y0 x1 y1 x y ↔ (x0 ≤ x ∧ x < x1 ∧ y0 ≤ y ∧ y < y1) := fun x y => by
      have h2' : rightP x0 y0 x1 y1 := h2
      simp [hasP, h2']
    subst hq
    unfold RcP.ok RcP.meet rightP at h3
    unfold RcP.meet
    simp only at h3 ⊢
    clear key h2
    refine ⟨(max 0 x0).toNat, (max 0 y0).toNat, (min (N : Int) x1).toNat, (min (M : Int) y1).toNat, ?_, by omega, by omega, by omega, by omega, by omega, fun x y hx hy => ?_⟩
    · congr 1 <;> omega
    · rw [e]
      clear e
      omega
  · subst hq
    refine ⟨0, 0, 0, 0, rfl, by omega, by omega, by omega, by omega, by omega, fun x y hx hy => ?_⟩
    have k := (key x y).2
    unfold RcP.has hasP rightP at k
    simp only at k
    constructor
    · intro hh
      unfold hasP rightP at hh
      have := k ⟨by omega, by omega⟩
      omega
    · omega
end Go.Proofs.Ythcjfanigfgckaa
