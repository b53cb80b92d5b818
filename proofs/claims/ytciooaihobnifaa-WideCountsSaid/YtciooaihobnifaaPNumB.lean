/- Parts of the proofs, laid together: NumF, NumG, NumH, NumI, NumJ, NumM. Conditions: at each. -/
import Derived.Test.YtciooaihobnifaaPNumA
section
/- The walks of the reference of layer 2: numbers added, and which is greater. Conditions: the values read as numbers. -/
namespace Go.Proofs.Ytciooaihobnifaa
set_option linter.unusedVariables false
set_option linter.unusedSimpArgs false
open Go.RowKit
theorem RN.minus {w : World} {v : Value} {z : Int} {n : Nat} (h : RN w v z n) : ∃ a k cap, v = .agg #[.bool (decide (z < 0)), .slice a k cap] ∧ (0 < k ↔ z ≠ 0) := by
  obtain ⟨m, sv, l, rfl, h2, h3, h4, rfl, -⟩ := h
  obtain ⟨a, cap, rfl, -⟩ := h2.form
  have hb := (bv_bd h3.1).1
  have hz := h3.zero
  cases m
  · refine ⟨a, l.length, cap, ?_, ?_⟩
    · rw [show decide (pmv (bv l) false < 0) = false by simp [pmv]; exact hb]
    · simp [pmv]; omega
  · refine ⟨a, l.length, cap, ?_, ?_⟩
    · have := h4 rfl
      rw [show decide (pmv (bv l) true < 0) = true by simp [pmv]; omega]
    · simp [pmv]; omega
end Go.Proofs.Ytciooaihobnifaa
end
section
/- The walks of the reference of layer 2: products. Conditions: the values read as numbers. -/
namespace Go.Proofs.Ytciooaihobnifaa
set_option linter.unusedVariables false
set_option linter.unusedSimpArgs false
open Go.RowKit
theorem bv_noughts (i : Nat) (l : List Int) : bv (List.replicate i 0 ++ l) = bv l * 2 ^ i := by
  induction i with
  | zero => simp
  | succ i ih =>
    rw [List.replicate_succ, List.cons_append, bv, ih, p2_succ]
    grind
theorem bin_noughts (i : Nat) : Bin (List.replicate i 0) := fun j => by
  unfold bt
  rw [List.getD_eq_getElem?_getD, List.getElem?_replicate]
  split <;> decide
theorem bv_take_succ {l : List Int} {i : Nat} (h : i < l.length) : bv (l.take (i + 1)) = bv (l.take i) + bt l i * 2 ^ i := by
  have e : l.take (i + 1) = l.take i ++ [bt l i] := by
    rw [List.take_succ_eq_append_getElem h, bt, List.getD_eq_getElem?_getD, List.getElem?_eq_getElem h]; rfl
  rw [e, bv_app, List.length_take, Nat.min_eq_left (by omega)]
end Go.Proofs.Ytciooaihobnifaa
end
section
/- The walks of the reference of layer 2: a number of 128 bits as bits. Condition: 128 bits. -/
namespace Go.Proofs.Ytciooaihobnifaa
set_option linter.unusedVariables false
set_option linter.unusedSimpArgs false
open Go.RowKit
theorem p64 : (2 : Int) ^ 64 = 18446744073709551616 := by decide
theorem p128 : (2 : Int) ^ 128 = 340282366920938463463374607431768211456 := by decide
theorem p127 : (2 : Int) ^ 127 = 170141183460469231731687303715884105728 := by decide
/-- One more bit of what is left. -/
theorem bits_step {l : List Int} {x L : Int} (hx : 0 ≤ x) (h : bv l + x * 2 ^ l.length = L) : bv (l ++ [x % 2]) + x / 2 * 2 ^ (l ++ [x % 2]).length = L := by
  rw [bv_app, List.length_append, List.length_cons, List.length_nil, p2_succ, ← h]
  have : x * 2 ^ l.length = (x % 2 + 2 * (x / 2)) * 2 ^ l.length := by rw [Int.emod_add_mul_ediv]
  rw [this]; grind
theorem bits_end {l : List Int} {x L m : Int} (hb : Bin l) (hm : (2 : Int) ^ l.length = m) (hx : 0 ≤ x) (hL : L < m) (h : bv l + x * 2 ^ l.length = L) : bv l = L := by
  have h0 := (bv_bd hb).1
  rw [hm] at h
  have m0 : 0 < m := by rw [← hm]; exact p2_pos _
  have : x < 1 := by
    apply Int.not_le.1
    intro h1
    have := Int.mul_le_mul_of_nonneg_right h1 (show 0 ≤ m by omega)
    omega
  obtain rfl : x = 0 := by omega
  omega
theorem bv_top (k : Nat) : bv (List.replicate k 0 ++ [1]) = 2 ^ k := by
  rw [bv_noughts]; simp [bv]
end Go.Proofs.Ytciooaihobnifaa
end
section
/- The walks of the reference of layer 2: bits as a number of 128 bits. Condition: the value reads as a number. -/
namespace Go.Proofs.Ytciooaihobnifaa
set_option linter.unusedVariables false
set_option linter.unusedSimpArgs false
open Go.RowKit
theorem bv_split (k : Nat) : ∀ l : List Int, bv l = bv (l.take k) + 2 ^ k * bv (l.drop k) := by
  induction k with
  | zero => intro l; simp [bv]
  | succ k ih =>
    intro l
    cases l with
    | nil => simp [bv]
    | cons d l =>
      simp only [List.take_succ_cons, List.drop_succ_cons, bv, p2_succ]
      have := ih l
      rw [this]; grind
theorem bin_take {l : List Int} (h : Bin l) (k : Nat) : Bin (l.take k) := fun i => by
  have := h i
  by_cases hi : i < k
  · simp only [bt, List.getD_eq_getElem?_getD, List.getElem?_take, if_pos hi] at this ⊢; exact this
  · rw [bt_out (by rw [List.length_take]; omega)]; decide
theorem bin_drop {l : List Int} (h : Bin l) (k : Nat) : Bin (l.drop k) := fun i => by
  have := h (k + i)
  simpa only [bt, List.getD_eq_getElem?_getD, List.getElem?_drop] using this
theorem bt_take {l : List Int} {k i : Nat} (h : i < k) : bt (l.take k) i = bt l i := by
  simp only [bt, List.getD_eq_getElem?_getD, List.getElem?_take, if_pos h]
theorem bt_drop {l : List Int} {k i : Nat} : bt (l.drop k) i = bt l (k + i) := by
  simp only [bt, List.getD_eq_getElem?_getD, List.getElem?_drop]
theorem div_small {l : List Int} (h : Bin l) (hl : l.length ≤ 64) (j : Nat) : 0 ≤ bv l / 2 ^ j ∧ bv l / 2 ^ j < 18446744073709551616 := by
  have hb := bv_bd h
  have hp := p2_pos j
  have h1 : bv l < 18446744073709551616 := by
    have : (2 : Int) ^ l.length ≤ 2 ^ 64 := by
      obtain ⟨k, hk⟩ := Nat.exists_eq_add_of_le hl
      rw [hk, Int.pow_add]
      have := p2_pos k
      have := p2_pos l.length
      have := Int.mul_le_mul_of_nonneg_left (show (1 : Int) ≤ 2 ^ k by omega) (show (0 : Int) ≤ 2 ^ l.length by omega)
      omega
    rw [p64] at this; omega
  have := Int.ediv_le_self (2 ^ j) hb.1
  exact ⟨Int.ediv_nonneg hb.1 (by omega), by omega⟩
/-- Both halves of the bits. -/
theorem halves_bv {l : List Int} (h : Bin l) (hv : bv l < 340282366920938463463374607431768211456) : bv l = bv ((l.drop 64).take 64) * 18446744073709551616 + bv (l.take 64) ∧ 0 ≤ bv (l.take 64) ∧ bv (l.take 64) < 18446744073709551616 ∧ 0 ≤ bv ((l.drop 64).take 64) ∧ bv ((l.drop 64).take 64) < 18446744073709551616 := by
  have s1 := bv_split 64 l
  have s2 := bv_split 64 (l.drop 64)
  have b1 := div_small (bin_take h 64) (by simp; omega) 0
  have b2 := div_small (bin_take (bin_drop h 64) 64) (by simp; omega) 0
  have b3 := (bv_bd (bin_drop (bin_drop h 64) 64)).1
  rw [p64] at s1 s2
  simp only [Int.pow_zero, Int.ediv_one] at b1 b2
  omega
/-- What is made of bits. -/
theorem to_i2 {B z hi lo : Int} (e : B = hi * 18446744073709551616 + lo) (l0 : 0 ≤ lo) (l1 : lo < 18446744073709551616) (h0 : 0 ≤ hi) (h1 : hi < 18446744073709551616) (hz : inR z) (h : B = z ∨ B = z + 340282366920938463463374607431768211456) : wrap64 hi = hiN z ∧ lo = loN z := by
  unfold inR at hz
  unfold wrap64 hiN loN
  omega
end Go.Proofs.Ytciooaihobnifaa
end
section
/- The walks of the reference of layer 2: bits as a number of 128 bits, below 0. Condition: the value reads as a number. -/
namespace Go.Proofs.Ytciooaihobnifaa
set_option linter.unusedVariables false
set_option linter.unusedSimpArgs false
open Go.RowKit
theorem pow_mono {a b : Nat} (h : a ≤ b) : (2 : Int) ^ a ≤ 2 ^ b := by
  obtain ⟨k, rfl⟩ := Nat.exists_eq_add_of_le h
  rw [Int.pow_add]
  have := p2_pos k
  have := p2_pos a
  have := Int.mul_le_mul_of_nonneg_left (show (1 : Int) ≤ 2 ^ k by omega) (show (0 : Int) ≤ 2 ^ a by omega)
  omega
theorem top_bit {l : List Int} (h : Bin l) (hv : bv l < 340282366920938463463374607431768211456) : (bt l 127 = 1 ↔ 170141183460469231731687303715884105728 ≤ bv l) := by
  have s := div_step h 127
  have hb := (bv_bd h).1
  rw [show 127 + 1 = 128 from rfl, p128, p127, Int.ediv_eq_zero_of_lt hb hv] at s
  have := h 127
  omega
end Go.Proofs.Ytciooaihobnifaa
end
section
/- Two numbers returned: what a region that draws its order may do with their places. No condition. -/
namespace Go.Proofs.Ytciooaihobnifaa
set_option linter.unusedVariables false
set_option linter.unusedSimpArgs false
open Go.RowKit
theorem isSl.noByte {s : Value} (h : isSl s) : ∀ d, s ≠ .int .u8 d := by
  obtain ⟨a, k, c, rfl⟩ := h
  exact fun d => by simp
section
variable {p1 p2 : Nat} {z1 z2 : Int} {n1 n2 : Nat} {w w' : World}
theorem RN.sl {m : Bool} {s : Value} {z : Int} {n : Nat} (h : RN w (.agg #[.bool m, s]) z n) : isSl s := by
  obtain ⟨m', sv, l, e, h2, -⟩ := h
  cases e
  exact h2.isSl
end
theorem relL_none {ops : Array Oper} {L : World → World → Prop} {P : Program} {w : World} {K : Act → List (Nat × (World → Prop)) → Prop} {k : Nat} {o : Oper} {os : List Oper} {T : List (Option (List Nat × SR L))} {a : Act} {kn : List (Nat × (World → Prop))}
    (h : ∀ K' : Act → Prop, (∀ a', relWalk P ops L w K (k + 1) os T a' kn → K' a') → o.quiet P a (fun w' => L w w') K') (hg : okG ops o a := by first | exact okG_none rfl | (unfold okG; simp [Region.wanted, yielded]; done)) : relWalk P ops L w K k (o :: os) (none :: T) a kn := ⟨hg, h _ fun _ h => h⟩
end Go.Proofs.Ytciooaihobnifaa
end
