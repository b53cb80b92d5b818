/- Plain laws of numbers as lists of bits, the lowest first. No program. -/
import Derived.Test.YtmlhbbkgfffmcaaRow
namespace Go.Proofs.Ytmlhbbkgfffmcaa
set_option linter.unusedVariables false
set_option linter.unusedSimpArgs false
/-- The i-th bit. -/
def bt (l : List Int) (i : Nat) : Int := l.getD i 0
/-- Its value. -/
def bv : List Int → Int
  | [] => 0
  | d :: l => d + 2 * bv l
/-- Bits they are. -/
def Bin (l : List Int) : Prop := ∀ i, 0 ≤ bt l i ∧ bt l i ≤ 1
theorem bt_nil (i : Nat) : bt [] i = 0 := by simp [bt]
theorem bt_zero (d : Int) (l : List Int) : bt (d :: l) 0 = d := rfl
theorem bt_succ (d : Int) (l : List Int) (i : Nat) : bt (d :: l) (i + 1) = bt l i := by simp [bt]
theorem bt_out {l : List Int} {i : Nat} (h : l.length ≤ i) : bt l i = 0 := by simp [bt, List.getD, h]
theorem bt_app (l : List Int) (d : Int) (i : Nat) : bt (l ++ [d]) i = if i < l.length then bt l i else if i = l.length then d else 0 := by
  unfold bt
  simp only [List.getD, List.getElem?_append]
  split
  · rfl
  · split
    · subst_vars; simp
    · rw [List.getElem?_eq_none (by simp; omega)]; rfl
theorem Bin.tail {d : Int} {l : List Int} (h : Bin (d :: l)) : Bin l := fun i => by have := h (i + 1); rwa [bt_succ] at this
theorem Bin.head {d : Int} {l : List Int} (h : Bin (d :: l)) : 0 ≤ d ∧ d ≤ 1 := h 0
theorem Bin.nil : Bin [] := fun i => by rw [bt_nil]; decide
theorem Bin.snoc {l : List Int} (h : Bin l) {d : Int} (h0 : 0 ≤ d) (h1 : d ≤ 1) : Bin (l ++ [d]) := fun i => by
  rw [bt_app]; split
  · exact h i
  · split <;> omega
theorem Bin.cons {l : List Int} (h : Bin l) {d : Int} (h0 : 0 ≤ d) (h1 : d ≤ 1) : Bin (d :: l) := fun i => by
  cases i with
  | zero => exact ⟨h0, h1⟩
  | succ i => rw [bt_succ]; exact h i
theorem p2_succ (i : Nat) : (2 : Int) ^ (i + 1) = 2 * 2 ^ i := by rw [Int.pow_succ, Int.mul_comm]
theorem p2_pos (i : Nat) : (0 : Int) < 2 ^ i := Int.pow_pos (by decide)
theorem bv_app (l : List Int) (d : Int) : bv (l ++ [d]) = bv l + d * 2 ^ l.length := by
  induction l with
  | nil => simp [bv]
  | cons e l ih =>
    simp only [List.cons_append, bv, ih, List.length_cons, p2_succ]
    have : d * (2 * 2 ^ l.length) = 2 * (d * 2 ^ l.length) := by grind
    omega
theorem bv_bd {l : List Int} (h : Bin l) : 0 ≤ bv l ∧ bv l < 2 ^ l.length := by
  induction l with
  | nil => simp [bv]
  | cons e l ih =>
    have := ih h.tail
    have := h.head
    simp only [bv, List.length_cons, p2_succ]
    omega
/-- The lowest bits of a number, and one more. -/
theorem mod_step {l : List Int} (h : Bin l) : ∀ i, bv l % 2 ^ (i + 1) = bv l % 2 ^ i + bt l i * 2 ^ i := by
  induction l with
  | nil => intro i; simp [bv, bt_nil]
  | cons e l ih =>
    intro i
    have he := h.head
    have hi := ih h.tail
    simp only [bv]
    cases i with
    | zero => rw [bt_zero]; simp [Int.pow_succ]; omega
    | succ i =>
      rw [bt_succ]
      have k := hi i
      have p := p2_pos i
      have e1 : (e + 2 * bv l) % 2 ^ (i + 1) = e + 2 * (bv l % 2 ^ i) := by
        rw [p2_succ]
        have m0 := Int.emod_nonneg (bv l) (show (2 : Int) ^ i ≠ 0 by omega)
        have m1 := Int.emod_lt_of_pos (bv l) p
        have em := Int.emod_add_mul_ediv (bv l) (2 ^ i)
        have : e + 2 * bv l = (e + 2 * (bv l % 2 ^ i)) + 2 * 2 ^ i * (bv l / 2 ^ i) := by
          have : 2 * 2 ^ i * (bv l / 2 ^ i) = 2 * (2 ^ i * (bv l / 2 ^ i)) := by grind
          omega
        rw [this, Int.add_mul_emod_self_left, Int.emod_eq_of_lt (by omega) (by omega)]
      have e2 : (e + 2 * bv l) % 2 ^ (i + 1 + 1) = e + 2 * (bv l % 2 ^ (i + 1)) := by
        rw [p2_succ (i + 1)]
        have p' := p2_pos (i + 1)
        have m0 := Int.emod_nonneg (bv l) (show (2 : Int) ^ (i + 1) ≠ 0 by omega)
        have m1 := Int.emod_lt_of_pos (bv l) p'
        have em := Int.emod_add_mul_ediv (bv l) (2 ^ (i + 1))
        have : e + 2 * bv l = (e + 2 * (bv l % 2 ^ (i + 1))) + 2 * 2 ^ (i + 1) * (bv l / 2 ^ (i + 1)) := by
          have : 2 * 2 ^ (i + 1) * (bv l / 2 ^ (i + 1)) = 2 * (2 ^ (i + 1) * (bv l / 2 ^ (i + 1))) := by grind
          omega
        rw [this, Int.add_mul_emod_self_left, Int.emod_eq_of_lt (by omega) (by omega)]
      rw [e1, e2, k, p2_succ]
      have : bt l i * (2 * 2 ^ i) = 2 * (bt l i * 2 ^ i) := by grind
      omega
theorem mod_all {l : List Int} (h : Bin l) {i : Nat} (hi : l.length ≤ i) : bv l % 2 ^ i = bv l := by
  have := bv_bd h
  refine Int.emod_eq_of_lt this.1 (Int.lt_of_lt_of_le this.2 ?_)
  obtain ⟨k, rfl⟩ := Nat.exists_eq_add_of_le hi
  rw [Int.pow_add]
  have := p2_pos k
  have := p2_pos l.length
  have := Int.mul_le_mul_of_nonneg_left (show (1 : Int) ≤ 2 ^ k by omega) (show (0 : Int) ≤ 2 ^ l.length by omega)
  rwa [Int.mul_one] at this
/-- Both together, and the carry, one bit more. -/
theorem more_step {a b out : List Int} {c x : Int} (ha : Bin a) (hb : Bin b) (c0 : 0 ≤ c) (c1 : c ≤ 1) (h : bv out + c * 2 ^ out.length = bv a % 2 ^ out.length + bv b % 2 ^ out.length) (hx : x = bt a out.length + bt b out.length + c) :
    0 ≤ x / 2 ∧ x / 2 ≤ 1 ∧ 0 ≤ x % 2 ∧ x % 2 ≤ 1 ∧ bv (out ++ [x % 2]) + x / 2 * 2 ^ (out.length + 1) = bv a % 2 ^ (out.length + 1) + bv b % 2 ^ (out.length + 1) := by
  have h1 := ha out.length
  have h2 := hb out.length
  rw [bv_app, mod_step ha, mod_step hb, p2_succ]
  refine ⟨by omega, by omega, by omega, by omega, ?_⟩
  have e : x % 2 * 2 ^ out.length + x / 2 * (2 * 2 ^ out.length) = x * 2 ^ out.length := by
    have : x * 2 ^ out.length = (x % 2 + 2 * (x / 2)) * 2 ^ out.length := by rw [Int.emod_add_mul_ediv]
    rw [this]; grind
  have e2 : x * 2 ^ out.length = bt a out.length * 2 ^ out.length + bt b out.length * 2 ^ out.length + c * 2 ^ out.length := by rw [hx]; grind
  omega
/-- The one less the other one, and what is borrowed, one bit more. -/
theorem less_step {a b out : List Int} {c x : Int} (ha : Bin a) (hb : Bin b) (c0 : 0 ≤ c) (c1 : c ≤ 1) (h : bv out + bv b % 2 ^ out.length = bv a % 2 ^ out.length + c * 2 ^ out.length) (hx : x = 2 + bt a out.length - bt b out.length - c) :
    0 ≤ x ∧ x ≤ 3 ∧ 0 ≤ 1 - x / 2 ∧ 1 - x / 2 ≤ 1 ∧ 0 ≤ x % 2 ∧ x % 2 ≤ 1 ∧ bv (out ++ [x % 2]) + bv b % 2 ^ (out.length + 1) = bv a % 2 ^ (out.length + 1) + (1 - x / 2) * 2 ^ (out.length + 1) := by
  have h1 := ha out.length
  have h2 := hb out.length
  rw [bv_app, mod_step ha, mod_step hb, p2_succ]
  refine ⟨by omega, by omega, by omega, by omega, by omega, by omega, ?_⟩
  have e : x % 2 * 2 ^ out.length + x / 2 * (2 * 2 ^ out.length) = x * 2 ^ out.length := by
    have : x * 2 ^ out.length = (x % 2 + 2 * (x / 2)) * 2 ^ out.length := by rw [Int.emod_add_mul_ediv]
    rw [this]; grind
  have e2 : x * 2 ^ out.length = 2 * 2 ^ out.length + bt a out.length * 2 ^ out.length - bt b out.length * 2 ^ out.length - c * 2 ^ out.length := by rw [hx]; grind
  have e3 : (1 - x / 2) * (2 * 2 ^ out.length) = 2 * 2 ^ out.length - x / 2 * (2 * 2 ^ out.length) := by grind
  omega
theorem more_end {a b out : List Int} {c : Int} (ha : Bin a) (hb : Bin b) (la : a.length ≤ out.length) (lb : b.length ≤ out.length) (hc : c = 0) (h : bv out + c * 2 ^ out.length = bv a % 2 ^ out.length + bv b % 2 ^ out.length) : bv out = bv a + bv b := by
  rw [mod_all ha la, mod_all hb lb, hc] at h; simpa using h
theorem less_end {a b out : List Int} {c : Int} (ha : Bin a) (hb : Bin b) (ho : Bin out) (la : out.length = a.length) (c0 : 0 ≤ c) (c1 : c ≤ 1) (hab : bv b ≤ bv a) (h : bv out + bv b % 2 ^ out.length = bv a % 2 ^ out.length + c * 2 ^ out.length) : bv out = bv a - bv b := by
  have h1 := bv_bd ha
  have h2 := bv_bd hb
  have h3 := bv_bd ho
  rw [la] at h h3
  rw [mod_all ha (Nat.le_refl _), Int.emod_eq_of_lt h2.1 (by omega)] at h
  have : c = 0 := by
    apply Classical.byContradiction
    intro hn
    have : c = 1 := by omega
    rw [this] at h
    omega
  rw [this] at h; omega
/-- What is above a bit. -/
theorem div_step {l : List Int} (h : Bin l) (i : Nat) : bv l / 2 ^ i = 2 * (bv l / 2 ^ (i + 1)) + bt l i := by
  have s := mod_step h i
  have e1 := Int.emod_add_mul_ediv (bv l) (2 ^ i)
  have e2 := Int.emod_add_mul_ediv (bv l) (2 ^ (i + 1))
  have p := p2_pos i
  rw [s, p2_succ] at e2
  have e3 : 2 ^ i * (bv l / 2 ^ i) = 2 ^ i * (2 * (bv l / (2 * 2 ^ i)) + bt l i) := by
    have : 2 ^ i * (2 * (bv l / (2 * 2 ^ i)) + bt l i) = 2 * 2 ^ i * (bv l / (2 * 2 ^ i)) + bt l i * 2 ^ i := by grind
    omega
  rw [p2_succ]
  exact Int.eq_of_mul_eq_mul_left (by omega) e3
theorem div_all {l : List Int} (h : Bin l) {i : Nat} (hi : l.length ≤ i) : bv l / 2 ^ i = 0 := by
  have := mod_all h hi
  have e1 := Int.emod_add_mul_ediv (bv l) (2 ^ i)
  have p := p2_pos i
  rw [this] at e1
  have : 2 ^ i * (bv l / 2 ^ i) = 0 := by omega
  rcases Int.mul_eq_zero.1 this with h | h
  · omega
  · exact h
theorem above_end {a b : List Int} (ha : Bin a) (hb : Bin b) (i : Nat) (h : bv a / 2 ^ (i + 1) = bv b / 2 ^ (i + 1)) : (bt a i < bt b i → bv a < bv b) ∧ (bt b i < bt a i → bv b < bv a) ∧ (bt a i = bt b i → bv a / 2 ^ i = bv b / 2 ^ i) := by
  have h1 := div_step ha i
  have h2 := div_step hb i
  have p := p2_pos i
  have k : ∀ {u v : Int}, u / 2 ^ i < v / 2 ^ i → u < v := fun {u v} h => by
    apply Int.not_le.1
    intro h'
    have := Int.ediv_le_ediv p h'
    omega
  exact ⟨fun g => k (by omega), fun g => k (by omega), fun g => by omega⟩
/-- No nought above. -/
def Can (l : List Int) : Prop := Bin l ∧ (0 < l.length → bt l (l.length - 1) = 1)
theorem Can.low {l : List Int} (h : Can l) (hl : 0 < l.length) : 2 ^ (l.length - 1) ≤ bv l := by
  have s := div_step h.1 (l.length - 1)
  rw [show l.length - 1 + 1 = l.length by omega, div_all h.1 (Nat.le_refl _), h.2 hl] at s
  have p := p2_pos (l.length - 1)
  have := (Int.le_ediv_iff_mul_le p).1 (show 1 ≤ bv l / 2 ^ (l.length - 1) by omega)
  omega
theorem Can.zero {l : List Int} (h : Can l) : bv l = 0 ↔ l.length = 0 := by
  constructor
  · intro h0
    apply Classical.byContradiction
    intro hl
    have := h.low (by omega)
    have := p2_pos (l.length - 1)
    omega
  · intro h0
    rw [List.length_eq_zero_iff.1 h0]; rfl
theorem take_drop_bv {l : List Int} (h : Bin l) {k : Nat} (hk : k < l.length) (hz : bt l k = 0) (hl : k + 1 = l.length) : bv (l.take k) = bv l ∧ Bin (l.take k) := by
  have e : l = l.take k ++ [bt l k] := by
    rw [bt, List.getD_eq_getElem?_getD, List.getElem?_eq_getElem hk, Option.getD_some, ← List.take_succ_eq_append_getElem hk, hl, List.take_length]
  have hb : Bin (l.take k) := fun i => by
    have := h i
    by_cases hi : i < k
    · simp only [bt, List.getD, List.getElem?_take, if_pos hi] at this ⊢; exact this
    · rw [bt_out (by rw [List.length_take]; omega)]; decide
  refine ⟨?_, hb⟩
  have := bv_app (l.take k) (bt l k)
  rw [← e, hz] at this
  omega
end Go.Proofs.Ytmlhbbkgfffmcaa
