/- Bits of ints as arithmetic: and with 255, or of what doesn't meet, and the bytes of one number beside another's. Conditions: as each says. -/
import Derived.Test.YtmlhbbkgfffmcaaBase
namespace Go.Proofs.Ytmlhbbkgfffmcaa
set_option linter.unusedVariables false
set_option linter.unusedSimpArgs false
theorem ofInt_toNat (x : Int) (h0 : 0 ≤ x) (h1 : x < 18446744073709551616) : (BitVec.ofInt 64 x).toNat = x.toNat := by
  simp [BitVec.toNat_ofInt]
  omega
theorem wrap_nat (n : Nat) (h : n < 9223372036854775808) : IntKind.i64.wrap (n : Int) = n := IntWalk.i64_in _ (by omega)
theorem bits_and_nat (x y : Int) (hx0 : 0 ≤ x) (hx1 : x < 9223372036854775808) (hy0 : 0 ≤ y) (hy1 : y < 9223372036854775808) : bits .and .i64 x y = ((x.toNat &&& y.toNat : Nat) : Int) := by
  have e1 := ofInt_toNat x hx0 (by omega)
  have e2 := ofInt_toNat y hy0 (by omega)
  have hl : x.toNat &&& y.toNat < 9223372036854775808 := Nat.lt_of_le_of_lt Nat.and_le_left (by omega)
  show IntKind.i64.wrap (((BitVec.ofInt 64 x &&& BitVec.ofInt 64 y).toNat : Nat) : Int) = _
  rw [BitVec.toNat_and, e1, e2]
  exact wrap_nat _ hl
theorem bits_or_nat (x y : Int) (hx0 : 0 ≤ x) (hx1 : x < 9223372036854775808) (hy0 : 0 ≤ y) (hy1 : y < 9223372036854775808) : bits .or .i64 x y = ((x.toNat ||| y.toNat : Nat) : Int) := by
  have e1 := ofInt_toNat x hx0 (by omega)
  have e2 := ofInt_toNat y hy0 (by omega)
  have hl : x.toNat ||| y.toNat < 2 ^ 63 := Nat.or_lt_two_pow (by omega) (by omega)
  show IntKind.i64.wrap (((BitVec.ofInt 64 x ||| BitVec.ofInt 64 y).toNat : Nat) : Int) = _
  rw [BitVec.toNat_or, e1, e2]
  exact wrap_nat _ (by omega)
theorem bits_andNot_nat (x y : Int) (hx0 : 0 ≤ x) (hx1 : x < 9223372036854775808) (hy0 : 0 ≤ y) (hy1 : y < 9223372036854775808) : bits .andNot .i64 x y = ((x.toNat &&& (2 ^ 64 - 1 - y.toNat) : Nat) : Int) := by
  have e1 := ofInt_toNat x hx0 (by omega)
  have e2 := ofInt_toNat y hy0 (by omega)
  have hl : x.toNat &&& (2 ^ 64 - 1 - y.toNat) < 9223372036854775808 := Nat.lt_of_le_of_lt Nat.and_le_left (by omega)
  show IntKind.i64.wrap (((BitVec.ofInt 64 x &&& ~~~BitVec.ofInt 64 y).toNat : Nat) : Int) = _
  rw [BitVec.toNat_and, BitVec.toNat_not, e1, e2]
  exact wrap_nat _ hl
theorem bits_and_255 (x : Int) (hx0 : 0 ≤ x) (hx1 : x < 9223372036854775808) : bits .and .i64 x 255 = x % 256 := by
  rw [bits_and_nat x 255 hx0 hx1 (by decide) (by decide)]
  have : x.toNat &&& 255 = x.toNat % 256 := Nat.and_two_pow_sub_one_eq_mod x.toNat 8
  rw [show (255 : Int).toNat = 255 from rfl, this]
  omega
theorem bits_or_low (x y : Int) (k : Nat) (u : Nat) (hx : x = 2 ^ k * (u : Int)) (hx1 : x < 9223372036854775808) (hy0 : 0 ≤ y) (hy1 : y < 2 ^ k) (hyb : y < 9223372036854775808) : bits .or .i64 x y = x + y := by
  have hp : (0 : Int) < 2 ^ k := Int.pow_pos (by decide)
  have hx0 : 0 ≤ x := by rw [hx]; exact Int.mul_nonneg (Int.le_of_lt hp) (by omega)
  rw [bits_or_nat x y hx0 hx1 hy0 hyb]
  have e1 : x.toNat = 2 ^ k * u := by
    rw [hx]
    have : ((2 : Int) ^ k * (u : Int)) = ((2 ^ k * u : Nat) : Int) := by push_cast; rfl
    rw [this, Int.toNat_natCast]
  have hyn : y.toNat < 2 ^ k := by
    have : ((2 : Int) ^ k) = ((2 ^ k : Nat) : Int) := by push_cast; rfl
    omega
  rw [e1, ← Nat.two_pow_add_eq_or_of_lt hyn, ← e1]
  omega
/-- The bytes of p where b has its bits, n's elsewhere. -/
def mrg (n b p : Nat) : Nat := (n &&& (2 ^ 64 - 1 - b)) ||| (p &&& b)
theorem mrg_testBit (n b p i : Nat) (hn : n < 2 ^ 64) (hb : b < 2 ^ 64) : (mrg n b p).testBit i = if b.testBit i then p.testBit i else n.testBit i := by
  unfold mrg
  have e : 2 ^ 64 - 1 - b = 2 ^ 64 - (b + 1) := by omega
  rw [Nat.testBit_or, Nat.testBit_and, Nat.testBit_and, e, Nat.testBit_two_pow_sub_succ hb]
  by_cases hi : i < 64
  · cases b.testBit i <;> simp [hi]
  · have h1 : n.testBit i = false := Nat.testBit_lt_two_pow (Nat.lt_of_lt_of_le hn (Nat.pow_le_pow_right (by omega) (by omega)))
    have h2 : b.testBit i = false := Nat.testBit_lt_two_pow (Nat.lt_of_lt_of_le hb (Nat.pow_le_pow_right (by omega) (by omega)))
    simp [h1, h2]
theorem mrg_step (x y B u v : Nat) (m : Bool) (hy : y < 2 ^ 8) (hv : v < 2 ^ 8) (hn : 2 ^ 8 * x + y < 2 ^ 64) (hb : 2 ^ 8 * B + (if m then 255 else 0) < 2 ^ 64) (hp : 2 ^ 8 * u + v < 2 ^ 64) :
    mrg (2 ^ 8 * x + y) (2 ^ 8 * B + if m then 255 else 0) (2 ^ 8 * u + v) = 2 ^ 8 * mrg x B u + if m then v else y := by
  have hm : (if m then 255 else 0) < 2 ^ 8 := by split <;> decide
  have hr : (if m then v else y) < 2 ^ 8 := by split <;> assumption
  apply Nat.eq_of_testBit_eq
  intro i
  rw [mrg_testBit _ _ _ _ hn hb, Nat.testBit_two_pow_mul_add _ hm, Nat.testBit_two_pow_mul_add _ hv, Nat.testBit_two_pow_mul_add _ hy, Nat.testBit_two_pow_mul_add _ hr]
  by_cases hi : i < 8
  · simp only [hi, if_true]
    cases m
    · simp
    · have : (255 : Nat).testBit i = true := by
        have : (255 : Nat) = 2 ^ 8 - 1 := rfl
        rw [this, Nat.testBit_two_pow_sub_one]; simp [hi]
      simp [this]
  · simp only [hi, if_false]
    rw [mrg_testBit _ _ _ _ (by omega) (by omega)]
theorem mrg_zero (m : Bool) (y v : Nat) (hy : y < 2 ^ 8) (hv : v < 2 ^ 8) : mrg y (if m then 255 else 0) v = if m then v else y := by
  have := mrg_step 0 y 0 0 v m hy hv (by omega) (by split <;> omega) (by omega)
  simpa [mrg] using this
/-- A color as a number. -/
def pk (a b c d : Int) : Int := ((a * 256 + b) * 256 + c) * 256 + d
/-- The bits of a mask. -/
def mk (m0 m1 m2 m3 : Bool) : Int := pk (if m0 then 255 else 0) (if m1 then 255 else 0) (if m2 then 255 else 0) (if m3 then 255 else 0)
theorem pk_01 {a b c d : Int} (h : May a b c d) : 0 ≤ pk a b c d ∧ pk a b c d ≤ 4294967295 := by
  obtain ⟨a0, a1, b0, b1, c0, c1, d0, d1⟩ := h
  unfold pk; omega
theorem may_of_mask (m0 m1 m2 m3 : Bool) : May (if m0 then 255 else 0) (if m1 then 255 else 0) (if m2 then 255 else 0) (if m3 then 255 else 0) := by
  constructor <;> split <;> decide
theorem mk_01 (m0 m1 m2 m3 : Bool) : 0 ≤ mk m0 m1 m2 m3 ∧ mk m0 m1 m2 m3 ≤ 4294967295 := pk_01 (may_of_mask m0 m1 m2 m3)
theorem mrg_pk {a b c d x y z t : Int} (h : May a b c d) (k : May x y z t) (m0 m1 m2 m3 : Bool) :
    mrg (pk a b c d).toNat (mk m0 m1 m2 m3).toNat (pk x y z t).toNat = (pk (if m0 then x else a) (if m1 then y else b) (if m2 then z else c) (if m3 then t else d)).toNat := by
  obtain ⟨a0, a1, b0, b1, c0, c1, d0, d1⟩ := h
  obtain ⟨x0, x1, y0, y1, z0, z1, t0, t1⟩ := k
  obtain ⟨a, rfl⟩ := Int.eq_ofNat_of_zero_le a0
  obtain ⟨b, rfl⟩ := Int.eq_ofNat_of_zero_le b0
  obtain ⟨c, rfl⟩ := Int.eq_ofNat_of_zero_le c0
  obtain ⟨d, rfl⟩ := Int.eq_ofNat_of_zero_le d0
  obtain ⟨x, rfl⟩ := Int.eq_ofNat_of_zero_le x0
  obtain ⟨y, rfl⟩ := Int.eq_ofNat_of_zero_le y0
  obtain ⟨z, rfl⟩ := Int.eq_ofNat_of_zero_le z0
  obtain ⟨t, rfl⟩ := Int.eq_ofNat_of_zero_le t0
  have pn : ∀ p q r s : Nat, (pk p q r s).toNat = 2 ^ 8 * (2 ^ 8 * (2 ^ 8 * p + q) + r) + s := by intro p q r s; unfold pk; omega
  have hc : ∀ (m : Bool) (p q : Nat), (if m then (p : Int) else (q : Int)) = ((if m then p else q : Nat) : Int) := by intro m p q; split <;> rfl
  have h255 : ∀ m : Bool, (if m then (255 : Int) else 0) = ((if m then 255 else 0 : Nat) : Int) := by intro m; split <;> rfl
  unfold mk
  rw [hc, hc, hc, hc, h255, h255, h255, h255, pn, pn, pn, pn]
  have l0 : (if m0 then 255 else 0) ≤ 255 := by split <;> decide
  have l1 : (if m1 then 255 else 0) ≤ 255 := by split <;> decide
  have l2 : (if m2 then 255 else 0) ≤ 255 := by split <;> decide
  have l3 : (if m3 then 255 else 0) ≤ 255 := by split <;> decide
  rw [mrg_step _ _ _ _ _ m3 (by omega) (by omega) (by omega) (by omega) (by omega), mrg_step _ _ _ _ _ m2 (by omega) (by omega) (by omega) (by omega) (by omega),
    mrg_step _ _ _ _ _ m1 (by omega) (by omega) (by omega) (by omega) (by omega), mrg_zero m0 a x (by omega) (by omega)]
/-- What Put writes. -/
theorem put_bits {a b c d x y z t : Int} (h : May a b c d) (k : May x y z t) (m0 m1 m2 m3 : Bool) :
    bits .or .i64 (bits .andNot .i64 (pk a b c d) (mk m0 m1 m2 m3)) (bits .and .i64 (pk x y z t) (mk m0 m1 m2 m3)) = pk (if m0 then x else a) (if m1 then y else b) (if m2 then z else c) (if m3 then t else d) := by
  obtain ⟨n0, n1⟩ := pk_01 h
  obtain ⟨p0, p1⟩ := pk_01 k
  obtain ⟨b0, b1⟩ := mk_01 m0 m1 m2 m3
  have hm : May (if m0 then x else a) (if m1 then y else b) (if m2 then z else c) (if m3 then t else d) := by
    obtain ⟨a0, a1, b0, b1, c0, c1, d0, d1⟩ := h
    obtain ⟨x0, x1, y0, y1, z0, z1, t0, t1⟩ := k
    constructor <;> split <;> assumption
  obtain ⟨r0, r1⟩ := pk_01 hm
  rw [bits_andNot_nat _ _ n0 (by omega) b0 (by omega), bits_and_nat _ _ p0 (by omega) b0 (by omega)]
  have l1 : (pk a b c d).toNat &&& (2 ^ 64 - 1 - (mk m0 m1 m2 m3).toNat) ≤ (pk a b c d).toNat := Nat.and_le_left
  have l2 : (pk x y z t).toNat &&& (mk m0 m1 m2 m3).toNat ≤ (pk x y z t).toNat := Nat.and_le_left
  rw [bits_or_nat _ _ (by omega) (by omega) (by omega) (by omega), Int.toNat_natCast, Int.toNat_natCast]
  have := mrg_pk h k m0 m1 m2 m3
  unfold mrg at this
  rw [this]; omega
/-- A list's number; 0 behind its end. (A word of its own: the walk's simp would turn 'getD' into 'get'.) -/
def elt (l : List Int) (i : Nat) : Int := l.getD i 0
theorem elt_mem {l : List Int} {i : Nat} (h : i < l.length) : elt l i ∈ l := by simp [elt, h]
end Go.Proofs.Ytmlhbbkgfffmcaa
