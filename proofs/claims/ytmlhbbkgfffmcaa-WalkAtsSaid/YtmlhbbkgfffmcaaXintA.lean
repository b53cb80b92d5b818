/- The walks of layer 2 (xint): numbers of 128 bits, as whole numbers. Conditions: 64 bits. -/
import Derived.Test.YtmlhbbkgfffmcaaRegion
import Derived.Test.YtmlhbbkgfffmcaaDivL
import Derived.Laws.Externs
import Derived.Shelf.Spec.BitsCarry
namespace Go.Proofs.Ytmlhbbkgfffmcaa
set_option linter.unusedVariables false
set_option linter.unusedSimpArgs false
open Go.RowKit
def hiN (z : Int) : Int := z / 18446744073709551616
def loN (z : Int) : Int := z % 18446744073709551616
theorem hilo (z : Int) : hiN z * 18446744073709551616 + loN z = z ∧ 0 ≤ loN z ∧ loN z < 18446744073709551616 := by unfold hiN loN; omega
/-- A number of 128 bits, as a value. -/
abbrev I2 (z : Int) : Value := .agg #[.int .i64 (hiN z), .int .u64 (loN z)]
/-- Is it one of 128 bits? -/
def inR (z : Int) : Prop := -170141183460469231731687303715884105728 ≤ z ∧ z < 170141183460469231731687303715884105728
instance (z : Int) : Decidable (inR z) := by unfold inR; exact inferInstance
theorem hiR {z : Int} (h : inR z) : -9223372036854775808 ≤ hiN z ∧ hiN z ≤ 9223372036854775807 := by unfold inR at h; unfold hiN; omega
/-- The number, or 0 if it is none of 128 bits. -/
def lim (z : Int) : Int := if inR z then z else 0
theorem lim_yes {z : Int} (h : inR z) : lim z = z := if_pos h
theorem lim_no {z : Int} (h : ¬ inR z) : lim z = 0 := if_neg h
theorem lim_in (z : Int) : inR (lim z) := by unfold lim; split; assumption; decide
/-- A number and whether it is one. -/
abbrev I2b (z : Int) : Value := .tuple #[I2 (lim z), .bool (decide (inR z))]
theorem i2_of {z h l : Int} (e : h * 18446744073709551616 + l = z) (l0 : 0 ≤ l) (l1 : l < 18446744073709551616) : h = hiN z ∧ l = loN z := by unfold hiN loN; omega
/-- The borrow. -/
def bor (x y : Int) : Int := if x < y then 1 else 0
theorem bor_01 (x y : Int) : 0 ≤ bor x y ∧ bor x y ≤ 1 ∧ (x < y → bor x y = 1) ∧ (y ≤ x → bor x y = 0) := by unfold bor; split <;> omega
theorem add64 (x y c : Int) (hx : 0 ≤ x) (hy : 0 ≤ y) (hc0 : 0 ≤ c) (hc : c ≤ 1) (w : World) : (callFunc 119 #[.int .u64 x, .int .u64 y, .int .u64 c]).run Try.prog w =
    .ok (.value (.tuple #[.int .u64 ((x + y + c) % 18446744073709551616), .int .u64 ((x + y + c) / 18446744073709551616)])) w := by
  rw [run_callFunc_extern Try.func119 (by kernel_rfl) (by kernel_rfl) (by kernel_rfl) (e := add64Entry) (by kernel_rfl), run_add64 x y c hx hy hc0 hc]
  rfl
theorem sub64 (x y b : Int) (hx : 0 ≤ x) (hy : 0 ≤ y) (hy' : y < 18446744073709551616) (hb0 : 0 ≤ b) (hb : b ≤ 1) (w : World) : (callFunc 120 #[.int .u64 x, .int .u64 y, .int .u64 b]).run Try.prog w =
    .ok (.value (.tuple #[.int .u64 ((x - y - b) % 18446744073709551616), .int .u64 (bor x (y + b))])) w := by
  rw [run_callFunc_extern Try.func120 (by kernel_rfl) (by kernel_rfl) (by kernel_rfl) (e := sub64Entry) (by kernel_rfl)]
  obtain ⟨x, rfl⟩ := Int.eq_ofNat_of_zero_le hx
  obtain ⟨y, rfl⟩ := Int.eq_ofNat_of_zero_le hy
  obtain ⟨b, rfl⟩ := Int.eq_ofNat_of_zero_le hb0
  rw [run_sub64 x y b (by omega)]
  have e1 : (((x + 18446744073709551616 - y - b) % 18446744073709551616 : Nat) : Int) = ((x : Int) - y - b) % 18446744073709551616 := by omega
  have e2 : ((if x < y + b then 1 else 0 : Nat) : Int) = bor (x : Int) ((y : Int) + b) := by unfold bor; split <;> split <;> omega
  rw [e1, e2]; rfl
theorem add64_0 (x y : Int) (hx : 0 ≤ x) (hy : 0 ≤ y) (w : World) : (callFunc 119 #[.int .u64 x, .int .u64 y, .int .u64 0]).run Try.prog w =
    .ok (.value (.tuple #[.int .u64 ((x + y) % 18446744073709551616), .int .u64 ((x + y) / 18446744073709551616)])) w := by
  simpa using add64 x y 0 hx hy (Int.le_refl 0) (by decide) w
theorem sub64_0 (x y : Int) (hx : 0 ≤ x) (hy : 0 ≤ y) (hy' : y < 18446744073709551616) (w : World) : (callFunc 120 #[.int .u64 x, .int .u64 y, .int .u64 0]).run Try.prog w =
    .ok (.value (.tuple #[.int .u64 ((x - y) % 18446744073709551616), .int .u64 (bor x y)])) w := by
  simpa using sub64 x y 0 hx hy hy' (Int.le_refl 0) (by decide) w
/-- A number of 64 bits? -/
def sml (z : Int) : Prop := -9223372036854775808 ≤ z ∧ z ≤ 9223372036854775807
instance (z : Int) : Decidable (sml z) := by unfold sml; exact inferInstance
def smlV (z : Int) : Int := if sml z then z else 0
theorem smlV_yes {z : Int} (h : sml z) : smlV z = z := if_pos h
theorem smlV_no {z : Int} (h : ¬ sml z) : smlV z = 0 := if_neg h
theorem sml_in {z : Int} (h : sml z) : inR z := by unfold sml at h; unfold inR; omega
theorem of_any (n : Int) (hn : sml n) (w : World) : Calls Try.prog 65 #[.int .i64 n] w (Ret (I2 n) w) := by
  unfold sml at hn
  go_enter Try.func65, Try.ntmps65
  go_wp2
  refine bodyPost_ret (v := I2 n) (by simp [results, Try.results65, go_sem, hiN, loN, IntKind.wrap_u64]; omega) rfl (Ret.of (by (repeat (first | exact Below.refl _ _ | with_reducible refine Below.drew ?_ | with_reducible refine Below.ext ?_ (by first | exact Nat.le_refl _ | (simp; done) | (simp; omega)) _ | with_reducible refine Below.alloc ?_ (by first | exact Nat.le_refl _ | (simp; done) | (simp; omega)) _ | with_reducible refine Below.setCell ?_ (by first | exact Nat.le_refl _ | (simp; done) | (simp; omega)) _))))
theorem small_any (z : Int) (hz : inR z) (w : World) : Calls Try.prog 68 #[I2 z] w (Ret (.tuple #[.int .i64 (smlV z), .bool (decide (sml z))]) w) := by
  obtain ⟨e, l0, l1⟩ := hilo z
  obtain ⟨h0, h1⟩ := hiR hz
  by_cases hs : sml z
  · have t : (wrap64 (loN z) / 9223372036854775808 != hiN z) = false := by unfold sml at hs; rw [bne_eq_false_iff_eq]; unfold wrap64; omega
    have t2 : wrap64 (loN z) = z := by unfold sml at hs; unfold wrap64; omega
    rw [smlV_yes hs, show decide (sml z) = true by simp [hs]]
    clear hs
    go_enter Try.func68, Try.ntmps68
    go_wp2
    exact bodyPost_ret (v := .tuple #[.int .i64 z, .bool true]) (by simp [results, Try.results68, go_sem, t2]) rfl (Ret.of (by (repeat (first | exact Below.refl _ _ | with_reducible refine Below.drew ?_ | with_reducible refine Below.ext ?_ (by first | exact Nat.le_refl _ | (simp; done) | (simp; omega)) _ | with_reducible refine Below.alloc ?_ (by first | exact Nat.le_refl _ | (simp; done) | (simp; omega)) _ | with_reducible refine Below.setCell ?_ (by first | exact Nat.le_refl _ | (simp; done) | (simp; omega)) _))))
  · have t : (wrap64 (loN z) / 9223372036854775808 != hiN z) = true := by unfold sml at hs; rw [bne_iff_ne]; unfold wrap64; omega
    rw [smlV_no hs, show decide (sml z) = false by simp [hs]]
    clear hs
    go_enter Try.func68, Try.ntmps68
    go_wp2
    exact bodyPost_ret (v := .tuple #[.int .i64 0, .bool false]) (by simp [results, Try.results68, go_sem]) rfl (Ret.of (by (repeat (first | exact Below.refl _ _ | with_reducible refine Below.drew ?_ | with_reducible refine Below.ext ?_ (by first | exact Nat.le_refl _ | (simp; done) | (simp; omega)) _ | with_reducible refine Below.alloc ?_ (by first | exact Nat.le_refl _ | (simp; done) | (simp; omega)) _ | with_reducible refine Below.setCell ?_ (by first | exact Nat.le_refl _ | (simp; done) | (simp; omega)) _))))
/-- The sign. -/
def sgn (z : Int) : Int := if z < 0 then -1 else if 0 < z then 1 else 0
theorem sgn_neg {z : Int} (h : z < 0) : sgn z = -1 := if_pos h
theorem sgn_pos {z : Int} (h : 0 < z) : sgn z = 1 := by unfold sgn; rw [if_neg (by omega), if_pos h]
theorem sgn_zero : sgn 0 = 0 := rfl
theorem sgn_01 (z : Int) : sgn z = -1 ∧ z < 0 ∨ sgn z = 0 ∧ z = 0 ∨ sgn z = 1 ∧ 0 < z := by unfold sgn; split <;> (try split) <;> omega
theorem sign_any (z : Int) (hz : inR z) (w : World) : Calls Try.prog 62 #[I2 z] w (Ret (.int .i64 (sgn z)) w) := by
  obtain ⟨e, l0, l1⟩ := hilo z
  have hs := sgn_01 z
  go_enter Try.func62, Try.ntmps62
  go_wp2
  all_goals go_ret
  all_goals refine Ret.of' (congrArg (Value.int .i64) ?_) (by (repeat (first | exact Below.refl _ _ | with_reducible refine Below.drew ?_ | with_reducible refine Below.ext ?_ (by first | exact Nat.le_refl _ | (simp; done) | (simp; omega)) _ | with_reducible refine Below.alloc ?_ (by first | exact Nat.le_refl _ | (simp; done) | (simp; omega)) _ | with_reducible refine Below.setCell ?_ (by first | exact Nat.le_refl _ | (simp; done) | (simp; omega)) _)))
  all_goals omega
def trn (z : Int) : Int := if z = -170141183460469231731687303715884105728 then z else -z
theorem trn_in {z : Int} (h : inR z) : inR (trn z) := by unfold inR at *; unfold trn; split <;> omega
theorem trn_abs {z : Int} (h : inR z) (hn : z < 0) : IntKind.u64.wrap (hiN (trn z)) * 18446744073709551616 + loN (trn z) = -z := by
  rw [IntKind.wrap_u64]
  unfold trn
  split
  · subst z; decide
  · obtain ⟨e, l0, l1⟩ := hilo (-z)
    unfold inR at h
    rw [Int.emod_eq_of_lt (by omega) (by omega)]; omega
theorem turned_any (z : Int) (hz : inR z) (w : World) : Calls Try.prog 101 #[I2 z] w (Ret (I2 (trn z)) w) := by
  obtain ⟨e, l0, l1⟩ := hilo z
  obtain ⟨h0, h1⟩ := hiR hz
  obtain ⟨b0, b1, b2, b3⟩ := bor_01 0 (loN z)
  have u0 : 0 ≤ IntKind.u64.wrap (hiN z) ∧ IntKind.u64.wrap (hiN z) < 18446744073709551616 := by rw [IntKind.wrap_u64]; omega
  have t1 : -loN z % 18446744073709551616 = loN (trn z) := by
    unfold trn; split
    · subst z; decide
    · unfold loN; omega
  have t2 : wrap64 ((-IntKind.u64.wrap (hiN z) - bor 0 (loN z)) % 18446744073709551616) = hiN (trn z) := by
    rw [IntKind.wrap_u64]; unfold wrap64
    obtain ⟨e', l0', l1'⟩ := hilo (trn z)
    unfold trn at *; split at *
    · subst z; decide
    · unfold inR at hz
      generalize hiN z = h at *
      generalize loN z = l at *
      generalize hiN (-z) = h' at *
      generalize loN (-z) = l' at *
      by_cases hl : 0 < l
      · rw [b2 hl]; omega
      · rw [b3 (by omega)]; omega
  have T1 := Lib.hid t1
  have T2 := Lib.hid t2
  clear t1 t2
  go_enter Try.func101, Try.ntmps101
  go_wp2_with (first | simp only [sub64_0 0 _ (by omega) l0 l1] | simp only [sub64 0 _ _ (by omega) u0.1 u0.2 b0 b1])
  refine bodyPost_ret (v := I2 (trn z)) (by simp [results, Try.results101, go_sem]; exact ⟨T2.out, T1.out⟩) rfl (Ret.of (by (repeat (first | exact Below.refl _ _ | with_reducible refine Below.drew ?_ | with_reducible refine Below.ext ?_ (by first | exact Nat.le_refl _ | (simp; done) | (simp; omega)) _ | with_reducible refine Below.alloc ?_ (by first | exact Nat.le_refl _ | (simp; done) | (simp; omega)) _ | with_reducible refine Below.setCell ?_ (by first | exact Nat.le_refl _ | (simp; done) | (simp; omega)) _))))
theorem neg_any (z : Int) (hz : inR z) (w : World) : Calls Try.prog 70 #[I2 z] w (Ret (I2b (-z)) w) := by
  obtain ⟨e, l0, l1⟩ := hilo z
  obtain ⟨h0, h1⟩ := hiR hz
  obtain ⟨e', l0', l1'⟩ := hilo (trn z)
  obtain ⟨h0', h1'⟩ := hiR (trn_in hz)
  by_cases hn : inR (-z)
  · rw [show I2b (-z) = .tuple #[I2 (-z), .bool true] by rw [I2b, lim_yes hn]; simp [hn]]
    have e2 : trn z = -z := by unfold trn; unfold inR at hn; split <;> omega
    rw [e2] at e' l0' l1' h0' h1'
    have TA := Lib.hid (fun w => turned_any z hz w)
    rw [e2] at TA
    clear e2 hn
    go_enter Try.func70, Try.ntmps70
    go_wp2_with (first | (go_at_call 101; (with_reducible refine (TA.out _).mono ?_); rintro _ _ ⟨rfl, X_, rfl⟩))
    all_goals first
      | (exfalso; omega)
      | (refine bodyPost_ret (v := .tuple #[I2 (-z), .bool true]) (by simp [results, Try.results70, go_sem]) rfl (Ret.of (by (repeat (first | exact Below.refl _ _ | with_reducible refine Below.drew ?_ | with_reducible refine Below.ext ?_ (by first | exact Nat.le_refl _ | (simp; done) | (simp; omega)) _ | with_reducible refine Below.alloc ?_ (by first | exact Nat.le_refl _ | (simp; done) | (simp; omega)) _ | with_reducible refine Below.setCell ?_ (by first | exact Nat.le_refl _ | (simp; done) | (simp; omega)) _)))))
  · rw [show I2b (-z) = .tuple #[I2 0, .bool false] by rw [I2b, lim_no hn]; simp [hn]]
    have e2 : trn z = z := by unfold trn; unfold inR at *; split <;> omega
    have TA := Lib.hid (fun w => turned_any z hz w)
    rw [e2] at TA
    have hi : hiN z < 0 := by unfold inR at *; omega
    clear e2 hn
    go_enter Try.func70, Try.ntmps70
    go_wp2_with (first | (go_at_call 101; (with_reducible refine (TA.out _).mono ?_); rintro _ _ ⟨rfl, X_, rfl⟩))
    refine bodyPost_ret (v := .tuple #[I2 0, .bool false]) (by simp [results, Try.results70, go_sem, hiN, loN]) rfl (Ret.of (by (repeat (first | exact Below.refl _ _ | with_reducible refine Below.drew ?_ | with_reducible refine Below.ext ?_ (by first | exact Nat.le_refl _ | (simp; done) | (simp; omega)) _ | with_reducible refine Below.alloc ?_ (by first | exact Nat.le_refl _ | (simp; done) | (simp; omega)) _ | with_reducible refine Below.setCell ?_ (by first | exact Nat.le_refl _ | (simp; done) | (simp; omega)) _))))
end Go.Proofs.Ytmlhbbkgfffmcaa
