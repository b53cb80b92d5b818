/- XintRatios: whatever the input, the law returns true and leaves its arguments as they read. No condition. -/
import Derived.Test.YtmlhbbkgfffmcaaNumP
import Derived.Test.YtmlhbbkgfffmcaaEXintRatios
namespace Go.Proofs.Ytmlhbbkgfffmcaa
set_option linter.unusedVariables false
set_option linter.unusedSimpArgs false
open Go.RowKit
theorem sgn_neg' (a b : Int) : sgn (b - a) = -sgn (a - b) := by
  have h1 := sgn_01 (a - b)
  have h2 := sgn_01 (b - a)
  omega
set_option maxRecDepth 100000 in
set_option maxHeartbeats 8000000 in
theorem ratios_yes (a b c d : Int) (ha : inR a) (hc : inR c) (hb : sml b) (hd : sml d) (b1 : 1 ≤ b) (d1 : 1 ≤ d) (w : World) : Calls Try.prog 9 #[.agg #[.int .i64 (hiN a), .int .u64 (loN a), .int .i64 (hiN c), .int .u64 (loN c), .int .i64 b, .int .i64 d]] w (Ret (.bool true) w) := by
  have A := Lib.hid (fun w => ratio_any a b c d ha hc hb hd b1 d1 w)
  have B := Lib.hid (fun w => rratio_yes a b c d ha hc hb hd b1 d1 w)
  have C := Lib.hid (fun w => ratio_any c d a b hc ha hd hb d1 b1 w)
  have e := sgn_neg' (a * d) (c * b)
  rw [e] at C
  obtain ⟨h1, h2⟩ : -1 ≤ sgn (a * d - c * b) ∧ sgn (a * d - c * b) ≤ 1 := by have := sgn_01 (a * d - c * b); omega
  generalize sgn (a * d - c * b) = s at *
  clear ha hc hb hd b1 d1 e
  go_enter Try.func9, Try.ntmps9
  go_wp2_with (first | (go_at_call 50; (with_reducible refine (A.out _).mono ?_); rintro _ _ ⟨rfl, X_, rfl⟩) | (go_at_call 51; (with_reducible refine (B.out _).mono ?_); rintro _ _ ⟨rfl, X_, rfl⟩) | (go_at_call 50; (with_reducible refine (C.out _).mono ?_); rintro _ _ ⟨rfl, X_, rfl⟩) | (go_at_call 47; (with_reducible refine (awake02 _).mono ?_); rintro _ _ ⟨rfl, X_, rfl⟩))
  go_ret
  exact Ret.of' (by simp) (by (repeat (first | exact Below.refl _ _ | with_reducible refine Below.drew ?_ | with_reducible refine Below.ext ?_ (by first | exact Nat.le_refl _ | (simp; done) | (simp; omega)) _ | with_reducible refine Below.alloc ?_ (by first | exact Nat.le_refl _ | (simp; done) | (simp; omega)) _ | with_reducible refine Below.setCell ?_ (by first | exact Nat.le_refl _ | (simp; done) | (simp; omega)) _)))
set_option maxRecDepth 100000 in
set_option maxHeartbeats 8000000 in
theorem ratios_no (a b c d : Int) (ha : inR a) (hc : inR c) (hb : sml b) (hd : sml d) (h : ¬ (1 ≤ b ∧ 1 ≤ d)) (w : World) : Calls Try.prog 9 #[.agg #[.int .i64 (hiN a), .int .u64 (loN a), .int .i64 (hiN c), .int .u64 (loN c), .int .i64 b, .int .i64 d]] w (Ret (.bool true) w) := by
  have A := Lib.hid (fun w => ratio_no a b c d ha hc hb hd h w)
  have B := Lib.hid (fun w => rratio_no a b c d h w)
  have C := Lib.hid (fun w => ratio_no c d a b hc ha hd hb (fun k => h ⟨k.2, k.1⟩) w)
  clear ha hc hb hd h
  go_enter Try.func9, Try.ntmps9
  go_wp2_with (first | (go_at_call 50; (with_reducible refine (A.out _).mono ?_); rintro _ _ ⟨rfl, X_, rfl⟩) | (go_at_call 51; (with_reducible refine (B.out _).mono ?_); rintro _ _ ⟨rfl, X_, rfl⟩) | (go_at_call 50; (with_reducible refine (C.out _).mono ?_); rintro _ _ ⟨rfl, X_, rfl⟩) | (go_at_call 47; (with_reducible refine (awake02 _).mono ?_); rintro _ _ ⟨rfl, X_, rfl⟩))
  go_ret
  exact Ret.of' (by simp) (by (repeat (first | exact Below.refl _ _ | with_reducible refine Below.drew ?_ | with_reducible refine Below.ext ?_ (by first | exact Nat.le_refl _ | (simp; done) | (simp; omega)) _ | with_reducible refine Below.alloc ?_ (by first | exact Nat.le_refl _ | (simp; done) | (simp; omega)) _ | with_reducible refine Below.setCell ?_ (by first | exact Nat.le_refl _ | (simp; done) | (simp; omega)) _)))
theorem XintRatios_all : XintRatios_stmt := by
  intro a0 a1 c0 c1 b d w hh
  obtain ⟨⟨h0, h1⟩, ⟨l0, l1⟩, ⟨k0, k1⟩, ⟨m0, m1⟩, hb, hd⟩ := hh
  obtain ⟨e1, e2⟩ := i2_of (z := a0 * 18446744073709551616 + a1) rfl l0 (by omega)
  obtain ⟨e3, e4⟩ := i2_of (z := c0 * 18446744073709551616 + c1) rfl m0 (by omega)
  have ha := i2_inR h0 h1 l0 l1
  have hc := i2_inR k0 k1 m0 m1
  rw [show (#[.agg #[.int .i64 a0, .int .u64 a1, .int .i64 c0, .int .u64 c1, .int .i64 b, .int .i64 d]] : Array Value) = #[.agg #[.int .i64 (hiN (a0 * 18446744073709551616 + a1)), .int .u64 (loN (a0 * 18446744073709551616 + a1)), .int .i64 (hiN (c0 * 18446744073709551616 + c1)), .int .u64 (loN (c0 * 18446744073709551616 + c1)), .int .i64 b, .int .i64 d]] by rw [← e1, ← e2, ← e3, ← e4]]
  by_cases h : 1 ≤ b ∧ 1 ≤ d
  · exact ratios_yes _ b _ d ha hc hb hd h.1 h.2 w
  · exact ratios_no _ b _ d ha hc hb hd h w
theorem XintRatios_holds : Rows.XintRatiosSaid := XintRatios_end XintRatios_all
end Go.Proofs.Ytmlhbbkgfffmcaa
