/- XintDivides: whatever the input, the law returns true and leaves its arguments as they read. No condition. -/
import Derived.Test.YtmlhbbkgfffmcaaNumR
import Derived.Test.YtmlhbbkgfffmcaaEXintDivides
namespace Go.Proofs.Ytmlhbbkgfffmcaa
set_option linter.unusedVariables false
set_option linter.unusedSimpArgs false
open Go.RowKit
set_option maxRecDepth 100000 in
set_option maxHeartbeats 16000000 in
theorem divides_core (a m n q r x : Int) (t g : Bool) (hm : sml m) (hn : sml n)
    (D1 : Hid (∀ w, Calls Try.prog 43 #[I2 a, .int .i64 n] w (Ret (.tuple #[I2 q, .int .i64 r, .bool t]) w))) (D2 : Hid (∀ w, Calls Try.prog 44 #[I2 a, .int .i64 n] w (Ret (.tuple #[I2 q, .int .i64 r, .bool t]) w)))
    (R1 : Hid (∀ w, Calls Try.prog 45 #[I2 a] w (Ret (.tuple #[.int .i64 x, .bool g]) w))) (R2 : Hid (∀ w, Calls Try.prog 46 #[I2 a] w (Ret (.tuple #[.int .i64 x, .bool g]) w))) (w : World) :
    Calls Try.prog 8 #[I2 a, .int .i64 m, .int .i64 n] w (Ret (.bool true) w) := by
  have M1 := Lib.hid (fun w => mul_any m n hm hn w)
  have M2 := Lib.hid (fun w => rmul_any m n hm hn w)
  generalize m * n = mn at *
  clear hm hn
  go_enter Try.func8, Try.ntmps8
  go_wp2_with (first | (go_at_call 43; (with_reducible refine (D1.out _).mono ?_); rintro _ _ ⟨rfl, X_, rfl⟩) | (go_at_call 44; (with_reducible refine (D2.out _).mono ?_); rintro _ _ ⟨rfl, X_, rfl⟩) | (go_at_call 45; (with_reducible refine (R1.out _).mono ?_); rintro _ _ ⟨rfl, X_, rfl⟩) | (go_at_call 46; (with_reducible refine (R2.out _).mono ?_); rintro _ _ ⟨rfl, X_, rfl⟩) | (go_at_call 48; (with_reducible refine (M1.out _).mono ?_); rintro _ _ ⟨rfl, X_, rfl⟩) | (go_at_call 49; (with_reducible refine (M2.out _).mono ?_); rintro _ _ ⟨rfl, X_, rfl⟩) | (go_at_call 47; (with_reducible refine (awake02 _).mono ?_); rintro _ _ ⟨rfl, X_, rfl⟩))
  go_ret
  exact Ret.of' (by simp) (by (repeat (first | exact Below.refl _ _ | with_reducible refine Below.drew ?_ | with_reducible refine Below.ext ?_ (by first | exact Nat.le_refl _ | (simp; done) | (simp; omega)) _ | with_reducible refine Below.alloc ?_ (by first | exact Nat.le_refl _ | (simp; done) | (simp; omega)) _ | with_reducible refine Below.setCell ?_ (by first | exact Nat.le_refl _ | (simp; done) | (simp; omega)) _)))
theorem XintDivides_all : XintDivides_stmt := by
  intro a0 a1 m n w ha hm hn
  obtain ⟨⟨h0, h1⟩, l0, l1⟩ := ha
  rw [i2_val a0 a1 l0 l1]
  have hin := i2_inR h0 h1 l0 l1
  generalize a0 * 18446744073709551616 + a1 = a at *
  by_cases hd : 1 ≤ n
  · by_cases hr : a < 0 ∨ 85070591730234615865843651857942052864 ≤ a
    · exact divides_core a m n _ _ _ _ _ hm hn (Lib.hid fun w => div_any a n hin hd hn w) (Lib.hid fun w => rdiv_yes a n hin hd hn w) (Lib.hid fun w => root_no a hin hr w) (Lib.hid fun w => rroot_no a hin hr w) w
    · obtain ⟨z, z0, z1, z2⟩ := root_ex (a := a) (by omega)
      exact divides_core a m n _ _ _ _ _ hm hn (Lib.hid fun w => div_any a n hin hd hn w) (Lib.hid fun w => rdiv_yes a n hin hd hn w) (Lib.hid fun w => root_yes a z (by omega) (by omega) z0 z1 z2 w) (Lib.hid fun w => rroot_yes a z (by omega) (by omega) z0 z1 z2 w) w
  · by_cases hr : a < 0 ∨ 85070591730234615865843651857942052864 ≤ a
    · exact divides_core a m n _ _ _ _ _ hm hn (Lib.hid fun w => div_no a n (by omega) w) (Lib.hid fun w => rdiv_no a n (by omega) w) (Lib.hid fun w => root_no a hin hr w) (Lib.hid fun w => rroot_no a hin hr w) w
    · obtain ⟨z, z0, z1, z2⟩ := root_ex (a := a) (by omega)
      exact divides_core a m n _ _ _ _ _ hm hn (Lib.hid fun w => div_no a n (by omega) w) (Lib.hid fun w => rdiv_no a n (by omega) w) (Lib.hid fun w => root_yes a z (by omega) (by omega) z0 z1 z2 w) (Lib.hid fun w => rroot_yes a z (by omega) (by omega) z0 z1 z2 w) w
theorem XintDivides_holds : Rows.XintDividesSaid := XintDivides_end XintDivides_all
end Go.Proofs.Ytmlhbbkgfffmcaa
