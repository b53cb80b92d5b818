/- The walks of layer 2 (xint): the product of a number of 128 bits with an int. Conditions: 64 and 128 bits. -/
import Derived.Test.YtmlhbbkgfffmcaaXintG
namespace Go.Proofs.Ytmlhbbkgfffmcaa
set_option linter.unusedVariables false
set_option linter.unusedSimpArgs false
open Go.RowKit
set_option maxHeartbeats 4000000 in
theorem times_any (a n : Int) (ha : inR a) (hn : sml n) (w : World) : Calls Try.prog 66 #[I2 a, .int .i64 n] w (Ret (I2b (a * n)) w) := by
  have un := abv_01 hn
  have hnn := hn
  have hpm := fun m h => pmv_mul (a := a) (b := n) (m := m) h
  have hT0 : 0 ≤ abv a * abv n := Int.mul_nonneg (by unfold abv; split <;> omega) un.1
  have hTn : abv a * abv n = a * n ∨ abv a * abv n = -(a * n) := by unfold abv; split <;> split <;> grind
  obtain ⟨T, hT⟩ : ∃ T, T = abv a * abv n := ⟨_, rfl⟩
  rw [← hT] at hpm hT0 hTn
  have HPM := Lib.hid hpm
  clear hpm
  have hd := hi_neg a
  by_cases c : a < 0
  · have c2 : hiN a < 0 := by obtain ⟨e, l0, l1⟩ := hilo a; omega
    have dA := decide_eq_true c2
    have HI := trn_in ha
    have ax : IntKind.u64.wrap (hiN (trn a)) * 18446744073709551616 + loN (trn a) = abv a := by rw [trn_abs ha c]; unfold abv; rw [if_pos c]
    have AX := Lib.hid ax
    have HX := Lib.hid (hiR HI)
    have u0 : 0 ≤ IntKind.u64.wrap (hiN (trn a)) ∧ IntKind.u64.wrap (hiN (trn a)) < 18446744073709551616 := by rw [IntKind.wrap_u64]; omega
    obtain ⟨-, l0, l1⟩ := hilo (trn a)
    have M1 := Lib.hid (fun w => mul64_any (IntKind.u64.wrap (hiN (trn a))) (abv n) u0.1 u0.2 un.1 (by omega) w)
    have M2 := Lib.hid (fun w => mul64_any (loN (trn a)) (abv n) l0 l1 un.1 (by omega) w)
    obtain ⟨e1, k0, k1⟩ := hilo (IntKind.u64.wrap (hiN (trn a)) * abv n)
    obtain ⟨e2, k2, k3⟩ := hilo (loN (trn a) * abv n)
    have o0 : 0 ≤ hiN (IntKind.u64.wrap (hiN (trn a)) * abv n) := by have := Int.mul_nonneg u0.1 un.1; omega
    have o1 : 0 ≤ hiN (loN (trn a) * abv n) := by have := Int.mul_nonneg l0 un.1; omega
    have o2 : hiN (IntKind.u64.wrap (hiN (trn a)) * abv n) < 18446744073709551615 := by
      have := Int.mul_le_mul (show IntKind.u64.wrap (hiN (trn a)) ≤ 18446744073709551615 by omega) un.2 un.1 (by decide); omega
    have o3 : hiN (loN (trn a) * abv n) < 18446744073709551615 := by
      have := Int.mul_le_mul (show loN (trn a) ≤ 18446744073709551615 by omega) un.2 un.1 (by decide); omega
    have eT : T = (hiN (IntKind.u64.wrap (hiN (trn a)) * abv n) * 18446744073709551616 + loN (IntKind.u64.wrap (hiN (trn a)) * abv n)) * 18446744073709551616 + (hiN (loN (trn a) * abv n) * 18446744073709551616 + loN (loN (trn a) * abv n)) := by
      rw [e1, e2, hT, ← ax]; grind
    generalize hiN (IntKind.u64.wrap (hiN (trn a)) * abv n) = ov at *
    generalize loN (IntKind.u64.wrap (hiN (trn a)) * abv n) = hi at *
    generalize hiN (loN (trn a) * abv n) = up at *
    generalize loN (loN (trn a) * abv n) = lo at *
    have q1 : T < 340282366920938463463374607431768211456 → ov = 0 ∧ (hi + up) / 18446744073709551616 = 0 ∧ (hi + up) % 18446744073709551616 = hiN T ∧ lo = loN T := fun h => by
      obtain ⟨e3, l3, l4⟩ := hilo T
      omega
    have q2 : ¬ T < 340282366920938463463374607431768211456 → 0 < ov + (hi + up) / 18446744073709551616 := fun h => by omega
    have Q1 := Lib.hid q1
    have Q2 := Lib.hid q2
    have o4 : 0 ≤ (hi + up) / 18446744073709551616 ∧ (hi + up) / 18446744073709551616 ≤ 1 := by omega
    clear q1 q2 e1 e2 eT HI ax
    by_cases hb : T < 340282366920938463463374607431768211456
    · obtain ⟨v1, v2, v3, v4⟩ := Q1.out hb
      have S0 := fun (m : Bool) (h : unl m a n) w => signed_any T m hT0 hb w
      have SG := fun (m : Bool) (h : unl m a n) (hy : inR (a * n)) => (sgd_in hT0 hb (by rw [HPM.out m h]; exact hy)).trans (HPM.out m h)
      subst v1 v4
      have V2 := Lib.hid v2
      have V3 := Lib.hid v3
      clear hb Q1 Q2 hT hTn v2 v3 AX u0 HX
      by_cases hy : inR (a * n)
      · rw [show I2b (a * n) = .tuple #[I2 (a * n), .bool true] by rw [I2b, lim_yes hy]; simp [hy]]
        have S := Lib.hid (fun (m : Bool) (h : unl m a n) (w : World) => (by have e := S0 m h w; rw [SG m h hy, HPM.out m h, show decide (inR (a * n)) = true by simp [hy]] at e; exact e : Calls Try.prog 111 #[.int .u64 (hiN T), .int .u64 (loN T), .bool m] w (Ret (.tuple #[I2 (a * n), .bool true]) w)))
        clear SG S0 hy hd
        go_enter Try.func66, Try.ntmps66
        go_wp2_with (first
          | (go_at_call 101; (with_reducible refine (turned_any a ha _).mono ?_); rintro _ _ ⟨rfl, X_, rfl⟩)
          | (go_at_call 110; (with_reducible refine (bare_any n hnn _).mono ?_); rintro _ _ ⟨rfl, X_, rfl⟩)
          | (go_at_call 109; (with_reducible refine (M1.out _).mono ?_); rintro _ _ ⟨rfl, rfl⟩)
          | (go_at_call 109; (with_reducible refine (M2.out _).mono ?_); rintro _ _ ⟨rfl, rfl⟩)
          | simp only [add64_0 _ _ k0 o1, V2.out, V3.out]
          | (go_at_call 111; (with_reducible refine (S.out _ ?_ _).mono ?_); (unfold unl; simp [c, c2]; omega); rintro _ _ ⟨rfl, X_, rfl⟩))
        refine bodyPost_ret (v := .tuple #[I2 (a * n), .bool true]) ?_ rfl (Ret.of ?_)
        · simp [results, Try.results66, go_sem]
        · (repeat (first | exact Below.refl _ _ | with_reducible refine Below.drew ?_ | with_reducible refine Below.ext ?_ (by first | exact Nat.le_refl _ | (simp; done) | (simp; omega)) _ | with_reducible refine Below.alloc ?_ (by first | exact Nat.le_refl _ | (simp; done) | (simp; omega)) _ | with_reducible refine Below.setCell ?_ (by first | exact Nat.le_refl _ | (simp; done) | (simp; omega)) _))
      · rw [show I2b (a * n) = .tuple #[I2 0, .bool false] by rw [I2b, lim_no hy]; simp [hy]]
        have S := Lib.hid (fun (m : Bool) (h : unl m a n) (w : World) => (by have e := S0 m h w; rw [HPM.out m h, show decide (inR (a * n)) = false by simp [hy]] at e; exact e : Calls Try.prog 111 #[.int .u64 (hiN T), .int .u64 (loN T), .bool m] w (Ret (.tuple #[I2 (sgd T m), .bool false]) w)))
        clear SG S0 hy hd
        go_enter Try.func66, Try.ntmps66
        go_wp2_with (first
          | (go_at_call 101; (with_reducible refine (turned_any a ha _).mono ?_); rintro _ _ ⟨rfl, X_, rfl⟩)
          | (go_at_call 110; (with_reducible refine (bare_any n hnn _).mono ?_); rintro _ _ ⟨rfl, X_, rfl⟩)
          | (go_at_call 109; (with_reducible refine (M1.out _).mono ?_); rintro _ _ ⟨rfl, rfl⟩)
          | (go_at_call 109; (with_reducible refine (M2.out _).mono ?_); rintro _ _ ⟨rfl, rfl⟩)
          | simp only [add64_0 _ _ k0 o1, V2.out, V3.out]
          | (go_at_call 111; (with_reducible refine (S.out _ ?_ _).mono ?_); (unfold unl; simp [c, c2]; omega); rintro _ _ ⟨rfl, X_, rfl⟩))
        refine bodyPost_ret (v := .tuple #[I2 0, .bool false]) ?_ rfl (Ret.of ?_)
        · simp [results, Try.results66, go_sem, hiN, loN]
        · (repeat (first | exact Below.refl _ _ | with_reducible refine Below.drew ?_ | with_reducible refine Below.ext ?_ (by first | exact Nat.le_refl _ | (simp; done) | (simp; omega)) _ | with_reducible refine Below.alloc ?_ (by first | exact Nat.le_refl _ | (simp; done) | (simp; omega)) _ | with_reducible refine Below.setCell ?_ (by first | exact Nat.le_refl _ | (simp; done) | (simp; omega)) _))
    · have hy : ¬ inR (a * n) := by unfold inR; omega
      rw [show I2b (a * n) = .tuple #[I2 0, .bool false] by rw [I2b, lim_no hy]; simp [hy]]
      have d := decide_eq_true (Q2.out hb)
      clear hy hb Q1 Q2 hT hTn AX u0 HX
      go_enter Try.func66, Try.ntmps66
      go_wp2_with (first
        | (go_at_call 101; (with_reducible refine (turned_any a ha _).mono ?_); rintro _ _ ⟨rfl, X_, rfl⟩)
        | (go_at_call 110; (with_reducible refine (bare_any n hnn _).mono ?_); rintro _ _ ⟨rfl, X_, rfl⟩)
        | (go_at_call 109; (with_reducible refine (M1.out _).mono ?_); rintro _ _ ⟨rfl, rfl⟩)
        | (go_at_call 109; (with_reducible refine (M2.out _).mono ?_); rintro _ _ ⟨rfl, rfl⟩)
        | simp only [add64_0 _ _ k0 o1])
      refine bodyPost_ret (v := .tuple #[I2 0, .bool false]) ?_ rfl (Ret.of ?_)
      · simp [results, Try.results66, go_sem, hiN, loN]
      · (repeat (first | exact Below.refl _ _ | with_reducible refine Below.drew ?_ | with_reducible refine Below.ext ?_ (by first | exact Nat.le_refl _ | (simp; done) | (simp; omega)) _ | with_reducible refine Below.alloc ?_ (by first | exact Nat.le_refl _ | (simp; done) | (simp; omega)) _ | with_reducible refine Below.setCell ?_ (by first | exact Nat.le_refl _ | (simp; done) | (simp; omega)) _))
  · have c2 : ¬ hiN a < 0 := by obtain ⟨e, l0, l1⟩ := hilo a; omega
    have dA := decide_eq_false c2
    have HI := ha
    have ax : IntKind.u64.wrap (hiN a) * 18446744073709551616 + loN a = abv a := by
      obtain ⟨e, l0, l1⟩ := hilo a
      have := hiR ha
      rw [IntKind.wrap_u64, Int.emod_eq_of_lt (by omega) (by omega)]; unfold abv; rw [if_neg c]; exact e
    have AX := Lib.hid ax
    have HX := Lib.hid (hiR HI)
    have u0 : 0 ≤ IntKind.u64.wrap (hiN a) ∧ IntKind.u64.wrap (hiN a) < 18446744073709551616 := by rw [IntKind.wrap_u64]; omega
    obtain ⟨-, l0, l1⟩ := hilo a
    have M1 := Lib.hid (fun w => mul64_any (IntKind.u64.wrap (hiN a)) (abv n) u0.1 u0.2 un.1 (by omega) w)
    have M2 := Lib.hid (fun w => mul64_any (loN a) (abv n) l0 l1 un.1 (by omega) w)
    obtain ⟨e1, k0, k1⟩ := hilo (IntKind.u64.wrap (hiN a) * abv n)
    obtain ⟨e2, k2, k3⟩ := hilo (loN a * abv n)
    have o0 : 0 ≤ hiN (IntKind.u64.wrap (hiN a) * abv n) := by have := Int.mul_nonneg u0.1 un.1; omega
    have o1 : 0 ≤ hiN (loN a * abv n) := by have := Int.mul_nonneg l0 un.1; omega
    have o2 : hiN (IntKind.u64.wrap (hiN a) * abv n) < 18446744073709551615 := by
      have := Int.mul_le_mul (show IntKind.u64.wrap (hiN a) ≤ 18446744073709551615 by omega) un.2 un.1 (by decide); omega
    have o3 : hiN (loN a * abv n) < 18446744073709551615 := by
      have := Int.mul_le_mul (show loN a ≤ 18446744073709551615 by omega) un.2 un.1 (by decide); omega
    have eT : T = (hiN (IntKind.u64.wrap (hiN a) * abv n) * 18446744073709551616 + loN (IntKind.u64.wrap (hiN a) * abv n)) * 18446744073709551616 + (hiN (loN a * abv n) * 18446744073709551616 + loN (loN a * abv n)) := by
      rw [e1, e2, hT, ← ax]; grind
    generalize hiN (IntKind.u64.wrap (hiN a) * abv n) = ov at *
    generalize loN (IntKind.u64.wrap (hiN a) * abv n) = hi at *
    generalize hiN (loN a * abv n) = up at *
    generalize loN (loN a * abv n) = lo at *
    have q1 : T < 340282366920938463463374607431768211456 → ov = 0 ∧ (hi + up) / 18446744073709551616 = 0 ∧ (hi + up) % 18446744073709551616 = hiN T ∧ lo = loN T := fun h => by
      obtain ⟨e3, l3, l4⟩ := hilo T
      omega
    have q2 : ¬ T < 340282366920938463463374607431768211456 → 0 < ov + (hi + up) / 18446744073709551616 := fun h => by omega
    have Q1 := Lib.hid q1
    have Q2 := Lib.hid q2
    have o4 : 0 ≤ (hi + up) / 18446744073709551616 ∧ (hi + up) / 18446744073709551616 ≤ 1 := by omega
    clear q1 q2 e1 e2 eT HI ax
    by_cases hb : T < 340282366920938463463374607431768211456
    · obtain ⟨v1, v2, v3, v4⟩ := Q1.out hb
      have S0 := fun (m : Bool) (h : unl m a n) w => signed_any T m hT0 hb w
      have SG := fun (m : Bool) (h : unl m a n) (hy : inR (a * n)) => (sgd_in hT0 hb (by rw [HPM.out m h]; exact hy)).trans (HPM.out m h)
      subst v1 v4
      have V2 := Lib.hid v2
      have V3 := Lib.hid v3
      clear hb Q1 Q2 hT hTn v2 v3 AX u0 HX
      by_cases hy : inR (a * n)
      · rw [show I2b (a * n) = .tuple #[I2 (a * n), .bool true] by rw [I2b, lim_yes hy]; simp [hy]]
        have S := Lib.hid (fun (m : Bool) (h : unl m a n) (w : World) => (by have e := S0 m h w; rw [SG m h hy, HPM.out m h, show decide (inR (a * n)) = true by simp [hy]] at e; exact e : Calls Try.prog 111 #[.int .u64 (hiN T), .int .u64 (loN T), .bool m] w (Ret (.tuple #[I2 (a * n), .bool true]) w)))
        clear SG S0 hy hd
        go_enter Try.func66, Try.ntmps66
        go_wp2_with (first
          | (go_at_call 110; (with_reducible refine (bare_any n hnn _).mono ?_); rintro _ _ ⟨rfl, X_, rfl⟩)
          | (go_at_call 109; (with_reducible refine (M1.out _).mono ?_); rintro _ _ ⟨rfl, rfl⟩)
          | (go_at_call 109; (with_reducible refine (M2.out _).mono ?_); rintro _ _ ⟨rfl, rfl⟩)
          | simp only [add64_0 _ _ k0 o1, V2.out, V3.out]
          | (go_at_call 111; (with_reducible refine (S.out _ ?_ _).mono ?_); (unfold unl; simp [c, c2]; omega); rintro _ _ ⟨rfl, X_, rfl⟩))
        refine bodyPost_ret (v := .tuple #[I2 (a * n), .bool true]) ?_ rfl (Ret.of ?_)
        · simp [results, Try.results66, go_sem]
        · (repeat (first | exact Below.refl _ _ | with_reducible refine Below.drew ?_ | with_reducible refine Below.ext ?_ (by first | exact Nat.le_refl _ | (simp; done) | (simp; omega)) _ | with_reducible refine Below.alloc ?_ (by first | exact Nat.le_refl _ | (simp; done) | (simp; omega)) _ | with_reducible refine Below.setCell ?_ (by first | exact Nat.le_refl _ | (simp; done) | (simp; omega)) _))
      · rw [show I2b (a * n) = .tuple #[I2 0, .bool false] by rw [I2b, lim_no hy]; simp [hy]]
        have S := Lib.hid (fun (m : Bool) (h : unl m a n) (w : World) => (by have e := S0 m h w; rw [HPM.out m h, show decide (inR (a * n)) = false by simp [hy]] at e; exact e : Calls Try.prog 111 #[.int .u64 (hiN T), .int .u64 (loN T), .bool m] w (Ret (.tuple #[I2 (sgd T m), .bool false]) w)))
        clear SG S0 hy hd
        go_enter Try.func66, Try.ntmps66
        go_wp2_with (first
          | (go_at_call 110; (with_reducible refine (bare_any n hnn _).mono ?_); rintro _ _ ⟨rfl, X_, rfl⟩)
          | (go_at_call 109; (with_reducible refine (M1.out _).mono ?_); rintro _ _ ⟨rfl, rfl⟩)
          | (go_at_call 109; (with_reducible refine (M2.out _).mono ?_); rintro _ _ ⟨rfl, rfl⟩)
          | simp only [add64_0 _ _ k0 o1, V2.out, V3.out]
          | (go_at_call 111; (with_reducible refine (S.out _ ?_ _).mono ?_); (unfold unl; simp [c, c2]; omega); rintro _ _ ⟨rfl, X_, rfl⟩))
        refine bodyPost_ret (v := .tuple #[I2 0, .bool false]) ?_ rfl (Ret.of ?_)
        · simp [results, Try.results66, go_sem, hiN, loN]
        · (repeat (first | exact Below.refl _ _ | with_reducible refine Below.drew ?_ | with_reducible refine Below.ext ?_ (by first | exact Nat.le_refl _ | (simp; done) | (simp; omega)) _ | with_reducible refine Below.alloc ?_ (by first | exact Nat.le_refl _ | (simp; done) | (simp; omega)) _ | with_reducible refine Below.setCell ?_ (by first | exact Nat.le_refl _ | (simp; done) | (simp; omega)) _))
    · have hy : ¬ inR (a * n) := by unfold inR; omega
      rw [show I2b (a * n) = .tuple #[I2 0, .bool false] by rw [I2b, lim_no hy]; simp [hy]]
      have d := decide_eq_true (Q2.out hb)
      clear hy hb Q1 Q2 hT hTn AX u0 HX
      go_enter Try.func66, Try.ntmps66
      go_wp2_with (first
        | (go_at_call 110; (with_reducible refine (bare_any n hnn _).mono ?_); rintro _ _ ⟨rfl, X_, rfl⟩)
        | (go_at_call 109; (with_reducible refine (M1.out _).mono ?_); rintro _ _ ⟨rfl, rfl⟩)
        | (go_at_call 109; (with_reducible refine (M2.out _).mono ?_); rintro _ _ ⟨rfl, rfl⟩)
        | simp only [add64_0 _ _ k0 o1])
      refine bodyPost_ret (v := .tuple #[I2 0, .bool false]) ?_ rfl (Ret.of ?_)
      · simp [results, Try.results66, go_sem, hiN, loN]
      · (repeat (first | exact Below.refl _ _ | with_reducible refine Below.drew ?_ | with_reducible refine Below.ext ?_ (by first | exact Nat.le_refl _ | (simp; done) | (simp; omega)) _ | with_reducible refine Below.alloc ?_ (by first | exact Nat.le_refl _ | (simp; done) | (simp; omega)) _ | with_reducible refine Below.setCell ?_ (by first | exact Nat.le_refl _ | (simp; done) | (simp; omega)) _))
end Go.Proofs.Ytmlhbbkgfffmcaa
