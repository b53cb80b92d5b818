/- XintRings: whatever the input, the law returns true and leaves its arguments as they read. No condition. -/
import Derived.Test.YtmlhbbkgfffmcaaXintM
import Derived.Test.YtmlhbbkgfffmcaaMix
import Derived.Test.YtmlhbbkgfffmcaaEXintRings
namespace Go.Proofs.Ytmlhbbkgfffmcaa
set_option linter.unusedVariables false
set_option linter.unusedSimpArgs false
open Go.RowKit
theorem mul_bd {a b : Int} (ha : sml a) (hb : sml b) : -85070591730234615865843651857942052864 ≤ a * b ∧ a * b ≤ 85070591730234615865843651857942052864 := by
  have h := abv_mul ha hb
  have : abv a * abv b = a * b ∨ abv a * abv b = -(a * b) := by unfold abv; split <;> split <;> grind
  omega
set_option maxHeartbeats 8000000 in
theorem rings_any (a b c : Int) (ha : sml a) (hb : sml b) (hc : sml c) (w : World) : Calls Try.prog 16 #[.int .i64 a, .int .i64 b, .int .i64 c] w (Ret (.bool true) w) := by
  have ab := mul_bd ha hb
  have ac := mul_bd ha hc
  have rc := sml_in hc
  have rb := sml_in hb
  have ra := sml_in ha
  have rab : inR (a * b) := mul_in ha hb
  have rac : inR (a * c) := mul_in ha hc
  have x1 : inR (a * b + c) := by unfold sml at hc; unfold inR; omega
  have x2 : inR (b + c) := by unfold sml at hc hb; unfold inR; omega
  have M1 := Lib.hid (fun w => mul_any a b ha hb w)
  have M2 := Lib.hid (fun w => mul_any b a hb ha w)
  rw [Int.mul_comm b a] at M2
  have M3 := Lib.hid (fun w => mul_any a c ha hc w)
  have A1 := Lib.hid (fun w => add_in (a * b) c rab rc x1 w)
  have A2 := Lib.hid (fun w => add_in c (a * b) rc rab (by rw [Int.add_comm]; exact x1) w)
  rw [Int.add_comm c (a * b)] at A2
  have T1 := Lib.hid (fun w => times_in a b ra hb rab w)
  have A3 := Lib.hid (fun w => add_in b c rb rc x2 w)
  have T2 := Lib.hid (fun w => times_any (b + c) a x2 ha w)
  have A4 := Lib.hid (fun w => add_any (a * b) (a * c) rab rac w)
  rw [show (b + c) * a = a * b + a * c by grind] at T2
  have S1 := Lib.hid (fun w => sub_in (a * b + c) c x1 rc (by rw [show a * b + c - c = a * b by omega]; exact rab) w)
  rw [show a * b + c - c = a * b by omega] at S1
  have OA := Lib.hid (fun w => of_any a ha w)
  have OB := Lib.hid (fun w => of_any b hb w)
  have OC := Lib.hid (fun w => of_any c hc w)
  rw [I2b] at T2 A4
  generalize lim (a * b + a * c) = L at T2 A4
  generalize decide (inR (a * b + a * c)) = g at T2 A4
  generalize a * b + c = E at *
  generalize a * b = D at *
  generalize a * c = F at *
  generalize b + c = B at *
  clear ab ac rc rb ra rab rac x1 x2 ha hb hc
  go_enter Try.func16, Try.ntmps16
  go_wp2_with (first | (go_at_call 48; (with_reducible refine (M1.out _).mono ?_); rintro _ _ ⟨rfl, X_, rfl⟩) | (go_at_call 48; (with_reducible refine (M2.out _).mono ?_); rintro _ _ ⟨rfl, X_, rfl⟩) | (go_at_call 65; (with_reducible refine (OC.out _).mono ?_); rintro _ _ ⟨rfl, X_, rfl⟩) | (go_at_call 65; (with_reducible refine (OA.out _).mono ?_); rintro _ _ ⟨rfl, X_, rfl⟩) | (go_at_call 65; (with_reducible refine (OB.out _).mono ?_); rintro _ _ ⟨rfl, X_, rfl⟩) | (go_at_call 64; (with_reducible refine (A1.out _).mono ?_); rintro _ _ ⟨rfl, X_, rfl⟩) | (go_at_call 64; (with_reducible refine (A2.out _).mono ?_); rintro _ _ ⟨rfl, X_, rfl⟩) | (go_at_call 66; (with_reducible refine (T1.out _).mono ?_); rintro _ _ ⟨rfl, X_, rfl⟩) | (go_at_call 64; (with_reducible refine (A3.out _).mono ?_); rintro _ _ ⟨rfl, X_, rfl⟩))
  refine wp_region_ext (by kernel_rfl) (by kernel_rfl) ?_
  repeat (go_big_quiet_step ((first | (go_at_call 48; with_reducible exact Calls.quiet_ret (M1.out _)))))
  refine wpQuiet_nil ?_
  intro _ hw_ext
  obtain ⟨X, hw_ext⟩ := hw_ext
  subst hw_ext
  go_wp2_with (first | (go_at_call 48; (with_reducible refine (M1.out _).mono ?_); rintro _ _ ⟨rfl, X_, rfl⟩) | (go_at_call 48; (with_reducible refine (M3.out _).mono ?_); rintro _ _ ⟨rfl, X_, rfl⟩) | (go_at_call 66; (with_reducible refine (T2.out _).mono ?_); rintro _ _ ⟨rfl, X_, rfl⟩) | (go_at_call 64; (with_reducible refine (A4.out _).mono ?_); rintro _ _ ⟨rfl, X_, rfl⟩))
  refine wp_region_mix (by kernel_rfl) ?_
  repeat (first | (refine mix_skip rfl ?_; simp only [List.nil_append, List.cons_append]) | (refine mix_ncheck rfl rfl rfl ?_; simp only [Act.put, List.setIfInBounds_toArray, List.set_cons_zero, List.set_cons_succ, List.nil_append, List.cons_append]) | (refine mix_calm rfl rfl ?_; intro K_ hK_; go_big_quiet_op; go_big_quiet_on; simp only [List.nil_append, List.cons_append]) | (apply mix_call rfl; (intro X_; go_simp; go_at_call 65; with_reducible exact Calls.calm_ret (OC.out _)); simp only [Act.put, List.setIfInBounds_toArray, List.set_cons_zero, List.set_cons_succ, List.nil_append, List.cons_append]) | (apply mix_call rfl; (intro X_; go_simp; go_at_call 67; with_reducible exact Calls.calm_ret (S1.out _)); simp only [Act.put, List.setIfInBounds_toArray, List.set_cons_zero, List.set_cons_succ, List.nil_append, List.cons_append]) | (refine mix_alloc rfl rfl Try.zeroValue69 ?_; simp only [List.nil_append, List.cons_append]) | (refine mix_fill 7 rfl rfl rfl rfl (by simp [Value.oneCell']) (by kernel_rfl) (by simp) rfl rfl rfl rfl ?_; simp only [List.nil_append, List.cons_append]))
  refine mix_nil (mix_end1 7 8 ⟨by kernel_rfl, by kernel_rfl⟩ rfl rfl rfl rfl rfl (by kernel_rfl) ?_)
  intro Y p h
  have c_h := h.cell
  have f_h := h.frozen
  have g_h := h.gap
  have b_h := Lib.hid h.block
  simp only [World.size_ext, World.size_alloc, World.size_drew, World.size_setCell] at g_h
  clear h
  simp only [Act.put, List.setIfInBounds_toArray, List.set_cons_zero, List.set_cons_succ, ptr]
  go_wp2_with (first | (go_at_call 47; (with_reducible refine (awake02 _).mono ?_); rintro _ _ ⟨rfl, X_, rfl⟩))
  go_ret
  exact Ret.of' (by simp) (by (repeat (first | exact Below.refl _ _ | with_reducible refine Below.drew ?_ | with_reducible refine Below.ext ?_ (by first | exact Nat.le_refl _ | (simp; done) | (simp; omega)) _ | with_reducible refine Below.alloc ?_ (by first | exact Nat.le_refl _ | (simp; done) | (simp; omega)) _ | with_reducible refine Below.setCell ?_ (by first | exact Nat.le_refl _ | (simp; done) | (simp; omega)) _)))
theorem XintRings_all : XintRings_stmt := by
  intro a b c w ha hb hc
  exact rings_any a b c ha hb hc w
theorem XintRings_holds : Rows.XintRingsSaid := XintRings_end XintRings_all
end Go.Proofs.Ytmlhbbkgfffmcaa
