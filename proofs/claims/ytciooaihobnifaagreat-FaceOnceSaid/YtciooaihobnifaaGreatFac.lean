/- Layer 22 (face): looks, and whether one may be. Conditions: 64 bits. -/
import Derived.Test.YtciooaihobnifaaGreatSmoA
import Derived.Test.YtciooaihobnifaaGreatRecA
namespace Go.Proofs.YtciooaihobnifaaGreat
set_option linter.unusedVariables false
set_option linter.unusedSimpArgs false
open Go.RowKit
/-- A look. -/
structure LookP where
  width : Int
  soft : Bool
  dashed : Bool
  p : Int
  r : Int
  c : Int
  size : Int
  kind : Int
  front : Int
  back : Int
  ccw : Bool
  cull : Int
  off : Bool
  factor : Int
  units : Int
abbrev LookP.v (k : LookP) : Value := .agg #[.int .i64 k.width, .bool k.soft, .bool k.dashed, .int .i64 k.p, .int .i64 k.r, .int .i64 k.c, .int .i64 k.size, .int .i64 k.kind, .int .i64 k.front, .int .i64 k.back, .bool k.ccw, .int .i64 k.cull, .bool k.off, .int .i64 k.factor, .int .i64 k.units]
structure LookP.wide (k : LookP) : Prop where
  width : w64 k.width
  p : w64 k.p
  r : w64 k.r
  c : w64 k.c
  size : w64 k.size
  kind : w64 k.kind
  front : w64 k.front
  back : w64 k.back
  cull : w64 k.cull
  factor : w64 k.factor
  units : w64 k.units
def amongP (n l h : Int) : Prop := l ≤ n ∧ n ≤ h
instance (n l h : Int) : Decidable (amongP n l h) := by unfold amongP; exact inferInstance
def LookP.ok (k : LookP) : Prop := amongP k.width 1 64 ∧ amongP k.size 1 64 ∧ amongP k.kind 0 2 ∧ amongP k.front 0 2 ∧ amongP k.back 0 2 ∧ amongP k.cull 0 3 ∧ amongP k.factor (-65536) 65536 ∧ amongP k.units (-16777216) 16777216 ∧ dashP k.p k.r k.c
instance (k : LookP) : Decidable k.ok := by unfold LookP.ok; exact inferInstance
theorem look_dec (k : LookP) : decide k.ok = (decide (amongP k.width 1 64) && (decide (amongP k.size 1 64) && (decide (amongP k.kind 0 2) && (decide (amongP k.front 0 2) && (decide (amongP k.back 0 2) && (decide (amongP k.cull 0 3) && (decide (amongP k.factor (-65536) 65536) && (decide (amongP k.units (-16777216) 16777216) && decide (dashP k.p k.r k.c))))))))) := by
  rw [← Bool.decide_and, ← Bool.decide_and, ← Bool.decide_and, ← Bool.decide_and, ← Bool.decide_and, ← Bool.decide_and, ← Bool.decide_and, ← Bool.decide_and]; exact decide_eq_decide.2 Iff.rfl
theorem first_no (b1 b2 b3 b4 b5 b6 b7 b8 : Bool) : b1 = false ∨ (b1 = true ∧ b2 = false) ∨ (b1 = true ∧ b2 = true ∧ b3 = false) ∨ (b1 = true ∧ b2 = true ∧ b3 = true ∧ b4 = false) ∨ (b1 = true ∧ b2 = true ∧ b3 = true ∧ b4 = true ∧ b5 = false) ∨ (b1 = true ∧ b2 = true ∧ b3 = true ∧ b4 = true ∧ b5 = true ∧ b6 = false) ∨ (b1 = true ∧ b2 = true ∧ b3 = true ∧ b4 = true ∧ b5 = true ∧ b6 = true ∧ b7 = false) ∨ (b1 = true ∧ b2 = true ∧ b3 = true ∧ b4 = true ∧ b5 = true ∧ b6 = true ∧ b7 = true ∧ b8 = false) ∨ (b1 = true ∧ b2 = true ∧ b3 = true ∧ b4 = true ∧ b5 = true ∧ b6 = true ∧ b7 = true ∧ b8 = true) := by
  cases b1 <;> cases b2 <;> cases b3 <;> cases b4 <;> cases b5 <;> cases b6 <;> cases b7 <;> cases b8 <;> simp
set_option maxHeartbeats 2000000 in
theorem among22_any (n l h : Int) (w : World) : Calls Tryz.prog 50 #[.int .i64 n, .int .i64 l, .int .i64 h] w (Ret (.bool (decide (amongP n l h))) w) := by
  go_enter Tryz.func50, Tryz.ntmps50
  go_wp2
  all_goals go_ret
  all_goals refine Ret.of' ?_ (by (repeat (first | exact Below.refl _ _ | with_reducible refine Below.drew ?_ | with_reducible refine Below.ext ?_ (by first | exact Nat.le_refl _ | (simp; done) | (simp; omega)) _ | with_reducible refine Below.alloc ?_ (by first | exact Nat.le_refl _ | (simp; done) | (simp; omega)) _ | with_reducible refine Below.setCell ?_ (by first | exact Nat.le_refl _ | (simp; done) | (simp; omega)) _)))
  all_goals first
    | (refine bool_t ?_; unfold amongP; omega)
    | (refine bool_f ?_; unfold amongP; omega)
    | (refine bool_d ?_; unfold amongP; omega)
set_option maxHeartbeats 4000000 in
theorem rlook_right (k : LookP) (w : World) : Calls Tryz.prog 16 #[k.v] w (Ret (.bool (decide k.ok)) w) := by
  rw [look_dec]
  have M1 := Lib.hid (fun w => among22_any k.width 1 64 w)
  have M2 := Lib.hid (fun w => among22_any k.size 1 64 w)
  have M3 := Lib.hid (fun w => among22_any k.kind 0 2 w)
  have M4 := Lib.hid (fun w => among22_any k.front 0 2 w)
  have M5 := Lib.hid (fun w => among22_any k.back 0 2 w)
  have M6 := Lib.hid (fun w => among22_any k.cull 0 3 w)
  have M7 := Lib.hid (fun w => among22_any k.factor (-65536) 65536 w)
  have M8 := Lib.hid (fun w => among22_any k.units (-16777216) 16777216 w)
  have M9 := Lib.hid (fun w => rdash_right k.p k.r k.c w)
  generalize decide (amongP k.width 1 64) = b1 at *
  generalize decide (amongP k.size 1 64) = b2 at *
  generalize decide (amongP k.kind 0 2) = b3 at *
  generalize decide (amongP k.front 0 2) = b4 at *
  generalize decide (amongP k.back 0 2) = b5 at *
  generalize decide (amongP k.cull 0 3) = b6 at *
  generalize decide (amongP k.factor (-65536) 65536) = b7 at *
  generalize decide (amongP k.units (-16777216) 16777216) = b8 at *
  generalize decide (dashP k.p k.r k.c) = b9 at *
  rcases first_no b1 b2 b3 b4 b5 b6 b7 b8 with rfl | ⟨rfl, rfl⟩ | ⟨rfl, rfl, rfl⟩ | ⟨rfl, rfl, rfl, rfl⟩ | ⟨rfl, rfl, rfl, rfl, rfl⟩ | ⟨rfl, rfl, rfl, rfl, rfl, rfl⟩ | ⟨rfl, rfl, rfl, rfl, rfl, rfl, rfl⟩ | ⟨rfl, rfl, rfl, rfl, rfl, rfl, rfl, rfl⟩ | ⟨rfl, rfl, rfl, rfl, rfl, rfl, rfl, rfl⟩
  all_goals
    go_enter Tryz.func16, Tryz.ntmps16
    go_wp2_with (first | (go_at_call 50; (with_reducible refine (M1.out _).mono ?_); rintro _ _ ⟨rfl, X_, rfl⟩) | (go_at_call 50; (with_reducible refine (M2.out _).mono ?_); rintro _ _ ⟨rfl, X_, rfl⟩) | (go_at_call 50; (with_reducible refine (M3.out _).mono ?_); rintro _ _ ⟨rfl, X_, rfl⟩) | (go_at_call 50; (with_reducible refine (M4.out _).mono ?_); rintro _ _ ⟨rfl, X_, rfl⟩) | (go_at_call 50; (with_reducible refine (M5.out _).mono ?_); rintro _ _ ⟨rfl, X_, rfl⟩) | (go_at_call 50; (with_reducible refine (M6.out _).mono ?_); rintro _ _ ⟨rfl, X_, rfl⟩) | (go_at_call 50; (with_reducible refine (M7.out _).mono ?_); rintro _ _ ⟨rfl, X_, rfl⟩) | (go_at_call 50; (with_reducible refine (M8.out _).mono ?_); rintro _ _ ⟨rfl, X_, rfl⟩) | (go_at_call 51; (with_reducible refine (M9.out _).mono ?_); rintro _ _ ⟨rfl, X_, rfl⟩))
    go_ret
    exact Ret.of' (by simp) (by (repeat (first | exact Below.refl _ _ | with_reducible refine Below.drew ?_ | with_reducible refine Below.ext ?_ (by first | exact Nat.le_refl _ | (simp; done) | (simp; omega)) _ | with_reducible refine Below.alloc ?_ (by first | exact Nat.le_refl _ | (simp; done) | (simp; omega)) _ | with_reducible refine Below.setCell ?_ (by first | exact Nat.le_refl _ | (simp; done) | (simp; omega)) _)))
theorem u64_more {n : Int} (h : w64 n) (k : Int) (k0 : 0 ≤ k) (k1 : k < 9223372036854775808) : k < IntKind.u64.wrap n ↔ ¬ (0 ≤ n ∧ n ≤ k) := by
  have := u64_small h k k0 k1
  omega
set_option maxHeartbeats 8000000 in
theorem look_right (k : LookP) (h : k.wide) (w : World) : Calls Tryz.prog 15 #[k.v] w (Ret (.bool (decide k.ok)) w) := by
  obtain ⟨h0, h1, h2, h3, h4, h5, h6, h7, h8, h9, h10⟩ := h
  have z1 := Lib.hid (u64_more h5 2 (by decide) (by decide))
  have z2 := Lib.hid (u64_more h6 2 (by decide) (by decide))
  have z3 := Lib.hid (u64_more h7 2 (by decide) (by decide))
  have z4 := Lib.hid (u64_more h8 3 (by decide) (by decide))
  have DR := fun w => dash_right k.p k.r k.c h1 h3 w
  have E : k.ok ↔ (1 ≤ k.width ∧ k.width ≤ 64) ∧ (1 ≤ k.size ∧ k.size ≤ 64) ∧ (0 ≤ k.kind ∧ k.kind ≤ 2) ∧ (0 ≤ k.front ∧ k.front ≤ 2) ∧ (0 ≤ k.back ∧ k.back ≤ 2) ∧ (0 ≤ k.cull ∧ k.cull ≤ 3) ∧ (-65536 ≤ k.factor ∧ k.factor ≤ 65536) ∧ (-16777216 ≤ k.units ∧ k.units ≤ 16777216) ∧ dashP k.p k.r k.c := Iff.rfl
  have HE := Lib.hid E
  clear E h0 h1 h2 h3 h4 h5 h6 h7 h8 h9 h10
  by_cases hd : dashP k.p k.r k.c
  · simp only [hd, decide_true] at DR
    have HD := Lib.hid DR
    have hd := Lib.hid hd
    clear DR
    go_enter Tryz.func15, Tryz.ntmps15
    go_wp2_with (first | (go_at_call 49; (with_reducible refine (HD.out _).mono ?_); rintro _ _ ⟨rfl, X_, rfl⟩))
    all_goals go_ret
    all_goals refine Ret.of' ?_ (by (repeat (first | exact Below.refl _ _ | with_reducible refine Below.drew ?_ | with_reducible refine Below.ext ?_ (by first | exact Nat.le_refl _ | (simp; done) | (simp; omega)) _ | with_reducible refine Below.alloc ?_ (by first | exact Nat.le_refl _ | (simp; done) | (simp; omega)) _ | with_reducible refine Below.setCell ?_ (by first | exact Nat.le_refl _ | (simp; done) | (simp; omega)) _)))
    all_goals
      have z1 := z1.out
      have z2 := z2.out
      have z3 := z3.out
      have z4 := z4.out
      first
      | (refine bool_t ?_; rw [HE.out]; exact ⟨by omega, by omega, by omega, by omega, by omega, by omega, by omega, by omega, hd.out⟩)
      | (refine bool_f ?_; rw [HE.out]; omega)
      | (refine bool_d ?_; rw [HE.out]; simp only [hd.out, and_true]; omega)
  · simp only [hd, decide_false] at DR
    have HD := Lib.hid DR
    have hf : decide k.ok = false := decide_eq_false fun q => hd (HE.out.1 q).2.2.2.2.2.2.2.2
    rw [hf]
    clear DR hd hf
    go_enter Tryz.func15, Tryz.ntmps15
    go_wp2_with (first | (go_at_call 49; (with_reducible refine (HD.out _).mono ?_); rintro _ _ ⟨rfl, X_, rfl⟩))
    all_goals go_ret
    all_goals first
      | exact Ret.of' rfl (by (repeat (first | exact Below.refl _ _ | with_reducible refine Below.drew ?_ | with_reducible refine Below.ext ?_ (by first | exact Nat.le_refl _ | (simp; done) | (simp; omega)) _ | with_reducible refine Below.alloc ?_ (by first | exact Nat.le_refl _ | (simp; done) | (simp; omega)) _ | with_reducible refine Below.setCell ?_ (by first | exact Nat.le_refl _ | (simp; done) | (simp; omega)) _)))
      | exact Ret.of' (by simp) (by (repeat (first | exact Below.refl _ _ | with_reducible refine Below.drew ?_ | with_reducible refine Below.ext ?_ (by first | exact Nat.le_refl _ | (simp; done) | (simp; omega)) _ | with_reducible refine Below.alloc ?_ (by first | exact Nat.le_refl _ | (simp; done) | (simp; omega)) _ | with_reducible refine Below.setCell ?_ (by first | exact Nat.le_refl _ | (simp; done) | (simp; omega)) _)))
end Go.Proofs.YtciooaihobnifaaGreat
