/- Parts of the proofs, laid together: NumN, NumO, NumP, NumR. Conditions: at each. -/
import Derived.Test.YtciooaihobnifaaGreatNumK
import Derived.Test.YtciooaihobnifaaGreatPLerpA
section
/- The walks of the reference of layer 2: its products, and what is small. Conditions: 64 and 128 bits. -/
namespace Go.Proofs.YtciooaihobnifaaGreat
set_option linter.unusedVariables false
set_option linter.unusedSimpArgs false
open Go.RowKit
set_option maxRecDepth 100000 in
set_option maxHeartbeats 4000000 in
theorem rmul_any (a b : Int) (ha : sml a) (hb : sml b) (w : World) : Calls Tryz.prog 97 #[.int .i64 a, .int .i64 b] w (Ret (I2 (a * b)) w) := by
  have hm := mul_in ha hb
  have TO := Lib.hid (fun v n w h => to_any v (a * b) n w h)
  rw [i2b_yes hm] at TO
  clear hm
  go_enter Tryz.func97, Tryz.ntmps97
  go_wp2_with (first
    | (go_at_call 165; (with_reducible refine Calls.mono (rnum_any a ha _) ?_); (repeat (first | assumption | exact N1.out | exact N2.out | exact N3.out | exact N4.out | with_reducible refine RN.ext ?_ _ | with_reducible refine RN.alloc ?_ _ | with_reducible refine RN.drew ?_)); rintro _ _ ⟨v_N1, rfl, g_N1, ⟨Y_N1, rfl⟩⟩; obtain ⟨m_N1, a_N1, k_N1, c_N1, rfl⟩ := g_N1.form; have N1 := Lib.hid g_N1; clear g_N1)
    | (go_at_call 165; (with_reducible refine Calls.mono (rnum_any b hb _) ?_); (repeat (first | assumption | exact N1.out | exact N2.out | exact N3.out | exact N4.out | with_reducible refine RN.ext ?_ _ | with_reducible refine RN.alloc ?_ _ | with_reducible refine RN.drew ?_)); rintro _ _ ⟨v_N2, rfl, g_N2, ⟨Y_N2, rfl⟩⟩; obtain ⟨m_N2, a_N2, k_N2, c_N2, rfl⟩ := g_N2.form; have N2 := Lib.hid g_N2; clear g_N2)
    | (go_at_call 164; (with_reducible refine Calls.mono (prod_any _ _ a b 129 129 _ ?_ ?_ (by decide)) ?_); (repeat (first | assumption | exact N1.out | exact N2.out | exact N3.out | exact N4.out | with_reducible refine RN.ext ?_ _ | with_reducible refine RN.alloc ?_ _ | with_reducible refine RN.drew ?_)); rintro _ _ ⟨v_N3, rfl, g_N3, ⟨Y_N3, rfl⟩⟩; obtain ⟨m_N3, a_N3, k_N3, c_N3, rfl⟩ := g_N3.form; have N3 := Lib.hid g_N3; clear g_N3)
    | (go_at_call 98; (with_reducible refine (TO.out _ _ _ N3.out).mono ?_); rintro _ _ ⟨rfl, X_, rfl⟩))
  refine bodyPost_ret (v := I2 (a * b)) (by simp [results, Tryz.results97, go_sem]) rfl (Ret.of (by (repeat (first | exact Below.refl _ _ | with_reducible refine Below.drew ?_ | with_reducible refine Below.ext ?_ (by first | exact Nat.le_refl _ | (simp; done) | (simp; omega)) _ | with_reducible refine Below.alloc ?_ (by first | exact Nat.le_refl _ | (simp; done) | (simp; omega)) _ | with_reducible refine Below.setCell ?_ (by first | exact Nat.le_refl _ | (simp; done) | (simp; omega)) _))))
theorem rsmall_any (z : Int) (hz : inR z) (w : World) : Calls Tryz.prog 99 #[I2 z] w (Ret (.tuple #[.int .i64 (smlV z), .bool (decide (sml z))]) w) := by
  obtain ⟨e, l0, l1⟩ := hilo z
  obtain ⟨h0, h1⟩ := hiR hz
  have hw : sml (wrap64 (loN z)) := by unfold sml wrap64; omega
  have O := Lib.hid (fun w => rof_any (wrap64 (loN z)) hw w)
  by_cases hs : sml z
  · have t2 : wrap64 (loN z) = z := by unfold sml at hs; unfold wrap64; omega
    rw [t2] at O
    rw [smlV_yes hs, show decide (sml z) = true by simp [hs]]
    clear hs e hw
    go_enter Tryz.func99, Tryz.ntmps99
    go_wp2
    refine wp_region_ext (by kernel_rfl) (by kernel_rfl) ?_
    repeat (go_big_quiet_step (((go_at_call 71; with_reducible exact Calls.quiet_ret (O.out _)))))
    refine wpQuiet_nil ?_
    intro _ hw_ext
    obtain ⟨X, hw_ext⟩ := hw_ext
    subst hw_ext
    go_wp2
    refine bodyPost_ret (v := .tuple #[.int .i64 z, .bool true]) (by simp [results, Tryz.results99, go_sem, t2]) rfl (Ret.of (by (repeat (first | exact Below.refl _ _ | with_reducible refine Below.drew ?_ | with_reducible refine Below.ext ?_ (by first | exact Nat.le_refl _ | (simp; done) | (simp; omega)) _ | with_reducible refine Below.alloc ?_ (by first | exact Nat.le_refl _ | (simp; done) | (simp; omega)) _ | with_reducible refine Below.setCell ?_ (by first | exact Nat.le_refl _ | (simp; done) | (simp; omega)) _))))
  · rw [smlV_no hs, show decide (sml z) = false by simp [hs]]
    have hne : ¬ hiN (wrap64 (loN z)) = hiN z := by
      intro h
      apply hs
      obtain ⟨e', l0', l1'⟩ := hilo (wrap64 (loN z))
      have : wrap64 (loN z) % 18446744073709551616 = loN z := by unfold wrap64; omega
      have : loN (wrap64 (loN z)) = loN z := this
      unfold sml at *; omega
    have d1 : (hiN (wrap64 (loN z)) == hiN z) = false := by simp [hne]
    clear hs e hw hne
    go_enter Tryz.func99, Tryz.ntmps99
    go_wp2
    refine wp_region_ext (by kernel_rfl) (by kernel_rfl) ?_
    repeat (go_big_quiet_step (((go_at_call 71; with_reducible exact Calls.quiet_ret (O.out _)))))
    refine wpQuiet_nil ?_
    intro _ hw_ext
    obtain ⟨X, hw_ext⟩ := hw_ext
    subst hw_ext
    go_wp2
    refine bodyPost_ret (v := .tuple #[.int .i64 0, .bool false]) (by simp [results, Tryz.results99, go_sem]) rfl (Ret.of (by (repeat (first | exact Below.refl _ _ | with_reducible refine Below.drew ?_ | with_reducible refine Below.ext ?_ (by first | exact Nat.le_refl _ | (simp; done) | (simp; omega)) _ | with_reducible refine Below.alloc ?_ (by first | exact Nat.le_refl _ | (simp; done) | (simp; omega)) _ | with_reducible refine Below.setCell ?_ (by first | exact Nat.le_refl _ | (simp; done) | (simp; omega)) _))))
/-- An Int in its place. -/
abbrev I2z : Array Value := #[.int .i64 0, .int .u64 0]
set_option maxRecDepth 100000 in
set_option maxHeartbeats 4000000 in
theorem rmid08_any (p q n d : Int) (hp : tame p) (hq : tame q) (hn0 : 0 ≤ n) (hnd : n ≤ d) (hd : 1 ≤ d) (hds : sml d) (w : World) : Calls Tryz.prog 250 #[.int .i64 p, .int .i64 q, .int .i64 n, .int .i64 d] w (Ret (.int .i64 (p + (q - p) * n / d)) w) := by
  obtain ⟨hp0, hp1⟩ := hp
  obtain ⟨hq0, hq1⟩ := hq
  obtain ⟨hd0, hd1⟩ := hds
  have s1 : sml p := by unfold sml; omega
  have s2 : sml (d - n) := by unfold sml; omega
  have s3 : sml q := by unfold sml; omega
  have s4 : sml n := by unfold sml; omega
  have hz : (p * (d - n) + q * n) / d = p + (q - p) * n / d := by
    have e : p * (d - n) + q * n = (q - p) * n + d * p := by grind
    rw [e, Int.add_mul_ediv_left _ _ (by omega)]; omega
  have hb : tame (p + (q - p) * n / d) := by
    have := mid_between p q n d
    by_cases h1 : n ≤ 0
    · obtain rfl : n = 0 := by omega
      unfold tame; simp; omega
    · by_cases h2 : d ≤ n
      · obtain rfl : n = d := by omega
        rw [Int.mul_ediv_cancel _ (by omega)]; unfold tame; omega
      · rw [mid_m (by omega) h2] at this
        unfold tame; omega
  have hsm : sml (p + (q - p) * n / d) := by unfold sml; unfold tame at hb; omega
  have M1 := Lib.hid (fun w => rmul_any p (d - n) s1 s2 w)
  have M2 := Lib.hid (fun w => rmul_any q n s3 s4 w)
  have F1 := Lib.hid (fun w => from_any (p * (d - n)) (mul_in s1 s2) w)
  have F2 := Lib.hid (fun w => from_any (q * n) (mul_in s3 s4) w)
  have O := Lib.hid (fun w => rof_any d ⟨hd0, hd1⟩ w)
  have F3 := Lib.hid (fun w => from_any d (sml_in ⟨hd0, hd1⟩) w)
  have FL := Lib.hid (fun v u (j k : Nat) w h1 h2 h3 => floor_any v u (p * (d - n) + q * n) d j k w h1 h2 hd h3)
  rw [hz] at FL
  have TO := Lib.hid (fun v (k : Nat) w h => to_any v (p + (q - p) * n / d) k w h)
  rw [i2b_yes (sml_in hsm)] at TO
  have SM := Lib.hid (fun w => rsmall_any (p + (q - p) * n / d) (sml_in hsm) w)
  rw [smlV_yes hsm, show decide (sml (p + (q - p) * n / d)) = true by simp [hsm]] at SM
  generalize p + (q - p) * n / d = Z at *
  clear hz hb hsm s1 s2 s3 s4
  go_enter Tryz.func250, Tryz.ntmps250
  go_wp2_with (first
    | (go_at_call 97; (with_reducible refine (M1.out _).mono ?_); rintro _ _ ⟨rfl, X_, rfl⟩)
    | (go_at_call 97; (with_reducible refine (M2.out _).mono ?_); rintro _ _ ⟨rfl, X_, rfl⟩)
    | (go_at_call 70; (with_reducible refine Calls.mono (F1.out _) ?_); (repeat (first | assumption | exact N1.out | exact N2.out | exact N3.out | exact N4.out | with_reducible refine RN.ext ?_ _ | with_reducible refine RN.alloc ?_ _ | with_reducible refine RN.drew ?_)); rintro _ _ ⟨v_N1, rfl, g_N1, ⟨Y_N1, rfl⟩⟩; obtain ⟨m_N1, a_N1, k_N1, c_N1, rfl⟩ := g_N1.form; have N1 := Lib.hid g_N1; clear g_N1)
    | (go_at_call 70; (with_reducible refine Calls.mono (F2.out _) ?_); (repeat (first | assumption | exact N1.out | exact N2.out | exact N3.out | exact N4.out | with_reducible refine RN.ext ?_ _ | with_reducible refine RN.alloc ?_ _ | with_reducible refine RN.drew ?_)); rintro _ _ ⟨v_N2, rfl, g_N2, ⟨Y_N2, rfl⟩⟩; obtain ⟨m_N2, a_N2, k_N2, c_N2, rfl⟩ := g_N2.form; have N2 := Lib.hid g_N2; clear g_N2)
    | (go_at_call 69; (with_reducible refine Calls.mono (sum_any _ _ (p * (d - n)) (q * n) 129 129 _ ?_ ?_ (by decide) (by decide)) ?_); (repeat (first | assumption | exact N1.out | exact N2.out | exact N3.out | exact N4.out | with_reducible refine RN.ext ?_ _ | with_reducible refine RN.alloc ?_ _ | with_reducible refine RN.drew ?_)); rintro _ _ ⟨v_N3, rfl, g_N3, ⟨Y_N3, rfl⟩⟩; obtain ⟨m_N3, a_N3, k_N3, c_N3, rfl⟩ := g_N3.form; have N3 := Lib.hid g_N3; clear g_N3)
    | (go_at_call 71; (with_reducible refine (O.out _).mono ?_); rintro _ _ ⟨rfl, X_, rfl⟩)
    | (go_at_call 70; (with_reducible refine Calls.mono (F3.out _) ?_); (repeat (first | assumption | exact N1.out | exact N2.out | exact N3.out | exact N4.out | with_reducible refine RN.ext ?_ _ | with_reducible refine RN.alloc ?_ _ | with_reducible refine RN.drew ?_)); rintro _ _ ⟨v_N4, rfl, g_N4, ⟨Y_N4, rfl⟩⟩; obtain ⟨m_N4, a_N4, k_N4, c_N4, rfl⟩ := g_N4.form; have N4 := Lib.hid g_N4; clear g_N4)
    | (go_at_call 96; (with_reducible refine (FL.out _ _ 130 129 _ ?_ ?_ (by decide)).mono ?_); (repeat (first | assumption | exact N1.out | exact N2.out | exact N3.out | exact N4.out | with_reducible refine RN.ext ?_ _ | with_reducible refine RN.alloc ?_ _ | with_reducible refine RN.drew ?_)); rintro _ _ ⟨v_, rfl, ⟨qv, rv, rfl, gq, gr⟩, ⟨Y_, rfl⟩⟩; obtain ⟨mq, aq, kq, cq, rfl⟩ := gq.form; obtain ⟨mr, ar, kr, cr, rfl⟩ := gr.form; clear N1 N2 N3 N4 gr; have N1 := Lib.hid gq; clear gq)
    | (go_at_call 98; (with_reducible refine (TO.out _ 132 _ ?_).mono ?_); (repeat (first | assumption | exact N1.out | exact N2.out | exact N3.out | exact N4.out | with_reducible refine RN.ext ?_ _ | with_reducible refine RN.alloc ?_ _ | with_reducible refine RN.drew ?_)); rintro _ _ ⟨rfl, X_, rfl⟩)
    | (go_at_call 99; (with_reducible refine (SM.out _).mono ?_); rintro _ _ ⟨rfl, X_, rfl⟩))
  go_ret
  exact Ret.of (by (repeat (first | exact Below.refl _ _ | with_reducible refine Below.drew ?_ | with_reducible refine Below.ext ?_ (by first | exact Nat.le_refl _ | (simp; done) | (simp; omega)) _ | with_reducible refine Below.alloc ?_ (by first | exact Nat.le_refl _ | (simp; done) | (simp; omega)) _ | with_reducible refine Below.setCell ?_ (by first | exact Nat.le_refl _ | (simp; done) | (simp; omega)) _)))
end Go.Proofs.YtciooaihobnifaaGreat
end
section
/- The walks of the reference of layer 2: order, sums, differences, products of numbers of 128 bits. Conditions: 64 and 128 bits. -/
namespace Go.Proofs.YtciooaihobnifaaGreat
set_option linter.unusedVariables false
set_option linter.unusedSimpArgs false
open Go.RowKit
/-- One value. -/
def srV (c : Value) : SR Grows := ⟨fun v w => v = c, fun v w w' h _ => h, fun v => v = c, c, rfl, fun v w h => h⟩
theorem rn_zero {w : World} : RN w (.agg #[.bool false, .slice none 0 0]) 0 0 := ⟨false, _, [], rfl, Rb.nil, ⟨Bin.nil, fun h => by simp at h⟩, by simp, by simp [pmv, bv], by simp⟩
end Go.Proofs.YtciooaihobnifaaGreat
end
section
/- The walks of the reference of layer 2: differences, quotients. Conditions: 64 and 128 bits. -/
namespace Go.Proofs.YtciooaihobnifaaGreat
set_option linter.unusedVariables false
set_option linter.unusedSimpArgs false
open Go.RowKit
end Go.Proofs.YtciooaihobnifaaGreat
end
section
/- The walk of the reference's root, of layer 2. Condition: 128 bits. -/
namespace Go.Proofs.YtciooaihobnifaaGreat
set_option linter.unusedVariables false
set_option linter.unusedSimpArgs false
open Go.RowKit
theorem p126 : (2 : Int) ^ 126 = 85070591730234615865843651857942052864 := by decide
theorem step_facts {P y : Int} (h0 : 0 ≤ y) (hP : 0 < P) (hb : y + 2 * P ≤ 9223372036854775808) : wrap64 P = P ∧ wrap64 (y + P) = y + P ∧ sml (y + P) := by
  unfold wrap64 sml; omega
theorem can_126 {l : List Int} (h : Can l) : l.length ≤ 126 ↔ bv l < 85070591730234615865843651857942052864 := by
  rw [← p126]
  constructor
  · intro hl
    have := (bv_bd h.1).2
    have := pow_mono hl
    omega
  · intro hv
    apply Classical.byContradiction
    intro hn
    have := h.low (by omega)
    have := pow_mono (show 126 ≤ l.length - 1 by omega)
    omega
end Go.Proofs.YtciooaihobnifaaGreat
end
