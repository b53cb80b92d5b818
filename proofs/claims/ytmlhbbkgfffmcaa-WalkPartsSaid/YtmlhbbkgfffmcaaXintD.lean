/- The walks of layer 2 (xint): differences. Condition: 128 bits. -/
import Derived.Test.YtmlhbbkgfffmcaaXintC
namespace Go.Proofs.Ytmlhbbkgfffmcaa
set_option linter.unusedVariables false
set_option linter.unusedSimpArgs false
open Go.RowKit
theorem sub_hi {ah al bh bl zh zl c : Int} (l0 : 0 ≤ al) (l1 : al < 18446744073709551616) (m0 : 0 ≤ bl) (m1 : bl < 18446744073709551616) (z0 : 0 ≤ zl) (z1 : zl < 18446744073709551616) (e : zh * 18446744073709551616 + zl = (ah - bh) * 18446744073709551616 + (al - bl)) (hc : 0 ≤ c ∧ c ≤ 1 ∧ (al < bl → c = 1) ∧ (bl ≤ al → c = 0)) : zh = ah - bh - c ∧ zl = (al - bl) % 18446744073709551616 := by
  by_cases h : al < bl
  · have := hc.2.2.1 h; omega
  · have := hc.2.2.2 (by omega); omega
set_option maxHeartbeats 2000000 in
theorem sub_any (a b : Int) (ha : inR a) (hb : inR b) (w : World) : Calls Try.prog 67 #[I2 a, I2 b] w (Ret (I2b (a - b)) w) := by
  obtain ⟨e, l0, l1⟩ := hilo a
  obtain ⟨h0, h1⟩ := hiR ha
  obtain ⟨e', l0', l1'⟩ := hilo b
  obtain ⟨h0', h1'⟩ := hiR hb
  obtain ⟨e2, l2, l2'⟩ := hilo (a - b)
  have u0 : 0 ≤ IntKind.u64.wrap (hiN a) ∧ IntKind.u64.wrap (hiN a) < 18446744073709551616 := by rw [IntKind.wrap_u64]; omega
  have u1 : 0 ≤ IntKind.u64.wrap (hiN b) ∧ IntKind.u64.wrap (hiN b) < 18446744073709551616 := by rw [IntKind.wrap_u64]; omega
  have k0 := bor_01 (loN a) (loN b)
  obtain ⟨eh, el⟩ := sub_hi (ah := hiN a) (bh := hiN b) (zh := hiN (a - b)) (zl := loN (a - b)) (c := bor (loN a) (loN b)) l0 l1 l0' l1' l2 l2' (by omega) k0
  obtain ⟨c, hc⟩ : ∃ c, c = (IntKind.u64.wrap (hiN a) - IntKind.u64.wrap (hiN b) - bor (loN a) (loN b)) % 18446744073709551616 := ⟨_, rfl⟩
  have hw : wrap64 c = wrap64 (hiN (a - b)) := by
    rw [hc, eh, IntKind.wrap_u64, IntKind.wrap_u64]; unfold wrap64; generalize bor (loN a) (loN b) = k at *; omega
  have A1 := Lib.hid (fun w => sub64 (IntKind.u64.wrap (hiN a)) (IntKind.u64.wrap (hiN b)) _ u0.1 u1.1 u1.2 k0.1 k0.2.1 w)
  rw [← hc] at A1
  obtain ⟨K0, K1⟩ : 0 ≤ bor (loN a) (loN b) ∧ bor (loN a) (loN b) ≤ 1 := ⟨k0.1, k0.2.1⟩
  clear k0
  clear hc u0 u1
  have R := inR_hi (z := a - b)
  have HW : wrap64 c < 0 ↔ (-9223372036854775808 ≤ hiN (a - b) ∧ hiN (a - b) < 0 ∨ 9223372036854775807 < hiN (a - b)) := by rw [hw]; unfold wrap64; omega
  have HV : inR (a - b) → wrap64 c = hiN (a - b) := fun h => by have := R.1 h; rw [hw]; unfold wrap64; omega
  have EL := Lib.hid el
  clear hw el
  have Y : inR (a - b) → I2b (a - b) = .tuple #[I2 (a - b), .bool true] := fun hn => by rw [I2b, lim_yes hn]; simp [hn]
  have N : ¬ inR (a - b) → I2b (a - b) = .tuple #[I2 0, .bool false] := fun hn => by rw [I2b, lim_no hn]; simp [hn]
  obtain ⟨v, hv⟩ : ∃ v, v = I2b (a - b) := ⟨_, rfl⟩
  rw [← hv]
  have HVB := Lib.hid hv
  have LY := Lib.hid Y
  have LN := Lib.hid N
  have LW := Lib.hid HW
  have LV := Lib.hid HV
  have LR := Lib.hid R
  have EH := Lib.hid eh
  clear hv Y N HW HV R e e' e2 eh
  go_enter Try.func67, Try.ntmps67
  go_wp2_with (first | simp only [sub64_0 _ _ l0 l0' l1'] | simp only [A1.out])
  all_goals rename_i hq
  all_goals have h2 := LW.out
  all_goals have h4 := EH.out
  all_goals (rcases Classical.em (hiN a < 0) with sa | sa <;> rcases Classical.em (hiN b < 0) with sb | sb <;> rcases Classical.em (wrap64 c < 0) with sx | sx <;> rcases Classical.em (inR (a - b)) with hn | hn)
  all_goals first
    | have h5 := LR.out.1 hn
    | have h5 : ¬ (-9223372036854775808 ≤ hiN (a - b) ∧ hiN (a - b) ≤ 9223372036854775807) := fun h => hn (LR.out.2 h)
  all_goals first
    | (exfalso; omega)
    | (exfalso; simp [sa, sb, sx] at hq; done)
    | (rw [HVB.out, LY.out hn]
       refine bodyPost_ret (v := .tuple #[I2 (a - b), .bool true]) ?_ rfl (Ret.of ?_)
       · simp [results, Try.results67, go_sem, LV.out hn, EL.out]
       · (repeat (first | exact Below.refl _ _ | with_reducible refine Below.drew ?_ | with_reducible refine Below.ext ?_ (by first | exact Nat.le_refl _ | (simp; done) | (simp; omega)) _ | with_reducible refine Below.alloc ?_ (by first | exact Nat.le_refl _ | (simp; done) | (simp; omega)) _ | with_reducible refine Below.setCell ?_ (by first | exact Nat.le_refl _ | (simp; done) | (simp; omega)) _)))
    | (rw [HVB.out, LN.out hn]
       refine bodyPost_ret (v := .tuple #[I2 0, .bool false]) ?_ rfl (Ret.of ?_)
       · simp [results, Try.results67, go_sem, hiN, loN]
       · (repeat (first | exact Below.refl _ _ | with_reducible refine Below.drew ?_ | with_reducible refine Below.ext ?_ (by first | exact Nat.le_refl _ | (simp; done) | (simp; omega)) _ | with_reducible refine Below.alloc ?_ (by first | exact Nat.le_refl _ | (simp; done) | (simp; omega)) _ | with_reducible refine Below.setCell ?_ (by first | exact Nat.le_refl _ | (simp; done) | (simp; omega)) _)))
end Go.Proofs.Ytmlhbbkgfffmcaa
