/- The walk of the reference's division, of layer 2. Conditions: the values read as numbers, the divisor is above 0. -/
import Derived.Test.YtciooaihobnifaaPNumB
namespace Go.Proofs.Ytciooaihobnifaa
set_option linter.unusedVariables false
set_option linter.unusedSimpArgs false
open Go.RowKit
theorem RN.plus {w : World} {v : Value} {z : Int} {n : Nat} (h : RN w v z n) (hz : 0 ≤ z) : ∃ sv l, v = .agg #[.bool false, sv] ∧ Rb w sv l ∧ Can l ∧ bv l = z ∧ l.length ≤ n := by
  obtain ⟨m, sv, l, rfl, h2, h3, h4, rfl, h5⟩ := h
  have hb := (bv_bd h3.1).1
  cases m
  · exact ⟨sv, l, rfl, h2, h3, rfl, h5⟩
  · exfalso
    have := h4 rfl
    simp [pmv] at hz; omega
theorem below_set1 {B p k : Nat} {w0 wr : World} {u : Value} (h : Below B w0 wr) (hp : B ≤ p) : Below B w0 (wr.setCell ⟨p, k, none⟩ u) := Below.setCell h (by simpa using hp) _
theorem below_set2 {B p : Nat} {w0 wr : World} {u v : Value} (h : Below B w0 wr) (hp : B ≤ p) : Below B w0 ((wr.setCell ⟨p, 0, none⟩ u).setCell ⟨p, 1, none⟩ v) := below_set1 (below_set1 h hp) hp
theorem Rb.noByte {w : World} {v : Value} {l : List Int} (h : Rb w v l) : ∀ d, v ≠ .int .u8 d := by
  obtain ⟨a, cap, rfl, -⟩ := h.form
  exact fun d => by simp
section
variable {n : Nat} {w0 wr : World} {ma md : Bool} {va vd vq vr : Value} {a d lq lr : List Int}
end
/-- One bit of the quotient. -/
theorem floor_step {a d lq lr l2 : List Int} {j : Nat} {one : Int} (ha : Bin a) (e : bv a / 2 ^ (j + 1) = bv lq * bv d + bv lr) (h2 : bv l2 = bt a j + 2 * bv lr - one * bv d) : bv a / 2 ^ j = bv (one :: lq) * bv d + bv l2 := by
  rw [div_step ha j, e, h2, bv]; grind
theorem floor_val {x d q r : Int} (he : x / 2 ^ 0 = q * d + r) (r0 : 0 ≤ r) (r1 : r < d) : x / d = q ∧ x % d = r := by
  have e : x = r + d * q := by
    have : x / 2 ^ 0 = x := by simp
    rw [this] at he; rw [he]; grind
  rw [e, Int.add_mul_ediv_left _ _ (by omega), Int.add_mul_emod_self_left, Int.ediv_eq_zero_of_lt r0 r1, Int.emod_eq_of_lt r0 r1]
  omega
theorem can_len {l d : List Int} (hc : Can l) (hd : Bin d) (h : bv l < 2 * bv d) : l.length ≤ d.length + 1 := by
  apply Classical.byContradiction
  intro hn
  have h1 := hc.low (by omega)
  have h2 := (bv_bd hd).2
  have h3 := pow_mono (show d.length + 1 ≤ l.length - 1 by omega)
  rw [p2_succ] at h3
  omega
end Go.Proofs.Ytciooaihobnifaa
