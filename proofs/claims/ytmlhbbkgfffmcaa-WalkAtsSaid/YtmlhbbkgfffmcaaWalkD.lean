/- The walks of layer 13 (diamond.In) and of layer 14 (walk): under, across, in. Conditions: the way's bounds. -/
import Derived.Test.YtmlhbbkgfffmcaaWalkC
import Derived.Test.YtmlhbbkgfffmcaaWalkA
import Derived.Test.YtmlhbbkgfffmcaaBits
import Derived.Deep.DeepCutAuto
namespace Go.Proofs.Ytmlhbbkgfffmcaa
set_option linter.unusedVariables false
set_option linter.unusedSimpArgs false
open Go.RowKit
/-- The pixel in whose diamond a point is. -/
def inOk (x y : Int) : Bool := decide ((x % 256 = 0 ∧ y % 256 = 128) ∨ max (x % 256 - 128) (128 - x % 256) + max (y % 256 - 128) (128 - y % 256) < 128 ∨ (max (x % 256 - 128) (128 - x % 256) + max (y % 256 - 128) (128 - y % 256) = 128 ∧ 128 < x % 256))
def inX (x y : Int) : Int := if inOk x y then (if x % 256 = 0 ∧ y % 256 = 128 then x / 256 - 1 else x / 256) else 0
def inY (x y : Int) : Int := if inOk x y then y / 256 else 0
abbrev In3 (x y : Int) : Value := .tuple #[.int .i64 (inX x y), .int .i64 (inY x y), .bool (inOk x y)]
theorem shr8 (x : Int) : x >>> 8 = x / 256 := by rw [Int.shiftRight_eq_div_pow]; rfl
theorem bits_and_255s (x : Int) : bits .and .i64 x 255 = x % 256 := by
  show IntKind.i64.wrap (((BitVec.ofInt 64 x &&& BitVec.ofInt 64 255).toNat : Nat) : Int) = _
  rw [BitVec.toNat_and, show (BitVec.ofInt 64 255).toNat = 2 ^ 8 - 1 from by decide, Nat.and_two_pow_sub_one_eq_mod, wrap_nat _ (by omega), BitVec.toNat_ofInt]
  omega
theorem in_a {x y : Int} (h : x % 256 - 128 = -128) (k : y % 256 - 128 = 0) : Value.tuple #[.int .i64 (x / 256 - 1), .int .i64 (y / 256), .bool true] = In3 x y := by
  have e : inOk x y = true := by unfold inOk; rw [decide_eq_true_iff]; left; omega
  unfold In3 inX inY; rw [e]; simp only [if_true]; rw [if_pos (by omega)]
theorem in_b {x y : Int} (h : ¬ (x % 256 - 128 = -128 ∧ y % 256 - 128 = 0)) (k : max (x % 256 - 128) (-(x % 256 - 128)) + max (y % 256 - 128) (-(y % 256 - 128)) < 128 ∨ (max (x % 256 - 128) (-(x % 256 - 128)) + max (y % 256 - 128) (-(y % 256 - 128)) = 128 ∧ 0 < x % 256 - 128)) : Value.tuple #[.int .i64 (x / 256), .int .i64 (y / 256), .bool true] = In3 x y := by
  have e : inOk x y = true := by unfold inOk; rw [decide_eq_true_iff]; right; omega
  unfold In3 inX inY; rw [e]; simp only [if_true]; rw [if_neg (by omega)]
theorem in_c {x y : Int} (h : ¬ (x % 256 - 128 = -128 ∧ y % 256 - 128 = 0)) (k : ¬ (max (x % 256 - 128) (-(x % 256 - 128)) + max (y % 256 - 128) (-(y % 256 - 128)) < 128 ∨ (max (x % 256 - 128) (-(x % 256 - 128)) + max (y % 256 - 128) (-(y % 256 - 128)) = 128 ∧ 0 < x % 256 - 128))) : Value.tuple #[.int .i64 0, .int .i64 0, .bool false] = In3 x y := by
  have e : inOk x y = false := by unfold inOk; rw [decide_eq_false_iff_not]; omega
  unfold In3 inX inY; rw [e]; rfl
set_option maxHeartbeats 4000000 in
theorem diamond_in (x y : Int) (h : MayP x y) (w : World) : Calls Try.prog 145 #[P2 x y] w (Ret (In3 x y) w) := by
  obtain ⟨x0, x1, y0, y1⟩ := h
  have g1 := bits_and_255s x
  have g2 := bits_and_255s y
  obtain ⟨r, hr⟩ : ∃ r, In3 x y = r := ⟨_, rfl⟩
  rw [hr]
  go_enter Try.func145, Try.ntmps145
  go_wp2
  refine wp_region_ext (by kernel_rfl) (by kernel_rfl) ?_
  repeat (go_big_quiet_step ((fail)))
  refine wpQuiet_nil ?_
  intro _ hw_ext
  obtain ⟨X1, hw_ext⟩ := hw_ext
  subst hw_ext
  go_upto_region 2 with fail
  refine wp_region_ext (by kernel_rfl) (by kernel_rfl) ?_
  repeat (go_big_quiet_step ((fail)))
  refine wpQuiet_nil ?_
  intro _ hw_ext
  obtain ⟨X2, hw_ext⟩ := hw_ext
  subst hw_ext
  go_wp2
  all_goals go_ret3
  all_goals refine Ret.of' (Eq.trans ?_ hr) (by (repeat (first | exact Below.refl _ _ | with_reducible refine Below.drew ?_ | with_reducible refine Below.ext ?_ (by first | exact Nat.le_refl _ | (simp; done) | (simp; omega)) _ | with_reducible refine Below.alloc ?_ (by first | exact Nat.le_refl _ | (simp; done) | (simp; omega)) _ | with_reducible refine Below.setCell ?_ (by first | exact Nat.le_refl _ | (simp; done) | (simp; omega)) _)))
  all_goals (try simp only [beq_iff_eq, beq_eq_false_iff_ne, ne_eq] at *)
  all_goals first
    | exact in_a (by omega) (by omega)
    | exact in_b (by omega) (by omega)
    | exact in_c (by omega) (by omega)
theorem way_under {W : Way} {w : World} {p : Nat} (ok : W.Ok) (h : WayAt w p W) (u : Int) (u0 : -8388608 ≤ u) (u1 : u ≤ 8388608) : Calls Try.prog 131 #[ptr p, .int .i64 u] w (Ret (.tuple #[.int .i64 (W.num u), .int .i64 W.den]) w) := by
  obtain ⟨a0, a1, a2, a3, b0, b1, b2, b3, k0, k1, f0, f1, l0, l1⟩ := ok
  have hc := h.cell
  simp only [Way.cells] at hc
  have hf := h.frozen
  have hl := h.lt
  clear h f0 f1 l0 l1
  obtain ⟨n, hn⟩ : ∃ n, W.num u = n := ⟨_, rfl⟩
  obtain ⟨d, hd⟩ : ∃ d, W.den = d := ⟨_, rfl⟩
  rw [hn, hd]
  simp only [ptr]
  obtain ⟨M, hM⟩ : ∃ M, 256 * u + 128 - W.au = M := ⟨_, rfl⟩
  have M0 : -4294967296 ≤ M ∧ M ≤ 4294967296 := by omega
  obtain ⟨M0, M1⟩ := M0
  by_cases hs : W.bu - W.au < 0
  · have dn : W.av * -(W.bu - W.au) + -(W.bv - W.av) * M - W.back = n := by
      rw [← hn, ← hM]; unfold Way.num Way.du Way.dv; rw [if_pos hs, if_pos hs]
    have dd : 256 * -(W.bu - W.au) = d := by rw [← hd]; unfold Way.den Way.du; rw [if_pos hs]
    have m1 := mul_bd2 (u := W.av) (v := -(W.bu - W.au)) (U := 536870912) (V := 1073741824) (by omega) (by omega) (by omega) (by omega) (by omega) (by omega)
    have m2 := mul_bd2 (u := -(W.bv - W.av)) (v := M) (U := 1073741824) (V := 4294967296) (by omega) (by omega) (by omega) (by omega) (by omega) (by omega)
    obtain ⟨s, hsum⟩ : ∃ s, W.av * -(W.bu - W.au) = s := ⟨_, rfl⟩
    obtain ⟨t, ht⟩ : ∃ t, -(W.bv - W.av) * M = t := ⟨_, rfl⟩
    have e1 : IntKind.i64.wrap (W.av * -(W.bu - W.au)) = s := by rw [← hsum]; exact IntWalk.i64_in _ (by omega)
    have e2 : IntKind.i64.wrap (-(W.bv - W.av) * (256 * u + 128 - W.au)) = t := by rw [hM, ← ht]; exact IntWalk.i64_in _ (by omega)
    rw [hsum, ht] at dn
    rw [hsum] at m1
    rw [ht] at m2
    clear hn hd hsum ht hM
    go_enter Try.func131, Try.ntmps131
    go_wp2
    refine wp_region_ext (by kernel_rfl) (by kernel_rfl) ?_
    repeat (go_big_quiet_step ((fail)))
    refine wpQuiet_nil ?_
    intro _ hw_ext
    obtain ⟨X1, hw_ext⟩ := hw_ext
    subst hw_ext
    go_upto_region 4 with fail
    refine wp_region_ext (by kernel_rfl) (by kernel_rfl) ?_
    repeat (go_big_quiet_step ((fail)))
    refine wpQuiet_nil ?_
    intro _ hw_ext
    obtain ⟨X2, hw_ext⟩ := hw_ext
    subst hw_ext
    go_wp2
    go_ret2
    exact Ret.of' (by simp only [← dn, ← dd]; rfl) (by (repeat (first | exact Below.refl _ _ | with_reducible refine Below.drew ?_ | with_reducible refine Below.ext ?_ (by first | exact Nat.le_refl _ | (simp; done) | (simp; omega)) _ | with_reducible refine Below.alloc ?_ (by first | exact Nat.le_refl _ | (simp; done) | (simp; omega)) _ | with_reducible refine Below.setCell ?_ (by first | exact Nat.le_refl _ | (simp; done) | (simp; omega)) _)))
  · have dn : W.av * (W.bu - W.au) + (W.bv - W.av) * M - W.back = n := by
      rw [← hn, ← hM]; unfold Way.num Way.du Way.dv; rw [if_neg hs, if_neg hs]
    have dd : 256 * (W.bu - W.au) = d := by rw [← hd]; unfold Way.den Way.du; rw [if_neg hs]
    have m1 := mul_bd2 (u := W.av) (v := W.bu - W.au) (U := 536870912) (V := 1073741824) (by omega) (by omega) (by omega) (by omega) (by omega) (by omega)
    have m2 := mul_bd2 (u := W.bv - W.av) (v := M) (U := 1073741824) (V := 4294967296) (by omega) (by omega) (by omega) (by omega) (by omega) (by omega)
    obtain ⟨s, hsum⟩ : ∃ s, W.av * (W.bu - W.au) = s := ⟨_, rfl⟩
    obtain ⟨t, ht⟩ : ∃ t, (W.bv - W.av) * M = t := ⟨_, rfl⟩
    have e1 : IntKind.i64.wrap (W.av * (W.bu - W.au)) = s := by rw [← hsum]; exact IntWalk.i64_in _ (by omega)
    have e2 : IntKind.i64.wrap ((W.bv - W.av) * (256 * u + 128 - W.au)) = t := by rw [hM, ← ht]; exact IntWalk.i64_in _ (by omega)
    rw [hsum, ht] at dn
    rw [hsum] at m1
    rw [ht] at m2
    clear hn hd hsum ht hM
    go_enter Try.func131, Try.ntmps131
    go_wp2
    refine wp_region_ext (by kernel_rfl) (by kernel_rfl) ?_
    repeat (go_big_quiet_step ((fail)))
    refine wpQuiet_nil ?_
    intro _ hw_ext
    obtain ⟨X1, hw_ext⟩ := hw_ext
    subst hw_ext
    go_upto_region 4 with fail
    refine wp_region_ext (by kernel_rfl) (by kernel_rfl) ?_
    repeat (go_big_quiet_step ((fail)))
    refine wpQuiet_nil ?_
    intro _ hw_ext
    obtain ⟨X2, hw_ext⟩ := hw_ext
    subst hw_ext
    go_wp2
    go_ret2
    exact Ret.of' (by simp only [← dn, ← dd]; rfl) (by (repeat (first | exact Below.refl _ _ | with_reducible refine Below.drew ?_ | with_reducible refine Below.ext ?_ (by first | exact Nat.le_refl _ | (simp; done) | (simp; omega)) _ | with_reducible refine Below.alloc ?_ (by first | exact Nat.le_refl _ | (simp; done) | (simp; omega)) _ | with_reducible refine Below.setCell ?_ (by first | exact Nat.le_refl _ | (simp; done) | (simp; omega)) _)))
theorem way_across {W : Way} {w : World} {p : Nat} (ok : W.Ok) (h : WayAt w p W) (u : Int) (u0 : -8388608 ≤ u) (u1 : u ≤ 8388608) (hd : 0 < W.du) : Calls Try.prog 112 #[ptr p, .int .i64 u] w (Ret (.int .i64 (W.across u)) w) := by
  have HU := Lib.hid (show Calls Try.prog 131 #[.pointer (some ⟨p, 0, none⟩), .int .i64 u] w _ from way_under ok h u u0 u1)
  have nb : -9223372036854775807 ≤ W.num u ∧ W.num u ≤ 9223372036854775807 := by
    obtain ⟨a0, a1, a2, a3, b0, b1, b2, b3, k0, k1, f0, f1, l0, l1⟩ := ok
    have d0 : -1073741824 ≤ W.du ∧ W.du ≤ 1073741824 := by unfold Way.du; split <;> omega
    have d1 : -1073741824 ≤ W.dv ∧ W.dv ≤ 1073741824 := by unfold Way.dv; split <;> omega
    have m1 := mul_bd2 (u := W.av) (v := W.du) (U := 536870912) (V := 1073741824) (by omega) (by omega) (by omega) (by omega) (by omega) (by omega)
    have m2 := mul_bd2 (u := W.dv) (v := 256 * u + 128 - W.au) (U := 1073741824) (V := 4294967296) (by omega) (by omega) (by omega) (by omega) (by omega) (by omega)
    unfold Way.num; omega
  have db : 0 < W.den ∧ W.den ≤ 274877906944 := by
    obtain ⟨a0, a1, a2, a3, b0, b1, b2, b3, k0, k1, f0, f1, l0, l1⟩ := ok
    have d0 : -1073741824 ≤ W.du ∧ W.du ≤ 1073741824 := by unfold Way.du; split <;> omega
    unfold Way.den; omega
  unfold Way.across
  obtain ⟨n, hn⟩ : ∃ n, W.num u = n := ⟨_, rfl⟩
  obtain ⟨d, hdd⟩ : ∃ d, W.den = d := ⟨_, rfl⟩
  rw [hn] at nb
  rw [hdd] at db
  have HU2 := HU.out
  rw [hn, hdd] at HU2
  have HU3 := Lib.hid HU2
  rw [hn, hdd]
  have F := Lib.hid (tdiv_floor n d db.1)
  obtain ⟨n0, n1⟩ := nb
  obtain ⟨d0, d1⟩ := db
  have dne : d ≠ 0 := by omega
  have qb : -9223372036854775807 ≤ n.tdiv d ∧ n.tdiv d ≤ 9223372036854775807 := by
    have := Int.natAbs_tdiv_le_natAbs n d
    omega
  obtain ⟨q0, q1⟩ := qb
  clear HU HU2 hn hdd hd
  simp only [ptr]
  go_enter Try.func112, Try.ntmps112
  go_wp2_with (first | (go_at_call 131; (with_reducible refine (HU3.out).mono ?_); rintro _ _ ⟨rfl, X_, rfl⟩))
  all_goals go_ret
  · exact Ret.of' (congrArg (Value.int .i64) (F.out.1 (by assumption))) (by (repeat (first | exact Below.refl _ _ | with_reducible refine Below.drew ?_ | with_reducible refine Below.ext ?_ (by first | exact Nat.le_refl _ | (simp; done) | (simp; omega)) _ | with_reducible refine Below.alloc ?_ (by first | exact Nat.le_refl _ | (simp; done) | (simp; omega)) _ | with_reducible refine Below.setCell ?_ (by first | exact Nat.le_refl _ | (simp; done) | (simp; omega)) _)))
  · exact Ret.of' (congrArg (Value.int .i64) (F.out.2 (by assumption))) (by (repeat (first | exact Below.refl _ _ | with_reducible refine Below.drew ?_ | with_reducible refine Below.ext ?_ (by first | exact Nat.le_refl _ | (simp; done) | (simp; omega)) _ | with_reducible refine Below.alloc ?_ (by first | exact Nat.le_refl _ | (simp; done) | (simp; omega)) _ | with_reducible refine Below.setCell ?_ (by first | exact Nat.le_refl _ | (simp; done) | (simp; omega)) _)))
end Go.Proofs.Ytmlhbbkgfffmcaa
