/- The walk of the reference's root, of layer 2. Condition: 128 bits. -/
import Derived.Test.YtmlhbbkgfffmcaaNumP
namespace Go.Proofs.Ytmlhbbkgfffmcaa
set_option linter.unusedVariables false
set_option linter.unusedSimpArgs false
open Go.RowKit
theorem p126 : (2 : Int) ^ 126 = 85070591730234615865843651857942052864 := by decide
theorem step_facts {P y : Int} (h0 : 0 ≤ y) (hP : 0 < P) (hb : y + 2 * P ≤ 9223372036854775808) : wrap64 P = P ∧ wrap64 (y + P) = y + P ∧ sml (y + P) := by
  unfold wrap64 sml; omega
theorem can_126 {l : List Int} (h : Can l) : l.length ≤ 126 ↔ bv l < 85070591730234615865843651857942052864 := by
  rw [← p126]
  constructor
  · intro hl
    have := (bv_bd h.1).2
    have := pow_mono hl
    omega
  · intro hv
    apply Classical.byContradiction
    intro hn
    have := h.low (by omega)
    have := pow_mono (show 126 ≤ l.length - 1 by omega)
    omega
set_option maxRecDepth 100000 in
set_option maxHeartbeats 8000000 in
theorem rroot_no (a : Int) (ha : inR a) (h : a < 0 ∨ 85070591730234615865843651857942052864 ≤ a) (w : World) : Calls Try.prog 46 #[I2 a] w (Ret (.tuple #[.int .i64 0, .bool false]) w) := by
  have F := Lib.hid (fun w => from_any a ha w)
  by_cases hs : a < 0
  · have d1 : decide (a < 0) = true := by simp [hs]
    clear h hs
    go_enter Try.func46, Try.ntmps46
    go_wp2_with (first
      | (go_at_call 104; (with_reducible refine (F.out _).mono ?_); rintro _ _ ⟨v1, rfl, g1, ⟨Y, rfl⟩⟩; obtain ⟨a1, k1, c1, e1, h1⟩ := RN.minus g1; cases e1; clear g1 h1))
    refine bodyPost_ret (v := .tuple #[.int .i64 0, .bool false]) (by simp [results, Try.results46, go_sem]) rfl (Ret.of (by (repeat (first | exact Below.refl _ _ | with_reducible refine Below.drew ?_ | with_reducible refine Below.ext ?_ (by first | exact Nat.le_refl _ | (simp; done) | (simp; omega)) _ | with_reducible refine Below.alloc ?_ (by first | exact Nat.le_refl _ | (simp; done) | (simp; omega)) _ | with_reducible refine Below.setCell ?_ (by first | exact Nat.le_refl _ | (simp; done) | (simp; omega)) _))))
  · have h2 : 85070591730234615865843651857942052864 ≤ a := by omega
    have G := Lib.hid (fun (w : World) v (h : RN w v a 129) => show ∃ (b : Option Addr) (k c : Nat), v = .agg #[.bool false, .slice b k c] ∧ 126 < (k : Int) by
      obtain ⟨sv, l, rfl, hl, hcan, hv, -⟩ := h.plus (by omega)
      obtain ⟨b, c, rfl, -⟩ := hl.form
      refine ⟨b, _, c, rfl, ?_⟩
      have := can_126 hcan
      omega)
    clear h h2
    go_enter Try.func46, Try.ntmps46
    go_wp2_with (first
      | (go_at_call 104; (with_reducible refine (F.out _).mono ?_); rintro _ _ ⟨v1, rfl, g1, ⟨Y, rfl⟩⟩; obtain ⟨a1, k1, c1, rfl, h1⟩ := G.out _ _ g1; clear g1))
    refine bodyPost_ret (v := .tuple #[.int .i64 0, .bool false]) (by simp [results, Try.results46, go_sem]) rfl (Ret.of (by (repeat (first | exact Below.refl _ _ | with_reducible refine Below.drew ?_ | with_reducible refine Below.ext ?_ (by first | exact Nat.le_refl _ | (simp; done) | (simp; omega)) _ | with_reducible refine Below.alloc ?_ (by first | exact Nat.le_refl _ | (simp; done) | (simp; omega)) _ | with_reducible refine Below.setCell ?_ (by first | exact Nat.le_refl _ | (simp; done) | (simp; omega)) _))))
set_option maxRecDepth 100000 in
set_option maxHeartbeats 8000000 in
theorem rroot_yes (a n : Int) (h0 : 0 ≤ a) (h1 : a < 85070591730234615865843651857942052864) (n0 : 0 ≤ n) (hn : n * n ≤ a) (hn1 : a < (n + 1) * (n + 1)) (w : World) : Calls Try.prog 46 #[I2 a] w (Ret (.tuple #[.int .i64 n, .bool true]) w) := by
  have ha : inR a := by unfold inR; omega
  have F := Lib.hid (fun w => from_any a ha w)
  have G := Lib.hid (fun (w : World) v (h : RN w v a 129) => show ∃ (b : Option Addr) (k c : Nat), v = .agg #[.bool false, .slice b k c] ∧ (k : Int) ≤ 126 by
    obtain ⟨sv, l, rfl, hl, hcan, hv, -⟩ := h.plus h0
    obtain ⟨b, c, rfl, -⟩ := hl.form
    refine ⟨b, _, c, rfl, ?_⟩
    have := can_126 hcan
    omega)
  go_enter Try.func46, Try.ntmps46
  go_wp2_with (first
    | (go_at_call 104; (with_reducible refine (F.out _).mono ?_); rintro _ _ ⟨v1, rfl, g1, ⟨Y, rfl⟩⟩; obtain ⟨b1, k1, c1, rfl, hk1⟩ := G.out _ _ g1; have N1 := Lib.hid g1; clear g1))
  refine wp_abs (F := fun wx => Row wx (w.heap.size + 1 + Y.sz) #[.bool false, .slice b1 k1 c1] 138 ∧ Below w.heap.size w wx ∧ RN wx (.agg #[.bool false, .slice b1 k1 c1]) a 129) ⟨by (repeat (first | assumption | with_reducible refine Row.ext ?_ _ | with_reducible refine row_drew ?_ | (with_reducible refine row_last ?_; first | rfl | (simp; done)) | with_reducible refine Row.alloc ?_ _)), by (repeat (first | exact Below.refl _ _ | with_reducible refine Below.drew ?_ | with_reducible refine Below.ext ?_ (by first | exact Nat.le_refl _ | (simp; done) | (simp; omega)) _ | with_reducible refine Below.alloc ?_ (by first | exact Nat.le_refl _ | (simp; done) | (simp; omega)) _ | with_reducible refine Below.setCell ?_ (by first | exact Nat.le_refl _ | (simp; done) | (simp; omega)) _)), by (repeat (first | assumption | exact N1.out | exact N2.out | exact N3.out | exact N4.out | with_reducible refine RN.ext ?_ _ | with_reducible refine RN.alloc ?_ _ | with_reducible refine RN.drew ?_))⟩ ?_
  intro wx ⟨R, BW, NX⟩
  generalize w.heap.size + 1 + Y.sz = p at *
  have r0 := R.lt
  have bz := BW.size
  have q0 := R.cell 0
  have q1 := R.cell 1
  simp at q0 q1
  replace N1 := Lib.hid NX
  clear R NX
  go_loopw [5, 6] (fun o i wr => ∃ (j : Nat) (q : Int) (X : Xt), o = .int .i64 (q * 2 ^ j) ∧ i = .int .i64 ((j : Int) - 1) ∧ j ≤ 63 ∧ 0 ≤ q ∧ (q * 2 ^ j) * (q * 2 ^ j) ≤ a ∧ a < (q * 2 ^ j + 2 ^ j) * (q * 2 ^ j + 2 ^ j) ∧ wr = wx.ext X)
    (fun o i _ => (intOf i + 1).toNat)
  case atStart => exact ⟨63, 0, _, by simp, by simp, by omega, by omega, by simp; exact h0, by simp; exact h1, (ext_none' _).symm⟩
  case round =>
    obtain ⟨j, q, X, rfl, rfl, hj, hq, hle, hgt, rfl⟩ := hrel
    cases j with
    | zero =>
      simp only [Int.pow_zero, Int.mul_one] at hle hgt ⊢
      have e1 : q = n := by
        have a1 := sq_le (m := q) (n := n) (a := a) n0 hle hn1
        have a2 := sq_le (m := n) (n := q) (a := a) hq hn hgt
        omega
      subst e1
      clear hle hgt hn hn1
      go_wp2
      refine bodyPost_ret (v := .tuple #[.int .i64 q, .bool true]) (by simp [results, Try.results46, go_sem]) rfl (Ret.of (by (repeat (first | assumption | exact Below.refl _ _ | with_reducible refine Below.drew ?_ | with_reducible refine Below.ext ?_ (by first | exact Nat.le_refl _ | omega | (simp; done) | (simp; omega)) _ | with_reducible refine Below.alloc ?_ (by first | exact Nat.le_refl _ | omega | (simp; done) | (simp; omega)) _ | with_reducible refine Below.setCell ?_ (by first | exact Nat.le_refl _ | omega | (simp; done) | (simp; omega)) _))))
    | succ j =>
      have ej : ((j + 1 : Nat) : Int) - 1 = (j : Int) := by omega
      rw [ej]
      have hj2 : (j : Int) ≤ 62 := by omega
      have hp := p2_pos j
      have hy : q * 2 ^ (j + 1) + 2 ^ (j + 1) ≤ 9223372036854775808 := by
        obtain ⟨k, hk⟩ := Nat.exists_eq_add_of_le hj
        have e63 : (9223372036854775808 : Int) = 2 ^ (j + 1) * 2 ^ k := by rw [← Int.pow_add, ← hk]; decide
        have hlt : q * 2 ^ (j + 1) < 9223372036854775808 := by
          apply Int.not_le.1
          intro hc
          have := Int.mul_le_mul hc hc (by omega) (by omega)
          omega
        rw [e63] at hlt ⊢
        have hq2 : q < 2 ^ k := by
          apply Int.not_le.1
          intro hc
          have := Int.mul_le_mul_of_nonneg_right hc (show 0 ≤ (2 : Int) ^ (j + 1) by have := p2_pos (j + 1); omega)
          rw [Int.mul_comm] at hlt
          rw [Int.mul_comm (2 ^ k)] at this
          rw [Int.mul_comm q] at this
          omega
        have := Int.mul_le_mul_of_nonneg_right (show q + 1 ≤ 2 ^ k by omega) (show 0 ≤ (2 : Int) ^ (j + 1) by have := p2_pos (j + 1); omega)
        rw [Int.add_mul, Int.one_mul, Int.mul_comm (2 ^ k)] at this
        omega
      have hy0 : 0 ≤ q * 2 ^ (j + 1) := Int.mul_nonneg hq (by have := p2_pos (j + 1); omega)
      have hy : q * 2 ^ (j + 1) + 2 * 2 ^ j ≤ 9223372036854775808 := by rw [← p2_succ]; exact hy
      clear hn hn1
      have hx : q * 2 ^ (j + 1) + 2 ^ j = (2 * q + 1) * 2 ^ j := by rw [p2_succ]; grind
      obtain ⟨w1, w2, hsx⟩ := step_facts hy0 hp hy
      rw [hx] at w2 hsx
      have hgt2 : a < ((2 * q + 1) * 2 ^ j + 2 ^ j) * ((2 * q + 1) * 2 ^ j + 2 ^ j) := by
        have e : (2 * q + 1) * 2 ^ j + 2 ^ j = q * 2 ^ (j + 1) + 2 ^ (j + 1) := by rw [p2_succ]; grind
        rw [e]; exact hgt
      have hle2 : (2 * q * 2 ^ j) * (2 * q * 2 ^ j) ≤ a := by
        have e : 2 * q * 2 ^ j = q * 2 ^ (j + 1) := by rw [p2_succ]; grind
        rw [e]; exact hle
      have eo : q * 2 ^ (j + 1) = 2 * q * 2 ^ j := by rw [p2_succ]; grind
      have W1 := Lib.hid w1
      have W2 := Lib.hid w2
      have HX := Lib.hid hx
      have HLE := Lib.hid hle2
      have HGT := Lib.hid hgt2
      have EO := Lib.hid eo
      clear hle hgt h1 hle2 hgt2 w1 w2 hx eo
      go_upto_region 9 with fail
      simp only [HX.out]
      have hq0 : 0 ≤ 2 * q := by omega
      have e20 : (2 * q + 1) * 2 ^ j = 2 * q * 2 ^ j + 2 ^ j := by grind
      have E20 := Lib.hid e20
      clear e20
      generalize (2 * q + 1) * 2 ^ j = x at *
      by_cases hc : x * x ≤ a
      · have d : decide (sgn (x * x - a) ≤ 0) = true := by have := sgn_01 (x * x - a); simp; omega
        have HC := Lib.hid hc
        clear hc hy hy0
        refine wp_region_rel 8 [none, some ([], srN x 129), none, some ([], srN x 129), some ([1, 3], srN (x * x) 387), none, some ([4], srV (.int .i64 (sgn (x * x - a)))), none] (by kernel_rfl) (by kernel_rfl) ?_
        simp only [List.take_succ_cons, List.take_zero, List.drop_succ_cons, List.drop_zero]
        (repeat (first | (refine rel_none ?_; intro K_ hK_; go_big_quiet_op; go_big_quiet_on) | simp only [Act.put, List.setIfInBounds_toArray, List.set_cons_zero, List.set_cons_succ]))
        refine rel_some rfl (fun w_ hw_ hk_ K_ hK_ => ?_) (fun v28 f28 => ?_)
        · obtain ⟨X_, rfl⟩ := hw_
          go_simp
          go_at_call 105
          refine (rnum_any x hsx _).mono ?_
          rintro _ _ ⟨v, rfl, h1, h2⟩
          exact hK_ _ _ h1 h2
        obtain ⟨m28, a28, k28, c28, rfl⟩ := f28
        (repeat (first | (refine rel_none ?_; intro K_ hK_; go_big_quiet_op; go_big_quiet_on) | simp only [Act.put, List.setIfInBounds_toArray, List.set_cons_zero, List.set_cons_succ]))
        refine rel_some rfl (fun w_ hw_ hk_ K_ hK_ => ?_) (fun v30 f30 => ?_)
        · obtain ⟨X_, rfl⟩ := hw_
          go_simp
          go_at_call 105
          refine (rnum_any x hsx _).mono ?_
          rintro _ _ ⟨v, rfl, h1, h2⟩
          exact hK_ _ _ h1 h2
        obtain ⟨m30, a30, k30, c30, rfl⟩ := f30
        (repeat (first | (refine rel_none ?_; intro K_ hK_; go_big_quiet_op; go_big_quiet_on) | simp only [Act.put, List.setIfInBounds_toArray, List.set_cons_zero, List.set_cons_succ]))
        refine rel_some rfl (fun w_ hw_ hk_ K_ hK_ => ?_) (fun v31 f31 => ?_)
        · obtain ⟨X_, rfl⟩ := hw_
          have h1 := (hk_ (1, _) (by repeat (first | exact List.mem_cons_self | refine List.mem_cons_of_mem _ ?_))) (by simp)
          have h3 := (hk_ (3, _) (by repeat (first | exact List.mem_cons_self | refine List.mem_cons_of_mem _ ?_))) (by simp)
          go_simp
          go_at_call 108
          refine (prod_any _ _ x x 129 129 _ h1 h3 (by decide)).mono ?_
          rintro _ _ ⟨v, rfl, h1, h2⟩
          exact hK_ _ _ h1 h2
        obtain ⟨m31, a31, k31, c31, rfl⟩ := f31
        (repeat (first | (refine rel_none ?_; intro K_ hK_; go_big_quiet_op; go_big_quiet_on) | simp only [Act.put, List.setIfInBounds_toArray, List.set_cons_zero, List.set_cons_succ]))
        refine rel_some rfl (fun w_ hw_ hk_ K_ hK_ => ?_) (fun v33 f33 => ?_)
        · obtain ⟨X_, rfl⟩ := hw_
          have h4 := (hk_ (4, _) (by repeat (first | exact List.mem_cons_self | refine List.mem_cons_of_mem _ ?_))) (by simp)
          go_simp
          go_at_call 107
          refine (order_any _ _ (x * x) a 387 129 _ h4 ((N1.out.ext _).ext _) (by decide) (by decide)).mono ?_
          rintro _ _ ⟨rfl, h2⟩
          exact hK_ _ _ rfl h2
        obtain rfl := f33
        (repeat (first | (refine rel_none ?_; intro K_ hK_; go_big_quiet_op; go_big_quiet_on) | simp only [Act.put, List.setIfInBounds_toArray, List.set_cons_zero, List.set_cons_succ]))
        refine rel_nil ?_
        intro w_ hw_ k
        obtain ⟨Z, rfl⟩ := hw_
        clear k
        go_wp2
        go_roundw
        case rel => exact ⟨j, 2 * q + 1, _, by rw [E20.out]; congr 1; grind, rfl, by omega, by omega, by rw [show (2 * q + 1) * 2 ^ j = x by rw [E20.out]; grind]; exact HC.out, by rw [show (2 * q + 1) * 2 ^ j = x by rw [E20.out]; grind]; exact HGT.out, World.ext_ext⟩
        case measure => (simp [intOf]) <;> omega
      · have d : decide (sgn (x * x - a) ≤ 0) = false := by have := sgn_01 (x * x - a); simp; omega
        have HC := Lib.hid hc
        clear hc hy hy0
        refine wp_region_rel 8 [none, some ([], srN x 129), none, some ([], srN x 129), some ([1, 3], srN (x * x) 387), none, some ([4], srV (.int .i64 (sgn (x * x - a)))), none] (by kernel_rfl) (by kernel_rfl) ?_
        simp only [List.take_succ_cons, List.take_zero, List.drop_succ_cons, List.drop_zero]
        (repeat (first | (refine rel_none ?_; intro K_ hK_; go_big_quiet_op; go_big_quiet_on) | simp only [Act.put, List.setIfInBounds_toArray, List.set_cons_zero, List.set_cons_succ]))
        refine rel_some rfl (fun w_ hw_ hk_ K_ hK_ => ?_) (fun v28 f28 => ?_)
        · obtain ⟨X_, rfl⟩ := hw_
          go_simp
          go_at_call 105
          refine (rnum_any x hsx _).mono ?_
          rintro _ _ ⟨v, rfl, h1, h2⟩
          exact hK_ _ _ h1 h2
        obtain ⟨m28, a28, k28, c28, rfl⟩ := f28
        (repeat (first | (refine rel_none ?_; intro K_ hK_; go_big_quiet_op; go_big_quiet_on) | simp only [Act.put, List.setIfInBounds_toArray, List.set_cons_zero, List.set_cons_succ]))
        refine rel_some rfl (fun w_ hw_ hk_ K_ hK_ => ?_) (fun v30 f30 => ?_)
        · obtain ⟨X_, rfl⟩ := hw_
          go_simp
          go_at_call 105
          refine (rnum_any x hsx _).mono ?_
          rintro _ _ ⟨v, rfl, h1, h2⟩
          exact hK_ _ _ h1 h2
        obtain ⟨m30, a30, k30, c30, rfl⟩ := f30
        (repeat (first | (refine rel_none ?_; intro K_ hK_; go_big_quiet_op; go_big_quiet_on) | simp only [Act.put, List.setIfInBounds_toArray, List.set_cons_zero, List.set_cons_succ]))
        refine rel_some rfl (fun w_ hw_ hk_ K_ hK_ => ?_) (fun v31 f31 => ?_)
        · obtain ⟨X_, rfl⟩ := hw_
          have h1 := (hk_ (1, _) (by repeat (first | exact List.mem_cons_self | refine List.mem_cons_of_mem _ ?_))) (by simp)
          have h3 := (hk_ (3, _) (by repeat (first | exact List.mem_cons_self | refine List.mem_cons_of_mem _ ?_))) (by simp)
          go_simp
          go_at_call 108
          refine (prod_any _ _ x x 129 129 _ h1 h3 (by decide)).mono ?_
          rintro _ _ ⟨v, rfl, h1, h2⟩
          exact hK_ _ _ h1 h2
        obtain ⟨m31, a31, k31, c31, rfl⟩ := f31
        (repeat (first | (refine rel_none ?_; intro K_ hK_; go_big_quiet_op; go_big_quiet_on) | simp only [Act.put, List.setIfInBounds_toArray, List.set_cons_zero, List.set_cons_succ]))
        refine rel_some rfl (fun w_ hw_ hk_ K_ hK_ => ?_) (fun v33 f33 => ?_)
        · obtain ⟨X_, rfl⟩ := hw_
          have h4 := (hk_ (4, _) (by repeat (first | exact List.mem_cons_self | refine List.mem_cons_of_mem _ ?_))) (by simp)
          go_simp
          go_at_call 107
          refine (order_any _ _ (x * x) a 387 129 _ h4 ((N1.out.ext _).ext _) (by decide) (by decide)).mono ?_
          rintro _ _ ⟨rfl, h2⟩
          exact hK_ _ _ rfl h2
        obtain rfl := f33
        (repeat (first | (refine rel_none ?_; intro K_ hK_; go_big_quiet_op; go_big_quiet_on) | simp only [Act.put, List.setIfInBounds_toArray, List.set_cons_zero, List.set_cons_succ]))
        refine rel_nil ?_
        intro w_ hw_ k
        obtain ⟨Z, rfl⟩ := hw_
        clear k
        go_wp2
        go_roundw
        case rel => exact ⟨j, 2 * q, _, by rw [EO.out], rfl, by omega, hq0, HLE.out, by have h1 := HC.out; have h2 := E20.out; rw [← h2]; omega, World.ext_ext⟩
        case measure => (simp [intOf]) <;> omega
end Go.Proofs.Ytmlhbbkgfffmcaa
