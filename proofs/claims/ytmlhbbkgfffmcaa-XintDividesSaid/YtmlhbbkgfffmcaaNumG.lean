/- The walks of the reference of layer 2: products. Conditions: the values read as numbers. -/
import Derived.Test.YtmlhbbkgfffmcaaNumF
namespace Go.Proofs.Ytmlhbbkgfffmcaa
set_option linter.unusedVariables false
set_option linter.unusedSimpArgs false
open Go.RowKit
theorem bv_noughts (i : Nat) (l : List Int) : bv (List.replicate i 0 ++ l) = bv l * 2 ^ i := by
  induction i with
  | zero => simp
  | succ i ih =>
    rw [List.replicate_succ, List.cons_append, bv, ih, p2_succ]
    grind
theorem bin_noughts (i : Nat) : Bin (List.replicate i 0) := fun j => by
  unfold bt
  rw [List.getD_eq_getElem?_getD, List.getElem?_replicate]
  split <;> decide
theorem bv_take_succ {l : List Int} {i : Nat} (h : i < l.length) : bv (l.take (i + 1)) = bv (l.take i) + bt l i * 2 ^ i := by
  have e : l.take (i + 1) = l.take i ++ [bt l i] := by
    rw [List.take_succ_eq_append_getElem h, bt, List.getD_eq_getElem?_getD, List.getElem?_eq_getElem h]; rfl
  rw [e, bv_app, List.length_take, Nat.min_eq_left (by omega)]
set_option maxRecDepth 100000 in
set_option maxHeartbeats 4000000 in
theorem prod_any (va vb : Value) (x y : Int) (n k : Nat) (w : World) (ha : RN w va x n) (hb : RN w vb y k) (hnk : n + k ≤ 1000) :
    Calls Try.prog 108 #[va, vb] w (RetR (fun v w => RN w v (x * y) (n + n + k)) w) := by
  obtain ⟨i0, hi, hz0, hz1, hz2⟩ := info_parts info_u8
  obtain ⟨m, sa, a, rfl, ra, can_a, -, rfl, la⟩ := ha
  obtain ⟨m', sb, b, rfl, rb, can_b, -, rfl, lb⟩ := hb
  have HA := Lib.hid ra
  have HB := Lib.hid rb
  have BA := ra.bin
  have BB := rb.bin
  obtain ⟨aa, acap, rfl, -⟩ := ra.form
  obtain ⟨ba, bcap, rfl, -⟩ := rb.form
  clear ra rb can_a can_b
  go_enter Try.func108, Try.ntmps108
  go_wp2
  refine wp_abs (F := fun wx => Row wx w.heap.size #[.bool m, .slice aa a.length acap] 138 ∧ Row wx (w.heap.size + 1) #[.bool m', .slice ba b.length bcap] 138 ∧ Row wx (w.heap.size + 1 + 1) #[.bool false, .slice none 0 0] 138 ∧ Below w.heap.size w wx ∧ Rb wx (.slice aa a.length acap) a ∧ Rb wx (.slice ba b.length bcap) b) ⟨by (repeat (first | assumption | with_reducible refine Row.ext ?_ _ | with_reducible refine row_drew ?_ | (with_reducible refine row_last ?_; first | rfl | (simp; done)) | with_reducible refine Row.alloc ?_ _)), by (repeat (first | assumption | with_reducible refine Row.ext ?_ _ | with_reducible refine row_drew ?_ | (with_reducible refine row_last ?_; first | rfl | (simp; done)) | with_reducible refine Row.alloc ?_ _)), by (repeat (first | assumption | with_reducible refine Row.ext ?_ _ | with_reducible refine row_drew ?_ | (with_reducible refine row_last ?_; first | rfl | (simp; done)) | with_reducible refine Row.alloc ?_ _)), by (repeat (first | exact Below.refl _ _ | with_reducible refine Below.drew ?_ | with_reducible refine Below.ext ?_ (by first | exact Nat.le_refl _ | (simp; done) | (simp; omega)) _ | with_reducible refine Below.alloc ?_ (by first | exact Nat.le_refl _ | (simp; done) | (simp; omega)) _ | with_reducible refine Below.setCell ?_ (by first | exact Nat.le_refl _ | (simp; done) | (simp; omega)) _)), by (repeat (first | assumption | exact HA.out | exact HB.out | with_reducible refine Rb.ext ?_ _ | with_reducible refine Rb.alloc ?_ _ | with_reducible refine Rb.drew ?_)), by (repeat (first | assumption | exact HA.out | exact HB.out | with_reducible refine Rb.ext ?_ _ | with_reducible refine Rb.alloc ?_ _ | with_reducible refine Rb.drew ?_))⟩ ?_
  clear HA HB
  intro wx ⟨R0, R1, R2, BW, HA, HB⟩
  have sz0 := R0.lt
  have sz1 := R1.lt
  have sz2 := R2.lt
  have c00 := R0.cell 0
  have c01 := R0.cell 1
  have c10 := R1.cell 0
  have c11 := R1.cell 1
  have c20 := R2.cell 0
  have c21 := R2.cell 1
  have f20 := R2.frozen 0
  have f21 := R2.frozen 1
  simp at c00 c01 c10 c11 c20 c21
  replace HA := Lib.hid HA
  replace HB := Lib.hid HB
  have HR2 := Lib.hid R2
  clear R0 R1 R2
  go_loopw [5, 6] (fun o i wr => ∃ (v : Value) (l : List Int) (j : Nat) (X : Xt), o = v ∧ i = .int .i64 j ∧ j ≤ a.length ∧ wr = wx.ext X ∧ Rb wr v l ∧ bv l = bv (a.take j) * bv b ∧ l.length ≤ a.length + j + b.length)
    (fun o i _ => a.length - (intOf i).toNat)
  case atStart => exact ⟨_, [], 0, _, rfl, rfl, by omega, (ext_none' _).symm, Rb.nil, by simp [bv], by simp⟩
  case round =>
    obtain ⟨v, l, j, X, rfl, rfl, hj, rfl, hv, he, hl⟩ := hrel
    obtain ⟨a1, cap1, rfl, -⟩ := hv.form
    have HV := Lib.hid hv
    have HE := Lib.hid he
    clear hv he
    by_cases hlt : j < a.length
    · have hc0 := fun b off (h : aa = some ⟨b, off, none⟩) => (show Rb wx (.slice (some ⟨b, off, none⟩) a.length acap) a by rw [← h]; exact HA.out).cell hlt
      obtain ⟨b0, off, rfl⟩ : ∃ b off, aa = some ⟨b, off, none⟩ := by
        obtain ⟨-, -, a', cap', e, -, -, h4⟩ := HA.out
        cases e
        rcases h4 with h | ⟨b, off, h, -⟩
        · simp [h] at hlt
        · exact ⟨b, off, h⟩
      obtain ⟨c0, hb0⟩ := hc0 b0 off rfl
      obtain ⟨b1, b2⟩ := BA j
      have hts := bv_take_succ hlt
      clear hc0
      by_cases h1 : bt a j = 1
      · have d : (bt a j == 1) = true := by simp [h1]
        rw [h1] at hts c0 d
        have hj2 : j ≤ 1000 := by omega
        clear h1
        go_wp2
        refine wp_region_rel 7 [none, none, some ([], srFull (List.replicate j 0)), none, none, some ([2], srB (List.replicate j 0 ++ b)), some ([5], srQ fun l' => bv l' = bv l + bv b * 2 ^ j ∧ l'.length ≤ max l.length (j + b.length) + 1)] (by kernel_rfl) (by kernel_rfl) ?_
        simp only [List.take_succ_cons, List.take_zero, List.drop_succ_cons, List.drop_zero]
        (repeat (first | (refine rel_none ?_; intro K_ hK_; go_big_quiet_op; go_big_quiet_on) | simp only [Act.put, List.setIfInBounds_toArray, List.set_cons_zero, List.set_cons_succ]))
        refine rel_some rfl (fun w_ hw_ hk_ K_ hK_ => ?_) (fun v22 f22 => ?_)
        · obtain ⟨X_, rfl⟩ := hw_
          go_simp
          obtain ⟨w3, hr, h1, h2⟩ := make_bits ((wx.ext X).ext X_) 136 5 i0 Try.underlying136 hi hz0 hz1 hz2 rfl j (by omega)
          rw [hr]
          exact hK_ _ _ h1 h2
        obtain ⟨g22, rfl⟩ := f22
        rw [List.length_replicate]
        (repeat (first | (refine rel_none ?_; intro K_ hK_; go_big_quiet_op; go_big_quiet_on) | simp only [Act.put, List.setIfInBounds_toArray, List.set_cons_zero, List.set_cons_succ]))
        refine rel_some rfl (fun w_ hw_ hk_ K_ hK_ => ?_) (fun v25 f25 => ?_)
        · obtain ⟨X_, rfl⟩ := hw_
          have h1 := (hk_ (2, _) (by repeat (first | exact List.mem_cons_self | refine List.mem_cons_of_mem _ ?_))) (by simp)
          have h9 : Rb _ (.slice (some ⟨g22, 0, none⟩) j j) (List.replicate j 0) := h1.2
          refine wp_append_bits _ _ 136 5 rfl i0 Try.underlying136 hi hz0 hz1 hz2 g22 0 _ (List.replicate j 0) b rfl h9 ?_ (by simp; omega) (fun v w1 h2 h3 _ => hK_ _ _ h2 h3)
          show Rb _ (.slice ba b.length bcap) b
          (repeat (first | assumption | exact HA.out | exact HB.out | with_reducible refine Rb.ext ?_ _ | with_reducible refine Rb.alloc ?_ _ | with_reducible refine Rb.drew ?_))
        obtain ⟨a25, k25, c25, rfl⟩ := f25
        (repeat (first | (refine rel_none ?_; intro K_ hK_; go_big_quiet_op; go_big_quiet_on) | simp only [Act.put, List.setIfInBounds_toArray, List.set_cons_zero, List.set_cons_succ]))
        refine rel_some rfl (fun w_ hw_ hk_ K_ hK_ => ?_) (fun v26 f26 => ?_)
        · obtain ⟨X_, rfl⟩ := hw_
          have h1 := (hk_ (5, _) (by repeat (first | exact List.mem_cons_self | refine List.mem_cons_of_mem _ ?_))) (by simp)
          go_simp
          go_at_call 139
          refine (more_any _ _ _ _ _ (HV.out.ext _) h1 (by omega) (by simp; omega)).mono ?_
          rintro _ _ ⟨v, rfl, ⟨l', h2, h3, h4⟩, h5⟩
          rw [bv_noughts] at h3
          simp only [List.length_append, List.length_replicate] at h4
          exact hK_ _ _ ⟨l', h2, h3, h4⟩ h5
        obtain ⟨a26, k26, c26, rfl⟩ := f26
        (repeat (first | (refine rel_none ?_; intro K_ hK_; go_big_quiet_op; go_big_quiet_on) | simp only [Act.put, List.setIfInBounds_toArray, List.set_cons_zero, List.set_cons_succ]))
        refine rel_nil ?_
        intro w_ hw_ hk
        obtain ⟨Y, rfl⟩ := hw_
        obtain ⟨l', g1, g2, g3⟩ := (hk (6, _) (by repeat (first | exact List.mem_cons_self | refine List.mem_cons_of_mem _ ?_)))
        have G1 := Lib.hid g1
        clear g1 hk
        go_wp2
        go_roundw
        case rel => exact ⟨_, l', j + 1, _, rfl, by simp, by omega, World.ext_ext, G1.out, by rw [g2, hts, HE.out]; grind, by omega⟩
        case measure => simp [intOf]; omega
      · have d : (bt a j == 1) = false := by simp [h1]
        have h0 : bt a j = 0 := by omega
        rw [h0] at hts c0 d
        simp at hts
        clear h1
        go_wp2
        go_roundw
        case rel => exact ⟨_, l, j + 1, _, rfl, by simp, by omega, rfl, HV.out, by rw [hts]; exact HE.out, by omega⟩
        case measure => simp [intOf]; omega
    · obtain rfl : j = a.length := by omega
      rw [List.take_length] at HE
      go_wp2_with (first | (go_at_call 135; (with_reducible refine (trim_any _ _ l _ HV.out).mono ?_); rintro _ _ ⟨v1, rfl, h1, ⟨Y, rfl⟩⟩; obtain ⟨m1, a2, k1, c1, rfl⟩ := h1.form; have H1 := Lib.hid h1; clear h1))
      have r2 := ((((HR2.out.set 0 (.bool m1)).set 1 (.slice a2 k1 c1)).ext X).ext Y)
      have e0 := r2.cell 0
      have e1 := r2.cell 1
      simp at e0 e1
      clear r2
      refine bodyPost_ret (v := .agg #[.bool m1, .slice a2 k1 c1]) (by simp [results, Try.results108, go_sem, e0, e1]) rfl ?_
      have e : pmv (bv l) (!(m == m')) = pmv (bv a) m * pmv (bv b) m' := by rw [HE.out]; cases m <;> cases m' <;> simp [pmv, Int.mul_neg, Int.neg_mul]
      rw [← e]
      exact fin_num H1.out (HR2.out.ext X |>.ext Y) (fun d => by simp) ((chg_two.both (by simp [size_set]) X).both (by simp [size_set]) Y) (by (repeat (first | assumption | exact Below.refl _ _ | with_reducible refine Below.drew ?_ | with_reducible refine Below.ext ?_ (by first | exact Nat.le_refl _ | omega | (simp; done) | (simp; omega)) _ | with_reducible refine Below.alloc ?_ (by first | exact Nat.le_refl _ | omega | (simp; done) | (simp; omega)) _ | with_reducible refine Below.setCell ?_ (by first | exact Nat.le_refl _ | omega | (simp; done) | (simp; omega)) _))) (by omega)
end Go.Proofs.Ytmlhbbkgfffmcaa
