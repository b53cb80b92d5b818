/- StoreAlone: whatever the input, the law returns true and leaves its arguments as they read. No condition. -/
import Derived.Test.YtdbbeggenbhbfaaStoreQ
import Derived.Test.YtdbbeggenbhbfaaTwo
import Derived.Test.YtdbbeggenbhbfaaEStoreAlone
namespace Go.Proofs.Ytdbbeggenbhbfaa
set_option linter.unusedVariables false
set_option linter.unusedSimpArgs false
open Go.RowKit
theorem kth {W H : Int} {C Z : List Int} (h : ImOk W H C Z) {k : Nat} (hk : k < C.length) : inB W H ((k : Int) % W) ((k : Int) / W) ∧ (k : Int) / W * W + (k : Int) % W = k := by
  have w0 := h.w0
  have h1 := Int.emod_nonneg (k : Int) (show W ≠ 0 by omega)
  have h2 := Int.emod_lt_of_pos (k : Int) (show 0 < W by omega)
  have h3 : (k : Int) / W * W + (k : Int) % W = k := by have := Int.mul_ediv_add_emod (k : Int) W; rw [Int.mul_comm]; omega
  have h4 : 0 ≤ (k : Int) / W := Int.ediv_nonneg (by omega) (by omega)
  have hc := h.c
  refine ⟨⟨h1, h2, h4, ?_⟩, h3⟩
  refine Int.ediv_lt_of_lt_mul (by omega) ?_
  rw [Int.mul_comm H W]; omega
theorem kth_of {W H x y : Int} (hi : inB W H x y) : ((y * W + x).toNat : Int) % W = x ∧ ((y * W + x).toNat : Int) / W = y := by
  obtain ⟨x0, x1, y0, y1⟩ := hi
  have := ix_in x0 x1 y0 y1
  have e : ((y * W + x).toNat : Int) = x + y * W := by omega
  rw [e]
  refine ⟨?_, ?_⟩
  · rw [Int.add_mul_emod_self_right]; exact Int.emod_eq_of_lt x0 x1
  · rw [Int.add_mul_ediv_right _ _ (by omega), Int.ediv_eq_zero_of_lt x0 x1]; omega
theorem get_at (W H : Int) (c z : Value) (C Z : List Int) (k : Nat) (v0 v1 v2 v3 vz : Int) (w : World) (hc : Rd w c C) (hz : Rd w z Z) (h : ImOk W H C Z) (hk : k < C.length) (e : up0 (elt C k) = v0 ∧ up1 (elt C k) = v1 ∧ up2 (elt C k) = v2 ∧ up3 (elt C k) = v3 ∧ elt Z k = vz) :
    Calls Try.prog 37 #[Im W H c z, .int .i64 ((k : Int) % W), .int .i64 ((k : Int) / W)] w (Ret (.tuple #[C4 v0 v1 v2 v3, .int .i64 vz, .bool true]) w) := by
  obtain ⟨h1, h2⟩ := kth h hk
  obtain ⟨rfl, rfl, rfl, rfl, rfl⟩ := e
  have := get_in W H c z C Z _ _ w hc hz h h1
  rw [h2] at this
  exact this
theorem putC_len (W H : Int) (C : List Int) (x y a b c d : Int) (m0 m1 m2 m3 : Bool) : (putC W H C x y a b c d m0 m1 m2 m3).length = C.length := by unfold putC; split <;> simp
theorem putZ_len (W H : Int) (Z : List Int) (x y u : Int) : (putZ W H Z x y u).length = Z.length := by unfold putZ; split <;> simp
theorem putC_at {W H : Int} {C Z : List Int} (h : ImOk W H C Z) {x y a b c d : Int} (k : Nat) (hk : k < C.length) (hm : May a b c d) (e : (k : Int) % W = x) (e' : (k : Int) / W = y) : elt (putC W H C x y a b c d true true true true) k = pk a b c d := by
  obtain ⟨h1, h2⟩ := kth h hk
  subst e e'
  unfold putC
  rw [if_pos h1, h2, elt_set _ _ _ _ (by simpa using hk), if_pos (by simp)]
  simp [mixN]
theorem putZ_at {W H : Int} {C Z : List Int} (h : ImOk W H C Z) {x y u : Int} (k : Nat) (hk : k < C.length) (e : (k : Int) % W = x) (e' : (k : Int) / W = y) : elt (putZ W H Z x y u) k = u := by
  obtain ⟨h1, h2⟩ := kth h hk
  have := h.same
  subst e e'
  unfold putZ
  rw [if_pos h1, h2, elt_set _ _ _ _ (by simp; omega), if_pos (by simp)]
theorem putC_off {W H : Int} {C Z : List Int} (h : ImOk W H C Z) {x y a b c d : Int} {m0 m1 m2 m3 : Bool} (k : Nat) (ne : ¬ ((k : Int) % W = x ∧ (k : Int) / W = y)) : elt (putC W H C x y a b c d m0 m1 m2 m3) k = elt C k := by
  unfold putC
  split
  · rename_i hi
    rw [elt_set _ _ _ _ (ix_lt h hi).1, if_neg]
    intro e; subst e; exact ne (kth_of hi)
  · rfl
theorem putZ_off {W H : Int} {C Z : List Int} (h : ImOk W H C Z) {x y u : Int} (k : Nat) (ne : ¬ ((k : Int) % W = x ∧ (k : Int) / W = y)) : elt (putZ W H Z x y u) k = elt Z k := by
  unfold putZ
  split
  · rename_i hi
    rw [elt_set _ _ _ _ (ix_lt h hi).2, if_neg]
    intro e; subst e; exact ne (kth_of hi)
  · rfl
/-- What the walk of this law leans on. -/
structure Al (w wx : World) (W H : Int) (c z : Value) (C Z C' Z' : List Int) (pen : Array Value) (qa g1 k1 g2 k2 : Nat) : Prop where
  im : Img wx qa g1 k1 g2 k2 W H C' Z'
  m : Row wx w.heap.size #[.int .i64 W, .int .i64 H, c, z] 39
  p : Row wx (w.heap.size + 1) pen 48
  lo : w.heap.size + 2 ≤ qa ∧ w.heap.size + 2 ≤ g1 ∧ w.heap.size + 2 ≤ g2
  bel : Below w.heap.size w wx
theorem Al.step {w wx w1 : World} {W H : Int} {c z : Value} {C Z C' Z' C2 Z2 : List Int} {pen : Array Value} {qa g1 k1 g2 k2 : Nat} {p : Nat → Prop} (h : Al w wx W H c z C Z C' Z' pen qa g1 k1 g2 k2) (hc : Chg p wx w1) (hp : ∀ k, p k → k = g1 ∨ k = g2)
    (hI : Img w1 qa g1 k1 g2 k2 W H C2 Z2) : Al w w1 W H c z C Z C2 Z2 pen qa g1 k1 g2 k2 := by
  obtain ⟨im, m, p', lo, bel⟩ := h
  have hs := bel.size
  exact ⟨hI, hc.row m fun h => by have := hp _ h; omega, hc.row p' fun h => by have := hp _ h; omega, lo, Below.chg bel hc hs fun k hk h => by have := hp _ h; omega⟩
/-- What is got behind a color and a depth that are put. -/
theorem got_put {W H : Int} {C Z : List Int} (h : ImOk W H C Z) {x y u a b c d : Int} (hm : May a b c d) (k : Nat) (hk : k < C.length) :
    ∃ v0 v1 v2 v3 vz t0 t1 t2 t3 tz : Int, (up0 (elt (putC W H C x y a b c d true true true true) k) = v0 ∧ up1 (elt (putC W H C x y a b c d true true true true) k) = v1 ∧ up2 (elt (putC W H C x y a b c d true true true true) k) = v2 ∧ up3 (elt (putC W H C x y a b c d true true true true) k) = v3 ∧ elt (putZ W H Z x y u) k = vz) ∧
      (up0 (elt C k) = t0 ∧ up1 (elt C k) = t1 ∧ up2 (elt C k) = t2 ∧ up3 (elt C k) = t3 ∧ elt Z k = tz) ∧
      ((k : Int) % W = x ∧ (k : Int) / W = y → v0 = a ∧ v1 = b ∧ v2 = c ∧ v3 = d ∧ vz = u) ∧ (¬ ((k : Int) % W = x ∧ (k : Int) / W = y) → v0 = t0 ∧ v1 = t1 ∧ v2 = t2 ∧ v3 = t3 ∧ vz = tz) := by
  refine ⟨_, _, _, _, _, _, _, _, _, _, ⟨rfl, rfl, rfl, rfl, rfl⟩, ⟨rfl, rfl, rfl, rfl, rfl⟩, fun ⟨e, e'⟩ => ?_, fun ne => ?_⟩
  · rw [putC_at h k hk hm e e', putZ_at h k hk e e']
    exact ⟨up_pk0 hm, up_pk1 hm, up_pk2 hm, up_pk3 hm, rfl⟩
  · rw [putC_off h k ne, putZ_off h k ne]
    exact ⟨rfl, rfl, rfl, rfl, rfl⟩
set_option maxRecDepth 100000 in
set_option maxHeartbeats 8000000 in
theorem alone_in (W H : Int) (c z : Value) (C Z : List Int) (x y u pa pb pc pd : Int) (m0 m1 m2 m3 : Bool) (w : World) (hc : Rd w c C) (hz : Rd w z Z) (lc : C.length ≤ 400) (lz : Z.length ≤ 400) (hr : ImOk W H C Z) (hm : May pa pb pc pd) (u0 : 0 ≤ u) (u1 : u ≤ 16777215)
    (bx0 : -9223372036854775808 ≤ x) (bx1 : x ≤ 9223372036854775807) (by0 : -9223372036854775808 ≤ y) (by1 : y ≤ 9223372036854775807) :
    Calls Try.prog 10 #[Im W H c z, Pn x y u pa pb pc pd m0 m1 m2 m3] w (Ret (.bool true) w) := by
  have HC := hc
  have HZ := hz
  obtain ⟨-, -, a, cap, rfl, -, -⟩ := hc
  obtain ⟨-, -, a', cap', rfl, -, -⟩ := hz
  go_enter Try.func10, Try.ntmps10
  go_upto_region 3 with (first
    | (go_at_call 31; (with_reducible refine (small_yes W H _ _ C Z _ ?_ ?_ lc lz).mono ?_); (repeat (first | assumption | with_reducible refine Rd.ext ?_ _ | with_reducible refine Rd.alloc ?_ _ | with_reducible refine Rd.drew ?_)); (repeat (first | assumption | with_reducible refine Rd.ext ?_ _ | with_reducible refine Rd.alloc ?_ _ | with_reducible refine Rd.drew ?_)); rintro _ _ ⟨rfl, X_, rfl⟩)
    | (go_at_call 35; (with_reducible refine (rright_yes W H _ _ C Z _ ?_ ?_ hr).mono ?_); (repeat (first | assumption | with_reducible refine Rd.ext ?_ _ | with_reducible refine Rd.alloc ?_ _ | with_reducible refine Rd.drew ?_)); (repeat (first | assumption | with_reducible refine Rd.ext ?_ _ | with_reducible refine Rd.alloc ?_ _ | with_reducible refine Rd.drew ?_)); rintro _ _ ⟨rfl, X_, rfl⟩)
    | (go_at_call 29; (with_reducible refine (may23_yes _ _ _ _ hm _).mono ?_); rintro _ _ ⟨rfl, X_, rfl⟩))
  go_cut [5] (fun t5 wx => ∃ qa g1 k1 g2 k2 : Nat, t5 = .pointer (some ⟨qa, 0, none⟩) ∧ Al w wx W H (.slice a C.length cap) (.slice a' Z.length cap') C Z C Z #[.int .i64 x, .int .i64 y, .int .i64 u, .int .i64 pa, .int .i64 pb, .int .i64 pc, .int .i64 pd, .bool m0, .bool m1, .bool m2, .bool m3] qa g1 k1 g2 k2)
  case first =>
    go_wp2_with (first
      | (go_at_call 39; (with_reducible refine (rcopy_is W H _ _ C Z _ ?_ ?_ hr).mono ?_); (repeat (first | assumption | with_reducible refine Rd.ext ?_ _ | with_reducible refine Rd.alloc ?_ _ | with_reducible refine Rd.drew ?_)); (repeat (first | assumption | with_reducible refine Rd.ext ?_ _ | with_reducible refine Rd.alloc ?_ _ | with_reducible refine Rd.drew ?_)); rintro _ _ ⟨g1, k1, g2, k2, rfl, ⟨X1, rfl⟩, A1, A2, b1, b2, ne1⟩))
    go_meet
    have e1 := A1.lt
    have e2 := A2.lt
    simp at b1 b2 e1 e2
    exact ⟨_, g1, k1, g2, k2, rfl, ⟨hr, row_last (by simp), A1.chg (p := fun _ => False) (Chg.refl.alloc _) id, A2.chg (p := fun _ => False) (Chg.refl.alloc _) id, by omega, by omega, ne1⟩, by (repeat (first | assumption | with_reducible refine Row.ext ?_ _ | with_reducible refine row_drew ?_ | (with_reducible refine row_last ?_; first | rfl | (simp; done)) | with_reducible refine Row.alloc ?_ _)), by (repeat (first | assumption | with_reducible refine Row.ext ?_ _ | with_reducible refine row_drew ?_ | (with_reducible refine row_last ?_; first | rfl | (simp; done)) | with_reducible refine Row.alloc ?_ _)), by omega, by (repeat (first | exact Below.refl _ _ | with_reducible refine Below.drew ?_ | with_reducible refine Below.ext ?_ (by first | exact Nat.le_refl _ | (simp; done) | (simp; omega)) _ | with_reducible refine Below.alloc ?_ (by first | exact Nat.le_refl _ | (simp; done) | (simp; omega)) _ | with_reducible refine Below.setCell ?_ (by first | exact Nat.le_refl _ | (simp; done) | (simp; omega)) _))⟩
  case rest =>
  obtain ⟨qa, g1, k1, g2, k2, rfl, AL⟩ := hcut
  have HC' : Rd wc (.slice a C.length cap) C := by obtain ⟨X, rfl⟩ := AL.bel.toExt; exact HC.ext X
  have HZ' : Rd wc (.slice a' Z.length cap') Z := by obtain ⟨X, rfl⟩ := AL.bel.toExt; exact HZ.ext X
  have cp0 := AL.p.cell 0
  have cp1 := AL.p.cell 1
  have cp2 := AL.p.cell 2
  have cp3 := AL.p.cell 3
  have cp4 := AL.p.cell 4
  have cp5 := AL.p.cell 5
  have cp6 := AL.p.cell 6
  have cp7 := AL.p.cell 7
  have cp8 := AL.p.cell 8
  have cp9 := AL.p.cell 9
  have cp10 := AL.p.cell 10
  simp at cp0 cp1 cp2 cp3 cp4 cp5 cp6 cp7 cp8 cp9 cp10
  have cm0 := AL.m.cell 0
  have cm1 := AL.m.cell 1
  have cm2 := AL.m.cell 2
  have cm3 := AL.m.cell 3
  simp at cm0 cm1 cm2 cm3
  have ci0 := AL.im.row.cell 0
  have ci1 := AL.im.row.cell 1
  have ci2 := AL.im.row.cell 2
  have ci3 := AL.im.row.cell 3
  simp at ci0 ci1 ci2 ci3
  have hs := AL.bel.size
  have la := AL.im.row.lt
  have lo := AL.lo
  obtain ⟨w1, rfl⟩ : ∃ w1, w1 = wc := ⟨_, rfl⟩
  go_upto_region 4 with fail
  go_cut [6] (fun t6 wx => t6 = .bool (decide (inB W H x y)) ∧ wx = w1)
  case first =>
    go_wp2
    all_goals go_meet
    all_goals refine ⟨?_, rfl⟩
    all_goals congr 1
    all_goals first | (rw [decide_eq_decide]; unfold inB; omega) | (symm; rw [decide_eq_false_iff_not]; unfold inB; omega)
  case rest =>
  obtain ⟨rfl, rfl⟩ := hcut
  obtain ⟨bi, hbi⟩ : ∃ b, b = decide (inB W H x y) := ⟨_, rfl⟩
  have HBI := Lib.hid hbi
  simp only [← hbi]
  clear hbi
  have hzc : ((C.length : Int) != (Z.length : Int)) = false := by have := hr.same; rw [bne_eq_false_iff_eq]; omega
  go_upto_region 6 with (first
    | (go_at_call 40; (with_reducible refine (put_img AL.im x y pa pb pc pd true true true true bx0 bx1 by0 by1 hm).mono ?_); rw [← HBI.out]; rintro _ w2 ⟨rfl, I2, C2⟩; have AL2 := AL.step C2 (fun k h => .inl h) I2; have dp0 := AL2.p.cell 0; have dp1 := AL2.p.cell 1; have dp2 := AL2.p.cell 2; have dp3 := AL2.p.cell 3; have dp4 := AL2.p.cell 4; have dp5 := AL2.p.cell 5; have dp6 := AL2.p.cell 6; have dp7 := AL2.p.cell 7; have dp8 := AL2.p.cell 8; have dp9 := AL2.p.cell 9; have dp10 := AL2.p.cell 10; simp at dp0 dp1 dp2 dp3 dp4 dp5 dp6 dp7 dp8 dp9 dp10; have dm0 := AL2.m.cell 0; have dm1 := AL2.m.cell 1; have dm2 := AL2.m.cell 2; have dm3 := AL2.m.cell 3; simp at dm0 dm1 dm2 dm3; have di0 := AL2.im.row.cell 0; have di1 := AL2.im.row.cell 1; have di2 := AL2.im.row.cell 2; have di3 := AL2.im.row.cell 3; simp [putC_len] at di0 di1 di2 di3)
    | (go_at_call 41; (with_reducible refine (deep_img AL2.im x y u bx0 bx1 by0 by1 ⟨u0, u1⟩).mono ?_); rw [← HBI.out]; rintro _ w3 ⟨rfl, I3, C3⟩; have AL3 := AL2.step C3 (fun k h => .inr h) I3; have ep0 := AL3.p.cell 0; have ep1 := AL3.p.cell 1; have ep2 := AL3.p.cell 2; have ep3 := AL3.p.cell 3; have ep4 := AL3.p.cell 4; have ep5 := AL3.p.cell 5; have ep6 := AL3.p.cell 6; have ep7 := AL3.p.cell 7; have ep8 := AL3.p.cell 8; have ep9 := AL3.p.cell 9; have ep10 := AL3.p.cell 10; simp at ep0 ep1 ep2 ep3 ep4 ep5 ep6 ep7 ep8 ep9 ep10; have em0 := AL3.m.cell 0; have em1 := AL3.m.cell 1; have em2 := AL3.m.cell 2; have em3 := AL3.m.cell 3; simp at em0 em1 em2 em3; have ei0 := AL3.im.row.cell 0; have ei1 := AL3.im.row.cell 1; have ei2 := AL3.im.row.cell 2; have ei3 := AL3.im.row.cell 3; simp [putC_len] at ei0 ei1 ei2 ei3))
  clear hzc
  have hs3 := AL3.bel.size
  have la3 := AL3.im.row.lt
  have hs4 : w.heap.size + 1 < w3.heap.size := AL3.p.lt
  have hs5 : w.heap.size < w3.heap.size := by omega
  have hs6 : w.heap.size + 1 ≤ w3.heap.size := by omega
  have la4 : qa ≤ w3.heap.size := by omega
  have HC3 : Rd w3 (.slice a C.length cap) C := by obtain ⟨X, hX⟩ := AL3.bel.toExt; rw [hX]; exact HC.ext X
  have HZ3 : Rd w3 (.slice a' Z.length cap') Z := by obtain ⟨X, hX⟩ := AL3.bel.toExt; rw [hX]; exact HZ.ext X
  have RC := AL3.im.rds
  rw [putC_len] at RC
  have ok3 := AL3.im.ok
  have w0 := hr.w0
  have w1' := hr.w1
  go_wp2
  go_loopw [7] (fun i wr => ∃ (k : Nat) (X : Xt), k ≤ C.length ∧ i = .int .i64 k ∧ wr = w3.ext X) (fun i _ => C.length - (intOf i).toNat)
  case atStart => exact ⟨0, ⟨#[], w3.drawn⟩, by omega, rfl, (ext_none _).symm⟩
  case round =>
    obtain ⟨k, X, hk, rfl, rfl⟩ := hrel
    by_cases hlt : k < C.length
    · obtain ⟨⟨x0, x1, y0, y1⟩, kk⟩ := kth hr hlt
      have T1 : Int.tmod (k : Int) W = (k : Int) % W := Int.tmod_eq_emod_of_nonneg (by omega)
      have T2 : Int.tdiv (k : Int) W = (k : Int) / W := Int.tdiv_eq_ediv_of_nonneg (by omega)
      have y1' : (k : Int) / W ≤ 1024 := by have := hr.h1; omega
      have KK := Lib.hid kk
      clear kk
      go_wp2
      obtain ⟨v0, v1, v2, v3, vz, t0, t1, t2, t3, tz, e1, e2, hy, hn⟩ := got_put hr (x := x) (y := y) (u := u) hm k hlt
      have E1 := Lib.hid e1
      have E2 := Lib.hid e2
      have HY := Lib.hid hy
      have HN := Lib.hid hn
      clear e1 e2 hy hn
      refine wp_region_mix (by kernel_rfl) ?_
      repeat (first | (refine mix_skip rfl ?_; simp only [List.nil_append, List.cons_append]) | (refine mix_calm rfl rfl ?_; intro K_ hK_; go_big_quiet_op; go_big_quiet_on; simp only [List.nil_append, List.cons_append]) | (apply mix_call rfl; (intro X_; go_simp; go_at_call 37; with_reducible exact Calls.calm_ret (get_at W H _ _ _ _ k _ _ _ _ _ _ ((RC.1.ext _).ext _) ((RC.2.ext _).ext _) ok3 (by rw [putC_len]; exact hlt) E1.out)); simp only [Act.put, List.setIfInBounds_toArray, List.set_cons_zero, List.set_cons_succ, List.nil_append, List.cons_append]) | (refine mix_alloc rfl rfl Try.zeroValue23 ?_; simp only [List.nil_append, List.cons_append]) | (refine mix_fill 14 rfl rfl rfl rfl (by simp [Value.oneCell']) (by kernel_rfl) (by simp) rfl rfl rfl rfl ?_; simp only [List.nil_append, List.cons_append]))
      refine mix_nil (mix_end1 14 15 ⟨by kernel_rfl, by kernel_rfl⟩ rfl rfl rfl rfl rfl (by kernel_rfl) ?_)
      intro X1 p1 h1
      have c_h1 := h1.cell
      have f_h1 := h1.frozen
      have g_h1 := h1.gap
      simp only [World.size_ext, World.size_alloc, World.size_drew, World.size_setCell] at g_h1
      clear h1
      simp only [Act.put, List.setIfInBounds_toArray, List.set_cons_zero, List.set_cons_succ, ptr]
      go_wp2
      refine wp_region_mix (by kernel_rfl) ?_
      repeat (first | (refine mix_skip rfl ?_; simp only [List.nil_append, List.cons_append]) | (refine mix_calm rfl rfl ?_; intro K_ hK_; go_big_quiet_op; go_big_quiet_on; simp only [List.nil_append, List.cons_append]) | (apply mix_call rfl; (intro X_; go_simp; go_at_call 37; with_reducible exact Calls.calm_ret (get_at W H _ _ C Z k _ _ _ _ _ _ (((HC3.ext _).ext _).ext _) (((HZ3.ext _).ext _).ext _) hr hlt E2.out)); simp only [Act.put, List.setIfInBounds_toArray, List.set_cons_zero, List.set_cons_succ, List.nil_append, List.cons_append]) | (refine mix_alloc rfl rfl Try.zeroValue23 ?_; simp only [List.nil_append, List.cons_append]) | (refine mix_fill 14 rfl rfl rfl rfl (by simp [Value.oneCell']) (by kernel_rfl) (by simp) rfl rfl rfl rfl ?_; simp only [List.nil_append, List.cons_append]))
      refine mix_nil (mix_end1 14 15 ⟨by kernel_rfl, by kernel_rfl⟩ rfl rfl rfl rfl rfl (by kernel_rfl) ?_)
      intro X2 p2 h2
      have c_h2 := h2.cell
      have f_h2 := h2.frozen
      have g_h2 := h2.gap
      simp only [World.size_ext, World.size_alloc, World.size_drew, World.size_setCell] at g_h2
      clear h2
      simp only [Act.put, List.setIfInBounds_toArray, List.set_cons_zero, List.set_cons_succ, ptr]
      go_wp2
      by_cases ex : (k : Int) % W = x
      · by_cases ey : (k : Int) / W = y
        · obtain ⟨rfl, rfl, rfl, rfl, rfl⟩ := HY.out ⟨ex, ey⟩
          have ex' : ((k : Int) % W == x) = true := by simpa using ex
          have ey' : ((k : Int) / W == y) = true := by simpa using ey
          clear ex ey
          refine wp_region_ext (by kernel_rfl) (by kernel_rfl) ?_
          repeat (go_big_quiet_step ((fail)))
          refine wpQuiet_nil ?_
          intro _ hw_ext
          obtain ⟨X3, hw_ext⟩ := hw_ext
          subst hw_ext
          go_wp2
          go_roundw
          case rel => exact ⟨k + 1, _, by omega, by go_num, by simp only [World.ext_ext]; rfl⟩
          case measure => simp [intOf]; omega
        · obtain ⟨rfl, rfl, rfl, rfl, rfl⟩ := HN.out (fun h => ey h.2)
          have ex' : ((k : Int) % W == x) = true := by simpa using ex
          have ey' : ((k : Int) / W == y) = false := by simpa using ey
          clear ex ey
          refine wp_region_ext (by kernel_rfl) (by kernel_rfl) ?_
          repeat (go_big_quiet_step ((fail)))
          refine wpQuiet_nil ?_
          intro _ hw_ext
          obtain ⟨X3, hw_ext⟩ := hw_ext
          subst hw_ext
          go_wp2
          go_roundw
          case rel => exact ⟨k + 1, _, by omega, by go_num, by simp only [World.ext_ext]; rfl⟩
          case measure => simp [intOf]; omega
      · obtain ⟨rfl, rfl, rfl, rfl, rfl⟩ := HN.out (fun h => ex h.1)
        have ex' : ((k : Int) % W == x) = false := by simpa using ex
        clear ex
        refine wp_region_ext (by kernel_rfl) (by kernel_rfl) ?_
        repeat (go_big_quiet_step ((fail)))
        refine wpQuiet_nil ?_
        intro _ hw_ext
        obtain ⟨X3, hw_ext⟩ := hw_ext
        subst hw_ext
        go_wp2
        go_roundw
        case rel => exact ⟨k + 1, _, by omega, by go_num, by simp only [World.ext_ext]; rfl⟩
        case measure => simp [intOf]; omega
    · go_wp2_with (first | (go_at_call 26; (with_reducible refine (awake23 _).mono ?_); rintro _ _ ⟨rfl, X_, rfl⟩))
      go_ret
      exact Ret.of ((AL3.bel.ext (by omega) _).ext (by simp; omega) _)
theorem StoreAlone_all : StoreAlone_stmt := by
  intro W H c z x y u pa pb pc pd m0 m1 m2 m3 w hI hP
  obtain ⟨-, -, ⟨C, hC⟩, ⟨Z, hZ⟩⟩ := hI
  obtain ⟨⟨bx0, bx1⟩, ⟨by0, by1⟩, -⟩ := hP
  have hc := Rd.of_ints hC
  have hz := Rd.of_ints hZ
  by_cases h : Asked W H C Z u pa pb pc pd
  · obtain ⟨⟨lc, lz⟩, hr, hm, u0, u1⟩ := h
    exact alone_in W H c z C Z x y u pa pb pc pd m0 m1 m2 m3 w hc hz lc lz hr hm u0 u1 bx0 bx1 by0 by1
  · exact alone_not W H c z C Z x y u pa pb pc pd m0 m1 m2 m3 w hc hz h
theorem StoreAlone_holds : Rows.StoreAloneSaid := StoreAlone_end StoreAlone_all
end Go.Proofs.Ytdbbeggenbhbfaa
