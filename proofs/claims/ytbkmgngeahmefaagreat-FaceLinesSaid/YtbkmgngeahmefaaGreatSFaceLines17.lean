/- Parts of the proof of FaceLines, laid together. Conditions: at each. -/
import Derived.Deep.CutBlock
import Derived.Deep.RegionLawGrows
import Derived.BigRegion
import Derived.Test.YtbkmgngeahmefaaGreatSFaceLines05
import Derived.Test.YtbkmgngeahmefaaGreatSFaceLines12
import Derived.Test.YtbkmgngeahmefaaGreatSFaceLines16
set_option linter.unusedVariables false
set_option linter.unusedSimpArgs false
section
namespace Go.Proofs.YtbkmgngeahmefaaGreat
open Go.RowKit
theorem numL_at (ax ay bx y2 x y : Int) (c : ¬ (ax = bx ∧ ay = y2)) (h : exP ax ay bx y2 x y) : numL (ofL ax ay bx y2) x y (uC (decide (turnP ax ay bx y2)) x y) = idxP ax ay bx y2 x y := num_idx ax ay bx y2 x y c h
end Go.Proofs.YtbkmgngeahmefaaGreat
end
section
section
namespace Go.Proofs.YtbkmgngeahmefaaGreat
open Go.RowKit
theorem bits_and_15 (x : Int) (hx0 : 0 ≤ x) (hx1 : x < 9223372036854775808) : bits .and .i64 x 15 = x % 16 := by
  rw [bits_and_nat x 15 hx0 hx1 (by decide) (by decide)]
  have : x.toNat &&& 15 = x.toNat % 16 := Nat.and_two_pow_sub_one_eq_mod x.toNat 4
  rw [show (15 : Int).toNat = 15 from rfl, this]
  omega
theorem bits_and_1 (x : Int) (hx0 : 0 ≤ x) (hx1 : x < 9223372036854775808) : bits .and .i64 x 1 = x % 2 := by
  rw [bits_and_nat x 1 hx0 hx1 (by decide) (by decide)]
  have : x.toNat &&& 1 = x.toNat % 2 := Nat.and_two_pow_sub_one_eq_mod x.toNat 1
  rw [show (1 : Int).toNat = 1 from rfl, this]
  omega
theorem shr_in {p : Int} (p0 : 0 ≤ p) (p1 : p ≤ 65535) (k : Nat) : 0 ≤ p / 2 ^ k ∧ p / 2 ^ k ≤ 65535 := by
  have h : (0 : Int) < 2 ^ k := Int.pow_pos (by decide)
  refine ⟨Int.ediv_nonneg p0 (by omega), Int.le_trans (Int.ediv_le_self _ p0) p1⟩
theorem dbit_any (p n : Int) (p0 : 0 ≤ p) (p1 : p ≤ 65535) (n0 : 0 ≤ n) (n1 : n ≤ 4611686018427387904) (w : World) : Calls Tryz.prog 181 #[.int .i64 p, .int .i64 n] w (Ret (.bool (decide (p / 2 ^ (n % 16).toNat % 2 = 1))) w) := by
  have e0 := bits_and_15 n n0 (by omega)
  obtain ⟨q0, q1⟩ := shr_in p0 p1 (n % 16).toNat
  have e1 := bits_and_1 (p / 2 ^ (n % 16).toNat) q0 (by omega)
  obtain ⟨q, hq⟩ : ∃ q, p / 2 ^ (n % 16).toNat = q := ⟨_, rfl⟩
  rw [hq] at q0 q1 e1 ⊢
  have m0 : 0 ≤ n % 16 := by omega
  have m1 : n % 16 < 16 := by omega
  go_enter Tryz.func181, Tryz.ntmps181
  go_wp2
  go_ret
  exact Ret.of' (by first | rfl | (simp; rfl)) (by exact bl_)
theorem dlit_any (p r c k : Int) (h : dashP p r c) (k0 : 0 ≤ k) (k1 : k ≤ 1099511627776) (w : World) : Calls Tryz.prog 115 #[D3 p r c, .int .i64 k] w (Ret (.bool (decide (litP p r c k))) w) := by
  obtain ⟨⟨p0, p1⟩, ⟨r0, r1⟩, c0, c1⟩ := h
  have q0 : 0 ≤ (c + k) / r := Int.ediv_nonneg (by omega) (by omega)
  have q1 : (c + k) / r ≤ c + k := Int.ediv_le_self _ (by omega)
  have B := Lib.hid (fun w => dbit_any p ((c + k) / r) p0 p1 q0 (by omega) w)
  unfold litP
  generalize decide (p / 2 ^ ((c + k) / r % 16).toNat % 2 = 1) = b at *
  go_enter Tryz.func115, Tryz.ntmps115
  go_wp2
  refine wp_region_ext (by kernel_rfl) (by kernel_rfl) ?_
  repeat (go_big_quiet_step ((first | (go_at_call 181; with_reducible exact Calls.quiet_ret (B.out _)))))
  refine wpQuiet_nil ?_
  intro _ hw_ext
  obtain ⟨X, hw_ext⟩ := hw_ext
  subst hw_ext
  go_wp2
  go_ret
  exact Ret.of' rfl (by exact bl_)
theorem rlit_any (p r c k : Int) (h : dashP p r c) (k0 : 0 ≤ k) (k1 : k ≤ 1099511627776) (w : World) : Calls Tryz.prog 126 #[D3 p r c, .int .i64 k] w (Ret (.bool (decide (litP p r c k))) w) := by
  obtain ⟨⟨p0, p1⟩, ⟨r0, r1⟩, c0, c1⟩ := h
  have q0 : 0 ≤ (c + k) / r := Int.ediv_nonneg (by omega) (by omega)
  have q1 : (c + k) / r ≤ c + k := Int.ediv_le_self _ (by omega)
  have m0 : 0 ≤ (c + k) / r % 16 := by omega
  have m1 : (c + k) / r % 16 < 16 := by omega
  go_enter Tryz.func126, Tryz.ntmps126
  go_wp2
  go_loopw [6, 7] (fun n i wr => ∃ (j : Nat) (q : Int), (j : Int) ≤ (c + k) / r % 16 ∧ n = .int .i64 q ∧ i = .int .i64 j ∧ Hid (p / 2 ^ j = q) ∧ (0 ≤ q ∧ q ≤ 65535) ∧ ∃ X, wr = w.ext X)
    (fun _ i _ => (((c + k) / r % 16) - intOf i).toNat)
  case atStart => exact ⟨0, p, by omega, rfl, rfl, Lib.hid (by simp), ⟨p0, p1⟩, RowKit.Below.toExt (by exact bl_)⟩
  case round =>
    obtain ⟨j, q, hj, rfl, rfl, hq, ⟨s0, s1⟩, X, rfl⟩ := hrel
    by_cases hlt : (j : Int) < (c + k) / r % 16
    · have HS := Lib.hid (show p / 2 ^ (j + 1) = q / 2 by rw [Int.pow_succ, ← hq.out, Int.ediv_ediv, if_neg (fun h => absurd h.1 (by have : (0 : Int) < 2 ^ j := Int.pow_pos (by decide); omega)), Int.sub_zero])
      go_wp2
      go_roundw
      case rel => exact ⟨j + 1, q / 2, by omega, by go_num, by go_num, HS, by omega, RowKit.Below.toExt (by exact bl_)⟩
      case measure => simp [intOf]; omega
    · have ej : ((c + k) / r % 16).toNat = j := by omega
      have EJ := Lib.hid ej
      clear ej
      go_wp2
      go_ret
      exact Ret.of' (bool_b (by unfold litP; rw [EJ.out, hq.out]; simp)) (by exact bl_)
theorem dnext_any (p r c k : Int) (h : dashP p r c) (k0 : 0 ≤ k) (k1 : k ≤ 1099511627776) (w : World) : Calls Tryz.prog 109 #[D3 p r c, .int .i64 k] w (Ret (D3 p r ((c + k) % (r * 16))) w) := by
  obtain ⟨⟨p0, p1⟩, ⟨r0, r1⟩, c0, c1⟩ := h
  have m0 : 0 ≤ (c + k) % (r * 16) := Int.emod_nonneg _ (by omega)
  have m1 : (c + k) % (r * 16) < r * 16 := Int.emod_lt_of_pos _ (by omega)
  go_enter Tryz.func109, Tryz.ntmps109
  go_wp2
  refine bodyPost_ret (v := D3 p r ((c + k) % (r * 16))) (by simp [results, Tryz.results109, go_sem]; try rfl) rfl ?_
  exact Ret.of' rfl (by exact bl_)
theorem rnext_any (p r c k : Int) (h : dashP p r c) (k0 : 0 ≤ k) (k1 : k ≤ 1099511627776) (w : World) : Calls Tryz.prog 122 #[D3 p r c, .int .i64 k] w (Ret (D3 p r ((c + k) % (r * 16))) w) := by
  obtain ⟨⟨p0, p1⟩, ⟨r0, r1⟩, c0, c1⟩ := h
  have m0 : 0 ≤ (c + k) % (r * 16) := Int.emod_nonneg _ (by omega)
  have m1 : (c + k) % (r * 16) < r * 16 := Int.emod_lt_of_pos _ (by omega)
  have e : 16 * r = r * 16 := by omega
  go_enter Tryz.func122, Tryz.ntmps122
  go_wp2
  refine bodyPost_ret (v := D3 p r ((c + k) % (r * 16))) (by simp [results, Tryz.results122, go_sem]; try rfl) rfl ?_
  exact Ret.of' rfl (by exact bl_)
end Go.Proofs.YtbkmgngeahmefaaGreat
end
section
namespace Go.Proofs.YtbkmgngeahmefaaGreat
open Go.RowKit
abbrev coreV (a b : WinP) (n : Int) : Value := .agg #[.int .i64 (corX a b n a.x), .int .i64 (corY a b n a.y), .int .i64 (corX a b n b.x), .int .i64 (corY a b n b.y), .bool (!decide (turnP a.x a.y b.x b.y))]
set_option maxHeartbeats 4000000 in
theorem coreOf_any (a b : WinP) (n : Int) (ha : a.fits) (hb : b.fits) (hn : widthP n) (w : World) : Calls Tryz.prog 108 #[a.v, b.v, .int .i64 n] w (Ret (coreV a b n) w) := by
  obtain ⟨a0, a1, a2, a3, -, -, -⟩ := ha
  obtain ⟨b0, b1, b2, b3, -, -, -⟩ := hb
  obtain ⟨n0, n1⟩ := hn
  unfold coreV corX corY
  by_cases t : turnP a.x a.y b.x b.y
  · have t1 : decide (max (b.y - a.y) (-(b.y - a.y)) ≤ max (b.x - a.x) (-(b.x - a.x))) = false := by unfold turnP at t; simp; omega
    simp only [t, decide_true, if_true, Bool.not_true]
    clear t
    go_enter Tryz.func108, Tryz.ntmps108
    go_upto_region 1 with fail
    refine wp_region_ext (by kernel_rfl) (by kernel_rfl) ?_
    repeat (go_big_quiet_step ((fail)))
    refine wpQuiet_nil ?_
    intro _ hw_ext
    obtain ⟨X, hw_ext⟩ := hw_ext
    subst hw_ext
    go_wp2
    refine bodyPost_ret (v := .agg #[.int .i64 (a.x - (n - 1) * 128), .int .i64 a.y, .int .i64 (b.x - (n - 1) * 128), .int .i64 b.y, .bool false]) (by simp [results, Tryz.results108, go_sem]; try rfl) rfl ?_
    exact Ret.of' rfl (by exact bl_)
  · have t1 : decide (max (b.y - a.y) (-(b.y - a.y)) ≤ max (b.x - a.x) (-(b.x - a.x))) = true := by unfold turnP at t; simp; omega
    simp only [t, decide_false, if_false, Bool.not_false]
    clear t
    go_enter Tryz.func108, Tryz.ntmps108
    go_upto_region 1 with fail
    refine wp_region_ext (by kernel_rfl) (by kernel_rfl) ?_
    repeat (go_big_quiet_step ((fail)))
    refine wpQuiet_nil ?_
    intro _ hw_ext
    obtain ⟨X, hw_ext⟩ := hw_ext
    subst hw_ext
    go_wp2
    refine bodyPost_ret (v := .agg #[.int .i64 a.x, .int .i64 (a.y - (n - 1) * 128), .int .i64 b.x, .int .i64 (b.y - (n - 1) * 128), .bool true]) (by simp [results, Tryz.results108, go_sem]; try rfl) rfl ?_
    exact Ret.of' rfl (by exact bl_)
set_option maxHeartbeats 4000000 in
theorem reach_any (a b : WinP) (n x0 y0 x1 y1 : Int) (hn : widthP n) (hr : rightP x0 y0 x1 y1) (w : World) : Calls Tryz.prog 114 #[coreV a b n, R4 x0 y0 x1 y1, .int .i64 n] w (Ret (R4 (rchX a b n x0) (rchY a b n y0) x1 y1) w) := by
  obtain ⟨n0, n1⟩ := hn
  unfold rightP at hr
  unfold rchX rchY coreV
  generalize corX a b n a.x = c0
  generalize corX a b n b.x = c1
  generalize corY a b n a.y = c2
  generalize corY a b n b.y = c3
  by_cases t : turnP a.x a.y b.x b.y
  · simp only [t, decide_true, if_true, Bool.not_true]
    clear t
    go_enter Tryz.func114, Tryz.ntmps114
    go_wp2
    refine bodyPost_ret (v := R4 (max (x0 - n + 1) (-4194304)) y0 x1 y1) (by simp [results, Tryz.results114, go_sem]; try rfl) rfl ?_
    exact Ret.of' rfl (by exact bl_)
  · simp only [t, decide_false, if_false, Bool.not_false]
    clear t
    go_enter Tryz.func114, Tryz.ntmps114
    go_wp2
    refine bodyPost_ret (v := R4 x0 (max (y0 - n + 1) (-4194304)) x1 y1) (by simp [results, Tryz.results114, go_sem]; try rfl) rfl ?_
    exact Ret.of' rfl (by exact bl_)
theorem rWide_any (ax ay bx y2 : Int) (ha : MayP ax ay) (hb : MayP bx y2) (w : World) : Calls Tryz.prog 124 #[P2 ax ay, P2 bx y2] w (Ret (.bool (!decide (turnP ax ay bx y2))) w) := by
  have H := Lib.hid (fun w => rwide_any ax ay bx y2 ha hb w)
  generalize (!decide (turnP ax ay bx y2)) = b at *
  go_enter Tryz.func124, Tryz.ntmps124
  go_wp2_with (first | (go_at_call 186; (with_reducible refine (H.out _).mono ?_); rintro _ _ ⟨rfl, X_, rfl⟩))
  go_ret
  exact Ret.of' rfl (by exact bl_)
set_option maxHeartbeats 4000000 in
theorem rcore_any (a b : WinP) (n : Int) (ha : a.fits) (hb : b.fits) (hn : widthP n) (w : World) : Calls Tryz.prog 121 #[a.v, b.v, .int .i64 n] w (Ret (.tuple #[P2 (corX a b n a.x) (corY a b n a.y), P2 (corX a b n b.x) (corY a b n b.y)]) w) := by
  obtain ⟨a0, a1, a2, a3, -, -, -⟩ := ha
  obtain ⟨b0, b1, b2, b3, -, -, -⟩ := hb
  obtain ⟨n0, n1⟩ := hn
  have H := fun w => rWide_any a.x a.y b.x b.y ⟨by omega, by omega, by omega, by omega⟩ ⟨by omega, by omega, by omega, by omega⟩ w
  unfold corX corY
  by_cases t : turnP a.x a.y b.x b.y
  · simp only [t, decide_true, if_true, Bool.not_true] at H ⊢
    have HW := Lib.hid H
    clear t H
    go_enter Tryz.func121, Tryz.ntmps121
    go_upto_region 1 with fail
    refine wp_region_mix (by kernel_rfl) ?_
    repeat (first | (refine mix_skip rfl ?_; simp only [List.nil_append, List.cons_append]) | (refine mix_ncheck rfl rfl rfl ?_; simp only [Act.put, List.setIfInBounds_toArray, List.set_cons_zero, List.set_cons_succ, List.nil_append, List.cons_append]) | (refine mix_calm rfl rfl ?_; intro K_ hK_; go_big_quiet_op; go_big_quiet_on; simp only [List.nil_append, List.cons_append]) | (refine mix_alloc rfl rfl Tryz.zeroValue151 ?_; simp only [List.nil_append, List.cons_append]) | (refine mix_fill 10 rfl rfl rfl rfl (by simp [Value.oneCell']) (by kernel_rfl) (by simp) rfl rfl rfl rfl ?_; simp only [List.nil_append, List.cons_append]) | (refine mix_fill 11 rfl rfl rfl rfl (by simp [Value.oneCell']) (by kernel_rfl) (by simp) rfl rfl rfl rfl ?_; simp only [List.nil_append, List.cons_append]))
    refine mix_nil (mix_end2 10 11 12 13 ⟨by kernel_rfl, by kernel_rfl⟩ rfl rfl rfl rfl rfl (by kernel_rfl) rfl rfl rfl rfl (by kernel_rfl) ?_)
    intro X p q h g ne_h
    have c_h := h.cell
    have f_h := h.frozen
    have g_h := h.gap
    have b_h := Lib.hid h.block
    simp only [World.size_ext, World.size_alloc, World.size_drew, World.size_setCell] at g_h
    clear h
    have c_g := g.cell
    have f_g := g.frozen
    have g_g := g.gap
    have b_g := Lib.hid g.block
    simp only [World.size_ext, World.size_alloc, World.size_drew, World.size_setCell] at g_g
    clear g
    simp only [Act.put, List.setIfInBounds_toArray, List.set_cons_zero, List.set_cons_succ, ptr]
    go_upto_region 4 with (first | (go_at_call 124; (with_reducible refine (HW.out _).mono ?_); rintro _ _ ⟨rfl, X_, rfl⟩))
    have gp := g_h.1
    have gq := g_g.1
    refine wp_abs (F := fun wx => Row wx p #[.int .i64 a.x, .int .i64 a.y] 151 ∧ Row wx q #[.int .i64 b.x, .int .i64 b.y] 151 ∧ Row wx (w.heap.size + 1 + 1) #[.int .i64 0, .int .i64 0] 151 ∧ Row wx (w.heap.size + 1 + 1 + 1) #[.int .i64 0, .int .i64 0] 151 ∧ ∃ X, wx = w.ext X) ⟨by (repeat (first | exact b_h.out | with_reducible refine Row.ext ?_ _ | with_reducible refine row_drew ?_)), by (repeat (first | exact b_g.out | with_reducible refine Row.ext ?_ _ | with_reducible refine row_drew ?_)), by exact rx_, by exact rx_, RowKit.Below.toExt (by exact bl_)⟩ ?_
    rintro wx ⟨Rp, Rq, Rr, Rs, hX⟩
    have HX := Lib.hid hX
    have lp := Rp.lt
    have lq := Rq.lt
    have lr := Rr.lt
    have ls := Rs.lt
    have cp := Rp.cell
    have cq := Rq.cell
    have cr := Rr.cell
    have cs := Rs.cell
    have fp := Rp.frozen
    have fq := Rq.frozen
    have fr := Rr.frozen
    have fs := Rs.frozen
    have ne_g := ne_h.symm
    have e128 : 128 * (n - 1) = (n - 1) * 128 := by omega
    clear c_h c_g f_h f_g g_h g_g b_h b_g hX
    go_region
    go_upto_region 6 with fail
    refine wp_abs (F := fun wy => Row wy p #[.int .i64 (a.x - (n - 1) * 128), .int .i64 a.y] 151 ∧ Row wy q #[.int .i64 (b.x - (n - 1) * 128), .int .i64 b.y] 151 ∧ Row wy (w.heap.size + 1 + 1) #[.int .i64 0, .int .i64 0] 151 ∧ Row wy (w.heap.size + 1 + 1 + 1) #[.int .i64 0, .int .i64 0] 151 ∧ ∃ X, wy = w.ext X) ⟨by (repeat (first | exact Rp.set 0 _ | exact Row.other (Rp.set 0 _) ne_h _ _ | exact Row.set (Row.other Rq ne_g _ _) 0 _ | exact Rr | exact Rs | with_reducible refine Row.ext ?_ _ | with_reducible refine row_drew ?_ | (with_reducible refine Row.other ?_ (by first | assumption | omega) _ _))), by (repeat (first | exact Rp.set 0 _ | exact Row.other (Rp.set 0 _) ne_h _ _ | exact Row.set (Row.other Rq ne_g _ _) 0 _ | exact Rr | exact Rs | with_reducible refine Row.ext ?_ _ | with_reducible refine row_drew ?_ | (with_reducible refine Row.other ?_ (by first | assumption | omega) _ _))), by (repeat (first | exact Rp.set 0 _ | exact Row.other (Rp.set 0 _) ne_h _ _ | exact Row.set (Row.other Rq ne_g _ _) 0 _ | exact Rr | exact Rs | with_reducible refine Row.ext ?_ _ | with_reducible refine row_drew ?_ | (with_reducible refine Row.other ?_ (by first | assumption | omega) _ _))), by (repeat (first | exact Rp.set 0 _ | exact Row.other (Rp.set 0 _) ne_h _ _ | exact Row.set (Row.other Rq ne_g _ _) 0 _ | exact Rr | exact Rs | with_reducible refine Row.ext ?_ _ | with_reducible refine row_drew ?_ | (with_reducible refine Row.other ?_ (by first | assumption | omega) _ _))), by obtain ⟨X0, hX0⟩ := HX.out; subst hX0; exact RowKit.Below.toExt (by exact br_)⟩ ?_
    clear lp lq lr ls cp cq cr cs fp fq fr fs HX Rp Rq Rr Rs
    rintro wy ⟨Rp, Rq, Rr, Rs, hX⟩
    have HX := Lib.hid hX
    have lp := Rp.lt
    have lq := Rq.lt
    have lr := Rr.lt
    have ls := Rs.lt
    have cp := Rp.cell
    have cq := Rq.cell
    have cr := Rr.cell
    have cs := Rs.cell
    have fp := Rp.frozen
    have fq := Rq.frozen
    have fr := Rr.frozen
    have fs := Rs.frozen
    clear hX Rp Rq Rr Rs
    go_region
    go_wp2
    refine bodyPost_ret (v := .tuple #[.agg #[.int .i64 (a.x - (n - 1) * 128), .int .i64 a.y], .agg #[.int .i64 (b.x - (n - 1) * 128), .int .i64 b.y]]) (by simp [results, Tryz.results121, go_sem, cr, cs]; try rfl) rfl ?_
    obtain ⟨X0, hX0⟩ := HX.out
    subst hX0
    exact Ret.of' rfl (by exact br_)
  · simp only [t, decide_false, if_false, Bool.not_false] at H ⊢
    have HW := Lib.hid H
    clear t H
    go_enter Tryz.func121, Tryz.ntmps121
    go_upto_region 1 with fail
    refine wp_region_mix (by kernel_rfl) ?_
    repeat (first | (refine mix_skip rfl ?_; simp only [List.nil_append, List.cons_append]) | (refine mix_ncheck rfl rfl rfl ?_; simp only [Act.put, List.setIfInBounds_toArray, List.set_cons_zero, List.set_cons_succ, List.nil_append, List.cons_append]) | (refine mix_calm rfl rfl ?_; intro K_ hK_; go_big_quiet_op; go_big_quiet_on; simp only [List.nil_append, List.cons_append]) | (refine mix_alloc rfl rfl Tryz.zeroValue151 ?_; simp only [List.nil_append, List.cons_append]) | (refine mix_fill 10 rfl rfl rfl rfl (by simp [Value.oneCell']) (by kernel_rfl) (by simp) rfl rfl rfl rfl ?_; simp only [List.nil_append, List.cons_append]) | (refine mix_fill 11 rfl rfl rfl rfl (by simp [Value.oneCell']) (by kernel_rfl) (by simp) rfl rfl rfl rfl ?_; simp only [List.nil_append, List.cons_append]))
    refine mix_nil (mix_end2 10 11 12 13 ⟨by kernel_rfl, by kernel_rfl⟩ rfl rfl rfl rfl rfl (by kernel_rfl) rfl rfl rfl rfl (by kernel_rfl) ?_)
    intro X p q h g ne_h
    have c_h := h.cell
    have f_h := h.frozen
    have g_h := h.gap
    have b_h := Lib.hid h.block
    simp only [World.size_ext, World.size_alloc, World.size_drew, World.size_setCell] at g_h
    clear h
    have c_g := g.cell
    have f_g := g.frozen
    have g_g := g.gap
    have b_g := Lib.hid g.block
    simp only [World.size_ext, World.size_alloc, World.size_drew, World.size_setCell] at g_g
    clear g
    simp only [Act.put, List.setIfInBounds_toArray, List.set_cons_zero, List.set_cons_succ, ptr]
    go_upto_region 4 with (first | (go_at_call 124; (with_reducible refine (HW.out _).mono ?_); rintro _ _ ⟨rfl, X_, rfl⟩))
    have gp := g_h.1
    have gq := g_g.1
    refine wp_abs (F := fun wx => Row wx p #[.int .i64 a.x, .int .i64 a.y] 151 ∧ Row wx q #[.int .i64 b.x, .int .i64 b.y] 151 ∧ Row wx (w.heap.size + 1 + 1) #[.int .i64 0, .int .i64 0] 151 ∧ Row wx (w.heap.size + 1 + 1 + 1) #[.int .i64 0, .int .i64 0] 151 ∧ ∃ X, wx = w.ext X) ⟨by (repeat (first | exact b_h.out | with_reducible refine Row.ext ?_ _ | with_reducible refine row_drew ?_)), by (repeat (first | exact b_g.out | with_reducible refine Row.ext ?_ _ | with_reducible refine row_drew ?_)), by exact rx_, by exact rx_, RowKit.Below.toExt (by exact bl_)⟩ ?_
    rintro wx ⟨Rp, Rq, Rr, Rs, hX⟩
    have HX := Lib.hid hX
    have lp := Rp.lt
    have lq := Rq.lt
    have lr := Rr.lt
    have ls := Rs.lt
    have cp := Rp.cell
    have cq := Rq.cell
    have cr := Rr.cell
    have cs := Rs.cell
    have fp := Rp.frozen
    have fq := Rq.frozen
    have fr := Rr.frozen
    have fs := Rs.frozen
    have ne_g := ne_h.symm
    have e128 : 128 * (n - 1) = (n - 1) * 128 := by omega
    clear c_h c_g f_h f_g g_h g_g b_h b_g hX
    go_region
    go_upto_region 6 with fail
    refine wp_abs (F := fun wy => Row wy p #[.int .i64 a.x, .int .i64 (a.y - (n - 1) * 128)] 151 ∧ Row wy q #[.int .i64 b.x, .int .i64 (b.y - (n - 1) * 128)] 151 ∧ Row wy (w.heap.size + 1 + 1) #[.int .i64 0, .int .i64 0] 151 ∧ Row wy (w.heap.size + 1 + 1 + 1) #[.int .i64 0, .int .i64 0] 151 ∧ ∃ X, wy = w.ext X) ⟨by (repeat (first | exact Rp.set 1 _ | exact Row.other (Rp.set 1 _) ne_h _ _ | exact Row.set (Row.other Rq ne_g _ _) 1 _ | exact Rr | exact Rs | with_reducible refine Row.ext ?_ _ | with_reducible refine row_drew ?_ | (with_reducible refine Row.other ?_ (by first | assumption | omega) _ _))), by (repeat (first | exact Rp.set 1 _ | exact Row.other (Rp.set 1 _) ne_h _ _ | exact Row.set (Row.other Rq ne_g _ _) 1 _ | exact Rr | exact Rs | with_reducible refine Row.ext ?_ _ | with_reducible refine row_drew ?_ | (with_reducible refine Row.other ?_ (by first | assumption | omega) _ _))), by (repeat (first | exact Rp.set 1 _ | exact Row.other (Rp.set 1 _) ne_h _ _ | exact Row.set (Row.other Rq ne_g _ _) 1 _ | exact Rr | exact Rs | with_reducible refine Row.ext ?_ _ | with_reducible refine row_drew ?_ | (with_reducible refine Row.other ?_ (by first | assumption | omega) _ _))), by (repeat (first | exact Rp.set 1 _ | exact Row.other (Rp.set 1 _) ne_h _ _ | exact Row.set (Row.other Rq ne_g _ _) 1 _ | exact Rr | exact Rs | with_reducible refine Row.ext ?_ _ | with_reducible refine row_drew ?_ | (with_reducible refine Row.other ?_ (by first | assumption | omega) _ _))), by obtain ⟨X0, hX0⟩ := HX.out; subst hX0; exact RowKit.Below.toExt (by exact br_)⟩ ?_
    clear lp lq lr ls cp cq cr cs fp fq fr fs HX Rp Rq Rr Rs
    rintro wy ⟨Rp, Rq, Rr, Rs, hX⟩
    have HX := Lib.hid hX
    have lp := Rp.lt
    have lq := Rq.lt
    have lr := Rr.lt
    have ls := Rs.lt
    have cp := Rp.cell
    have cq := Rq.cell
    have cr := Rr.cell
    have cs := Rs.cell
    have fp := Rp.frozen
    have fq := Rq.frozen
    have fr := Rr.frozen
    have fs := Rs.frozen
    clear hX Rp Rq Rr Rs
    go_region
    go_wp2
    refine bodyPost_ret (v := .tuple #[.agg #[.int .i64 a.x, .int .i64 (a.y - (n - 1) * 128)], .agg #[.int .i64 b.x, .int .i64 (b.y - (n - 1) * 128)]]) (by simp [results, Tryz.results121, go_sem, cr, cs]; try rfl) rfl ?_
    obtain ⟨X0, hX0⟩ := HX.out
    subst hX0
    exact Ret.of' rfl (by exact br_)
set_option maxHeartbeats 4000000 in
theorem rNumber_any (ax ay bx y2 x y : Int) (ha : MayP ax ay) (hb : MayP bx y2) (hx : FarP x y) (w : World) : Calls Tryz.prog 125 #[P2 ax ay, P2 bx y2, .int .i64 x, .int .i64 y] w (Ret (.tuple #[.int .i64 (if exP ax ay bx y2 x y then idxP ax ay bx y2 x y else 0), .bool (decide (exP ax ay bx y2 x y))]) w) := by
  have E := fun w => rexits_any ax ay bx y2 x y ha hb hx w
  by_cases h : exP ax ay bx y2 x y
  · have c : ¬ (ax = bx ∧ ay = y2) := fun k => by obtain ⟨rfl, rfl⟩ := k; exact exP_same _ _ _ _ h
    have HN := fun w => rnumber_any (ofL ax ay bx y2) (ofL_ok ax ay bx y2 ha hb) x y (uC (decide (turnP ax ay bx y2)) x y) (by unfold uC; have := hx.x0; have := hx.y0; split <;> omega) (by unfold uC; have := hx.x1; have := hx.y1; split <;> omega) w
    rw [numL_at ax ay bx y2 x y c h] at HN
    have HO := Lib.hid (fun w => wrof_any ax ay bx y2 ha hb w)
    have HW := fun w => rwide_any ax ay bx y2 ha hb w
    simp only [h, decide_true, if_true] at E ⊢
    have HE := Lib.hid E
    generalize idxP ax ay bx y2 x y = k at *
    generalize ofL ax ay bx y2 = l at *
    by_cases t : turnP ax ay bx y2
    · simp only [t, decide_true, Bool.not_true, uC, if_true] at HN HW
      have H1 := Lib.hid HN
      have H2 := Lib.hid HW
      clear E h HN HW c ha hb hx t
      go_enter Tryz.func125, Tryz.ntmps125
      go_wp2_with (first | (go_at_call 187; (with_reducible refine (HE.out _).mono ?_); rintro _ _ ⟨rfl, X_, rfl⟩) | (go_at_call 186; (with_reducible refine (H2.out _).mono ?_); rintro _ _ ⟨rfl, X_, rfl⟩) | (go_at_call 184; (with_reducible refine (HO.out _).mono ?_); rintro _ _ ⟨rfl, X_, rfl⟩) | (go_at_call 188; (with_reducible refine (H1.out _).mono ?_); rintro _ _ ⟨rfl, X_, rfl⟩))
      go_ret2
      exact Ret.of' rfl (by exact bl_)
    · simp only [t, decide_false, Bool.not_false, uC, if_false, Bool.false_eq_true] at HN HW
      have H1 := Lib.hid HN
      have H2 := Lib.hid HW
      clear E h HN HW c ha hb hx t
      go_enter Tryz.func125, Tryz.ntmps125
      go_wp2_with (first | (go_at_call 187; (with_reducible refine (HE.out _).mono ?_); rintro _ _ ⟨rfl, X_, rfl⟩) | (go_at_call 186; (with_reducible refine (H2.out _).mono ?_); rintro _ _ ⟨rfl, X_, rfl⟩) | (go_at_call 184; (with_reducible refine (HO.out _).mono ?_); rintro _ _ ⟨rfl, X_, rfl⟩) | (go_at_call 188; (with_reducible refine (H1.out _).mono ?_); rintro _ _ ⟨rfl, X_, rfl⟩))
      go_ret2
      exact Ret.of' rfl (by exact bl_)
  · simp only [h, decide_false, if_false] at E ⊢
    have HE := Lib.hid E
    clear E h
    go_enter Tryz.func125, Tryz.ntmps125
    go_wp2_with (first | (go_at_call 187; (with_reducible refine (HE.out _).mono ?_); rintro _ _ ⟨rfl, X_, rfl⟩))
    go_ret2
    exact Ret.of' rfl (by exact bl_)
end Go.Proofs.YtbkmgngeahmefaaGreat
end
end
