/- Parts of the proof of FaceLines, laid together. Conditions: at each. -/
import Derived.Test.YtbkmgngeahmefaaGreatSFaceLines39
set_option linter.unusedVariables false
set_option linter.unusedSimpArgs false
namespace Go.Proofs.YtbkmgngeahmefaaGreat
open Go.RowKit
theorem rsbare_any (n : Int) (h0 : -4611686018427387904 ≤ n) (h1 : n ≤ 4611686018427387904) (w : World) : Calls Tryz.prog 247 #[.int .i64 n] w (Ret (.int .u64 (bareI n)) w) := by
  have e1 : n < 0 → IntKind.u64.wrap (-n) = -n := fun h => by
    have : IntKind.u64.wrap (-n) = (-n) % 18446744073709551616 := rfl
    rw [this]; omega
  have e2 : ¬ n < 0 → IntKind.u64.wrap n = n := fun h => by
    have : IntKind.u64.wrap n = n % 18446744073709551616 := rfl
    rw [this]; omega
  unfold bareI
  by_cases h : n < 0
  · rw [if_pos h]
    have e := e1 h
    clear e1 e2
    go_enter Tryz.func247, Tryz.ntmps247
    go_wp2
    go_ret
    exact Ret.of (by exact bl_)
  · rw [if_neg h]
    have e := e2 h
    clear e1 e2
    go_enter Tryz.func247, Tryz.ntmps247
    go_wp2
    go_ret
    exact Ret.of (by exact bl_)
theorem bare_sq (n : Int) : bareI n * bareI n = n * n := by
  unfold bareI; split
  · exact Int.neg_mul_neg n n
  · rfl
theorem parts_128 (z : Int) : z = hiN z * 18446744073709551616 + loN z ∧ 0 ≤ loN z ∧ loN z < 18446744073709551616 := by unfold hiN loN; omega
theorem sgn_parts (A B h1 l1 h2 l2 : Int) (e1 : A = h1 * 18446744073709551616 + l1) (a0 : 0 ≤ l1) (a1 : l1 < 18446744073709551616) (e2 : B = h2 * 18446744073709551616 + l2) (b0 : 0 ≤ l2) (b1 : l2 < 18446744073709551616) :
    sgn (A - B) = if h1 < h2 ∨ (h1 = h2 ∧ l1 < l2) then -1 else if h1 = h2 ∧ l1 = l2 then 0 else 1 := by
  unfold sgn
  repeat' split
  all_goals omega
set_option maxHeartbeats 4000000 in
theorem against_any (c n l : Int) (h0 : -4611686018427387904 ≤ c) (h1 : c ≤ 4611686018427387904) (n0 : 1 ≤ n) (n1 : n ≤ 64) (l0 : 0 ≤ l) (l1 : l ≤ 576460752303423488) (w : World) : Calls Tryz.prog 226 #[.int .i64 c, .int .i64 n, .int .i64 l] w (Ret (.int .i64 (sgn (c * c - l * (128 * n * 128 * n)))) w) := by
  have B := Lib.hid (fun w => rsbare_any c h0 h1 w)
  have hb : 0 ≤ bareI c ∧ bareI c ≤ 4611686018427387904 := by unfold bareI; split <;> omega
  have m := mul_bds (U := 64) (V := 64) (by omega) (by omega) (show -64 ≤ n by omega) n1 (show -64 ≤ n by omega) n1
  have p := smq_nn n
  have en : 128 * n * 128 * n = 16384 * (n * n) := by grind
  have k1 : IntKind.i64.wrap (128 * n * 128 * n) = 128 * n * 128 * n := IntWalk.i64_in _ (by omega)
  have wl : IntKind.u64.wrap l = l := by
    have : IntKind.u64.wrap l = l % 18446744073709551616 := rfl
    rw [this]; omega
  have wk : IntKind.u64.wrap (128 * n * 128 * n) = 128 * n * 128 * n := by
    have : IntKind.u64.wrap (128 * n * 128 * n) = (128 * n * 128 * n) % 18446744073709551616 := rfl
    rw [this]; omega
  have kb : 0 ≤ 128 * n * 128 * n ∧ 128 * n * 128 * n ≤ 67108864 := by omega
  have M1 := Lib.hid (fun w => mul64_any (bareI c) (bareI c) hb.1 (by omega) hb.1 (by omega) w)
  have M2 := Lib.hid (fun w => mul64_any l (128 * n * 128 * n) l0 (by omega) kb.1 (by omega) w)
  rw [bare_sq] at M1
  obtain ⟨e1, a0, a1⟩ := parts_128 (c * c)
  obtain ⟨e2, b0, b1⟩ := parts_128 (l * (128 * n * 128 * n))
  rw [sgn_parts _ _ _ _ _ _ e1 a0 a1 e2 b0 b1]
  clear e1 e2
  generalize hiN (c * c) = H1 at *
  generalize loN (c * c) = L1 at *
  generalize hiN (l * (128 * n * 128 * n)) = H2 at *
  generalize loN (l * (128 * n * 128 * n)) = L2 at *
  generalize bareI c = bc at *
  have kk1 : IntKind.i64.wrap (128 * n) = 128 * n := IntWalk.i64_in _ (by omega)
  have kk2 : IntKind.i64.wrap (128 * n * 128) = 128 * n * 128 := IntWalk.i64_in _ (by omega)
  clear m p en kb h0 h1 n0 n1 l0 l1 hb
  obtain ⟨V, hV⟩ : ∃ V : Int, V = if H1 < H2 ∨ (H1 = H2 ∧ L1 < L2) then -1 else if H1 = H2 ∧ L1 = L2 then 0 else 1 := ⟨_, rfl⟩
  rw [← hV]
  have HV := Lib.hid hV
  clear hV
  go_enter Tryz.func226, Tryz.ntmps226
  go_wp2_with (first
    | (go_at_call 247; (with_reducible refine (B.out _).mono ?_); rintro _ _ ⟨rfl, X_, rfl⟩)
    | (go_at_call 210; (with_reducible refine (M1.out _).mono ?_); rintro _ _ ⟨rfl, rfl⟩)
    | (go_at_call 210; (with_reducible refine (M2.out _).mono ?_); rintro _ _ ⟨rfl, rfl⟩))
  all_goals go_ret
  all_goals refine Ret.of' (congrArg (Value.int .i64) ?_) (by exact bl_)
  all_goals rw [HV.out]
  all_goals clear HV
  all_goals try simp only [beq_iff_eq, beq_eq_false_iff_ne, ne_eq] at *
  all_goals repeat' split
  all_goals omega
theorem smC_in {a b : WinP} {x y : Int} (ha : a.fits) (hb : b.fits) (x0 : -1342177280 ≤ x) (x1 : x ≤ 1342177280) (y0 : -1342177280 ≤ y) (y1 : y ≤ 1342177280) : -1729382256910270464 ≤ smC a b x y ∧ smC a b x y ≤ 1729382256910270464 := by
  obtain ⟨a0, a1, a2, a3, -, -, -⟩ := ha
  obtain ⟨b0, b1, b2, b3, -, -, -⟩ := hb
  have m1 := mul_bds (U := 536870912) (V := 1610612736) (by omega) (by omega) (show -536870912 ≤ b.x - a.x by omega) (by omega) (show -1610612736 ≤ y - a.y by omega) (by omega)
  have m2 := mul_bds (U := 536870912) (V := 1610612736) (by omega) (by omega) (show -536870912 ≤ b.y - a.y by omega) (by omega) (show -1610612736 ≤ x - a.x by omega) (by omega)
  unfold smC; omega
set_option maxRecDepth 100000 in
set_option maxHeartbeats 8000000 in
theorem rsin_any (a b : WinP) (n x y : Int) (ha : a.fits) (hb : b.fits) (hn : widthP n) (x0 : -1342177280 ≤ x) (x1 : x ≤ 1342177280) (y0 : -1342177280 ≤ y) (y1 : y ≤ 1342177280) (w : World) : Calls Tryz.prog 182 #[a.v, b.v, .int .i64 n, .int .i64 x, .int .i64 y] w (Ret (.bool (decide (inS a b n x y))) w) := by
  have lb := smL_in ha hb
  have cb := smC_in ha hb x0 x1 y0 y1
  have IN : inS a b n x y ↔ ((0 ≤ smS a b x y ∧ smS a b x y < smL a b) ∧ ((0 < smC a b x y ∧ smC a b x y * smC a b x y ≤ smK a b n) ∨ smC a b x y = 0 ∨ (smC a b x y < 0 ∧ smC a b x y * smC a b x y < smK a b n))) := Iff.rfl
  have AG := fun w => against_any (smC a b x y) n (smL a b) (by omega) (by omega) hn.1 hn.2 lb.1 lb.2 w
  rw [show smL a b * (128 * n * 128 * n) = smK a b n from rfl] at AG
  have eS : smS a b x y = (x - a.x) * (b.x - a.x) + (y - a.y) * (b.y - a.y) := rfl
  have eC : smC a b x y = (b.x - a.x) * (y - a.y) - (b.y - a.y) * (x - a.x) := rfl
  have eL : smL a b = (b.x - a.x) * (b.x - a.x) + (b.y - a.y) * (b.y - a.y) := rfl
  obtain ⟨a0, a1, a2, a3, -, -, -⟩ := ha
  obtain ⟨b0, b1, b2, b3, -, -, -⟩ := hb
  have w1 : -536870912 ≤ b.x - a.x ∧ b.x - a.x ≤ 536870912 := by omega
  have w2 : -536870912 ≤ b.y - a.y ∧ b.y - a.y ≤ 536870912 := by omega
  have w3 : -1610612736 ≤ x - a.x ∧ x - a.x ≤ 1610612736 := by omega
  have w4 : -1610612736 ≤ y - a.y ∧ y - a.y ≤ 1610612736 := by omega
  obtain ⟨W, hW⟩ : ∃ W, b.x - a.x = W := ⟨_, rfl⟩
  obtain ⟨H, hH⟩ : ∃ W, b.y - a.y = W := ⟨_, rfl⟩
  obtain ⟨p, hp⟩ : ∃ W, x - a.x = W := ⟨_, rfl⟩
  obtain ⟨q, hq⟩ : ∃ W, y - a.y = W := ⟨_, rfl⟩
  have s1 : IntKind.i64.wrap (b.x - a.x) = W := by rw [hW]; exact IntWalk.i64_in _ (by omega)
  have s2 : IntKind.i64.wrap (b.y - a.y) = H := by rw [hH]; exact IntWalk.i64_in _ (by omega)
  have s3 : IntKind.i64.wrap (x - a.x) = p := by rw [hp]; exact IntWalk.i64_in _ (by omega)
  have s4 : IntKind.i64.wrap (y - a.y) = q := by rw [hq]; exact IntWalk.i64_in _ (by omega)
  simp only [hW, hH, hp, hq] at eS eC eL w1 w2 w3 w4
  have m1 := mul_bds (U := 536870912) (V := 536870912) (by omega) (by omega) w1.1 w1.2 w1.1 w1.2
  have m2 := mul_bds (U := 536870912) (V := 536870912) (by omega) (by omega) w2.1 w2.2 w2.1 w2.2
  have m3 := mul_bds (U := 1610612736) (V := 536870912) (by omega) (by omega) w3.1 w3.2 w1.1 w1.2
  have m4 := mul_bds (U := 1610612736) (V := 536870912) (by omega) (by omega) w4.1 w4.2 w2.1 w2.2
  have m5 := mul_bds (U := 536870912) (V := 1610612736) (by omega) (by omega) w1.1 w1.2 w4.1 w4.2
  have m6 := mul_bds (U := 536870912) (V := 1610612736) (by omega) (by omega) w2.1 w2.2 w3.1 w3.2
  have k1 : IntKind.i64.wrap (W * W) = W * W := IntWalk.i64_in _ (by omega)
  have k2 : IntKind.i64.wrap (H * H) = H * H := IntWalk.i64_in _ (by omega)
  have k3 : IntKind.i64.wrap (W * W + H * H) = smL a b := by rw [eL]; exact IntWalk.i64_in _ (by omega)
  have k4 : IntKind.i64.wrap (p * W) = p * W := IntWalk.i64_in _ (by omega)
  have k5 : IntKind.i64.wrap (q * H) = q * H := IntWalk.i64_in _ (by omega)
  have k6 : IntKind.i64.wrap (p * W + q * H) = smS a b x y := by rw [eS]; exact IntWalk.i64_in _ (by omega)
  have k7 : IntKind.i64.wrap (W * q) = W * q := IntWalk.i64_in _ (by omega)
  have k8 : IntKind.i64.wrap (H * p) = H * p := IntWalk.i64_in _ (by omega)
  have k9 : IntKind.i64.wrap (W * q - H * p) = smC a b x y := by rw [eC]; exact IntWalk.i64_in _ (by omega)
  obtain ⟨v, hv⟩ : ∃ v, decide (inS a b n x y) = v := ⟨_, rfl⟩
  have HB : v = true ↔ _ := Iff.trans (by rw [← hv, decide_eq_true_iff]) IN
  rw [hv]
  clear hv IN eS eC eL m1 m2 m3 m4 m5 m6 hW hH hp hq
  generalize smS a b x y = S at *
  generalize smC a b x y = C at *
  generalize smL a b = l at *
  generalize smK a b n = K at *
  generalize C * C = Q at *
  have sg := sgn_01 (Q - K)
  generalize sgn (Q - K) = g at *
  have HAG := Lib.hid AG
  have HBH := Lib.hid HB
  have SG := Lib.hid sg
  obtain ⟨lb0, lb1⟩ := lb
  obtain ⟨cb0, cb1⟩ := cb
  clear AG sg a0 a1 a2 a3 b0 b1 b2 b3 x0 x1 y0 y1 w1 w2 w3 w4 hn
  have fls : ∀ {P : Prop}, (v = true ↔ P) → ¬ P → v = false := fun h k => by cases v; rfl; exact absurd (h.1 rfl) k
  by_cases c1 : S < 0
  · have e := fls HBH.out (by omega)
    subst e
    clear HB HBH SG fls
    go_enter Tryz.func182, Tryz.ntmps182
    go_wp2
    refine wp_region_ext (by kernel_rfl) (by kernel_rfl) ?_
    repeat (go_big_quiet_step ((fail)))
    refine wpQuiet_nil ?_
    intro _ hw_ext
    obtain ⟨X1, hw_ext⟩ := hw_ext
    subst hw_ext
    go_wp2
    refine wp_region_ext (by kernel_rfl) (by kernel_rfl) ?_
    repeat (go_big_quiet_step ((fail)))
    refine wpQuiet_nil ?_
    intro _ hw_ext
    obtain ⟨X2, hw_ext⟩ := hw_ext
    subst hw_ext
    go_wp2
    go_ret
    exact Ret.of (by exact bl_)
  by_cases c2 : l ≤ S
  · have e := fls HBH.out (by omega)
    subst e
    clear HB HBH SG fls
    go_enter Tryz.func182, Tryz.ntmps182
    go_wp2
    refine wp_region_ext (by kernel_rfl) (by kernel_rfl) ?_
    repeat (go_big_quiet_step ((fail)))
    refine wpQuiet_nil ?_
    intro _ hw_ext
    obtain ⟨X1, hw_ext⟩ := hw_ext
    subst hw_ext
    go_wp2
    refine wp_region_ext (by kernel_rfl) (by kernel_rfl) ?_
    repeat (go_big_quiet_step ((fail)))
    refine wpQuiet_nil ?_
    intro _ hw_ext
    obtain ⟨X2, hw_ext⟩ := hw_ext
    subst hw_ext
    go_wp2
    go_ret
    exact Ret.of (by exact bl_)
  by_cases c3 : 0 < C
  · by_cases c4 : Q ≤ K
    · have e := HBH.out.2 (by omega)
      have hg : g ≤ 0 := by have := SG.out; omega
      subst e
      clear HB HBH SG fls c4
      go_enter Tryz.func182, Tryz.ntmps182
      go_wp2
      refine wp_region_ext (by kernel_rfl) (by kernel_rfl) ?_
      repeat (go_big_quiet_step ((fail)))
      refine wpQuiet_nil ?_
      intro _ hw_ext
      obtain ⟨X1, hw_ext⟩ := hw_ext
      subst hw_ext
      go_wp2
      refine wp_region_ext (by kernel_rfl) (by kernel_rfl) ?_
      repeat (go_big_quiet_step ((fail)))
      refine wpQuiet_nil ?_
      intro _ hw_ext
      obtain ⟨X2, hw_ext⟩ := hw_ext
      subst hw_ext
      go_wp2_with (first | (go_at_call 226; (with_reducible refine (HAG.out _).mono ?_); rintro _ _ ⟨rfl, X_, rfl⟩))
      go_ret
      exact Ret.of (by exact bl_)
    · have e := fls HBH.out (by omega)
      have hg : 0 < g := by have := SG.out; omega
      subst e
      clear HB HBH SG fls c4
      go_enter Tryz.func182, Tryz.ntmps182
      go_wp2
      refine wp_region_ext (by kernel_rfl) (by kernel_rfl) ?_
      repeat (go_big_quiet_step ((fail)))
      refine wpQuiet_nil ?_
      intro _ hw_ext
      obtain ⟨X1, hw_ext⟩ := hw_ext
      subst hw_ext
      go_wp2
      refine wp_region_ext (by kernel_rfl) (by kernel_rfl) ?_
      repeat (go_big_quiet_step ((fail)))
      refine wpQuiet_nil ?_
      intro _ hw_ext
      obtain ⟨X2, hw_ext⟩ := hw_ext
      subst hw_ext
      go_wp2_with (first | (go_at_call 226; (with_reducible refine (HAG.out _).mono ?_); rintro _ _ ⟨rfl, X_, rfl⟩))
      go_ret
      refine Ret.of' (congrArg Value.bool ?_) (by exact bl_)
      exact decide_eq_false (by omega)
  by_cases c4 : C = 0
  · have e := HBH.out.2 (by omega)
    have ec : (C == 0) = true := by simpa using c4
    subst e
    clear HB HBH SG fls c4
    go_enter Tryz.func182, Tryz.ntmps182
    go_wp2
    refine wp_region_ext (by kernel_rfl) (by kernel_rfl) ?_
    repeat (go_big_quiet_step ((fail)))
    refine wpQuiet_nil ?_
    intro _ hw_ext
    obtain ⟨X1, hw_ext⟩ := hw_ext
    subst hw_ext
    go_wp2
    refine wp_region_ext (by kernel_rfl) (by kernel_rfl) ?_
    repeat (go_big_quiet_step ((fail)))
    refine wpQuiet_nil ?_
    intro _ hw_ext
    obtain ⟨X2, hw_ext⟩ := hw_ext
    subst hw_ext
    go_wp2_with (first | (go_at_call 226; (with_reducible refine (HAG.out _).mono ?_); rintro _ _ ⟨rfl, X_, rfl⟩))
    go_ret
    exact Ret.of (by exact bl_)
  have ec : (C == 0) = false := by simpa using c4
  by_cases c5 : Q < K
  · have e := HBH.out.2 (by omega)
    have hg : g < 0 := by have := SG.out; omega
    subst e
    clear HB HBH SG fls c4 c5
    go_enter Tryz.func182, Tryz.ntmps182
    go_wp2
    refine wp_region_ext (by kernel_rfl) (by kernel_rfl) ?_
    repeat (go_big_quiet_step ((fail)))
    refine wpQuiet_nil ?_
    intro _ hw_ext
    obtain ⟨X1, hw_ext⟩ := hw_ext
    subst hw_ext
    go_wp2
    refine wp_region_ext (by kernel_rfl) (by kernel_rfl) ?_
    repeat (go_big_quiet_step ((fail)))
    refine wpQuiet_nil ?_
    intro _ hw_ext
    obtain ⟨X2, hw_ext⟩ := hw_ext
    subst hw_ext
    go_wp2_with (first | (go_at_call 226; (with_reducible refine (HAG.out _).mono ?_); rintro _ _ ⟨rfl, X_, rfl⟩))
    go_ret
    exact Ret.of (by exact bl_)
  · have e := fls HBH.out (by omega)
    have hg : 0 ≤ g := by have := SG.out; omega
    subst e
    clear HB HBH SG fls c4 c5
    go_enter Tryz.func182, Tryz.ntmps182
    go_wp2
    refine wp_region_ext (by kernel_rfl) (by kernel_rfl) ?_
    repeat (go_big_quiet_step ((fail)))
    refine wpQuiet_nil ?_
    intro _ hw_ext
    obtain ⟨X1, hw_ext⟩ := hw_ext
    subst hw_ext
    go_wp2
    refine wp_region_ext (by kernel_rfl) (by kernel_rfl) ?_
    repeat (go_big_quiet_step ((fail)))
    refine wpQuiet_nil ?_
    intro _ hw_ext
    obtain ⟨X2, hw_ext⟩ := hw_ext
    subst hw_ext
    go_wp2_with (first | (go_at_call 226; (with_reducible refine (HAG.out _).mono ?_); rintro _ _ ⟨rfl, X_, rfl⟩))
    go_ret
    refine Ret.of' (congrArg Value.bool ?_) (by exact bl_)
    exact decide_eq_false (by omega)
def srefN (a b : WinP) (n x y : Int) (i k : Nat) : Nat := sumTo (fun i => sumTo (fun k => smp a b n (256 * x + 32 * (i : Int) + 16) (256 * y + 32 * (k : Int) + 16)) 8) i + sumTo (fun k => smp a b n (256 * x + 32 * (i : Int) + 16) (256 * y + 32 * (k : Int) + 16)) k
theorem srefN_k (a b : WinP) (n x y : Int) (i k : Nat) : srefN a b n x y i (k + 1) = srefN a b n x y i k + smp a b n (256 * x + 32 * (i : Int) + 16) (256 * y + 32 * (k : Int) + 16) := by unfold srefN; simp only [sumTo]; omega
theorem srefN_i (a b : WinP) (n x y : Int) (i : Nat) : srefN a b n x y i 8 = srefN a b n x y (i + 1) 0 := rfl
theorem srefN_end (a b : WinP) (n x y : Int) : srefN a b n x y 8 0 = covN a b n x y := by rw [← covN_ref]; rfl
theorem srefN_le (a b : WinP) (n x y : Int) (i k : Nat) : srefN a b n x y i k ≤ i * 8 + k := by
  have h1 : sumTo (fun i : Nat => sumTo (fun k : Nat => smp a b n (256 * x + 32 * (i : Int) + 16) (256 * y + 32 * (k : Int) + 16)) 8) i ≤ i * 8 := sumTo_le (fun i => sumTo_le (fun k => smp_le a b n _ _) 8) i
  have h2 : sumTo (fun k : Nat => smp a b n (256 * x + 32 * (i : Int) + 16) (256 * y + 32 * (k : Int) + 16)) k ≤ k * 1 := sumTo_le (fun k => smp_le a b n _ _) k
  unfold srefN; omega
set_option maxRecDepth 100000 in
set_option maxHeartbeats 4000000 in
theorem rscover_any (a b : WinP) (n x y : Int) (x0 : -4194304 ≤ x) (x1 : x ≤ 4194304) (y0 : -4194304 ≤ y) (y1 : y ≤ 4194304) (w : World) : Calls Tryz.prog 118 #[a.v, b.v, .int .i64 n, .int .i64 x, .int .i64 y] w (Ret (.int .i64 (cover a b n x y)) w) := by
  by_cases h : smoP a b n
  · have R := Lib.hid (fun w => decide_eq_true h ▸ rsmooth_right a b n w)
    rw [show cover a b n x y = (covN a b n x y : Int) from if_pos h]
    obtain ⟨⟨fa, fb⟩, hn⟩ := fitsP_f h
    have IN := Lib.hid (fun (i k : Nat) (hi : i < 8) (hk : k < 8) w => rsin_any a b n (256 * x + 32 * (i : Int) + 16) (256 * y + 32 * (k : Int) + 16) fa fb hn (by omega) (by omega) (by omega) (by omega) w)
    clear h fa fb hn
    have HE := Lib.hid (srefN_end a b n x y)
    have HK := Lib.hid (fun i k => srefN_k a b n x y i k)
    have HI := Lib.hid (fun i => srefN_i a b n x y i)
    have HL := Lib.hid (fun i k => srefN_le a b n x y i k)
    have H0 := Lib.hid (show srefN a b n x y 0 0 = 0 from rfl)
    have HS := Lib.hid (fun (i k : Nat) => show smp a b n (256 * x + 32 * (i : Int) + 16) (256 * y + 32 * (k : Int) + 16) = if inS a b n (256 * x + 32 * (i : Int) + 16) (256 * y + 32 * (k : Int) + 16) then 1 else 0 from rfl)
    generalize covN a b n x y = c at *
    obtain ⟨F, hF⟩ : ∃ F, F = srefN a b n x y := ⟨_, rfl⟩
    simp only [← hF] at HE HK HI HL H0
    clear hF
    go_enter Tryz.func118, Tryz.ntmps118
    go_upto_region 3 with (first | (go_at_call 117; (with_reducible refine (R.out _).mono ?_); rintro _ _ ⟨rfl, X_, rfl⟩))
    refine wp_abs (F := fun w1 => Row w1 w.heap.size #[.int .i64 a.x, .int .i64 a.y, .int .i64 a.z, .int .i64 a.c0, .int .i64 a.c1, .int .i64 a.c2, .int .i64 a.c3] 41 ∧ Row w1 (w.heap.size + 1) #[.int .i64 b.x, .int .i64 b.y, .int .i64 b.z, .int .i64 b.c0, .int .i64 b.c1, .int .i64 b.c2, .int .i64 b.c3] 41 ∧ ∃ X, w1 = w.ext X) ⟨by exact rx_, by exact rx_, RowKit.Below.toExt (by exact bl_)⟩ ?_
    rintro w1 ⟨h2, h3, hX⟩
    have HX := Lib.hid hX
    have c1 := h2.cell
    have c2 := h2.frozen
    have c3 := h2.lt
    have d1 := h3.cell
    have d2 := h3.frozen
    have d3 := h3.lt
    clear h2 h3 hX
    go_wp2
    go_loopw [12, 11] (fun i v wr => ∃ (i' v' : Nat) (X : Xt), i' ≤ 8 ∧ i = .int .i64 i' ∧ v = .int .i64 v' ∧ Hid (v' = F i' 0) ∧ wr = w1.ext X) (fun i _ _ => 8 - (intOf i).toNat)
    case atStart => exact ⟨0, 0, ⟨#[], w1.drawn⟩, by omega, rfl, rfl, Lib.hid H0.out.symm, (ext_none' _).symm⟩
    case round =>
      obtain ⟨i, v, X, hi, rfl, rfl, hv, rfl⟩ := hrel
      by_cases hlt : i < 8
      · have hi8 : (i : Int) < 8 := by omega
        go_wp2
        go_loopw [13, 11] (fun k v wr => ∃ (k' v' : Nat) (X : Xt), k' ≤ 8 ∧ k = .int .i64 k' ∧ v = .int .i64 v' ∧ Hid (v' = F i k') ∧ wr = w1.ext X) (fun k _ _ => 8 - (intOf k).toNat)
        case atStart => exact ⟨0, v, X, by omega, rfl, rfl, hv, rfl⟩
        case round =>
          clear hv
          obtain ⟨k, v, X, hk, rfl, rfl, hv, rfl⟩ := hrel
          by_cases hlt2 : k < 8
          · have vb : v ≤ 72 := by have := hv.out; have := HL.out i k; omega
            have I1 := IN.out i k hlt hlt2
            have S1 := HS.out i k
            have K1 := HK.out i k
            by_cases hin : inS a b n (256 * x + 32 * (i : Int) + 16) (256 * y + 32 * (k : Int) + 16)
            · simp only [hin, decide_true] at I1
              rw [if_pos hin] at S1
              have HV := Lib.hid (show v + 1 = F i (k + 1) by rw [K1, S1, ← hv.out])
              have I2 := Lib.hid I1
              clear I1 S1 K1 hin
              go_wp2_with (first | (go_at_call 182; (with_reducible refine (I2.out _).mono ?_); rintro _ _ ⟨rfl, X_, rfl⟩))
              go_roundw
              case rel => exact ⟨k + 1, v + 1, _, by omega, by go_num, by go_num, HV, World.ext_ext⟩
              case measure => simp [intOf]; omega
            · simp only [hin, decide_false] at I1
              rw [if_neg hin] at S1
              have HV := Lib.hid (show v = F i (k + 1) by rw [K1, S1, ← hv.out]; rfl)
              have I2 := Lib.hid I1
              clear I1 S1 K1 hin
              go_wp2_with (first | (go_at_call 182; (with_reducible refine (I2.out _).mono ?_); rintro _ _ ⟨rfl, X_, rfl⟩))
              go_roundw
              case rel => exact ⟨k + 1, v, _, by omega, by go_num, rfl, HV, World.ext_ext⟩
              case measure => simp [intOf]; omega
          · obtain rfl : k = 8 := by omega
            have HV := Lib.hid (show v = F (i + 1) 0 by rw [← HI.out]; exact hv.out)
            go_wp2
            go_roundw
            case rel => exact ⟨i + 1, v, _, by omega, by go_num, rfl, HV, rfl⟩
            case measure => simp [intOf]; omega
      · obtain rfl : i = 8 := by omega
        have e := hv.out
        rw [HE.out] at e
        subst e
        go_wp2
        go_ret
        obtain ⟨X0, hX0⟩ := HX.out
        subst hX0
        exact Ret.of (by exact br_)
  · have R := Lib.hid (fun w => decide_eq_false h ▸ rsmooth_right a b n w)
    rw [show cover a b n x y = 0 from if_neg h]
    clear h
    go_enter Tryz.func118, Tryz.ntmps118
    go_wp2_with (first | (go_at_call 117; (with_reducible refine (R.out _).mono ?_); rintro _ _ ⟨rfl, X_, rfl⟩))
    go_ret
    exact Ret.of (by exact bl_)
end Go.Proofs.YtbkmgngeahmefaaGreat
