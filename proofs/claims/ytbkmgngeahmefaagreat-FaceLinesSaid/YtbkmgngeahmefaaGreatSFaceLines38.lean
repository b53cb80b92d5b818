/- Parts of the proof of FaceLines, laid together. Conditions: at each. -/
import Derived.Test.YtbkmgngeahmefaaGreatSFaceLines05
import Derived.Test.YtbkmgngeahmefaaGreatSFaceLines31
import Derived.Test.YtbkmgngeahmefaaGreatSFaceLines34
import Derived.Test.YtbkmgngeahmefaaGreatSFaceLines37
set_option linter.unusedVariables false
set_option linter.unusedSimpArgs false
section
namespace Go.Proofs.YtbkmgngeahmefaaGreat
open Go.RowKit
theorem sfloor_any (n d : Int) (hd : 0 < d) (d1 : d ≤ 4611686018427387904) (n0 : -4611686018427387904 ≤ n) (n1 : n ≤ 4611686018427387904) (w : World) : Calls Tryz.prog 171 #[.int .i64 n, .int .i64 d] w (Ret (.int .i64 (n / d)) w) := by
  rw [← floor_t hd]
  have nz : (d == 0) = false := by simp; omega
  have nz2 : ¬ d = 0 := by omega
  have b1 : -4611686018427387904 ≤ n.tdiv d ∧ n.tdiv d ≤ 4611686018427387904 := by
    have := Int.natAbs_tdiv_le_natAbs n d
    omega
  have w1 : IntKind.i64.wrap (n.tdiv d) = n.tdiv d := IntWalk.i64_in _ (by omega)
  have w2 : IntKind.i64.wrap (n.tdiv d - 1) = n.tdiv d - 1 := IntWalk.i64_in _ (by omega)
  go_enter Tryz.func171, Tryz.ntmps171
  go_wp2
  · go_ret
    exact Ret.of' rfl (by exact bl_)
  · go_ret
    exact Ret.of' rfl (by exact bl_)
theorem quo_in {n d : Int} (hd : 0 < d) (n0 : -4611686018427387904 ≤ n) (n1 : n ≤ 4611686018427387904) : -4611686018427387904 ≤ n / d ∧ n / d ≤ 4611686018427387904 := by
  have m := Int.natAbs_ediv_le_natAbs n d
  omega
abbrev P2v (p : Int × Int) : Value := .tuple #[.int .i64 p.1, .int .i64 p.2]
set_option maxHeartbeats 4000000 in
theorem between_any (t a lo hi f u : Int) (t0 : -1152921504606846976 ≤ t) (t1 : t ≤ 1152921504606846976) (a0 : -2305843009213693952 ≤ a) (a1 : a ≤ 2305843009213693952) (l0 : -1152921504606846976 ≤ lo) (l1 : lo ≤ 1152921504606846976) (h0 : -1152921504606846976 ≤ hi) (h1 : hi ≤ 1152921504606846976) (w : World) :
    Calls Tryz.prog 218 #[.int .i64 t, .int .i64 a, .int .i64 lo, .int .i64 hi, .int .i64 f, .int .i64 u] w (Ret (P2v (btw t a lo hi f u)) w) := by
  unfold btw
  have s1 : IntKind.i64.wrap (lo - a) = lo - a := IntWalk.i64_in _ (by omega)
  have s2 : IntKind.i64.wrap (hi - a) = hi - a := IntWalk.i64_in _ (by omega)
  have lb : -3458764513820540928 ≤ lo - a ∧ lo - a ≤ 3458764513820540928 := by omega
  have hb : -3458764513820540928 ≤ hi - a ∧ hi - a ≤ 3458764513820540928 := by omega
  obtain ⟨L, hL⟩ : ∃ L, lo - a = L := ⟨_, rfl⟩
  obtain ⟨H, hH⟩ : ∃ L, hi - a = L := ⟨_, rfl⟩
  rw [hL] at s1 lb
  rw [hH] at s2 hb
  have q1 : IntKind.i64.wrap (lo - a) = L := by rw [hL]; exact s1
  have q2 : IntKind.i64.wrap (hi - a) = H := by rw [hH]; exact s2
  simp only [hL, hH]
  obtain ⟨lb0, lb1⟩ := lb
  obtain ⟨hb0, hb1⟩ := hb
  clear s1 s2 hL hH a0 a1 l0 l1 h0 h1
  by_cases c0 : t = 0
  · subst c0
    rw [if_pos rfl]
    by_cases c1 : 0 < L
    · rw [if_pos (.inl c1)]
      go_enter Tryz.func218, Tryz.ntmps218
      go_wp2
      refine bodyPost_ret (v := .tuple #[.int .i64 1, .int .i64 0]) (by simp [results, Tryz.results218, go_sem]) rfl (Ret.of (by exact bl_))
    · by_cases c2 : H < 0
      · rw [if_pos (.inr c2)]
        go_enter Tryz.func218, Tryz.ntmps218
        go_wp2
        refine bodyPost_ret (v := .tuple #[.int .i64 1, .int .i64 0]) (by simp [results, Tryz.results218, go_sem]) rfl (Ret.of (by exact bl_))
      · rw [if_neg (by omega)]
        go_enter Tryz.func218, Tryz.ntmps218
        go_wp2
        refine bodyPost_ret (v := .tuple #[.int .i64 f, .int .i64 u]) (by simp [results, Tryz.results218, go_sem]) rfl (Ret.of (by exact bl_))
  · rw [if_neg c0]
    have c0' : (t == 0) = false := by simpa using c0
    by_cases c1 : t < 0
    · rw [if_pos c1]
      have F1 := Lib.hid (fun w => sfloor_any H (-t) (by omega) (by omega) (by omega) (by omega) w)
      have F2 := Lib.hid (fun w => sfloor_any (-L) (-t) (by omega) (by omega) (by omega) (by omega) w)
      obtain ⟨b1, b2⟩ := quo_in (n := H) (d := -t) (by omega) (by omega) (by omega)
      generalize H / (-t) = Q1 at *
      generalize (-L) / (-t) = Q2 at *
      go_enter Tryz.func218, Tryz.ntmps218
      go_wp2_with (first | (go_at_call 171; (with_reducible refine (F1.out _).mono ?_); rintro _ _ ⟨rfl, X_, rfl⟩) | (go_at_call 171; (with_reducible refine (F2.out _).mono ?_); rintro _ _ ⟨rfl, X_, rfl⟩))
      refine bodyPost_ret (v := .tuple #[.int .i64 (max f (-Q1)), .int .i64 (min u Q2)]) (by simp [results, Tryz.results218, go_sem]) rfl (Ret.of (by exact bl_))
    · rw [if_neg c1]
      have F1 := Lib.hid (fun w => sfloor_any (-L) t (by omega) (by omega) (by omega) (by omega) w)
      have F2 := Lib.hid (fun w => sfloor_any H t (by omega) (by omega) (by omega) (by omega) w)
      obtain ⟨b1, b2⟩ := quo_in (n := -L) (d := t) (by omega) (by omega) (by omega)
      generalize (-L) / t = Q1 at *
      generalize H / t = Q2 at *
      go_enter Tryz.func218, Tryz.ntmps218
      go_wp2_with (first | (go_at_call 171; (with_reducible refine (F1.out _).mono ?_); rintro _ _ ⟨rfl, X_, rfl⟩) | (go_at_call 171; (with_reducible refine (F2.out _).mono ?_); rintro _ _ ⟨rfl, X_, rfl⟩))
      refine bodyPost_ret (v := .tuple #[.int .i64 (max f (-Q1)), .int .i64 (min u Q2)]) (by simp [results, Tryz.results218, go_sem]) rfl (Ret.of (by exact bl_))
abbrev strpV (a b : WinP) (R B : Int) : Value := .agg #[.int .i64 a.x, .int .i64 a.y, .int .i64 (b.x - a.x), .int .i64 (b.y - a.y), .int .i64 (smL a b), .int .i64 B, .int .i64 R]
theorem smq_nn (x : Int) : 0 ≤ x * x := by
  rcases Int.le_total 0 x with h | h
  · exact Int.mul_nonneg h h
  · have := Int.mul_nonneg (a := -x) (b := -x) (by omega) (by omega)
    rwa [Int.neg_mul_neg] at this
theorem smL_in {a b : WinP} (ha : a.fits) (hb : b.fits) : 0 ≤ smL a b ∧ smL a b ≤ 576460752303423488 := by
  obtain ⟨a0, a1, a2, a3, -, -, -⟩ := ha
  obtain ⟨b0, b1, b2, b3, -, -, -⟩ := hb
  have m1 := mul_bds (U := 536870912) (V := 536870912) (by omega) (by omega) (show -536870912 ≤ b.x - a.x by omega) (by omega) (show -536870912 ≤ b.x - a.x by omega) (by omega)
  have m2 := mul_bds (U := 536870912) (V := 536870912) (by omega) (by omega) (show -536870912 ≤ b.y - a.y by omega) (by omega) (show -536870912 ≤ b.y - a.y by omega) (by omega)
  have p1 := smq_nn (b.x - a.x)
  have p2 := smq_nn (b.y - a.y)
  unfold smL; omega
set_option maxRecDepth 100000 in
set_option maxHeartbeats 4000000 in
theorem srow_any (a b : WinP) (R B y f u : Int) (ha : a.fits) (hb : b.fits) (r0 : 0 ≤ R) (r1 : R ≤ 9007199254740992) (b0 : -1 ≤ B) (b1 : B ≤ 9007199254740992) (y0 : -1342177280 ≤ y) (y1 : y ≤ 1342177280) (w : World) :
    Calls Tryz.prog 170 #[strpV a b R B, .int .i64 y, .int .i64 f, .int .i64 u] w (Ret (P2v (smRow a b R B y f u)) w) := by
  have lb := smL_in ha hb
  obtain ⟨a0, a1, a2, a3, -, -, -⟩ := ha
  obtain ⟨c0, c1, c2, c3, -, -, -⟩ := hb
  unfold smRow strpV
  have w1 : -536870912 ≤ b.x - a.x ∧ b.x - a.x ≤ 536870912 := by omega
  have w2 : -536870912 ≤ b.y - a.y ∧ b.y - a.y ≤ 536870912 := by omega
  obtain ⟨W, hW⟩ : ∃ W, b.x - a.x = W := ⟨_, rfl⟩
  obtain ⟨H, hH⟩ : ∃ H, b.y - a.y = H := ⟨_, rfl⟩
  simp only [hW, hH] at w1 w2 ⊢
  have q1 : IntKind.i64.wrap (y - a.y) = y - a.y := IntWalk.i64_in _ (by omega)
  have qb : -1610612736 ≤ y - a.y ∧ y - a.y ≤ 1610612736 := by omega
  obtain ⟨q, hq⟩ : ∃ q, y - a.y = q := ⟨_, rfl⟩
  obtain ⟨ax, hax⟩ : ∃ q, a.x = q := ⟨_, rfl⟩
  have q2 : IntKind.i64.wrap (y - a.y) = q := by rw [q1, hq]
  rw [hq] at qb
  simp only [hq, hax]
  rw [hax] at a0 a1
  generalize smL a b = l at *
  have m1 := mul_bds (U := 536870912) (V := 1610612736) (by omega) (by omega) w2.1 w2.2 qb.1 qb.2
  have m2 := mul_bds (U := 536870912) (V := 268435456) (by omega) (by omega) w1.1 w1.2 a0 a1
  have m3 := mul_bds (U := 536870912) (V := 1610612736) (by omega) (by omega) w1.1 w1.2 qb.1 qb.2
  have m4 := mul_bds (U := 536870912) (V := 268435456) (by omega) (by omega) w2.1 w2.2 a0 a1
  have k1 : IntKind.i64.wrap (H * q) = H * q := IntWalk.i64_in _ (by omega)
  have k2 : IntKind.i64.wrap (W * ax) = W * ax := IntWalk.i64_in _ (by omega)
  have k3 : IntKind.i64.wrap (H * q - W * ax) = H * q - W * ax := IntWalk.i64_in _ (by omega)
  have k4 : IntKind.i64.wrap (W * q) = W * q := IntWalk.i64_in _ (by omega)
  have k5 : IntKind.i64.wrap (H * ax) = H * ax := IntWalk.i64_in _ (by omega)
  have k6 : IntKind.i64.wrap (W * q + H * ax) = W * q + H * ax := IntWalk.i64_in _ (by omega)
  have B1 := Lib.hid (fun w => between_any W (H * q - W * ax) 0 (l - 1) f u (by omega) (by omega) (by omega) (by omega) (by omega) (by omega) (by omega) (by omega) w)
  have B2 := Lib.hid (fun f u w => between_any (-H) (W * q + H * ax) (-B) R f u (by omega) (by omega) (by omega) (by omega) (by omega) (by omega) (by omega) (by omega) w)
  obtain ⟨⟨pf, pu⟩, hp⟩ : ∃ p, btw W (H * q - W * ax) 0 (l - 1) f u = p := ⟨_, rfl⟩
  rw [hp] at B1 ⊢
  have B3 := Lib.hid (fun w => B2.out pf pu w)
  simp only at B1 B3 ⊢
  obtain ⟨⟨sf, su⟩, hs⟩ : ∃ p, btw (-H) (W * q + H * ax) (-B) R pf pu = p := ⟨_, rfl⟩
  rw [hs] at B3 ⊢
  obtain ⟨w10, w11⟩ := w1
  obtain ⟨w20, w21⟩ := w2
  obtain ⟨lb0, lb1⟩ := lb
  clear B2 hp hs m1 m2 m3 m4 q1 hq hW hH qb a0 a1 a2 a3 c0 c1 c2 c3 y0 y1 hax
  by_cases c : pu < pf
  · rw [if_pos c]
    go_enter Tryz.func170, Tryz.ntmps170
    go_wp2_with (first | (go_at_call 218; (with_reducible refine (B1.out _).mono ?_); rintro _ _ ⟨rfl, X_, rfl⟩) | (go_at_call 218; (with_reducible refine (B3.out _).mono ?_); rintro _ _ ⟨rfl, X_, rfl⟩))
    refine bodyPost_ret (v := .tuple #[.int .i64 pf, .int .i64 pu]) (by simp [results, Tryz.results170, go_sem]) rfl (Ret.of (by exact bl_))
  · rw [if_neg c]
    go_enter Tryz.func170, Tryz.ntmps170
    go_wp2_with (first | (go_at_call 218; (with_reducible refine (B1.out _).mono ?_); rintro _ _ ⟨rfl, X_, rfl⟩) | (go_at_call 218; (with_reducible refine (B3.out _).mono ?_); rintro _ _ ⟨rfl, X_, rfl⟩))
    refine bodyPost_ret (v := .tuple #[.int .i64 sf, .int .i64 su]) (by simp [results, Tryz.results170, go_sem]) rfl (Ret.of (by exact bl_))
end Go.Proofs.YtbkmgngeahmefaaGreat
end
section
namespace Go.Proofs.YtbkmgngeahmefaaGreat
open Go.RowKit
theorem smroot_ex (n : Nat) : ∃ R : Int, 0 ≤ R ∧ R * R ≤ n ∧ (n : Int) < (R + 1) * (R + 1) := by
  induction n with
  | zero => exact ⟨0, by decide, by decide, by decide⟩
  | succ n ih =>
    obtain ⟨R, h0, h1, h2⟩ := ih
    by_cases h : ((n + 1 : Nat) : Int) < (R + 1) * (R + 1)
    · exact ⟨R, h0, by omega, h⟩
    · refine ⟨R + 1, by omega, by omega, ?_⟩
      have e : (R + 1 + 1) * (R + 1 + 1) = (R + 1) * (R + 1) + 2 * (R + 1) + 1 := by grind
      omega
theorem smK_in {a b : WinP} {n : Int} (ha : a.fits) (hb : b.fits) (hn : widthP n) : 0 ≤ smK a b n ∧ smK a b n ≤ 38685626227668133590597632 := by
  obtain ⟨l0, l1⟩ := smL_in ha hb
  obtain ⟨n0, n1⟩ := hn
  have m := mul_bds (U := 64) (V := 64) (by omega) (by omega) (show -64 ≤ n by omega) n1 (show -64 ≤ n by omega) n1
  have p := smq_nn n
  have e : 128 * n * 128 * n = 16384 * (n * n) := by grind
  unfold smK
  rw [e]
  have q0 := Int.mul_nonneg l0 (show 0 ≤ 16384 * (n * n) by omega)
  have q1 := Int.mul_le_mul l1 (show 16384 * (n * n) ≤ 67108864 by omega) (by omega) (by omega)
  omega
theorem across_ex {a b : WinP} {n : Int} (ha : a.fits) (hb : b.fits) (hn : widthP n) : ∃ R B, Across (smK a b n) R B ∧ R ≤ 9007199254740992 := by
  obtain ⟨k0, k1⟩ := smK_in ha hb hn
  obtain ⟨R, h0, h1, h2⟩ := smroot_ex (smK a b n).toNat
  rw [Int.toNat_of_nonneg k0] at h1 h2
  refine ⟨R, _, ⟨h0, h1, h2, rfl⟩, ?_⟩
  apply Classical.byContradiction; intro k
  have := smq_le (a := 9007199254740992) (b := R) (by omega) (by omega)
  omega
set_option maxRecDepth 100000 in
set_option maxHeartbeats 4000000 in
theorem newStrip_any (a b : WinP) (n R B : Int) (ha : a.fits) (hb : b.fits) (hn : widthP n) (hA : Across (smK a b n) R B) (hR : R ≤ 9007199254740992) (w : World) : Calls Tryz.prog 103 #[a.v, b.v, .int .i64 n] w (Ret (strpV a b R B) w) := by
  have lb := smL_in ha hb
  have kb := smK_in ha hb hn
  obtain ⟨r0, rlo, rhi, rb⟩ := hA
  obtain ⟨a0, a1, a2, a3, -, -, -⟩ := ha
  obtain ⟨c0, c1, c2, c3, -, -, -⟩ := hb
  obtain ⟨n0, n1⟩ := hn
  unfold strpV
  have eK : smK a b n = smL a b * (n * n * 16384) := by
    unfold smK
    rw [show 128 * n * 128 * n = n * n * 16384 by grind]
  have eL : smL a b = (b.x - a.x) * (b.x - a.x) + (b.y - a.y) * (b.y - a.y) := rfl
  have w1 : -536870912 ≤ b.x - a.x ∧ b.x - a.x ≤ 536870912 := by omega
  have w2 : -536870912 ≤ b.y - a.y ∧ b.y - a.y ≤ 536870912 := by omega
  obtain ⟨W, hW⟩ : ∃ W, b.x - a.x = W := ⟨_, rfl⟩
  obtain ⟨H, hH⟩ : ∃ H, b.y - a.y = H := ⟨_, rfl⟩
  have s1 : IntKind.i64.wrap (b.x - a.x) = W := by rw [hW]; exact IntWalk.i64_in _ (by omega)
  have s2 : IntKind.i64.wrap (b.y - a.y) = H := by rw [hH]; exact IntWalk.i64_in _ (by omega)
  simp only [hW, hH] at w1 w2 eL ⊢
  have m1 := mul_bds (U := 536870912) (V := 536870912) (by omega) (by omega) w1.1 w1.2 w1.1 w1.2
  have m2 := mul_bds (U := 536870912) (V := 536870912) (by omega) (by omega) w2.1 w2.2 w2.1 w2.2
  have m3 := mul_bds (U := 64) (V := 64) (by omega) (by omega) (show -64 ≤ n by omega) n1 (show -64 ≤ n by omega) n1
  have k1 : IntKind.i64.wrap (W * W) = W * W := IntWalk.i64_in _ (by omega)
  have k2 : IntKind.i64.wrap (H * H) = H * H := IntWalk.i64_in _ (by omega)
  have k3 : IntKind.i64.wrap (W * W + H * H) = smL a b := by rw [eL]; exact IntWalk.i64_in _ (by omega)
  have k4 : IntKind.i64.wrap (n * n) = n * n := IntWalk.i64_in _ (by omega)
  have pn := smq_nn n
  obtain ⟨nn, hnn⟩ : ∃ m, n * n = m := ⟨_, rfl⟩
  have k5 : IntKind.i64.wrap (n * n) = nn := by rw [k4, hnn]
  rw [hnn] at m3 pn eK
  generalize smK a b n = K at *
  generalize smL a b = l at *
  have O := Lib.hid (fun w => of_any l (by unfold sml; omega) w)
  have T := Lib.hid (fun w => times_in l (nn * 16384) (by unfold inR; omega) (by unfold sml; omega) (by rw [← eK]; unfold inR; omega) w)
  rw [← eK] at T
  have RT := Lib.hid (fun w => root_yes K R (by omega) (by omega) r0 rlo rhi w)
  have M := Lib.hid (fun w => mul_any R R (by unfold sml; omega) (by unfold sml; omega) w)
  have rr := mul_bds (U := 9007199254740992) (V := 9007199254740992) (by omega) (by omega) (show -9007199254740992 ≤ R by omega) hR (show -9007199254740992 ≤ R by omega) hR
  have C := Lib.hid (fun w => cmp_any (R * R) K (by unfold inR; omega) (by unfold inR; omega) w)
  have sg := sgn_01 (R * R - K)
  obtain ⟨g, hg⟩ : ∃ g, sgn (R * R - K) = g := ⟨_, rfl⟩
  rw [hg] at C sg
  obtain ⟨w10, w11⟩ := w1
  obtain ⟨w20, w21⟩ := w2
  obtain ⟨p0, p1⟩ : 0 ≤ nn ∧ nn ≤ 4096 := by omega
  have RBH := Lib.hid rb
  by_cases h : R * R = K
  · have hg0 : g = 0 := by omega
    have hB : B = R - 1 := by rw [RBH.out, if_pos h]
    subst hg0 hB
    clear rb RBH h eK eL hW hH m1 m2 m3 k4 hnn pn rr hg sg kb lb rlo rhi
    go_enter Tryz.func103, Tryz.ntmps103
    go_upto_region 6 with (first | (go_at_call 62; (with_reducible refine (O.out _).mono ?_); rintro _ _ ⟨rfl, X_, rfl⟩) | (go_at_call 168; (with_reducible refine (T.out _).mono ?_); rintro _ _ ⟨rfl, X_, rfl⟩) | (go_at_call 169; (with_reducible refine (RT.out _).mono ?_); rintro _ _ ⟨rfl, X_, rfl⟩))
    refine wp_region_ext (by kernel_rfl) (by kernel_rfl) ?_
    repeat (go_big_quiet_step ((first | (go_at_call 146; with_reducible exact Calls.quiet_ret (M.out _)) | (go_at_call 148; with_reducible exact Calls.quiet_ret (C.out _)))))
    refine wpQuiet_nil ?_
    intro _ hw_ext
    obtain ⟨X, hw_ext⟩ := hw_ext
    subst hw_ext
    go_wp2
    refine bodyPost_ret (v := .agg #[.int .i64 a.x, .int .i64 a.y, .int .i64 W, .int .i64 H, .int .i64 l, .int .i64 (R - 1), .int .i64 R]) (by simp [results, Tryz.results103, go_sem]) rfl (Ret.of (by exact bl_))
  · have hg0 : (g == 0) = false := by simp; omega
    have hB : B = R := by rw [RBH.out, if_neg h]
    subst hB
    clear rb RBH h eK eL hW hH m1 m2 m3 k4 hnn pn rr hg sg kb lb rlo rhi
    go_enter Tryz.func103, Tryz.ntmps103
    go_upto_region 6 with (first | (go_at_call 62; (with_reducible refine (O.out _).mono ?_); rintro _ _ ⟨rfl, X_, rfl⟩) | (go_at_call 168; (with_reducible refine (T.out _).mono ?_); rintro _ _ ⟨rfl, X_, rfl⟩) | (go_at_call 169; (with_reducible refine (RT.out _).mono ?_); rintro _ _ ⟨rfl, X_, rfl⟩))
    refine wp_region_ext (by kernel_rfl) (by kernel_rfl) ?_
    repeat (go_big_quiet_step ((first | (go_at_call 146; with_reducible exact Calls.quiet_ret (M.out _)) | (go_at_call 148; with_reducible exact Calls.quiet_ret (C.out _)))))
    refine wpQuiet_nil ?_
    intro _ hw_ext
    obtain ⟨X, hw_ext⟩ := hw_ext
    subst hw_ext
    go_wp2
    refine bodyPost_ret (v := .agg #[.int .i64 a.x, .int .i64 a.y, .int .i64 W, .int .i64 H, .int .i64 l, .int .i64 B, .int .i64 B]) (by simp [results, Tryz.results103, go_sem]) rfl (Ret.of (by exact bl_))
end Go.Proofs.YtbkmgngeahmefaaGreat
end
