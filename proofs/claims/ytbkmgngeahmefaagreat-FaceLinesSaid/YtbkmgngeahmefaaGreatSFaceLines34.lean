/- Parts of the proof of FaceLines, laid together. Conditions: at each. -/
import Derived.Test.YtbkmgngeahmefaaGreatSFaceLines13
import Derived.Test.YtbkmgngeahmefaaGreatSFaceLines23
import Derived.Test.YtbkmgngeahmefaaGreatSFaceLines32
import Derived.Test.YtbkmgngeahmefaaGreatSFaceLines33
set_option linter.unusedVariables false
set_option linter.unusedSimpArgs false
section
namespace Go.Proofs.YtbkmgngeahmefaaGreat
open Go.RowKit
abbrev sdV (p q : WinP) : Value := .agg #[.int .i64 p.x, .int .i64 p.y, .int .i64 (q.x - p.x), .int .i64 (q.y - p.y), .int .i64 (leastS p q)]
theorem floor_t {n d : Int} (hd : 0 < d) : (if n.tmod d < 0 then n.tdiv d - 1 else n.tdiv d) = n / d := by
  have h1 := Int.tdiv_mul_add_tmod n d
  have h2 := Int.tmod_lt_of_pos n hd
  have h3 := Int.tmod_lt_of_pos (-n) hd
  rw [Int.neg_tmod] at h3
  split
  · apply Int.le_antisymm
    · refine (Int.le_ediv_iff_mul_le hd).2 ?_; rw [Int.sub_mul]; omega
    · have : n / d < n.tdiv d := (Int.ediv_lt_iff_lt_mul hd).2 (by omega)
      omega
  · apply Int.le_antisymm
    · exact (Int.le_ediv_iff_mul_le hd).2 (by omega)
    · have : n / d < n.tdiv d + 1 := (Int.ediv_lt_iff_lt_mul hd).2 (by rw [Int.add_mul]; omega)
      omega
set_option maxRecDepth 100000 in
set_option maxHeartbeats 2000000 in
theorem newSide_any (p q : WinP) (hp : p.fits) (hq : q.fits) (w : World) : Calls Tryz.prog 241 #[p.v, q.v] w (Ret (sdV p q) w) := by
  unfold sdV
  have e0 : leastS p q = if q.y - p.y < 0 ∨ (q.y - p.y = 0 ∧ q.x - p.x < 0) then 0 else 1 := rfl
  obtain ⟨h1, h2, h3, h4, -, -, -⟩ := hp
  obtain ⟨k1, k2, k3, k4, -, -, -⟩ := hq
  generalize leastS p q = l at *
  obtain ⟨W, hW⟩ : ∃ W, q.x - p.x = W := ⟨_, rfl⟩
  obtain ⟨H, hH⟩ : ∃ W, q.y - p.y = W := ⟨_, rfl⟩
  have s1 : IntKind.i64.wrap (q.x - p.x) = W := by rw [hW]; exact IntWalk.i64_in _ (by omega)
  have s2 : IntKind.i64.wrap (q.y - p.y) = H := by rw [hH]; exact IntWalk.i64_in _ (by omega)
  simp only [hW, hH] at e0
  simp only [hW, hH]
  clear hW hH h1 h2 h3 h4 k1 k2 k3 k4
  by_cases c1 : H < 0
  · obtain rfl : l = 0 := by rw [e0, if_pos (.inl c1)]
    clear e0
    go_enter Tryz.func241, Tryz.ntmps241
    go_wp2
    refine bodyPost_ret (v := .agg #[.int .i64 p.x, .int .i64 p.y, .int .i64 W, .int .i64 H, .int .i64 0]) (by simp [results, Tryz.results241, go_sem]) rfl (Ret.of (by exact bl_))
  by_cases c2 : H = 0
  · subst c2
    by_cases c3 : W < 0
    · obtain rfl : l = 0 := by rw [e0, if_pos (.inr ⟨rfl, c3⟩)]
      clear e0 c1
      go_enter Tryz.func241, Tryz.ntmps241
      go_wp2
      refine bodyPost_ret (v := .agg #[.int .i64 p.x, .int .i64 p.y, .int .i64 W, .int .i64 0, .int .i64 0]) (by simp [results, Tryz.results241, go_sem]) rfl (Ret.of (by exact bl_))
    · obtain rfl : l = 1 := by rw [e0, if_neg (by omega)]
      clear e0 c1
      go_enter Tryz.func241, Tryz.ntmps241
      go_wp2
      refine bodyPost_ret (v := .agg #[.int .i64 p.x, .int .i64 p.y, .int .i64 W, .int .i64 0, .int .i64 1]) (by simp [results, Tryz.results241, go_sem]) rfl (Ret.of (by exact bl_))
  · obtain rfl : l = 1 := by rw [e0, if_neg (by omega)]
    have c4 : (H == 0) = false := by simpa using c2
    clear e0
    go_enter Tryz.func241, Tryz.ntmps241
    go_wp2
    refine bodyPost_ret (v := .agg #[.int .i64 p.x, .int .i64 p.y, .int .i64 W, .int .i64 H, .int .i64 1]) (by simp [results, Tryz.results241, go_sem]) rfl (Ret.of (by exact bl_))
set_option maxHeartbeats 2000000 in
theorem sideAt_any (p q : WinP) (l x y : Int) (hp : p.fits) (hq : q.fits) (hx : Near x y) (w : World) : Calls Tryz.prog 242 #[.agg #[.int .i64 p.x, .int .i64 p.y, .int .i64 (q.x - p.x), .int .i64 (q.y - p.y), .int .i64 l], .int .i64 x, .int .i64 y] w (Ret (.int .i64 (ar p q (midP x y))) w) := by
  obtain ⟨h1, h2, h3, h4, -, -, -⟩ := hp
  obtain ⟨k1, k2, k3, k4, -, -, -⟩ := hq
  obtain ⟨x0, x1, y0, y1⟩ := hx
  rw [show ar p q (midP x y) = (q.x - p.x) * (y * 256 + 128 - p.y) - (q.y - p.y) * (x * 256 + 128 - p.x) from rfl]
  obtain ⟨W, hW⟩ : ∃ W, q.x - p.x = W := ⟨_, rfl⟩
  obtain ⟨H, hH⟩ : ∃ H, q.y - p.y = H := ⟨_, rfl⟩
  have w1 : -536870912 ≤ W ∧ W ≤ 536870912 := by omega
  have w2 : -536870912 ≤ H ∧ H ≤ 536870912 := by omega
  simp only [hW, hH]
  clear hW hH
  obtain ⟨a, ha⟩ : ∃ a, p.x = a := ⟨_, rfl⟩
  obtain ⟨b, hb⟩ : ∃ a, p.y = a := ⟨_, rfl⟩
  simp only [ha, hb] at *
  clear ha hb
  have m1 := mul_bds (U := 536870912) (V := 1342177408) (by omega) (by omega) w1.1 w1.2 (show -1342177408 ≤ y * 256 + 128 - b by omega) (by omega)
  have m2 := mul_bds (U := 536870912) (V := 1342177408) (by omega) (by omega) w2.1 w2.2 (show -1342177408 ≤ x * 256 + 128 - a by omega) (by omega)
  have k5 : IntKind.i64.wrap (W * (y * 256 + 128 - b)) = W * (y * 256 + 128 - b) := IntWalk.i64_in _ (by omega)
  have k6 : IntKind.i64.wrap (H * (x * 256 + 128 - a)) = H * (x * 256 + 128 - a) := IntWalk.i64_in _ (by omega)
  have k7 : IntKind.i64.wrap (W * (y * 256 + 128 - b) - H * (x * 256 + 128 - a)) = W * (y * 256 + 128 - b) - H * (x * 256 + 128 - a) := IntWalk.i64_in _ (by omega)
  clear m1 m2 w1 w2
  go_enter Tryz.func242, Tryz.ntmps242
  go_wp2
  go_ret
  exact Ret.of (by exact bl_)
theorem tfloor_any (n d : Int) (hd : 0 < d) (d1 : d ≤ 4611686018427387904) (n0 : -4611686018427387904 ≤ n) (n1 : n ≤ 4611686018427387904) (w : World) : Calls Tryz.prog 243 #[.int .i64 n, .int .i64 d] w (Ret (.int .i64 (n / d)) w) := by
  rw [← floor_t hd]
  have nz : (d == 0) = false := by simp; omega
  have nz2 : ¬ d = 0 := by omega
  have b1 : -4611686018427387904 ≤ n.tdiv d ∧ n.tdiv d ≤ 4611686018427387904 := by
    have := Int.natAbs_tdiv_le_natAbs n d
    omega
  have w1 : IntKind.i64.wrap (n.tdiv d) = n.tdiv d := IntWalk.i64_in _ (by omega)
  have w2 : IntKind.i64.wrap (n.tdiv d - 1) = n.tdiv d - 1 := IntWalk.i64_in _ (by omega)
  go_enter Tryz.func243, Tryz.ntmps243
  go_wp2
  · go_ret
    exact Ret.of' rfl (by exact bl_)
  · go_ret
    exact Ret.of' rfl (by exact bl_)
theorem first_in (p q : WinP) (y : Int) (hp : p.fits) (hq : q.fits) (hx : Near 0 y) : -4611686018427387904 ≤ firstS p q y ∧ firstS p q y ≤ 4611686018427387904 := by
  have := (nigh3m hp hq hx).ar
  unfold firstS leastS
  split <;> omega
set_option maxRecDepth 100000 in
set_option maxHeartbeats 4000000 in
theorem row20_any (p q : WinP) (y f t : Int) (hp : p.fits) (hq : q.fits) (hx : Near 0 y) (w : World) : Calls Tryz.prog 214 #[sdV p q, .int .i64 y, .int .i64 f, .int .i64 t] w (Ret (.tuple #[.int .i64 (rowF p q y f), .int .i64 (rowT p q y f t)]) w) := by
  unfold sdV
  have AT := Lib.hid (fun w => sideAt_any p q (leastS p q) 0 y hp hq hx w)
  obtain ⟨b1, b2⟩ := first_in p q y hp hq hx
  have ab := (nigh3m hp hq hx).ar
  have lb : 0 ≤ leastS p q ∧ leastS p q ≤ 1 := by unfold leastS; split <;> omega
  obtain ⟨l0, l1⟩ := lb
  unfold rowF rowT
  have eF : ar p q (midP 0 y) - leastS p q = firstS p q y := rfl
  obtain ⟨h1, h2, h3, h4, -, -, -⟩ := hp
  obtain ⟨k1, k2, k3, k4, -, -, -⟩ := hq
  have w1 : -536870912 ≤ q.y - p.y ∧ q.y - p.y ≤ 536870912 := by omega
  obtain ⟨w10, w11⟩ := w1
  generalize ar p q (midP 0 y) = n at *
  generalize leastS p q = l at *
  obtain ⟨F, hF⟩ : ∃ F, firstS p q y = F := ⟨_, rfl⟩
  rw [hF] at eF b1 b2 ⊢
  clear hF h1 h2 h3 h4 k1 k2 k3 k4
  obtain ⟨W, hW⟩ : ∃ W, q.x - p.x = W := ⟨_, rfl⟩
  obtain ⟨H, hH⟩ : ∃ H, q.y - p.y = H := ⟨_, rfl⟩
  simp only [hW, hH] at *
  clear hW hH
  obtain ⟨y0, y1⟩ : -4194304 ≤ y ∧ y ≤ 4194304 := ⟨hx.y0, hx.y1⟩
  have s1 : IntKind.i64.wrap (n - l) = F := by rw [eF]; exact IntWalk.i64_in _ (by omega)
  clear eF ab hx
  by_cases c1 : 0 < H
  · have FL := Lib.hid (fun w => tfloor_any F (H * 256) (by omega) (by omega) b1 b2 w)
    have n1 : -4611686018427387904 ≤ F / (H * 256) ∧ F / (H * 256) ≤ 4611686018427387904 := by
      have m := Int.natAbs_ediv_le_natAbs F (H * 256)
      omega
    rw [if_neg (by omega), if_pos c1]
    obtain ⟨Q, hQ⟩ : ∃ Q, F / (H * 256) = Q := ⟨_, rfl⟩
    rw [hQ] at FL n1 ⊢
    obtain ⟨n10, n11⟩ := n1
    clear hQ
    go_enter Tryz.func214, Tryz.ntmps214
    go_wp2
    refine wp_region_ext (by kernel_rfl) (by kernel_rfl) ?_
    repeat (go_big_quiet_step (((go_at_call 242; with_reducible exact Calls.quiet_ret (AT.out _)))))
    refine wpQuiet_nil ?_
    intro _ hw_ext
    obtain ⟨X, hw_ext⟩ := hw_ext
    subst hw_ext
    go_wp2_with (first | (go_at_call 243; (with_reducible refine (FL.out _).mono ?_); rintro _ _ ⟨rfl, X_, rfl⟩))
    refine bodyPost_ret (v := .tuple #[.int .i64 (f), .int .i64 (min t (Q + 1))]) (by simp [results, Tryz.results214, go_sem]) rfl (Ret.of (by exact bl_))
  · by_cases c2 : H < 0
    · have FL := Lib.hid (fun w => tfloor_any F (-H * 256) (by omega) (by omega) b1 b2 w)
      have n1 : -4611686018427387904 ≤ F / (-H * 256) ∧ F / (-H * 256) ≤ 4611686018427387904 := by
        have m := Int.natAbs_ediv_le_natAbs F (-H * 256)
        omega
      rw [if_pos c2, if_neg c1, if_pos c2]
      obtain ⟨Q, hQ⟩ : ∃ Q, F / (-H * 256) = Q := ⟨_, rfl⟩
      rw [hQ] at FL n1 ⊢
      obtain ⟨n10, n11⟩ := n1
      clear hQ
      go_enter Tryz.func214, Tryz.ntmps214
      go_wp2
      refine wp_region_ext (by kernel_rfl) (by kernel_rfl) ?_
      repeat (go_big_quiet_step (((go_at_call 242; with_reducible exact Calls.quiet_ret (AT.out _)))))
      refine wpQuiet_nil ?_
      intro _ hw_ext
      obtain ⟨X, hw_ext⟩ := hw_ext
      subst hw_ext
      go_wp2_with (first | (go_at_call 243; (with_reducible refine (FL.out _).mono ?_); rintro _ _ ⟨rfl, X_, rfl⟩))
      refine bodyPost_ret (v := .tuple #[.int .i64 (max f (-Q)), .int .i64 (t)]) (by simp [results, Tryz.results214, go_sem]) rfl (Ret.of (by exact bl_))
    · obtain rfl : H = 0 := by omega
      rw [if_neg c2, if_neg c1, if_neg c2]
      by_cases c3 : F < 0
      · rw [if_pos c3]
        go_enter Tryz.func214, Tryz.ntmps214
        go_wp2
        refine wp_region_ext (by kernel_rfl) (by kernel_rfl) ?_
        repeat (go_big_quiet_step (((go_at_call 242; with_reducible exact Calls.quiet_ret (AT.out _)))))
        refine wpQuiet_nil ?_
        intro _ hw_ext
        obtain ⟨X, hw_ext⟩ := hw_ext
        subst hw_ext
        go_wp2
        refine bodyPost_ret (v := .tuple #[.int .i64 (f), .int .i64 (f)]) (by simp [results, Tryz.results214, go_sem]) rfl (Ret.of (by exact bl_))
      · rw [if_neg c3]
        go_enter Tryz.func214, Tryz.ntmps214
        go_wp2
        refine wp_region_ext (by kernel_rfl) (by kernel_rfl) ?_
        repeat (go_big_quiet_step (((go_at_call 242; with_reducible exact Calls.quiet_ret (AT.out _)))))
        refine wpQuiet_nil ?_
        intro _ hw_ext
        obtain ⟨X, hw_ext⟩ := hw_ext
        subst hw_ext
        go_wp2
        refine bodyPost_ret (v := .tuple #[.int .i64 (f), .int .i64 (t)]) (by simp [results, Tryz.results214, go_sem]) rfl (Ret.of (by exact bl_))
def SidesR (a b c : WinP) (w : World) (e : Ending) (w' : World) : Prop :=
  ∃ g, e = .returned (.slice (some ⟨g, 0, none⟩) 3 3) ∧ (∃ X, w' = w.ext X) ∧ w.heap.size ≤ g ∧ Row w' g #[.int .i64 a.x, .int .i64 a.y, .int .i64 (b.x - a.x), .int .i64 (b.y - a.y), .int .i64 (leastS a b), .int .i64 b.x, .int .i64 b.y, .int .i64 (c.x - b.x), .int .i64 (c.y - b.y), .int .i64 (leastS b c), .int .i64 c.x, .int .i64 c.y, .int .i64 (a.x - c.x), .int .i64 (a.y - c.y), .int .i64 (leastS c a)] 248
set_option maxRecDepth 100000 in
set_option maxHeartbeats 4000000 in
theorem sides_no (a b c : WinP) (ha : a.fits) (hb : b.fits) (hc : c.fits) (h : ar a b c = 0) (w : World) : Calls Tryz.prog 213 #[a.v, b.v, c.v] w (Ret (.slice none 0 0) w) := by
  have A := Lib.hid (fun w => h ▸ area_any a b c (nigh3 ha hb hc) w)
  clear ha hb hc h
  go_enter Tryz.func213, Tryz.ntmps213
  go_wp2_with (first | (go_at_call 63; (with_reducible refine (A.out _).mono ?_); rintro _ _ ⟨rfl, X_, rfl⟩))
  go_ret
  exact Ret.of (by exact bl_)
set_option maxRecDepth 100000 in
set_option maxHeartbeats 8000000 in
theorem sides_any (a b c : WinP) (ha : a.fits) (hb : b.fits) (hc : c.fits) (h : ar a b c ≠ 0) (w : World) : Calls Tryz.prog 213 #[a.v, b.v, c.v] w (SidesR a (triB a b c) (triC a b c) w) := by
  have A := Lib.hid (fun w => area_any a b c (nigh3 ha hb hc) w)
  obtain ⟨fb, fc⟩ := triB_fits (a := a) hb hc
  have N1 := Lib.hid (fun w => newSide_any a (triB a b c) ha fb w)
  have N2 := Lib.hid (fun w => newSide_any (triB a b c) (triC a b c) fb fc w)
  have N3 := Lib.hid (fun w => newSide_any (triC a b c) a fc ha w)
  have eB : triB a b c = if ar a b c < 0 then c else b := rfl
  have eC : triC a b c = if ar a b c < 0 then b else c := rfl
  have ab := (nigh3 ha hb hc).ar
  obtain ⟨n, hn⟩ : ∃ n, ar a b c = n := ⟨_, rfl⟩
  rw [hn] at A eB eC ab h
  clear ha hb hc
  obtain ⟨B, hB⟩ : ∃ B, triB a b c = B := ⟨_, rfl⟩
  obtain ⟨C, hC⟩ : ∃ B, triC a b c = B := ⟨_, rfl⟩
  simp only [hB, hC] at *
  clear hB hC hn fb fc
  obtain ⟨ab0, ab1⟩ := ab
  have nz : (n == 0) = false := by simpa using h
  clear h
  by_cases c0 : n < 0
  · rw [if_pos c0] at eB eC
    subst eB eC
    go_enter Tryz.func213, Tryz.ntmps213
    go_wp2_with (first | (go_at_call 63; (with_reducible refine (A.out _).mono ?_); rintro _ _ ⟨rfl, X_, rfl⟩))
    refine wp_region_ext_tail 9 (by kernel_rfl) (by kernel_rfl) ?_
    simp only [List.take_succ_cons, List.take_zero, List.drop_succ_cons, List.drop_zero]
    repeat (go_big_quiet_step ((first | (go_at_call 241; with_reducible exact Calls.quiet_ret (N1.out _)) | (go_at_call 241; with_reducible exact Calls.quiet_ret (N2.out _)) | (go_at_call 241; with_reducible exact Calls.quiet_ret (N3.out _)))))
    refine wpQuiet_nil ?_
    intro _ hw_ext
    obtain ⟨X, hw_ext⟩ := hw_ext
    subst hw_ext
    go_wp2
    go_ret
    exact ⟨_, rfl, RowKit.Below.toExt (by exact bl_), by omega, by exact rx_⟩
  · rw [if_neg c0] at eB eC
    subst eB eC
    go_enter Tryz.func213, Tryz.ntmps213
    go_wp2_with (first | (go_at_call 63; (with_reducible refine (A.out _).mono ?_); rintro _ _ ⟨rfl, X_, rfl⟩))
    refine wp_region_ext_tail 9 (by kernel_rfl) (by kernel_rfl) ?_
    simp only [List.take_succ_cons, List.take_zero, List.drop_succ_cons, List.drop_zero]
    repeat (go_big_quiet_step ((first | (go_at_call 241; with_reducible exact Calls.quiet_ret (N1.out _)) | (go_at_call 241; with_reducible exact Calls.quiet_ret (N2.out _)) | (go_at_call 241; with_reducible exact Calls.quiet_ret (N3.out _)))))
    refine wpQuiet_nil ?_
    intro _ hw_ext
    obtain ⟨X, hw_ext⟩ := hw_ext
    subst hw_ext
    go_wp2
    go_ret
    exact ⟨_, rfl, RowKit.Below.toExt (by exact bl_), by omega, by exact rx_⟩
end Go.Proofs.YtbkmgngeahmefaaGreat
end
section
namespace Go.Proofs.YtbkmgngeahmefaaGreat
open Go.RowKit
structure SumI (w : World) (V0 : Value) (dd Z R : Int) (nz nr : Nat) (val : Nat → Value) (d : Nat → Bool) (w' : World) : Prop where
  ext : ∃ X, w' = w.ext X
  c5 : d 5 = true → d 4 = true
  f0 : d 0 = true → val 0 = V0
  f1 : d 1 = true → val 1 = .int .i64 dd
  f2 : d 2 = true → val 2 = I2 dd
  f3 : d 3 = true → RN w' (val 3) dd 129
  f4 : d 4 = true → ∃ q r, val 4 = .tuple #[q, r] ∧ RN w' q Z nz ∧ RN w' r R nr
  f5 : d 5 = true → val 5 = val 4
  f6 : d 6 = true → ∃ q r, val 4 = .tuple #[q, r] ∧ val 6 = q
  f7 : d 7 = true → ∃ q r, val 4 = .tuple #[q, r] ∧ val 7 = r
  f8 : d 8 = true → ∃ p, val 8 = .pointer (some ⟨p, 0, none⟩) ∧ w.heap.size ≤ p ∧ p < w'.heap.size ∧ Hh p w' ∧ (d 10 = true → Dd p Z nz w')
  f9 : d 9 = true → ∃ p, val 9 = .pointer (some ⟨p, 0, none⟩) ∧ w.heap.size ≤ p ∧ p < w'.heap.size ∧ Hh p w'
  ne : d 8 = true → d 9 = true → val 8 ≠ val 9
section
variable {w w' : World} {V0 : Value} {dd Z R : Int} {nz nr : Nat} {val : Nat → Value} {d : Nat → Bool}
theorem Dd.ext {p : Nat} {z : Int} {n : Nat} {w : World} (h : Dd p z n w) (X : Xt) : Dd p z n (w.ext X) := by
  obtain ⟨m, s, r, g⟩ := h; exact ⟨m, s, r.ext X, g.ext X⟩
theorem SumI.grow (h : SumI w V0 dd Z R nz nr val d w') (X : Xt) : SumI w V0 dd Z R nz nr val d (w'.ext X) := by
  obtain ⟨X0, hX0⟩ := h.ext
  refine ⟨⟨_, by rw [hX0, World.ext_ext]⟩, h.c5, h.f0, h.f1, h.f2, fun k => (h.f3 k).ext X, fun k => ?_, h.f5, h.f6, h.f7, fun k => ?_, fun k => ?_, h.ne⟩
  · obtain ⟨q, r, e, g1, g2⟩ := h.f4 k; exact ⟨q, r, e, g1.ext X, g2.ext X⟩
  · obtain ⟨p, e, l, l2, g, g2⟩ := h.f8 k; exact ⟨p, e, l, by simp; omega, g.ext X, fun k => (g2 k).ext X⟩
  · obtain ⟨p, e, l, l2, g⟩ := h.f9 k; exact ⟨p, e, l, by simp; omega, g.ext X⟩
theorem SumI.grown {w2 : World} (h : SumI w V0 dd Z R nz nr val d w') (hb : ∃ X, w2 = w'.ext X) : SumI w V0 dd Z R nz nr val d w2 := by
  obtain ⟨X, rfl⟩ := hb; exact h.grow X
theorem SumI.more (h : SumI w V0 dd Z R nz nr val d w') (i : Nat) (hi : i < 8) (v : Value) (hd : d i = false)
    (h0 : i = 0 → v = V0) (h1 : i = 1 → v = .int .i64 dd) (h2 : i = 2 → v = I2 dd) (h3 : i = 3 → RN w' v dd 129) (h4 : i = 4 → (d 5 = false ∧ d 6 = false ∧ d 7 = false) ∧ ∃ q r, v = .tuple #[q, r] ∧ RN w' q Z nz ∧ RN w' r R nr)
    (h5 : i = 5 → d 4 = true ∧ v = val 4) (h6 : i = 6 → ∃ q r, val 4 = .tuple #[q, r] ∧ v = q) (h7 : i = 7 → ∃ q r, val 4 = .tuple #[q, r] ∧ v = r) : SumI w V0 dd Z R nz nr (vset val i v) (upd d i) w' := by
  have u : ∀ j, upd d i j = true → j ≠ i → d j = true := fun j h hj => by rwa [upd_other _ hj] at h
  have g : ∀ j, 8 ≤ j → upd d i j = d j := fun j hj => upd_other _ (by omega)
  have k : ∀ j, 8 ≤ j → vset val i v j = val j := fun j hj => vset_ne _ _ (by omega)
  refine ⟨h.ext, fun q => ?_, fun q => ?_, fun q => ?_, fun q => ?_, fun q => ?_, fun q => ?_, fun q => ?_, fun q => ?_, fun q => ?_, fun q => ?_, fun q => ?_, fun q1 q2 => ?_⟩
  · by_cases e : 5 = i
    · by_cases e4 : 4 = i
      · omega
      · rw [upd_other _ e4]; exact (h5 e.symm).1
    · by_cases e4 : 4 = i
      · subst e4; exact upd_self _ _
      · rw [upd_other _ e4]; exact h.c5 (u 5 q e)
  · by_cases e : 0 = i
    · subst e; rw [vset_at]; exact h0 rfl
    · rw [vset_ne _ _ e]; exact h.f0 (u _ q e)
  · by_cases e : 1 = i
    · subst e; rw [vset_at]; exact h1 rfl
    · rw [vset_ne _ _ e]; exact h.f1 (u _ q e)
  · by_cases e : 2 = i
    · subst e; rw [vset_at]; exact h2 rfl
    · rw [vset_ne _ _ e]; exact h.f2 (u _ q e)
  · by_cases e : 3 = i
    · subst e; rw [vset_at]; exact h3 rfl
    · rw [vset_ne _ _ e]; exact h.f3 (u _ q e)
  · by_cases e : 4 = i
    · subst e; rw [vset_at]; exact (h4 rfl).2
    · rw [vset_ne _ _ e]; exact h.f4 (u _ q e)
  · by_cases e : 5 = i
    · subst e; rw [vset_at, vset_ne _ _ (by decide)]; exact (h5 rfl).2
    · have d5 := u _ q e
      by_cases e4 : 4 = i
      · have := (h4 e4.symm).1.1; rw [this] at d5; cases d5
      · rw [vset_ne _ _ e, vset_ne _ _ e4]; exact h.f5 d5
  · by_cases e : 6 = i
    · subst e; rw [vset_at, vset_ne _ _ (by decide)]; exact h6 rfl
    · have d5 := u _ q e
      by_cases e4 : 4 = i
      · have := (h4 e4.symm).1.2.1; rw [this] at d5; cases d5
      · rw [vset_ne _ _ e, vset_ne _ _ e4]; exact h.f6 d5
  · by_cases e : 7 = i
    · subst e; rw [vset_at, vset_ne _ _ (by decide)]; exact h7 rfl
    · have d5 := u _ q e
      by_cases e4 : 4 = i
      · have := (h4 e4.symm).1.2.2; rw [this] at d5; cases d5
      · rw [vset_ne _ _ e, vset_ne _ _ e4]; exact h.f7 d5
  · rw [g 8 (by decide)] at q; rw [k 8 (by decide), g 10 (by decide)]; exact h.f8 q
  · rw [g 9 (by decide)] at q; rw [k 9 (by decide)]; exact h.f9 q
  · rw [g 8 (by decide)] at q1; rw [g 9 (by decide)] at q2; rw [k 8 (by decide), k 9 (by decide)]; exact h.ne q1 q2
theorem SumI.put1 (h : SumI w V0 dd Z R nz nr val d w') (d4 : d 4 = true) (d8 : d 8 = true) (d9 : d 9 = true) {p : Nat} {m : Bool} {s r : Value} (e8 : val 8 = .pointer (some ⟨p, 0, none⟩)) (e4 : val 4 = .tuple #[.agg #[.bool m, s], r]) :
    SumI w V0 dd Z R nz nr val (upd d 10) ((w'.setCell ⟨p, 0, none⟩ (.bool m)).setCell ⟨p, 1, none⟩ s) := by
  obtain ⟨X0, hX0⟩ := h.ext
  obtain ⟨p', e, l1, l2, g, -⟩ := h.f8 d8
  obtain rfl : p = p' := by rw [e8] at e; injection e with e; injection e with e; injection e
  obtain ⟨p2, e2, k1, k2, g2⟩ := h.f9 d9
  have hne : p2 ≠ p := fun q => h.ne d8 d9 (by rw [e8, e2, q])
  obtain ⟨q', r', e', n1, n2⟩ := h.f4 d4
  rw [e4] at e'
  injection e' with e'
  injection e' with e'
  simp only [List.cons.injEq, and_true] at e'
  obtain ⟨rfl, rfl⟩ := e'
  have C : Chg (fun j => j = p) w' ((w'.setCell ⟨p, 0, none⟩ (.bool m)).setCell ⟨p, 1, none⟩ s) := chg_two
  have hp : ∀ b, b = p → Hh b w' := fun b e => by subst e; exact g
  have u : ∀ j, j ≠ 10 → upd d 10 j = d j := fun j hj => upd_other _ hj
  have hsl := n1.sl
  have D : Dd p Z nz ((w'.setCell ⟨p, 0, none⟩ (.bool m)).setCell ⟨p, 1, none⟩ s) := by
    obtain ⟨m0, s0, r0, -⟩ := g
    have hr := (r0.set 0 (.bool m)).set 1 s
    exact ⟨m, s, by simpa using hr, n1.chgs C hp⟩
  have hs2 : ∀ {b : Nat}, b < w'.heap.size → b < ((w'.setCell ⟨p, 0, none⟩ (.bool m)).setCell ⟨p, 1, none⟩ s).heap.size := fun hb => Nat.lt_of_lt_of_le hb C.size
  have hX : ∃ X, (w'.setCell ⟨p, 0, none⟩ (.bool m)).setCell ⟨p, 1, none⟩ s = w.ext X := World.setCell_new (World.setCell_new ⟨X0, hX0⟩ l1) l1
  refine ⟨hX, ?_, ?_, ?_, ?_, ?_, ?_, ?_, ?_, ?_, fun _ => ?_, fun _ => ?_, ?_⟩
  · rw [u 5 (by decide), u 4 (by decide)]; exact h.c5
  · rw [u 0 (by decide)]; exact h.f0
  · rw [u 1 (by decide)]; exact h.f1
  · rw [u 2 (by decide)]; exact h.f2
  · rw [u 3 (by decide)]; exact fun q => (h.f3 q).chgs C hp
  · rw [u 4 (by decide)]; exact fun _ => ⟨_, _, e4, n1.chgs C hp, n2.chgs C hp⟩
  · rw [u 5 (by decide)]; exact h.f5
  · rw [u 6 (by decide)]; exact h.f6
  · rw [u 7 (by decide)]; exact h.f7
  · obtain ⟨m1, s1, r1, f1⟩ := D
    exact ⟨p, e8, l1, hs2 l2, ⟨m1, s1, r1, f1.sl⟩, fun _ => ⟨m1, s1, r1, f1⟩⟩
  · obtain ⟨m1, s1, r1, f1⟩ := g2
    exact ⟨p2, e2, k1, hs2 k2, ⟨m1, s1, C.row r1 hne, f1⟩⟩
  · rw [u 8 (by decide), u 9 (by decide)]; exact h.ne
theorem SumI.put2 (h : SumI w V0 dd Z R nz nr val d w') (d4 : d 4 = true) (d8 : d 8 = true) (d9 : d 9 = true) (d10 : d 10 = true) {p : Nat} {m : Bool} {s q : Value} (e9 : val 9 = .pointer (some ⟨p, 0, none⟩)) (e4 : val 4 = .tuple #[q, .agg #[.bool m, s]]) :
    SumI w V0 dd Z R nz nr val (upd d 11) ((w'.setCell ⟨p, 0, none⟩ (.bool m)).setCell ⟨p, 1, none⟩ s) := by
  obtain ⟨X0, hX0⟩ := h.ext
  obtain ⟨p', e, l1, l2, g⟩ := h.f9 d9
  obtain rfl : p = p' := by rw [e9] at e; injection e with e; injection e with e; injection e
  obtain ⟨p1, e2, k1, k2, g2, g3⟩ := h.f8 d8
  have hne : p1 ≠ p := fun q => h.ne d8 d9 (by rw [e9, e2, q])
  obtain ⟨q', r', e', n1, n2⟩ := h.f4 d4
  rw [e4] at e'
  injection e' with e'
  injection e' with e'
  simp only [List.cons.injEq, and_true] at e'
  obtain ⟨rfl, rfl⟩ := e'
  have C : Chg (fun j => j = p) w' ((w'.setCell ⟨p, 0, none⟩ (.bool m)).setCell ⟨p, 1, none⟩ s) := chg_two
  have hp : ∀ b, b = p → Hh b w' := fun b e => by subst e; exact g
  have u : ∀ j, j ≠ 11 → upd d 11 j = d j := fun j hj => upd_other _ hj
  have hsl := n2.sl
  have hs2 : ∀ {b : Nat}, b < w'.heap.size → b < ((w'.setCell ⟨p, 0, none⟩ (.bool m)).setCell ⟨p, 1, none⟩ s).heap.size := fun hb => Nat.lt_of_lt_of_le hb C.size
  have hX : ∃ X, (w'.setCell ⟨p, 0, none⟩ (.bool m)).setCell ⟨p, 1, none⟩ s = w.ext X := World.setCell_new (World.setCell_new ⟨X0, hX0⟩ l1) l1
  refine ⟨hX, ?_, ?_, ?_, ?_, ?_, ?_, ?_, ?_, ?_, fun _ => ?_, fun _ => ?_, ?_⟩
  · rw [u 5 (by decide), u 4 (by decide)]; exact h.c5
  · rw [u 0 (by decide)]; exact h.f0
  · rw [u 1 (by decide)]; exact h.f1
  · rw [u 2 (by decide)]; exact h.f2
  · rw [u 3 (by decide)]; exact fun q => (h.f3 q).chgs C hp
  · rw [u 4 (by decide)]; exact fun _ => ⟨_, _, e4, n1.chgs C hp, n2.chgs C hp⟩
  · rw [u 5 (by decide)]; exact h.f5
  · rw [u 6 (by decide)]; exact h.f6
  · rw [u 7 (by decide)]; exact h.f7
  · obtain ⟨m1, s1, r1, f1⟩ := g3 d10
    exact ⟨p1, e2, k1, hs2 k2, ⟨m1, s1, C.row r1 hne, f1.sl⟩, fun _ => ⟨m1, s1, C.row r1 hne, f1.chgs C hp⟩⟩
  · obtain ⟨m0, s0, r0, -⟩ := g
    have hr := (r0.set 0 (.bool m)).set 1 s
    exact ⟨p, e9, l1, hs2 l2, ⟨m, s, by simpa using hr, hsl⟩⟩
  · rw [u 8 (by decide), u 9 (by decide)]; exact h.ne
end
end Go.Proofs.YtbkmgngeahmefaaGreat
end
section
namespace Go.Proofs.YtbkmgngeahmefaaGreat
open Go.RowKit
attribute [local go_sem ↓] Go.wp_at_zero Go.wp_at_succ
theorem rounds_abs {b : Code} {Q : Exit → Act → World → Prop} {n : Nat} {a : Act} {w : World} (F : World → Prop) (hF : F w) (h : ∀ wx, F wx → Code.rounds Tryz.prog b Q n a wx) : Code.rounds Tryz.prog b Q n a w := h _ hF
end Go.Proofs.YtbkmgngeahmefaaGreat
end
section
namespace Go.Proofs.YtbkmgngeahmefaaGreat
open Go.RowKit
attribute [local go_sem ↓] Go.wp_at_zero Go.wp_at_succ
end Go.Proofs.YtbkmgngeahmefaaGreat
end
