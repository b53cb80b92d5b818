/- The walks of layer 18 (smooth): floor, between, a row of the strip. Conditions: bounds of places. -/
import Derived.Test.YtamfjfnceeagiaaSmo
import Derived.Test.YtamfjfnceeagiaaSpanA
namespace Go.Proofs.Ytamfjfnceeagiaa
set_option linter.unusedVariables false
set_option linter.unusedSimpArgs false
open Go.RowKit
theorem sfloor_any (n d : Int) (hd : 0 < d) (d1 : d ≤ 4611686018427387904) (n0 : -4611686018427387904 ≤ n) (n1 : n ≤ 4611686018427387904) (w : World) : Calls Try.prog 124 #[.int .i64 n, .int .i64 d] w (Ret (.int .i64 (n / d)) w) := by
  rw [← floor_t hd]
  have nz : (d == 0) = false := by simp; omega
  have nz2 : ¬ d = 0 := by omega
  have b1 : -4611686018427387904 ≤ n.tdiv d ∧ n.tdiv d ≤ 4611686018427387904 := by
    have := Int.natAbs_tdiv_le_natAbs n d
    omega
  have w1 : IntKind.i64.wrap (n.tdiv d) = n.tdiv d := IntWalk.i64_in _ (by omega)
  have w2 : IntKind.i64.wrap (n.tdiv d - 1) = n.tdiv d - 1 := IntWalk.i64_in _ (by omega)
  go_enter Try.func124, Try.ntmps124
  go_wp2
  · go_ret
    exact Ret.of' rfl (by (repeat (first | exact Below.refl _ _ | with_reducible refine Below.drew ?_ | with_reducible refine Below.ext ?_ (by first | exact Nat.le_refl _ | (simp; done) | (simp; omega)) _ | with_reducible refine Below.alloc ?_ (by first | exact Nat.le_refl _ | (simp; done) | (simp; omega)) _ | with_reducible refine Below.setCell ?_ (by first | exact Nat.le_refl _ | (simp; done) | (simp; omega)) _)))
  · go_ret
    exact Ret.of' rfl (by (repeat (first | exact Below.refl _ _ | with_reducible refine Below.drew ?_ | with_reducible refine Below.ext ?_ (by first | exact Nat.le_refl _ | (simp; done) | (simp; omega)) _ | with_reducible refine Below.alloc ?_ (by first | exact Nat.le_refl _ | (simp; done) | (simp; omega)) _ | with_reducible refine Below.setCell ?_ (by first | exact Nat.le_refl _ | (simp; done) | (simp; omega)) _)))
theorem quo_in {n d : Int} (hd : 0 < d) (n0 : -4611686018427387904 ≤ n) (n1 : n ≤ 4611686018427387904) : -4611686018427387904 ≤ n / d ∧ n / d ≤ 4611686018427387904 := by
  have m := Int.natAbs_ediv_le_natAbs n d
  omega
abbrev P2v (p : Int × Int) : Value := .tuple #[.int .i64 p.1, .int .i64 p.2]
set_option maxHeartbeats 4000000 in
theorem between_any (t a lo hi f u : Int) (t0 : -1152921504606846976 ≤ t) (t1 : t ≤ 1152921504606846976) (a0 : -2305843009213693952 ≤ a) (a1 : a ≤ 2305843009213693952) (l0 : -1152921504606846976 ≤ lo) (l1 : lo ≤ 1152921504606846976) (h0 : -1152921504606846976 ≤ hi) (h1 : hi ≤ 1152921504606846976) (w : World) :
    Calls Try.prog 148 #[.int .i64 t, .int .i64 a, .int .i64 lo, .int .i64 hi, .int .i64 f, .int .i64 u] w (Ret (P2v (btw t a lo hi f u)) w) := by
  unfold btw
  have s1 : IntKind.i64.wrap (lo - a) = lo - a := IntWalk.i64_in _ (by omega)
  have s2 : IntKind.i64.wrap (hi - a) = hi - a := IntWalk.i64_in _ (by omega)
  have lb : -3458764513820540928 ≤ lo - a ∧ lo - a ≤ 3458764513820540928 := by omega
  have hb : -3458764513820540928 ≤ hi - a ∧ hi - a ≤ 3458764513820540928 := by omega
  obtain ⟨L, hL⟩ : ∃ L, lo - a = L := ⟨_, rfl⟩
  obtain ⟨H, hH⟩ : ∃ L, hi - a = L := ⟨_, rfl⟩
  rw [hL] at s1 lb
  rw [hH] at s2 hb
  have q1 : IntKind.i64.wrap (lo - a) = L := by rw [hL]; exact s1
  have q2 : IntKind.i64.wrap (hi - a) = H := by rw [hH]; exact s2
  simp only [hL, hH]
  obtain ⟨lb0, lb1⟩ := lb
  obtain ⟨hb0, hb1⟩ := hb
  clear s1 s2 hL hH a0 a1 l0 l1 h0 h1
  by_cases c0 : t = 0
  · subst c0
    rw [if_pos rfl]
    by_cases c1 : 0 < L
    · rw [if_pos (.inl c1)]
      go_enter Try.func148, Try.ntmps148
      go_wp2
      refine bodyPost_ret (v := .tuple #[.int .i64 1, .int .i64 0]) (by simp [results, Try.results148, go_sem]) rfl (Ret.of (by (repeat (first | exact Below.refl _ _ | with_reducible refine Below.drew ?_ | with_reducible refine Below.ext ?_ (by first | exact Nat.le_refl _ | (simp; done) | (simp; omega)) _ | with_reducible refine Below.alloc ?_ (by first | exact Nat.le_refl _ | (simp; done) | (simp; omega)) _ | with_reducible refine Below.setCell ?_ (by first | exact Nat.le_refl _ | (simp; done) | (simp; omega)) _))))
    · by_cases c2 : H < 0
      · rw [if_pos (.inr c2)]
        go_enter Try.func148, Try.ntmps148
        go_wp2
        refine bodyPost_ret (v := .tuple #[.int .i64 1, .int .i64 0]) (by simp [results, Try.results148, go_sem]) rfl (Ret.of (by (repeat (first | exact Below.refl _ _ | with_reducible refine Below.drew ?_ | with_reducible refine Below.ext ?_ (by first | exact Nat.le_refl _ | (simp; done) | (simp; omega)) _ | with_reducible refine Below.alloc ?_ (by first | exact Nat.le_refl _ | (simp; done) | (simp; omega)) _ | with_reducible refine Below.setCell ?_ (by first | exact Nat.le_refl _ | (simp; done) | (simp; omega)) _))))
      · rw [if_neg (by omega)]
        go_enter Try.func148, Try.ntmps148
        go_wp2
        refine bodyPost_ret (v := .tuple #[.int .i64 f, .int .i64 u]) (by simp [results, Try.results148, go_sem]) rfl (Ret.of (by (repeat (first | exact Below.refl _ _ | with_reducible refine Below.drew ?_ | with_reducible refine Below.ext ?_ (by first | exact Nat.le_refl _ | (simp; done) | (simp; omega)) _ | with_reducible refine Below.alloc ?_ (by first | exact Nat.le_refl _ | (simp; done) | (simp; omega)) _ | with_reducible refine Below.setCell ?_ (by first | exact Nat.le_refl _ | (simp; done) | (simp; omega)) _))))
  · rw [if_neg c0]
    have c0' : (t == 0) = false := by simpa using c0
    by_cases c1 : t < 0
    · rw [if_pos c1]
      have F1 := Lib.hid (fun w => sfloor_any H (-t) (by omega) (by omega) (by omega) (by omega) w)
      have F2 := Lib.hid (fun w => sfloor_any (-L) (-t) (by omega) (by omega) (by omega) (by omega) w)
      obtain ⟨b1, b2⟩ := quo_in (n := H) (d := -t) (by omega) (by omega) (by omega)
      generalize H / (-t) = Q1 at *
      generalize (-L) / (-t) = Q2 at *
      go_enter Try.func148, Try.ntmps148
      go_wp2_with (first | (go_at_call 124; (with_reducible refine (F1.out _).mono ?_); rintro _ _ ⟨rfl, X_, rfl⟩) | (go_at_call 124; (with_reducible refine (F2.out _).mono ?_); rintro _ _ ⟨rfl, X_, rfl⟩))
      refine bodyPost_ret (v := .tuple #[.int .i64 (max f (-Q1)), .int .i64 (min u Q2)]) (by simp [results, Try.results148, go_sem]) rfl (Ret.of (by (repeat (first | exact Below.refl _ _ | with_reducible refine Below.drew ?_ | with_reducible refine Below.ext ?_ (by first | exact Nat.le_refl _ | (simp; done) | (simp; omega)) _ | with_reducible refine Below.alloc ?_ (by first | exact Nat.le_refl _ | (simp; done) | (simp; omega)) _ | with_reducible refine Below.setCell ?_ (by first | exact Nat.le_refl _ | (simp; done) | (simp; omega)) _))))
    · rw [if_neg c1]
      have F1 := Lib.hid (fun w => sfloor_any (-L) t (by omega) (by omega) (by omega) (by omega) w)
      have F2 := Lib.hid (fun w => sfloor_any H t (by omega) (by omega) (by omega) (by omega) w)
      obtain ⟨b1, b2⟩ := quo_in (n := -L) (d := t) (by omega) (by omega) (by omega)
      generalize (-L) / t = Q1 at *
      generalize H / t = Q2 at *
      go_enter Try.func148, Try.ntmps148
      go_wp2_with (first | (go_at_call 124; (with_reducible refine (F1.out _).mono ?_); rintro _ _ ⟨rfl, X_, rfl⟩) | (go_at_call 124; (with_reducible refine (F2.out _).mono ?_); rintro _ _ ⟨rfl, X_, rfl⟩))
      refine bodyPost_ret (v := .tuple #[.int .i64 (max f (-Q1)), .int .i64 (min u Q2)]) (by simp [results, Try.results148, go_sem]) rfl (Ret.of (by (repeat (first | exact Below.refl _ _ | with_reducible refine Below.drew ?_ | with_reducible refine Below.ext ?_ (by first | exact Nat.le_refl _ | (simp; done) | (simp; omega)) _ | with_reducible refine Below.alloc ?_ (by first | exact Nat.le_refl _ | (simp; done) | (simp; omega)) _ | with_reducible refine Below.setCell ?_ (by first | exact Nat.le_refl _ | (simp; done) | (simp; omega)) _))))
/-- A line's strip. -/
abbrev strpV (a b : WinP) (R B : Int) : Value := .agg #[.int .i64 a.x, .int .i64 a.y, .int .i64 (b.x - a.x), .int .i64 (b.y - a.y), .int .i64 (smL a b), .int .i64 B, .int .i64 R]
theorem smq_nn (x : Int) : 0 ≤ x * x := by
  rcases Int.le_total 0 x with h | h
  · exact Int.mul_nonneg h h
  · have := Int.mul_nonneg (a := -x) (b := -x) (by omega) (by omega)
    rwa [Int.neg_mul_neg] at this
theorem smL_in {a b : WinP} (ha : a.fits) (hb : b.fits) : 0 ≤ smL a b ∧ smL a b ≤ 576460752303423488 := by
  obtain ⟨a0, a1, a2, a3, -, -, -⟩ := ha
  obtain ⟨b0, b1, b2, b3, -, -, -⟩ := hb
  have m1 := mul_bds (U := 536870912) (V := 536870912) (by omega) (by omega) (show -536870912 ≤ b.x - a.x by omega) (by omega) (show -536870912 ≤ b.x - a.x by omega) (by omega)
  have m2 := mul_bds (U := 536870912) (V := 536870912) (by omega) (by omega) (show -536870912 ≤ b.y - a.y by omega) (by omega) (show -536870912 ≤ b.y - a.y by omega) (by omega)
  have p1 := smq_nn (b.x - a.x)
  have p2 := smq_nn (b.y - a.y)
  unfold smL; omega
set_option maxRecDepth 100000 in
set_option maxHeartbeats 4000000 in
theorem srow_any (a b : WinP) (R B y f u : Int) (ha : a.fits) (hb : b.fits) (r0 : 0 ≤ R) (r1 : R ≤ 9007199254740992) (b0 : -1 ≤ B) (b1 : B ≤ 9007199254740992) (y0 : -1342177280 ≤ y) (y1 : y ≤ 1342177280) (w : World) :
    Calls Try.prog 123 #[strpV a b R B, .int .i64 y, .int .i64 f, .int .i64 u] w (Ret (P2v (smRow a b R B y f u)) w) := by
  have lb := smL_in ha hb
  obtain ⟨a0, a1, a2, a3, -, -, -⟩ := ha
  obtain ⟨c0, c1, c2, c3, -, -, -⟩ := hb
  unfold smRow strpV
  have w1 : -536870912 ≤ b.x - a.x ∧ b.x - a.x ≤ 536870912 := by omega
  have w2 : -536870912 ≤ b.y - a.y ∧ b.y - a.y ≤ 536870912 := by omega
  obtain ⟨W, hW⟩ : ∃ W, b.x - a.x = W := ⟨_, rfl⟩
  obtain ⟨H, hH⟩ : ∃ H, b.y - a.y = H := ⟨_, rfl⟩
  simp only [hW, hH] at w1 w2 ⊢
  have q1 : IntKind.i64.wrap (y - a.y) = y - a.y := IntWalk.i64_in _ (by omega)
  have qb : -1610612736 ≤ y - a.y ∧ y - a.y ≤ 1610612736 := by omega
  obtain ⟨q, hq⟩ : ∃ q, y - a.y = q := ⟨_, rfl⟩
  obtain ⟨ax, hax⟩ : ∃ q, a.x = q := ⟨_, rfl⟩
  have q2 : IntKind.i64.wrap (y - a.y) = q := by rw [q1, hq]
  rw [hq] at qb
  simp only [hq, hax]
  rw [hax] at a0 a1
  generalize smL a b = l at *
  have m1 := mul_bds (U := 536870912) (V := 1610612736) (by omega) (by omega) w2.1 w2.2 qb.1 qb.2
  have m2 := mul_bds (U := 536870912) (V := 268435456) (by omega) (by omega) w1.1 w1.2 a0 a1
  have m3 := mul_bds (U := 536870912) (V := 1610612736) (by omega) (by omega) w1.1 w1.2 qb.1 qb.2
  have m4 := mul_bds (U := 536870912) (V := 268435456) (by omega) (by omega) w2.1 w2.2 a0 a1
  have k1 : IntKind.i64.wrap (H * q) = H * q := IntWalk.i64_in _ (by omega)
  have k2 : IntKind.i64.wrap (W * ax) = W * ax := IntWalk.i64_in _ (by omega)
  have k3 : IntKind.i64.wrap (H * q - W * ax) = H * q - W * ax := IntWalk.i64_in _ (by omega)
  have k4 : IntKind.i64.wrap (W * q) = W * q := IntWalk.i64_in _ (by omega)
  have k5 : IntKind.i64.wrap (H * ax) = H * ax := IntWalk.i64_in _ (by omega)
  have k6 : IntKind.i64.wrap (W * q + H * ax) = W * q + H * ax := IntWalk.i64_in _ (by omega)
  have B1 := Lib.hid (fun w => between_any W (H * q - W * ax) 0 (l - 1) f u (by omega) (by omega) (by omega) (by omega) (by omega) (by omega) (by omega) (by omega) w)
  have B2 := Lib.hid (fun f u w => between_any (-H) (W * q + H * ax) (-B) R f u (by omega) (by omega) (by omega) (by omega) (by omega) (by omega) (by omega) (by omega) w)
  obtain ⟨⟨pf, pu⟩, hp⟩ : ∃ p, btw W (H * q - W * ax) 0 (l - 1) f u = p := ⟨_, rfl⟩
  rw [hp] at B1 ⊢
  have B3 := Lib.hid (fun w => B2.out pf pu w)
  simp only at B1 B3 ⊢
  obtain ⟨⟨sf, su⟩, hs⟩ : ∃ p, btw (-H) (W * q + H * ax) (-B) R pf pu = p := ⟨_, rfl⟩
  rw [hs] at B3 ⊢
  obtain ⟨w10, w11⟩ := w1
  obtain ⟨w20, w21⟩ := w2
  obtain ⟨lb0, lb1⟩ := lb
  clear B2 hp hs m1 m2 m3 m4 q1 hq hW hH qb a0 a1 a2 a3 c0 c1 c2 c3 y0 y1 hax
  by_cases c : pu < pf
  · rw [if_pos c]
    go_enter Try.func123, Try.ntmps123
    go_wp2_with (first | (go_at_call 148; (with_reducible refine (B1.out _).mono ?_); rintro _ _ ⟨rfl, X_, rfl⟩) | (go_at_call 148; (with_reducible refine (B3.out _).mono ?_); rintro _ _ ⟨rfl, X_, rfl⟩))
    refine bodyPost_ret (v := .tuple #[.int .i64 pf, .int .i64 pu]) (by simp [results, Try.results123, go_sem]) rfl (Ret.of (by (repeat (first | exact Below.refl _ _ | with_reducible refine Below.drew ?_ | with_reducible refine Below.ext ?_ (by first | exact Nat.le_refl _ | (simp; done) | (simp; omega)) _ | with_reducible refine Below.alloc ?_ (by first | exact Nat.le_refl _ | (simp; done) | (simp; omega)) _ | with_reducible refine Below.setCell ?_ (by first | exact Nat.le_refl _ | (simp; done) | (simp; omega)) _))))
  · rw [if_neg c]
    go_enter Try.func123, Try.ntmps123
    go_wp2_with (first | (go_at_call 148; (with_reducible refine (B1.out _).mono ?_); rintro _ _ ⟨rfl, X_, rfl⟩) | (go_at_call 148; (with_reducible refine (B3.out _).mono ?_); rintro _ _ ⟨rfl, X_, rfl⟩))
    refine bodyPost_ret (v := .tuple #[.int .i64 sf, .int .i64 su]) (by simp [results, Try.results123, go_sem]) rfl (Ret.of (by (repeat (first | exact Below.refl _ _ | with_reducible refine Below.drew ?_ | with_reducible refine Below.ext ?_ (by first | exact Nat.le_refl _ | (simp; done) | (simp; omega)) _ | with_reducible refine Below.alloc ?_ (by first | exact Nat.le_refl _ | (simp; done) | (simp; omega)) _ | with_reducible refine Below.setCell ?_ (by first | exact Nat.le_refl _ | (simp; done) | (simp; omega)) _))))
end Go.Proofs.Ytamfjfnceeagiaa
