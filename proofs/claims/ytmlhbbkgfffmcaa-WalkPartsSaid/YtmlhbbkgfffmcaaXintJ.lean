/- The walk of math/bits.Div64 at this program: the quotient and what is left. Conditions: the quotient is one of 64 bits. -/
import Derived.Test.YtmlhbbkgfffmcaaXintI
import Derived.Test.YtmlhbbkgfffmcaaXintF
import Derived.Deep.DeepCutAuto
import Derived.Deep.CutBlock
import Derived.Deep.CutRange
import Derived.Outline
namespace Go.Proofs.Ytmlhbbkgfffmcaa
set_option linter.unusedVariables false
set_option linter.unusedSimpArgs false
open Go.RowKit
set_option maxHeartbeats 4000000 in
theorem div64_zero (lo y : Int) (l0 : 0 ≤ lo) (l1 : lo < 18446744073709551616) (y0 : 0 < y) (y1 : y < 18446744073709551616) (w : World) :
    Calls Try.prog 102 #[.int .u64 0, .int .u64 lo, .int .u64 y] w (Ret (.tuple #[.int .u64 (lo / y), .int .u64 (lo % y)]) w) := by
  have t1 : lo.tdiv y = lo / y := Int.tdiv_eq_ediv_of_nonneg l0
  have t2 : lo.tmod y = lo % y := Int.tmod_eq_emod_of_nonneg l0
  have q1 := Int.ediv_nonneg l0 (show 0 ≤ y by omega)
  have q2 := Int.ediv_le_self y l0
  have q3 : IntKind.u64.wrap (lo / y) = lo / y := by rw [IntKind.wrap_u64]; exact Int.emod_eq_of_lt q1 (by omega)
  have d1 : (y == 0) = false := by simp; omega
  go_enter Try.func102, Try.ntmps102
  go_wp2
  refine wp_region_ext (by kernel_rfl) (by kernel_rfl) ?_
  repeat (go_big_quiet_step ((fail)))
  refine wpQuiet_nil ?_
  intro _ hw_ext
  obtain ⟨X, hw_ext⟩ := hw_ext
  subst hw_ext
  go_wp2
  refine bodyPost_ret (v := .tuple #[.int .u64 (lo / y), .int .u64 (lo % y)]) ?_ rfl (Ret.of ?_)
  · simp [results, Try.results102, go_sem, t1, t2, q3]
  · (repeat (first | exact Below.refl _ _ | with_reducible refine Below.drew ?_ | with_reducible refine Below.ext ?_ (by first | exact Nat.le_refl _ | (simp; done) | (simp; omega)) _ | with_reducible refine Below.alloc ?_ (by first | exact Nat.le_refl _ | (simp; done) | (simp; omega)) _ | with_reducible refine Below.setCell ?_ (by first | exact Nat.le_refl _ | (simp; done) | (simp; omega)) _))
/-- What the shift makes of the numbers. -/
structure Shift (hi lo y : Int) (s : Nat) (Y U N : Int) : Prop where
  wy : IntKind.u64.wrap (y * 2 ^ s) = Y
  y0 : 9223372036854775808 ≤ Y
  y1 : Y < 18446744073709551616
  wu : bits .or .u64 (IntKind.u64.wrap (hi * 2 ^ s)) (lo / 2 ^ (64 - s)) = U
  wn : IntKind.u64.wrap (lo * 2 ^ s) = N
  u0 : 0 ≤ U
  u1 : U < Y
  n0 : 0 ≤ N
  n1 : N < 18446744073709551616
  t0 : (0 : Int) < 2 ^ s
  ey : Y = y * 2 ^ s
  e : U * 18446744073709551616 + N = (hi * 18446744073709551616 + lo) * 2 ^ s
theorem or_add (a b s : Nat) (ha : a * 2 ^ s < 18446744073709551616) (hb : b < 2 ^ s) (h1 : b < 18446744073709551616) : bits .or .u64 ((a * 2 ^ s : Nat) : Int) (b : Int) = ((a * 2 ^ s + b : Nat) : Int) := by
  rw [bits_or_u64_nat _ _ ha h1]
  congr 1
  have := Nat.shiftLeft_add_eq_or_of_lt hb a
  rw [Nat.shiftLeft_eq] at this
  exact this.symm
theorem shift_of {hi lo y : Int} {s : Nat} (h0 : 0 < hi) (h1 : hi < y) (l0 : 0 ≤ lo) (l1 : lo < 18446744073709551616) (y1 : y < 18446744073709551616) (s1 : s ≤ 63)
    (b2 : y * 2 ^ s < 18446744073709551616) (b3 : 9223372036854775808 ≤ y * 2 ^ s) : Shift hi lo y s (y * 2 ^ s) (hi * 2 ^ s + lo / 2 ^ (64 - s)) (lo * 2 ^ s % 18446744073709551616) := by
  have p0 : (0 : Int) < 2 ^ s := Int.pow_pos (by decide)
  have p1 : (0 : Int) < 2 ^ (64 - s) := Int.pow_pos (by decide)
  have pp : (2 : Int) ^ (64 - s) * 2 ^ s = 18446744073709551616 := by rw [← Int.pow_add, show 64 - s + s = 64 by omega]; rfl
  have hh : hi * 2 ^ s ≤ y * 2 ^ s := Int.mul_le_mul_of_nonneg_right (by omega) (by omega)
  have h00 : 0 ≤ hi * 2 ^ s := Int.mul_nonneg (by omega) (by omega)
  have k0 : 0 ≤ lo / 2 ^ (64 - s) := Int.ediv_nonneg l0 (by omega)
  have k1 : lo / 2 ^ (64 - s) < 2 ^ s := Int.ediv_lt_of_lt_mul p1 (by rw [Int.mul_comm, pp]; exact l1)
  have kd : lo * 2 ^ s / 18446744073709551616 = lo / 2 ^ (64 - s) := by rw [← pp]; exact Int.mul_ediv_mul_of_pos_left _ _ p0
  have em := Int.emod_add_mul_ediv (lo * 2 ^ s) 18446744073709551616
  have e : (hi * 2 ^ s + lo / 2 ^ (64 - s)) * 18446744073709551616 + lo * 2 ^ s % 18446744073709551616 = (hi * 18446744073709551616 + lo) * 2 ^ s := by
    rw [kd] at em
    have : (hi * 18446744073709551616 + lo) * 2 ^ s = hi * 2 ^ s * 18446744073709551616 + lo * 2 ^ s := by grind
    omega
  refine ⟨?_, b3, b2, ?_, by rw [IntKind.wrap_u64], by omega, ?_, Int.emod_nonneg _ (by decide), Int.emod_lt_of_pos _ (by decide), p0, rfl, e⟩
  · rw [IntKind.wrap_u64]; exact Int.emod_eq_of_lt (by omega) b2
  · rw [IntKind.wrap_u64, Int.emod_eq_of_lt h00 (by omega)]
    obtain ⟨a, ha⟩ := Int.eq_ofNat_of_zero_le (show 0 ≤ hi by omega)
    obtain ⟨b, hb⟩ := Int.eq_ofNat_of_zero_le k0
    rw [hb] at k1 ⊢
    subst ha
    have c1 : (b : Int) < ((2 ^ s : Nat) : Int) := by rw [Int.natCast_pow]; exact k1
    have c2 : ((a * 2 ^ s : Nat) : Int) < 18446744073709551616 := by rw [Int.natCast_mul, Int.natCast_pow]; exact Int.lt_of_le_of_lt hh b2
    have c3 : (b : Int) ≤ lo := by rw [← hb]; exact Int.ediv_le_self _ l0
    have := or_add a b s (by omega) (by omega) (by omega)
    rw [Int.natCast_add, Int.natCast_mul, Int.natCast_pow] at this
    exact this
  · have c1 : hi * 18446744073709551616 + lo < y * 18446744073709551616 := by omega
    have c2 : (hi * 18446744073709551616 + lo) * 2 ^ s < y * 18446744073709551616 * 2 ^ s := Int.mul_lt_mul_of_pos_right c1 p0
    have c3 : y * 18446744073709551616 * 2 ^ s = y * 2 ^ s * 18446744073709551616 := by grind
    have := Int.emod_nonneg (lo * 2 ^ s) (show (18446744073709551616 : Int) ≠ 0 by decide)
    omega
theorem mask_int {z : Int} (h0 : 0 ≤ z) (h1 : z < 18446744073709551616) : bits .and .u64 z 4294967295 = z % 4294967296 := by
  obtain ⟨a, rfl⟩ := Int.eq_ofNat_of_zero_le h0
  rw [maskN a (by omega)]; omega
theorem norm_bounds {y : Int} {s : Nat} (y0 : 0 < y) (hs : s + Lib.bitLen y.toNat = 64) (b1 : 1 ≤ Lib.bitLen y.toNat) (b2 : y.toNat < 2 ^ Lib.bitLen y.toNat) (b3 : 2 ^ (Lib.bitLen y.toNat - 1) ≤ y.toNat) : y * 2 ^ s < 18446744073709551616 ∧ 9223372036854775808 ≤ y * 2 ^ s := by
  obtain ⟨n, rfl⟩ := Int.eq_ofNat_of_zero_le (show 0 ≤ y by omega)
  rw [Int.toNat_natCast] at *
  generalize Lib.bitLen n = b at *
  have p0 : 0 < 2 ^ s := Nat.pow_pos (by decide)
  have a1 : n * 2 ^ s < 2 ^ b * 2 ^ s := Nat.mul_lt_mul_of_pos_right b2 p0
  have a2 : 2 ^ (b - 1) * 2 ^ s ≤ n * 2 ^ s := Nat.mul_le_mul_right _ b3
  rw [← Nat.pow_add, show b + s = 64 by omega] at a1
  rw [← Nat.pow_add, show b - 1 + s = 63 by omega] at a2
  have e : ((n * 2 ^ s : Nat) : Int) = (n : Int) * 2 ^ s := by rw [Int.natCast_mul, Int.natCast_pow]; rfl
  rw [← e]; omega
/-- What is left of a digit, in 64 bits. -/
theorem digit_rest {A N1 Y q : Int} (y0 : 0 < Y) (y1 : Y < 18446744073709551616) (hq : q = (A * 4294967296 + N1) / Y) : IntKind.u64.wrap (IntKind.u64.wrap (IntKind.u64.wrap (A * 4294967296) + N1) - IntKind.u64.wrap (q * Y)) = (A * 4294967296 + N1) % Y ∧ 0 ≤ (A * 4294967296 + N1) % Y ∧ (A * 4294967296 + N1) % Y < Y := by
  have e := Int.emod_add_mul_ediv (A * 4294967296 + N1) Y
  have m0 := Int.emod_nonneg (A * 4294967296 + N1) (show Y ≠ 0 by omega)
  have m1 := Int.emod_lt_of_pos (A * 4294967296 + N1) y0
  rw [← hq, Int.mul_comm Y q] at e
  refine ⟨?_, m0, m1⟩
  simp only [IntKind.wrap_u64]
  generalize (A * 4294967296 + N1) % Y = r at *
  generalize q * Y = p at *
  omega
theorem div_end {U N Y y hi lo t N1 N0 Y1 Y0 V Q1 Q0 : Int} (t0 : 0 < t) (hY : 0 < Y) (f0 : 0 ≤ N0) (n0 : 0 ≤ N1) (u0 : 0 ≤ U) (e : U * 18446744073709551616 + N = (hi * 18446744073709551616 + lo) * t) (ey : Y = y * t) (en : N = N1 * 4294967296 + N0) (eyy : Y = Y1 * 4294967296 + Y0)
    (hv : V = (U * 4294967296 + N1) % Y) (h1 : Q1 = (U * 4294967296 + N1) / (Y1 * 4294967296 + Y0)) (h0 : Q0 = (V * 4294967296 + N0) / (Y1 * 4294967296 + Y0)) :
    Q1 * 4294967296 + Q0 = (hi * 18446744073709551616 + lo) / y ∧ (V * 4294967296 + N0) % Y / t = (hi * 18446744073709551616 + lo) % y := by
  obtain ⟨a, b⟩ := two_digits (U := U) (Y := Y) (N1 := N1) (N0 := N0) hY f0 n0 u0
  rw [← eyy] at h1 h0
  rw [← hv] at a b
  rw [← h1, ← h0] at a
  rw [← en, e] at a b
  obtain ⟨c, d⟩ := div_shift (V := hi * 18446744073709551616 + lo) (y := y) t0
  rw [← ey] at c d
  rw [← a, ← b]
  exact ⟨c, d⟩
set_option maxRecDepth 100000 in
set_option maxHeartbeats 4000000 in
theorem div64_pos (hi lo y : Int) (h0 : 0 < hi) (h1 : hi < y) (l0 : 0 ≤ lo) (l1 : lo < 18446744073709551616) (y1 : y < 18446744073709551616) (w : World) :
    Calls Try.prog 102 #[.int .u64 hi, .int .u64 lo, .int .u64 y] w (Ret (.tuple #[.int .u64 ((hi * 18446744073709551616 + lo) / y), .int .u64 ((hi * 18446744073709551616 + lo) % y)]) w) := by
  obtain ⟨b1, b2, b3⟩ := bit_spec 64 y.toNat (by omega) (by omega)
  have Z := Lib.hid (fun w => zeros_any y w (by omega) (by omega))
  obtain ⟨b3, b4⟩ := b3 (by omega)
  obtain ⟨s, hs⟩ : ∃ s : Nat, s + Lib.bitLen y.toNat = 64 := ⟨64 - Lib.bitLen y.toNat, by omega⟩
  have e : (64 - (Lib.bitLen y.toNat : Int)) = (s : Int) := by omega
  rw [e] at Z
  have d1 : (y == 0) = false := by simp; omega
  have d2 : (hi == 0) = false := by simp; omega
  have d3 : decide (y ≤ hi) = false := by simp; omega
  have s0 : s ≤ 63 := by omega
  obtain ⟨c1, c2⟩ := norm_bounds (by omega) hs b4 b2 b3
  have SH := shift_of h0 h1 l0 l1 y1 s0 c1 c2
  generalize y * 2 ^ s = Y at SH
  generalize hi * 2 ^ s + lo / 2 ^ (64 - s) = U at SH
  generalize lo * 2 ^ s % 18446744073709551616 = N at SH
  clear c1 c2 b1 b2 b3 b4 e
  obtain ⟨wy, y0, y1', wu, wn, u0, u1, n0, n1, t0, ey, e⟩ := SH
  have D1 : Digit U (Y / 4294967296) (Y % 4294967296) (N / 4294967296) := ⟨by omega, by omega, by omega, by omega, u0, by omega, by omega, by omega⟩
  have mY := mask_int (z := Y) (by omega) y1'
  have mN := mask_int n0 n1
  have eY : Y = Y / 4294967296 * 4294967296 + Y % 4294967296 := by omega
  have eN : N = N / 4294967296 * 4294967296 + N % 4294967296 := by omega
  obtain ⟨Y1, hY1⟩ : ∃ Y1, Y1 = Y / 4294967296 := ⟨_, rfl⟩
  obtain ⟨Y0, hY0⟩ : ∃ Y0, Y0 = Y % 4294967296 := ⟨_, rfl⟩
  obtain ⟨N1, hN1⟩ : ∃ N1, N1 = N / 4294967296 := ⟨_, rfl⟩
  obtain ⟨N0, hN0⟩ : ∃ N0, N0 = N % 4294967296 := ⟨_, rfl⟩
  have fN : 0 ≤ N0 ∧ N0 < 4294967296 := by omega
  rw [← hY1, ← hY0] at eY
  rw [← hN1, ← hN0] at eN
  rw [← hY1, ← hY0, ← hN1] at D1
  rw [← hY0] at mY
  rw [← hN0] at mN
  have t1 : U.tdiv Y1 = U / Y1 := Int.tdiv_eq_ediv_of_nonneg u0
  have G0 := D1.start
  have a0 := D1.a0
  have a1 := D1.a1
  have b0 := D1.b0
  have b1' := D1.b1
  have dY : (Y1 == 0) = false := by simp; omega
  obtain ⟨g1, g2, g3, g4⟩ := G0.small D1
  have g5 := G0.q0 D1
  have g6 := G0.q1
  have g7 := G0.r0
  have g8 := G0.r1
  have EE := Lib.hid e
  have EY := Lib.hid ey
  have EN := Lib.hid eN
  have EYY := Lib.hid eY
  have HH := Lib.hid (show Y / 4294967296 = Y1 ∧ N / 4294967296 = N1 from ⟨hY1.symm, hN1.symm⟩)
  have WW := Lib.hid (show _ ∧ _ ∧ _ ∧ _ ∧ _ from ⟨wy, wu, wn, mY, mN⟩)
  clear e ey eN eY hY0 hN0 hY1 hN1 wy wu wn mY mN hs
  go_enter Try.func102, Try.ntmps102
  go_upto_region 15 with (go_at_call 134; refine (Z.out _).mono ?_; rintro _ _ ⟨rfl, hw_⟩; rw [hw_]; clear hw_)
  rw [WW.out.1, WW.out.2.1, WW.out.2.2.1, WW.out.2.2.2.1, WW.out.2.2.2.2, HH.out.1, HH.out.2]
  go_upto_block 0 with fail
  go_cut [15, 16] from 67 to 85 (fun t15 t16 wx => t15 = .int .u64 ((U * 4294967296 + N1) / (Y1 * 4294967296 + Y0)) ∧ (∃ r, t16 = .int .u64 r) ∧ wx = w)
  case first =>
    go_wp2_with fail
    go_loopw [15, 16] (fun tq tr wr => ∃ q r, tq = .int .u64 q ∧ tr = .int .u64 r ∧ Guess U Y1 Y0 N1 q r ∧ wr = w) (fun tq _ _ => (intOf tq).toNat)
    case atStart => exact ⟨_, _, rfl, rfl, G0, rfl⟩
    case round =>
      obtain ⟨q, r, rfl, rfl, G, rfl⟩ := hrel
      obtain ⟨f1, f2, f3, f4⟩ := G.small D1
      have f5 := G.q0 D1
      have f6 := G.q1
      have f7 := G.r0
      have f8 := G.r1
      have NX := fun t => G.next D1 t
      have ST := fun t => G.stop D1 t
      have LW := fun t => G.low D1 t
      have HG := fun t => G.high D1 t
      have qt := D1.quot
      have HNX := Lib.hid NX
      have HST := Lib.hid ST
      have HLW := Lib.hid LW
      clear NX ST LW
      obtain ⟨-, -, -, -, -, -, m0, m1⟩ := D1
      by_cases t : 4294967296 ≤ q ∨ 4294967296 * r + N1 < q * Y0
      · have hg := HG t
        have q1 : 1 ≤ q := by omega
        clear HG hg
        by_cases hr : r + Y1 < 4294967296
        · have nx := Lib.hid (HNX.out t hr)
          by_cases t1 : 4294967296 ≤ q
          · clear t
            go_wp2_with fail
            go_roundw
            case rel => exact ⟨q - 1, r + Y1, rfl, rfl, nx.out, trivial⟩
            case measure => simp [intOf]; omega
          · have t2 : 4294967296 * r + N1 < q * Y0 := by omega
            clear t
            go_wp2_with fail
            go_roundw
            case rel => exact ⟨q - 1, r + Y1, rfl, rfl, nx.out, trivial⟩
            case measure => simp [intOf]; omega
        · have st := Lib.hid (HST.out t (by omega))
          by_cases t1 : 4294967296 ≤ q
          · clear t
            go_wp2_with fail
            go_meet
            exact ⟨by rw [st.out], ⟨_, rfl⟩, rfl⟩
          · have t2 : 4294967296 * r + N1 < q * Y0 := by omega
            clear t
            go_wp2_with fail
            go_meet
            exact ⟨by rw [st.out], ⟨_, rfl⟩, rfl⟩
      · have lw := Lib.hid (HLW.out (by omega))
        clear HG
        have t1 : q < 4294967296 := by omega
        have t2 : q * Y0 ≤ 4294967296 * r + N1 := by omega
        clear t
        go_wp2_with fail
        go_meet
        exact ⟨by rw [lw.out], ⟨_, rfl⟩, rfl⟩
  case rest =>
  obtain ⟨rfl, ⟨r, rfl⟩, rfl⟩ := hcut
  obtain ⟨w, rfl⟩ : ∃ w, w = wc := ⟨_, rfl⟩
  obtain ⟨Q1, hQ1⟩ : ∃ Q1, Q1 = (U * 4294967296 + N1) / (Y1 * 4294967296 + Y0) := ⟨_, rfl⟩
  obtain ⟨v1, v2, v3⟩ := digit_rest (A := U) (N1 := N1) (Y := Y) (q := Q1) (by omega) y1' (by rw [EYY.out]; exact hQ1)
  have qt := D1.quot
  rw [← hQ1] at qt ⊢
  obtain ⟨V, hV⟩ : ∃ V, V = (U * 4294967296 + N1) % Y := ⟨_, rfl⟩
  rw [← hV] at v1 v2 v3
  have V1 := Lib.hid v1
  have HV := Lib.hid hV
  have HQ1 := Lib.hid hQ1
  have D2 : Digit V Y1 Y0 N0 := ⟨a0, a1, b0, b1', v2, by rw [← EYY.out]; exact v3, fN.1, fN.2⟩
  have D1' := D1
  have t1' : V.tdiv Y1 = V / Y1 := Int.tdiv_eq_ediv_of_nonneg v2
  clear v1 hV hQ1 D1 G0 g1 g2 g3 g4 g5 g6 g7 g8 t1
  have G0 := D2.start
  obtain ⟨g1, g2, g3, g4⟩ := G0.small D2
  have g5 := G0.q0 D2
  have g6 := G0.q1
  have g7 := G0.r0
  have g8 := G0.r1
  go_upto_region 22 with fail
  rw [V1.out]
  go_upto_block 2 with fail
  go_cut [16, 18] from 102 to 120 (fun t16 t18 wx => t18 = .int .u64 ((V * 4294967296 + N0) / (Y1 * 4294967296 + Y0)) ∧ (∃ r, t16 = .int .u64 r) ∧ wx = w)
  case first =>
    go_wp2_with fail
    go_loopw [16, 18] (fun tr tq wr => ∃ q r, tq = .int .u64 q ∧ tr = .int .u64 r ∧ Guess V Y1 Y0 N0 q r ∧ wr = w) (fun _ tq _ => (intOf tq).toNat)
    case atStart => exact ⟨_, _, rfl, rfl, G0, rfl⟩
    case round =>
      obtain ⟨q, r, rfl, rfl, G, rfl⟩ := hrel
      obtain ⟨f1, f2, f3, f4⟩ := G.small D2
      have f5 := G.q0 D2
      have f6 := G.q1
      have f7 := G.r0
      have f8 := G.r1
      have NX := fun t => G.next D2 t
      have ST := fun t => G.stop D2 t
      have LW := fun t => G.low D2 t
      have HG := fun t => G.high D2 t
      have qt := D2.quot
      have HNX := Lib.hid NX
      have HST := Lib.hid ST
      have HLW := Lib.hid LW
      clear NX ST LW
      obtain ⟨-, -, -, -, -, -, m0, m1⟩ := D2
      by_cases t : 4294967296 ≤ q ∨ 4294967296 * r + N0 < q * Y0
      · have hg := HG t
        have q1 : 1 ≤ q := by omega
        clear HG hg
        by_cases hr : r + Y1 < 4294967296
        · have nx := Lib.hid (HNX.out t hr)
          by_cases t1 : 4294967296 ≤ q
          · clear t
            go_wp2_with fail
            go_roundw
            case rel => exact ⟨q - 1, r + Y1, rfl, rfl, nx.out, trivial⟩
            case measure => simp [intOf]; omega
          · have t2 : 4294967296 * r + N0 < q * Y0 := by omega
            clear t
            go_wp2_with fail
            go_roundw
            case rel => exact ⟨q - 1, r + Y1, rfl, rfl, nx.out, trivial⟩
            case measure => simp [intOf]; omega
        · have st := Lib.hid (HST.out t (by omega))
          by_cases t1 : 4294967296 ≤ q
          · clear t
            go_wp2_with fail
            go_meet
            exact ⟨by rw [st.out], ⟨_, rfl⟩, rfl⟩
          · have t2 : 4294967296 * r + N0 < q * Y0 := by omega
            clear t
            go_wp2_with fail
            go_meet
            exact ⟨by rw [st.out], ⟨_, rfl⟩, rfl⟩
      · have lw := Lib.hid (HLW.out (by omega))
        clear HG
        have t1 : q < 4294967296 := by omega
        have t2 : q * Y0 ≤ 4294967296 * r + N0 := by omega
        clear t
        go_wp2_with fail
        go_meet
        exact ⟨by rw [lw.out], ⟨_, rfl⟩, rfl⟩
  case rest =>
  obtain ⟨rfl, ⟨r, rfl⟩, rfl⟩ := hcut
  obtain ⟨Q0, hQ0⟩ : ∃ Q0, Q0 = (V * 4294967296 + N0) / (Y1 * 4294967296 + Y0) := ⟨_, rfl⟩
  obtain ⟨x1, x2, x3⟩ := digit_rest (A := V) (N1 := N0) (Y := Y) (q := Q0) (by omega) y1' (by rw [EYY.out]; exact hQ0)
  have qt0 := D2.quot
  rw [← hQ0] at qt0 ⊢
  have X1 := Lib.hid x1
  have HQ0 := Lib.hid hQ0
  clear x1 hQ0 g1 g2 g3 g4 g5 g6 g7 g8 t1' G0 D2
  go_wp2_with fail
  obtain ⟨r1, r2⟩ := div_end t0 (by omega) fN.1 D1'.n0 u0 EE.out EY.out EN.out EYY.out HV.out HQ1.out HQ0.out
  refine bodyPost_ret (v := .tuple #[.int .u64 ((hi * 18446744073709551616 + lo) / y), .int .u64 ((hi * 18446744073709551616 + lo) % y)]) ?_ rfl (Ret.of ?_)
  · simp [results, Try.results102, go_sem, X1.out, r1, r2]
  · (repeat (first | exact Below.refl _ _ | with_reducible refine Below.drew ?_ | with_reducible refine Below.ext ?_ (by first | exact Nat.le_refl _ | (simp; done) | (simp; omega)) _ | with_reducible refine Below.alloc ?_ (by first | exact Nat.le_refl _ | (simp; done) | (simp; omega)) _ | with_reducible refine Below.setCell ?_ (by first | exact Nat.le_refl _ | (simp; done) | (simp; omega)) _))
end Go.Proofs.Ytmlhbbkgfffmcaa
