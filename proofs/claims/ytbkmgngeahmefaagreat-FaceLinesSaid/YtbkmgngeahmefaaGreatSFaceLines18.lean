/- Parts of the proof of FaceLines, laid together. Conditions: at each. -/
import Derived.Test.YtbkmgngeahmefaaGreatSFaceLines10
import Derived.Test.YtbkmgngeahmefaaGreatSFaceLines11
import Derived.Test.YtbkmgngeahmefaaGreatSFaceLines13
import Derived.Test.YtbkmgngeahmefaaGreatSFaceLines15
import Derived.Test.YtbkmgngeahmefaaGreatSFaceLines16
set_option linter.unusedVariables false
set_option linter.unusedSimpArgs false
section
namespace Go.Proofs.YtbkmgngeahmefaaGreat
open Go.RowKit
def colV : Bool → Int → Int → Value
  | true, x, y => .tuple #[.int .i64 x, .int .i64 y, .bool true]
  | false, _, _ => .tuple #[.int .i64 0, .int .i64 0, .bool false]
set_option maxRecDepth 100000 in
set_option maxHeartbeats 8000000 in
theorem rcolumn_any (ax ay bx y2 u : Int) (ha : MayP ax ay) (hb : MayP bx y2) (c : ¬ (ax = bx ∧ ay = y2)) (hu : crP (leastC (uC (decide (turnP ax ay bx y2)) ax ay)) (leastC (uC (decide (turnP ax ay bx y2)) bx y2)) u) (w : World) :
    Calls Tryz.prog 185 #[P2 ax ay, P2 bx y2, .int .i64 u] w (Ret (colV (decide (exP ax ay bx y2 (colX ax ay bx y2 u) (colY ax ay bx y2 u))) (colX ax ay bx y2 u) (colY ax ay bx y2 u)) w) := by
  have HWd := Lib.hid (fun w => rwide_any ax ay bx y2 ha hb w)
  have HE := Lib.hid (fun x y w (hx : FarP x y) => rexits_any ax ay bx y2 x y ha hb hx w)
  have HO := Lib.hid (fun x y (h : exP ax ay bx y2 x y) => col_only c h)
  have g : (mkWay0 ax ay bx y2).Good := wayZ_good ax ay bx y2 _ c
  have hden : 0 < (mkWay0 ax ay bx y2).den := by have := Slope.pos g; unfold Way.den; omega
  have hb01 : (mkWay0 ax ay bx y2).back = 0 ∨ (mkWay0 ax ay bx y2).back = 1 := by
    have := Slope.b01 g; rcases this with ⟨h, _⟩ | ⟨h, _⟩ <;> omega
  have hdv : (mkWay0 ax ay bx y2).across u * (256 * (mkWay0 ax ay bx y2).du) ≤ (mkWay0 ax ay bx y2).num u ∧ (mkWay0 ax ay bx y2).num u < ((mkWay0 ax ay bx y2).across u + 1) * (256 * (mkWay0 ax ay bx y2).du) := (div_iff _ _ _ hden).1 rfl
  have hun := col_uv ax ay bx y2 u
  have A := ha
  have B := hb
  obtain ⟨a0, a1, a2, a3⟩ := ha
  obtain ⟨b0, b1, b2, b3⟩ := hb
  have La := leastC_is (uC (decide (turnP ax ay bx y2)) ax ay)
  have Lb := leastC_is (uC (decide (turnP ax ay bx y2)) bx y2)
  unfold crP at hu
  obtain ⟨X, hX⟩ : ∃ X, colX ax ay bx y2 u = X := ⟨_, rfl⟩
  obtain ⟨Y, hY⟩ : ∃ X, colY ax ay bx y2 u = X := ⟨_, rfl⟩
  obtain ⟨e, he⟩ : ∃ e, decide (exP ax ay bx y2 X Y) = e := ⟨_, rfl⟩
  rw [hX, hY] at hun ⊢
  rw [he]
  have HX := Lib.hid hX
  have HY := Lib.hid hY
  have HEE := Lib.hid he
  clear hX hY he
  by_cases t : turnP ax ay bx y2
  · simp only [t, decide_true, Bool.not_true] at HWd hun La Lb hu HO
    have k1 : (mkWay0 ax ay bx y2).du = if y2 - ay < 0 then -(y2 - ay) else y2 - ay := by
      show Way.du (wayZ (decide (turnP ax ay bx y2)) _ ax ay bx y2 _) = _
      rw [decide_eq_true t]; rfl
    have k2 : (mkWay0 ax ay bx y2).dv = if y2 - ay < 0 then -(bx - ax) else bx - ax := by
      show Way.dv (wayZ (decide (turnP ax ay bx y2)) _ ax ay bx y2 _) = _
      rw [decide_eq_true t]; rfl
    have k3 : (mkWay0 ax ay bx y2).au = ay ∧ (mkWay0 ax ay bx y2).av = ax := by
      have e1 : (mkWay0 ax ay bx y2).au = uC (decide (turnP ax ay bx y2)) ax ay := rfl
      have e2 : (mkWay0 ax ay bx y2).av = vC (decide (turnP ax ay bx y2)) ax ay := rfl
      rw [e1, e2, decide_eq_true t]; exact ⟨rfl, rfl⟩
    have wne : y2 - ay ≠ 0 := by unfold turnP at t; omega
    have hnum : ax * (mkWay0 ax ay bx y2).du + (mkWay0 ax ay bx y2).dv * (256 * u + 128 - ay) - (mkWay0 ax ay bx y2).back = (mkWay0 ax ay bx y2).num u := by
      unfold Way.num; rw [k3.1, k3.2]
    have near := col_near (M := 256 * u + 128 - ay) (h := bx - ax) wne k1 k2 hnum hb01 hdv.1 hdv.2
    obtain ⟨u1, u2⟩ : Y = u ∧ X = (mkWay0 ax ay bx y2).across u := hun
    rw [← u2] at near
    have La' : ay ≤ 256 * leastC ay + 128 ∧ 256 * leastC ay - 128 < ay := La
    have Lb' : y2 ≤ 256 * leastC y2 + 128 ∧ 256 * leastC y2 - 128 < y2 := Lb
    have hu' : min (leastC ay) (leastC y2) ≤ u ∧ u < max (leastC ay) (leastC y2) := hu
    have bd := col_bd (M := 256 * u + 128 - ay) (h := bx - ax) wne (by omega) (by omega)
    obtain ⟨n, hn⟩ : ∃ n, (256 * u + 128 - ay) * (bx - ax) = n := ⟨_, rfl⟩
    have nb := mul_bd2 (u := 256 * u + 128 - ay) (v := bx - ax) (U := 1073741824) (V := 1073741824) (by omega) (by omega) (by omega) (by omega) (by omega) (by omega)
    rw [hn] at near bd nb
    obtain ⟨r, hr⟩ : ∃ r, n.tdiv (y2 - ay) = r := ⟨_, rfl⟩
    rw [hr] at near bd
    obtain ⟨p, hp⟩ : ∃ p, (ax + r).tdiv 256 = p := ⟨_, rfl⟩
    rw [hp] at near
    have tn := tdiv_near (ax + r)
    rw [hp] at tn
    have e1 : IntKind.i64.wrap ((256 * u + 128 - ay) * (bx - ax)) = n := by rw [hn]; exact IntWalk.i64_in _ (by omega)
    obtain ⟨nb0, nb1⟩ := nb
    have rb : -1073741824 ≤ r ∧ r ≤ 1073741824 := by omega
    have pb : -8388600 ≤ p ∧ p ≤ 8388600 := by omega
    have ub : -2097153 ≤ u ∧ u ≤ 2097153 := by omega
    obtain ⟨rb0, rb1⟩ := rb
    obtain ⟨pb0, pb1⟩ := pb
    obtain ⟨ub0, ub1⟩ := ub
    obtain ⟨near0, near1⟩ := near
    clear k1 k2 k3 hnum hdv hb01 hden La Lb La' Lb' hu hu' tn bd hn g t
    obtain rfl := u1
    clear u2
    have EX := Lib.hid (fun (j : Int) (hne : j ≠ X) (h : exP ax ay bx y2 j Y) => hne ((HO.out j Y h).1.trans HX.out))
    go_enter Tryz.func185, Tryz.ntmps185
    go_upto_region 1 with fail
    refine wp_region_ext (by kernel_rfl) (by kernel_rfl) ?_
    repeat (go_big_quiet_step ((fail)))
    refine wpQuiet_nil ?_
    intro _ hw_ext
    obtain ⟨X1, hw_ext⟩ := hw_ext
    subst hw_ext
    go_upto_region 12 with (first | (go_at_call 186; (with_reducible refine (HWd.out _).mono ?_); rintro _ _ ⟨rfl, X_, rfl⟩))
    refine wp_region_ext (by kernel_rfl) (by kernel_rfl) ?_
    repeat (go_big_quiet_step ((fail)))
    refine wpQuiet_nil ?_
    intro _ hw_ext
    obtain ⟨X2, hw_ext⟩ := hw_ext
    subst hw_ext
    go_upto_region 13 with fail
    refine wp_abs (F := fun w1 => Row w1 w.heap.size #[.int .i64 ax, .int .i64 ay] 151 ∧ Row w1 (w.heap.size + 1) #[.int .i64 bx, .int .i64 y2] 151 ∧ ∃ X, w1 = w.ext X) ⟨by exact rx_, by exact rx_, RowKit.Below.toExt (by exact br_)⟩ ?_
    rintro w1 ⟨ra, rb, hX9⟩
    have HX9 := Lib.hid hX9
    have ca := ra.cell
    have fa := ra.frozen
    have la := ra.lt
    have cb := rb.cell
    have fb := rb.frozen
    have lb := rb.lt
    clear ra rb hX9 e1 hr
    go_wp2
    go_loopw [14] (fun i wr => ∃ j : Int, p - 3 ≤ j ∧ j ≤ p + 4 ∧ Hid (e = true → j ≤ X) ∧ i = .int .i64 j ∧ ∃ X, wr = w1.ext X)
      (fun i _ => (p + 4 - intOf i).toNat)
    case atStart => exact ⟨p - 3, by omega, by omega, Lib.hid (fun _ => by omega), rfl, _, ext_self _⟩
    case round =>
      obtain ⟨j, j0, j1, jY, rfl, X3, rfl⟩ := hrel
      by_cases hlt : j ≤ p + 3
      · by_cases hj : j = X
        · subst hj
          have HE1 := Lib.hid (fun w => HEE.out ▸ HE.out j Y w ⟨by omega, by omega, by omega, by omega⟩)
          cases e
          · go_wp2_with (first | (go_at_call 187; (with_reducible refine (HE1.out _).mono ?_); rintro _ _ ⟨rfl, X_, rfl⟩))
            go_roundw
            case rel => exact ⟨j + 1, by omega, by omega, Lib.hid (fun h => by cases h), rfl, RowKit.Below.toExt (by exact br_)⟩
            case measure => simp [intOf]; omega
          · go_wp2_with (first | (go_at_call 187; (with_reducible refine (HE1.out _).mono ?_); rintro _ _ ⟨rfl, X_, rfl⟩))
            go_ret3
            obtain ⟨X4, hX4⟩ := HX9.out
            subst hX4
            exact Ret.of' rfl (by exact br_)
        · have HE1 := Lib.hid (fun w => (decide_eq_false (EX.out j hj)) ▸ HE.out j Y w ⟨by omega, by omega, by omega, by omega⟩)
          go_wp2_with (first | (go_at_call 187; (with_reducible refine (HE1.out _).mono ?_); rintro _ _ ⟨rfl, X_, rfl⟩))
          go_roundw
          case rel => exact ⟨j + 1, by omega, by omega, Lib.hid (fun h => by have := jY.out h; omega), rfl, RowKit.Below.toExt (by exact br_)⟩
          case measure => simp [intOf]; omega
      · cases e
        · go_wp2
          go_ret3
          obtain ⟨X4, hX4⟩ := HX9.out
          subst hX4
          exact Ret.of' rfl (by exact br_)
        · exfalso
          have := jY.out rfl
          omega
  · simp only [t, decide_false, Bool.not_false] at HWd hun La Lb hu HO
    have k1 : (mkWay0 ax ay bx y2).du = if bx - ax < 0 then -(bx - ax) else bx - ax := by
      show Way.du (wayZ (decide (turnP ax ay bx y2)) _ ax ay bx y2 _) = _
      rw [decide_eq_false t]; rfl
    have k2 : (mkWay0 ax ay bx y2).dv = if bx - ax < 0 then -(y2 - ay) else y2 - ay := by
      show Way.dv (wayZ (decide (turnP ax ay bx y2)) _ ax ay bx y2 _) = _
      rw [decide_eq_false t]; rfl
    have k3 : (mkWay0 ax ay bx y2).au = ax ∧ (mkWay0 ax ay bx y2).av = ay := by
      have e1 : (mkWay0 ax ay bx y2).au = uC (decide (turnP ax ay bx y2)) ax ay := rfl
      have e2 : (mkWay0 ax ay bx y2).av = vC (decide (turnP ax ay bx y2)) ax ay := rfl
      rw [e1, e2, decide_eq_false t]; exact ⟨rfl, rfl⟩
    have wne : bx - ax ≠ 0 := by unfold turnP at t; omega
    have hnum : ay * (mkWay0 ax ay bx y2).du + (mkWay0 ax ay bx y2).dv * (256 * u + 128 - ax) - (mkWay0 ax ay bx y2).back = (mkWay0 ax ay bx y2).num u := by
      unfold Way.num; rw [k3.1, k3.2]
    have near := col_near (M := 256 * u + 128 - ax) (h := y2 - ay) wne k1 k2 hnum hb01 hdv.1 hdv.2
    obtain ⟨u1, u2⟩ : X = u ∧ Y = (mkWay0 ax ay bx y2).across u := hun
    rw [← u2] at near
    have La' : ax ≤ 256 * leastC ax + 128 ∧ 256 * leastC ax - 128 < ax := La
    have Lb' : bx ≤ 256 * leastC bx + 128 ∧ 256 * leastC bx - 128 < bx := Lb
    have hu' : min (leastC ax) (leastC bx) ≤ u ∧ u < max (leastC ax) (leastC bx) := hu
    have bd := col_bd (M := 256 * u + 128 - ax) (h := y2 - ay) wne (by omega) (by omega)
    obtain ⟨n, hn⟩ : ∃ n, (256 * u + 128 - ax) * (y2 - ay) = n := ⟨_, rfl⟩
    have nb := mul_bd2 (u := 256 * u + 128 - ax) (v := y2 - ay) (U := 1073741824) (V := 1073741824) (by omega) (by omega) (by omega) (by omega) (by omega) (by omega)
    rw [hn] at near bd nb
    obtain ⟨r, hr⟩ : ∃ r, n.tdiv (bx - ax) = r := ⟨_, rfl⟩
    rw [hr] at near bd
    obtain ⟨p, hp⟩ : ∃ p, (ay + r).tdiv 256 = p := ⟨_, rfl⟩
    rw [hp] at near
    have tn := tdiv_near (ay + r)
    rw [hp] at tn
    have e1 : IntKind.i64.wrap ((256 * u + 128 - ax) * (y2 - ay)) = n := by rw [hn]; exact IntWalk.i64_in _ (by omega)
    obtain ⟨nb0, nb1⟩ := nb
    have rb : -1073741824 ≤ r ∧ r ≤ 1073741824 := by omega
    have pb : -8388600 ≤ p ∧ p ≤ 8388600 := by omega
    have ub : -2097153 ≤ u ∧ u ≤ 2097153 := by omega
    obtain ⟨rb0, rb1⟩ := rb
    obtain ⟨pb0, pb1⟩ := pb
    obtain ⟨ub0, ub1⟩ := ub
    obtain ⟨near0, near1⟩ := near
    clear k1 k2 k3 hnum hdv hb01 hden La Lb La' Lb' hu hu' tn bd hn g t
    have wz : (bx - ax != 0) = true := by simp; omega
    obtain rfl := u1
    clear u2
    have EX := Lib.hid (fun (j : Int) (hne : j ≠ Y) (h : exP ax ay bx y2 X j) => hne ((HO.out X j h).2.trans HY.out))
    go_enter Tryz.func185, Tryz.ntmps185
    go_upto_region 1 with fail
    refine wp_region_ext (by kernel_rfl) (by kernel_rfl) ?_
    repeat (go_big_quiet_step ((fail)))
    refine wpQuiet_nil ?_
    intro _ hw_ext
    obtain ⟨X1, hw_ext⟩ := hw_ext
    subst hw_ext
    go_upto_region 5 with (first | (go_at_call 186; (with_reducible refine (HWd.out _).mono ?_); rintro _ _ ⟨rfl, X_, rfl⟩))
    refine wp_region_ext (by kernel_rfl) (by kernel_rfl) ?_
    repeat (go_big_quiet_step ((fail)))
    refine wpQuiet_nil ?_
    intro _ hw_ext
    obtain ⟨X2, hw_ext⟩ := hw_ext
    subst hw_ext
    go_upto_region 6 with fail
    refine wp_abs (F := fun w1 => Row w1 w.heap.size #[.int .i64 ax, .int .i64 ay] 151 ∧ Row w1 (w.heap.size + 1) #[.int .i64 bx, .int .i64 y2] 151 ∧ ∃ X, w1 = w.ext X) ⟨by exact rx_, by exact rx_, RowKit.Below.toExt (by exact br_)⟩ ?_
    rintro w1 ⟨ra, rb, hX9⟩
    have HX9 := Lib.hid hX9
    have ca := ra.cell
    have fa := ra.frozen
    have la := ra.lt
    have cb := rb.cell
    have fb := rb.frozen
    have lb := rb.lt
    clear ra rb hX9 e1 hr
    go_wp2
    go_loopw [12] (fun i wr => ∃ j : Int, p - 3 ≤ j ∧ j ≤ p + 4 ∧ Hid (e = true → j ≤ Y) ∧ i = .int .i64 j ∧ ∃ X, wr = w1.ext X)
      (fun i _ => (p + 4 - intOf i).toNat)
    case atStart => exact ⟨p - 3, by omega, by omega, Lib.hid (fun _ => by omega), rfl, _, ext_self _⟩
    case round =>
      obtain ⟨j, j0, j1, jY, rfl, X3, rfl⟩ := hrel
      by_cases hlt : j ≤ p + 3
      · by_cases hj : j = Y
        · subst hj
          have HE1 := Lib.hid (fun w => HEE.out ▸ HE.out X j w ⟨by omega, by omega, by omega, by omega⟩)
          cases e
          · go_wp2_with (first | (go_at_call 187; (with_reducible refine (HE1.out _).mono ?_); rintro _ _ ⟨rfl, X_, rfl⟩))
            go_roundw
            case rel => exact ⟨j + 1, by omega, by omega, Lib.hid (fun h => by cases h), rfl, RowKit.Below.toExt (by exact br_)⟩
            case measure => simp [intOf]; omega
          · go_wp2_with (first | (go_at_call 187; (with_reducible refine (HE1.out _).mono ?_); rintro _ _ ⟨rfl, X_, rfl⟩))
            go_ret3
            obtain ⟨X4, hX4⟩ := HX9.out
            subst hX4
            exact Ret.of' rfl (by exact br_)
        · have HE1 := Lib.hid (fun w => (decide_eq_false (EX.out j hj)) ▸ HE.out X j w ⟨by omega, by omega, by omega, by omega⟩)
          go_wp2_with (first | (go_at_call 187; (with_reducible refine (HE1.out _).mono ?_); rintro _ _ ⟨rfl, X_, rfl⟩))
          go_roundw
          case rel => exact ⟨j + 1, by omega, by omega, Lib.hid (fun h => by have := jY.out h; omega), rfl, RowKit.Below.toExt (by exact br_)⟩
          case measure => simp [intOf]; omega
      · cases e
        · go_wp2
          go_ret3
          obtain ⟨X4, hX4⟩ := HX9.out
          subst hX4
          exact Ret.of' rfl (by exact br_)
        · exfalso
          have := jY.out rfl
          omega
end Go.Proofs.YtbkmgngeahmefaaGreat
end
section
namespace Go.Proofs.YtbkmgngeahmefaaGreat
open Go.RowKit
theorem ofL_bd (ax ay bx y2 : Int) (ha : MayP ax ay) (hb : MayP bx y2) : -2097154 ≤ (ofL ax ay bx y2).From ∧ (ofL ax ay bx y2).From ≤ 2097154 ∧ -2097154 ≤ (ofL ax ay bx y2).To ∧ (ofL ax ay bx y2).To ≤ 2097154 := by
  have b1 := uC_bd (decide (turnP ax ay bx y2)) ha
  have b2 := uC_bd (decide (turnP ax ay bx y2)) hb
  have ft := ofL_ft ax ay bx y2
  rw [ft.1, ft.2]; unfold leastC; omega
set_option maxRecDepth 100000 in
set_option maxHeartbeats 8000000 in
theorem rcount_any (ax ay bx y2 : Int) (ha : MayP ax ay) (hb : MayP bx y2) (w : World) : Calls Tryz.prog 123 #[P2 ax ay, P2 bx y2] w (Ret (.int .i64 (((lineL ax ay bx y2).length : Nat) : Int)) w) := by
  by_cases c : ax = bx ∧ ay = y2
  · obtain ⟨rfl, rfl⟩ := c
    rw [lineL_self]
    have hz1 : (ax == ax) = true := by simp
    have hz2 : (ay == ay) = true := by simp
    go_enter Tryz.func123, Tryz.ntmps123
    go_wp2
    go_ret
    exact Ret.of' (by simp) (by exact bl_)
  rw [← ref_count c]
  have HO := Lib.hid (fun w => wrof_any ax ay bx y2 ha hb w)
  have HC := Lib.hid (fun u w (hu : crP (ofL ax ay bx y2).From (ofL ax ay bx y2).To u) => rcolumn_any ax ay bx y2 u ha hb c (by have ft := ofL_ft ax ay bx y2; rw [ft.1, ft.2] at hu; exact hu) w)
  have lb := ofL_bd ax ay bx y2 ha hb
  have hz := ne_bools c
  obtain ⟨R, hR⟩ : ∃ R, refCount ax ay bx y2 (ofL ax ay bx y2) = R := ⟨_, rfl⟩
  rw [hR]
  obtain ⟨l, hl⟩ : ∃ l, ofL ax ay bx y2 = l := ⟨_, rfl⟩
  rw [hl] at HO HC lb hR
  clear hl ha hb c
  unfold refCount at hR
  obtain ⟨F, G, X, Y, E⟩ := l
  simp only [Ln.w] at *
  obtain ⟨lb0, lb1, lb2, lb3⟩ := lb
  by_cases hm : min F G < max F G
  · have hmm : 0 < refM ⟨F, G, X, Y, E⟩ := by unfold refM; simp only; omega
    have hu : crP F G (refU ⟨F, G, X, Y, E⟩ (refM ⟨F, G, X, Y, E⟩ - 1)) := ref_cr (l := ⟨F, G, X, Y, E⟩) (n := refM ⟨F, G, X, Y, E⟩ - 1) (by omega) (by omega)
    have HC1 := Lib.hid (fun w => HC.out _ w hu)
    obtain ⟨e, he⟩ : ∃ e, decide (exP ax ay bx y2 (colX ax ay bx y2 (refU ⟨F, G, X, Y, E⟩ (refM ⟨F, G, X, Y, E⟩ - 1))) (colY ax ay bx y2 (refU ⟨F, G, X, Y, E⟩ (refM ⟨F, G, X, Y, E⟩ - 1)))) = e := ⟨_, rfl⟩
    have hR2 : (max F G - min F G) - (if e = true then 0 else 1) + (if E = true then 1 else 0) = R := by
      have hM : refM ⟨F, G, X, Y, E⟩ = max F G - min F G := rfl
      cases e
      · rw [if_pos ⟨hmm, of_decide_eq_false he⟩, hM] at hR
        rw [← hR, if_neg (by simp)]
      · rw [if_neg (fun h => h.2 (of_decide_eq_true he)), hM] at hR
        rw [← hR, if_pos rfl, Int.sub_zero]
    rw [he] at HC1
    have hU : refU ⟨F, G, X, Y, E⟩ (refM ⟨F, G, X, Y, E⟩ - 1) = if G < F then G else G - 1 := by
      unfold refU refM; simp only; split <;> omega
    rw [hU] at HC1
    clear hU he hR hu hmm HC
    generalize colX ax ay bx y2 _ = x at HC1
    generalize colY ax ay bx y2 _ = y at HC1
    have d1 : decide (0 < max F G - min F G) = true := by simp; omega
    have HR2 := Lib.hid hR2
    clear hR2
    by_cases hGF : G < F
    · simp only [if_pos hGF] at HC1
      rcases hz with hz1 | ⟨hz1, hz2⟩
      all_goals
        cases e
        all_goals
          cases E
          all_goals
            simp only [colV] at HC1
            go_enter Tryz.func123, Tryz.ntmps123
            go_wp2_with (first | (go_at_call 184; (with_reducible refine (HO.out _).mono ?_); rintro _ _ ⟨rfl, X_, rfl⟩) | (go_at_call 185; (with_reducible refine (HC1.out _).mono ?_); rintro _ _ ⟨rfl, X_, rfl⟩))
            go_ret
            exact Ret.of' (congrArg (Value.int .i64) (by have h_ := HR2.out; simp at h_; first | exact h_ | (simp; omega) | omega)) (by exact bl_)
    · simp only [if_neg hGF] at HC1
      rcases hz with hz1 | ⟨hz1, hz2⟩
      all_goals
        cases e
        all_goals
          cases E
          all_goals
            simp only [colV] at HC1
            go_enter Tryz.func123, Tryz.ntmps123
            go_wp2_with (first | (go_at_call 184; (with_reducible refine (HO.out _).mono ?_); rintro _ _ ⟨rfl, X_, rfl⟩) | (go_at_call 185; (with_reducible refine (HC1.out _).mono ?_); rintro _ _ ⟨rfl, X_, rfl⟩))
            go_ret
            exact Ret.of' (congrArg (Value.int .i64) (by have h_ := HR2.out; simp at h_; first | exact h_ | (simp; omega) | omega)) (by exact bl_)
  · have hmm : ¬ 0 < refM ⟨F, G, X, Y, E⟩ := by unfold refM; simp only; omega
    have hR2 : (max F G - min F G) + (if E = true then 1 else 0) = R := by
      have hM : refM ⟨F, G, X, Y, E⟩ = max F G - min F G := rfl
      rw [if_neg (fun q => hmm q.1), hM] at hR
      exact hR
    have d1 : decide (0 < max F G - min F G) = false := by simp; omega
    have HR2 := Lib.hid hR2
    clear hR2 hR HC hmm
    rcases hz with hz1 | ⟨hz1, hz2⟩
    all_goals
      cases E
      all_goals
        go_enter Tryz.func123, Tryz.ntmps123
        go_wp2_with (first | (go_at_call 184; (with_reducible refine (HO.out _).mono ?_); rintro _ _ ⟨rfl, X_, rfl⟩))
        go_ret
        exact Ret.of' (congrArg (Value.int .i64) (by have h_ := HR2.out; simp at h_; first | exact h_ | (simp; omega) | omega)) (by exact bl_)
end Go.Proofs.YtbkmgngeahmefaaGreat
end
section
namespace Go.Proofs.YtbkmgngeahmefaaGreat
open Go.RowKit
end Go.Proofs.YtbkmgngeahmefaaGreat
end
section
namespace Go.Proofs.YtbkmgngeahmefaaGreat
open Go.RowKit
def srS (L : List St) : SR Grows := ⟨fun v w => Sts w v L, fun v w w' h ⟨X, e⟩ => by subst e; exact h.ext X, fun v => ∃ a cap, v = .slice a L.length cap, .slice none L.length 0, ⟨_, _, rfl⟩, fun v w ⟨_, a, cap, h, _⟩ => ⟨a, cap, h⟩⟩
def mayQ (x y : Int) : Prop := -536870912 ≤ x ∧ x ≤ 536870912 ∧ -536870912 ≤ y ∧ y ≤ 536870912
instance (x y : Int) : Decidable (mayQ x y) := by unfold mayQ; exact inferInstance
end Go.Proofs.YtbkmgngeahmefaaGreat
end
