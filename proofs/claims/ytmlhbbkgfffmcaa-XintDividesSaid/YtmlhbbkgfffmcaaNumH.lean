/- The walks of the reference of layer 2: a number of 128 bits as bits. Condition: 128 bits. -/
import Derived.Test.YtmlhbbkgfffmcaaNumG
namespace Go.Proofs.Ytmlhbbkgfffmcaa
set_option linter.unusedVariables false
set_option linter.unusedSimpArgs false
open Go.RowKit
theorem p64 : (2 : Int) ^ 64 = 18446744073709551616 := by decide
theorem p128 : (2 : Int) ^ 128 = 340282366920938463463374607431768211456 := by decide
theorem p127 : (2 : Int) ^ 127 = 170141183460469231731687303715884105728 := by decide
/-- One more bit of what is left. -/
theorem bits_step {l : List Int} {x L : Int} (hx : 0 ≤ x) (h : bv l + x * 2 ^ l.length = L) : bv (l ++ [x % 2]) + x / 2 * 2 ^ (l ++ [x % 2]).length = L := by
  rw [bv_app, List.length_append, List.length_cons, List.length_nil, p2_succ, ← h]
  have : x * 2 ^ l.length = (x % 2 + 2 * (x / 2)) * 2 ^ l.length := by rw [Int.emod_add_mul_ediv]
  rw [this]; grind
theorem bits_end {l : List Int} {x L m : Int} (hb : Bin l) (hm : (2 : Int) ^ l.length = m) (hx : 0 ≤ x) (hL : L < m) (h : bv l + x * 2 ^ l.length = L) : bv l = L := by
  have h0 := (bv_bd hb).1
  rw [hm] at h
  have m0 : 0 < m := by rw [← hm]; exact p2_pos _
  have : x < 1 := by
    apply Int.not_le.1
    intro h1
    have := Int.mul_le_mul_of_nonneg_right h1 (show 0 ≤ m by omega)
    omega
  obtain rfl : x = 0 := by omega
  omega
theorem bv_top (k : Nat) : bv (List.replicate k 0 ++ [1]) = 2 ^ k := by
  rw [bv_noughts]; simp [bv]
set_option maxRecDepth 100000 in
set_option maxHeartbeats 8000000 in
theorem from_any (z : Int) (hz : inR z) (w : World) : Calls Try.prog 104 #[I2 z] w (RetR (fun v w => RN w v z 129) w) := by
  obtain ⟨i0, hi, hz0, hz1, hz2⟩ := info_parts info_u8
  obtain ⟨e, l0, l1⟩ := hilo z
  obtain ⟨h0, h1⟩ := hiR hz
  have u0 : 0 ≤ IntKind.u64.wrap (hiN z) ∧ IntKind.u64.wrap (hiN z) < 18446744073709551616 := by rw [IntKind.wrap_u64]; omega
  obtain ⟨U, hU⟩ : ∃ U, U = IntKind.u64.wrap (hiN z) := ⟨_, rfl⟩
  have uz : (0 ≤ hiN z → U = hiN z) ∧ (hiN z < 0 → U = hiN z + 18446744073709551616) := by rw [hU, IntKind.wrap_u64]; omega
  rw [← hU] at u0
  have HUZ := Lib.hid uz
  have HE := Lib.hid e
  obtain ⟨u1, u2⟩ := u0
  have HU := Lib.hid hU
  clear uz e hU
  go_enter Try.func104, Try.ntmps104
  go_wp2
  refine wp_region_ext (by kernel_rfl) (by kernel_rfl) ?_
  repeat (go_big_quiet_step ((fail)))
  refine wpQuiet_nil ?_
  intro _ hw_ext
  obtain ⟨X0, hw_ext⟩ := hw_ext
  subst hw_ext
  simp only [← HU.out]
  go_wp2
  refine wp_abs (F := fun wx => Row wx w.heap.size #[.int .i64 (hiN z), .int .u64 (loN z)] 69 ∧ Row wx (w.heap.size + 1) #[.bool false, .slice none 0 0] 138 ∧ Below w.heap.size w wx) ⟨by (repeat (first | assumption | with_reducible refine Row.ext ?_ _ | with_reducible refine row_drew ?_ | (with_reducible refine row_last ?_; first | rfl | (simp; done)) | with_reducible refine Row.alloc ?_ _)), by (repeat (first | assumption | with_reducible refine Row.ext ?_ _ | with_reducible refine row_drew ?_ | (with_reducible refine row_last ?_; first | rfl | (simp; done)) | with_reducible refine Row.alloc ?_ _)), by (repeat (first | exact Below.refl _ _ | with_reducible refine Below.drew ?_ | with_reducible refine Below.ext ?_ (by first | exact Nat.le_refl _ | (simp; done) | (simp; omega)) _ | with_reducible refine Below.alloc ?_ (by first | exact Nat.le_refl _ | (simp; done) | (simp; omega)) _ | with_reducible refine Below.setCell ?_ (by first | exact Nat.le_refl _ | (simp; done) | (simp; omega)) _))⟩ ?_
  clear X0
  intro wx ⟨R0, R1, BW⟩
  have sz0 := R0.lt
  have sz1 := R1.lt
  have c00 := R0.cell 0
  simp at c00
  have c10 := R1.cell 0
  have c11 := R1.cell 1
  simp at c10 c11
  have f10 := R1.frozen 0
  have f11 := R1.frozen 1
  have HR1 := Lib.hid R1
  clear R0 R1
  go_loopw [3, 4, 6] (fun b lo i wr => ∃ (v : Value) (l : List Int) (x : Int), b = v ∧ lo = .int .u64 x ∧ i = .int .i64 l.length ∧ l.length ≤ 64 ∧ 0 ≤ x ∧ x < 18446744073709551616 ∧ GB wx wr v l ∧ Bin l ∧ bv l + x * 2 ^ l.length = loN z)
    (fun b lo i _ => 64 - (intOf i).toNat)
  case atStart => exact ⟨_, [], loN z, rfl, rfl, rfl, by simp, l0, l1, GB.nil wx, Bin.nil, by simp [bv]⟩
  case round =>
    obtain ⟨v, l, x, rfl, rfl, rfl, hl, x0, x1, G, hb, he⟩ := hrel
    have HG := Lib.hid G
    have sz := G.bel.size
    have HB := Lib.hid hb
    have HX := Lib.hid (bits_step x0 he)
    have HX0 := Lib.hid he
    clear hb he
    by_cases hlt : l.length < 64
    · clear G
      go_wp2_with (first
          | (at_builtin; refine wpList_append_lies _ rfl _ _ 136 rfl wx.heap.size 5 i0 (.int .u8 0) 1 1 Try.underlying136 hi hz0 hz1 hz2 rfl (by decide) _ _ _ rfl (HG.out.own.alloc _) ⟨wr.heap.size, 0, none⟩ 1 1 [.int .u8 (x % 2)] rfl rfl (cell_one_here (by simp) _ _) (fun x hx => by simp at hx; subst hx; rfl) (by omega) (by unfold maxLen; omega) (by omega) (by simp; omega) (wr.heap.size + 1) (by simp) ?_; intro g cap w3 hown hgrow hat hlt3; have G3 := Lib.hid (HG.out.snoc hown hgrow); clear hown hgrow hat hlt3))
      go_roundw
      case rel => exact ⟨_, l ++ [x % 2], x / 2, rfl, rfl, by simp, by simp; omega, by omega, by omega, G3.out, HB.out.snoc (by omega) (by omega), HX.out⟩
      case measure => simp [intOf]; omega
    · have e64 : l.length = 64 := by omega
      have hlo := bits_end (m := 18446744073709551616) HB.out (by rw [e64]; exact p64) x0 l1 HX0.out
      clear HX HX0
      have GX := G.bel.toExt
      clear G
      go_wp2
      go_loopw [3, 5, 7] (fun b hi i wr => ∃ (v : Value) (l : List Int) (y : Int) (k : Nat), b = v ∧ hi = .int .u64 y ∧ i = .int .i64 k ∧ 64 + k ≤ l.length ∧ l.length ≤ 64 + k ∧ k ≤ 64 ∧ 0 ≤ y ∧ y < 18446744073709551616 ∧ GB wx wr v l ∧ Bin l ∧ bv l + y * 2 ^ l.length = loN z + U * 2 ^ 64)
        (fun b hi i _ => 64 - (intOf i).toNat)
      case atStart => exact ⟨_, l, U, 0, rfl, rfl, rfl, by omega, by omega, by omega, u1, u2, HG.out, HB.out, by rw [e64, hlo]⟩
      case round =>
        clear HG HB GX hlo hl hlt x0 x1 sz e64
        obtain ⟨v, l, y, k, rfl, rfl, rfl, ek, ek2, hk, y0, y1, G, hb, he⟩ := hrel
        have HG := Lib.hid G
        have sz := G.bel.size
        have HB := Lib.hid hb
        have HX := Lib.hid (bits_step y0 he)
        have HX0 := Lib.hid he
        clear hb he
        by_cases hlt : k < 64
        · clear G
          go_wp2_with (first
              | (at_builtin; refine wpList_append_lies _ rfl _ _ 136 rfl wx.heap.size 5 i0 (.int .u8 0) 1 1 Try.underlying136 hi hz0 hz1 hz2 rfl (by decide) _ _ _ rfl (HG.out.own.alloc _) ⟨wr.heap.size, 0, none⟩ 1 1 [.int .u8 (y % 2)] rfl rfl (cell_one_here (by simp) _ _) (fun x hx => by simp at hx; subst hx; rfl) (by omega) (by unfold maxLen; omega) (by omega) (by simp; omega) (wr.heap.size + 1) (by simp) ?_; intro g cap w3 hown hgrow hat hlt3; have G3 := Lib.hid (HG.out.snoc hown hgrow); clear hown hgrow hat hlt3))
          go_roundw
          case rel => exact ⟨_, l ++ [y % 2], y / 2, k + 1, rfl, rfl, by simp, by simp; omega, by simp; omega, by omega, by omega, by omega, G3.out, HB.out.snoc (by omega) (by omega), HX.out⟩
          case measure => simp [intOf]; omega
        · have e128 : l.length = 128 := by omega
          have hbv := bits_end (m := 340282366920938463463374607431768211456) HB.out (by rw [e128]; exact p128) y0 (by rw [p64]; omega) HX0.out
          rw [p64] at hbv
          have rb := G.rb HB.out (by omega)
          obtain ⟨X, hX⟩ := G.bel.toExt
          obtain ⟨av, capv, rfl, -⟩ := rb.form
          have HRB := Lib.hid rb
          have E128 := Lib.hid e128
          clear HX HX0 rb HG HU e128 ek ek2
          have huz := HUZ.out
          have hez := HE.out
          have HBV := Lib.hid hbv
          subst hX
          clear G hbv
          by_cases hs : 0 ≤ hiN z
          · have zz : bv l = z := by rw [HBV.out]; omega
            clear huz hez
            go_wp2_with (first | (go_at_call 135; (with_reducible refine (trim_any _ _ l _ HRB.out).mono ?_); rintro _ _ ⟨v1, rfl, g1, ⟨Y, rfl⟩⟩; obtain ⟨m1, a2, k1, c1, rfl⟩ := g1.form; have H1 := Lib.hid g1; clear g1))
            have r2 := ((((HR1.out.set 0 (.bool m1)).set 1 (.slice a2 k1 c1)).ext X).ext Y)
            have e0 := r2.cell 0
            have e1 := r2.cell 1
            simp at e0 e1
            clear r2
            refine bodyPost_ret (v := .agg #[.bool m1, .slice a2 k1 c1]) (by simp [results, Try.results104, go_sem, e0, e1]) rfl ?_
            have e : pmv (bv l) false = z := by rw [zz]; rfl
            have H2 := H1.out
            rw [e] at H2
            exact fin_num H2 (HR1.out.ext X |>.ext Y) (fun d => by simp) ((chg_two.both (by simp [size_set]) X).both (by simp [size_set]) Y) (by (repeat (first | assumption | exact Below.refl _ _ | with_reducible refine Below.drew ?_ | with_reducible refine Below.ext ?_ (by first | exact Nat.le_refl _ | omega | (simp; done) | (simp; omega)) _ | with_reducible refine Below.alloc ?_ (by first | exact Nat.le_refl _ | omega | (simp; done) | (simp; omega)) _ | with_reducible refine Below.setCell ?_ (by first | exact Nat.le_refl _ | omega | (simp; done) | (simp; omega)) _))) (by have := E128.out; omega)
          · have zz : bv l = z + 340282366920938463463374607431768211456 := by rw [HBV.out]; omega
            clear huz hez
            have hle : bv l ≤ bv (List.replicate 128 0 ++ [1]) := by
              rw [bv_top, p128]; have := (bv_bd HRB.out.bin).2; rw [E128.out, p128] at this; omega
            have HLE := Lib.hid hle
            clear hle
            go_wp2_with (first
              | (obtain ⟨X3, hr, g1⟩ := make_128 (wx.ext X) 136 5 i0 Try.underlying136 hi hz0 hz1 hz2 rfl; rw [hr]; clear hr; have G1 := Lib.hid g1; clear g1)
              | (at_builtin; refine wpList_append_bits rfl _ _ 136 5 rfl i0 Try.underlying136 hi hz0 hz1 hz2 (wx.ext X).heap.size 0 128 (List.replicate 128 0) [1] (by simp [Act.eval]) (G1.out.alloc _) (rb_one (by simp)) (by simp) ?_; rintro v3 _ g3 ⟨X4, rfl⟩ -; obtain ⟨a3, k3, c3, rfl⟩ := g3.isSl; have G3 := Lib.hid g3; clear g3)
              | (go_at_call 137; (with_reducible refine (less_any _ _ _ l _ G3.out ?_ (by simp) HLE.out).mono ?_); exact (((HRB.out.ext _).alloc _).ext _); rintro _ _ ⟨v4, rfl, ⟨l4, g4, g5, g6⟩, ⟨X5, rfl⟩⟩; obtain ⟨a4, k4, c4, rfl⟩ := g4.isSl; have G4 := Lib.hid g4; have G5 := Lib.hid g5; have G6 := Lib.hid g6; clear g4 g5 g6)
              | (go_at_call 135; (with_reducible refine (trim_any _ _ l4 _ G4.out).mono ?_); rintro _ _ ⟨v1, rfl, g1, ⟨Y, rfl⟩⟩; obtain ⟨m1, a2, k1, c1, rfl⟩ := g1.form; have H1 := Lib.hid g1; clear g1))
            have r2 := ((((((HR1.out.set 0 (.bool m1)).set 1 (.slice a2 k1 c1)).ext X).ext X3).alloc (.cells #[.int .u8 1] 5)).ext X4 |>.ext X5 |>.ext Y)
            have e0 := r2.cell 0
            have e1 := r2.cell 1
            simp at e0 e1
            clear r2
            refine bodyPost_ret (v := .agg #[.bool m1, .slice a2 k1 c1]) (by simp [results, Try.results104, go_sem, e0, e1]) rfl ?_
            have e : pmv (bv l4) true = z := by
              rw [G5.out, bv_top, p128, zz]; simp [pmv]; omega
            have hl4 : l4.length = 129 := by rw [G6.out]; simp
            have H2 := H1.out
            rw [e] at H2
            exact fin_num H2 (((((HR1.out.ext X).ext X3).alloc _).ext X4).ext X5 |>.ext Y) (fun d => by simp) ((((((chg_two.both (by simp [size_set]) X).both (by simp [size_set]) X3).bothA (by simp [size_set]) _).both (by simp [size_set]) X4).both (by simp [size_set]) X5).both (by simp [size_set]) Y) (by (repeat (first | assumption | exact Below.refl _ _ | with_reducible refine Below.drew ?_ | with_reducible refine Below.ext ?_ (by first | exact Nat.le_refl _ | omega | (simp; done) | (simp; omega)) _ | with_reducible refine Below.alloc ?_ (by first | exact Nat.le_refl _ | omega | (simp; done) | (simp; omega)) _ | with_reducible refine Below.setCell ?_ (by first | exact Nat.le_refl _ | omega | (simp; done) | (simp; omega)) _))) (by omega)
theorem rnum_any (n : Int) (hn : sml n) (w : World) : Calls Try.prog 105 #[.int .i64 n] w (RetR (fun v w => RN w v n 129) w) := by
  go_enter Try.func105, Try.ntmps105
  go_wp2_with (first
    | (go_at_call 75; (with_reducible refine (rof_any n hn _).mono ?_); rintro _ _ ⟨rfl, X_, rfl⟩)
    | (go_at_call 104; (with_reducible refine (from_any n (sml_in hn) _).mono ?_); rintro _ _ ⟨v1, rfl, g1, ⟨Y, rfl⟩⟩; obtain ⟨m1, a2, k1, c1, rfl⟩ := g1.form; have H1 := Lib.hid g1; clear g1))
  refine bodyPost_ret (v := .agg #[.bool m1, .slice a2 k1 c1]) (by simp [results, Try.results105, go_sem]) rfl ?_
  have h2 := H1.out
  rw [World.ext_ext] at h2 ⊢
  exact fin_swap h2 (by (repeat (first | exact Below.refl _ _ | with_reducible refine Below.drew ?_ | with_reducible refine Below.ext ?_ (by first | exact Nat.le_refl _ | (simp; done) | (simp; omega)) _ | with_reducible refine Below.alloc ?_ (by first | exact Nat.le_refl _ | (simp; done) | (simp; omega)) _ | with_reducible refine Below.setCell ?_ (by first | exact Nat.le_refl _ | (simp; done) | (simp; omega)) _))) (Nat.le_refl _)
end Go.Proofs.Ytmlhbbkgfffmcaa
