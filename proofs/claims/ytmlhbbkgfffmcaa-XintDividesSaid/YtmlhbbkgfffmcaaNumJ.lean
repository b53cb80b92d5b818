/- The walks of the reference of layer 2: bits as a number of 128 bits, below 0. Condition: the value reads as a number. -/
import Derived.Test.YtmlhbbkgfffmcaaNumI
namespace Go.Proofs.Ytmlhbbkgfffmcaa
set_option linter.unusedVariables false
set_option linter.unusedSimpArgs false
open Go.RowKit
theorem pow_mono {a b : Nat} (h : a ≤ b) : (2 : Int) ^ a ≤ 2 ^ b := by
  obtain ⟨k, rfl⟩ := Nat.exists_eq_add_of_le h
  rw [Int.pow_add]
  have := p2_pos k
  have := p2_pos a
  have := Int.mul_le_mul_of_nonneg_left (show (1 : Int) ≤ 2 ^ k by omega) (show (0 : Int) ≤ 2 ^ a by omega)
  omega
theorem top_bit {l : List Int} (h : Bin l) (hv : bv l < 340282366920938463463374607431768211456) : (bt l 127 = 1 ↔ 170141183460469231731687303715884105728 ≤ bv l) := by
  have s := div_step h 127
  have hb := (bv_bd h).1
  rw [show 127 + 1 = 128 from rfl, p128, p127, Int.ediv_eq_zero_of_lt hb hv] at s
  have := h 127
  omega
set_option maxRecDepth 100000 in
set_option maxHeartbeats 8000000 in
theorem to_minus (sv : Value) (l : List Int) (w : World) (hl : Rb w sv l) (hcan : Can l) (hne : bv l ≠ 0) : Calls Try.prog 106 #[.agg #[.bool true, sv]] w (Ret (I2b (-(bv l))) w) := by
  obtain ⟨i0, hi, hz0, hz1, hz2⟩ := info_parts info_u8
  have HL := Lib.hid hl
  have BB := hl.bin
  obtain ⟨a0, cap0, rfl, -⟩ := hl.form
  have hb0 := bv_bd BB
  by_cases len : l.length ≤ 128
  · have hb1 : bv l < 340282366920938463463374607431768211456 := by
      have := pow_mono len
      rw [p128] at this; omega
    have hle : bv l ≤ bv (List.replicate 128 0 ++ [1]) := by rw [bv_top, p128]; omega
    have HLE := Lib.hid hle
    have HB0 := Lib.hid hb0
    clear hle hl hb0
    by_cases hin : inR (-(bv l))
    · rw [i2b_yes hin]
      have TB := Lib.hid (fun (l4 : List Int) (v : Value) (w : World) (hr : Rb w v l4) (h : bv l4 = bv (List.replicate 128 0 ++ [1]) - bv l) => show Calls Try.prog 138 #[v, .int .i64 127] w (fun e w' => e = .returned (.int .u8 1) ∧ w' = w) by
        have hb := hr.bin
        have hc := bit_any v l4 127 w hr (by omega)
        rw [show (127 : Int).toNat = 127 from rfl] at hc
        rw [bv_top, p128] at h
        have hb00 := HB0.out.1
        have hb1 := (top_bit hb (by omega)).2 (by unfold inR at hin; omega)
        rwa [hb1] at hc)
      have TI := Lib.hid (fun (l4 : List Int) (hb : Bin l4) (h : bv l4 = bv (List.replicate 128 0 ++ [1]) - bv l) => show wrap64 (bv ((l4.drop 64).take 64)) = hiN (-(bv l)) ∧ bv (l4.take 64) = loN (-(bv l)) by
        rw [bv_top, p128] at h
        have hb00 := HB0.out.1
        obtain ⟨v1, v2, v3, v4, v5⟩ := halves_bv hb (by omega)
        exact to_i2 v1 v2 v3 v4 v5 hin (.inr (by omega)))
      clear hin
      go_enter Try.func106, Try.ntmps106
      go_wp2_with (first
        | (obtain ⟨X3, hr, g1⟩ := make_128 ((w.alloc (.cells #[.bool true, .slice a0 l.length cap0] 138)).alloc (.cells #[.int .i64 0, .int .u64 0] 69)) 136 5 i0 Try.underlying136 hi hz0 hz1 hz2 rfl; rw [hr]; clear hr; have G1 := Lib.hid g1; clear g1)
        | (at_builtin; refine wpList_append_bits rfl _ _ 136 5 rfl i0 Try.underlying136 hi hz0 hz1 hz2 ((w.alloc (.cells #[.bool true, .slice a0 l.length cap0] 138)).alloc (.cells #[.int .i64 0, .int .u64 0] 69)).heap.size 0 128 (List.replicate 128 0) [1] (by simp [Act.eval]) (G1.out.alloc _) (rb_one (by simp)) (by simp) ?_; rintro v3 _ g3 ⟨X4, rfl⟩ -; obtain ⟨a3, k3, c3, rfl⟩ := g3.isSl; have G3 := Lib.hid g3; clear g3)
        | (go_at_call 137; (with_reducible refine (less_any _ _ _ l _ G3.out ?_ (by simp) HLE.out).mono ?_); exact (((((HL.out.alloc _).alloc _).ext _).alloc _).ext _); rintro _ _ ⟨v4, rfl, ⟨l4, g4, g5, g6⟩, ⟨X5, rfl⟩⟩; obtain ⟨a4, k4, c4, rfl⟩ := g4.isSl; have G4 := Lib.hid g4; have G5 := Lib.hid g5; have G6 := Lib.hid g6; clear g4 g5 g6)
        | (go_at_call 138; (with_reducible refine (TB.out l4 _ _ G4.out G5.out).mono ?_); rintro _ w4_ ⟨rfl, h4_⟩; obtain rfl := h4_.symm))
      obtain ⟨t1, t2⟩ := TI.out l4 G4.out.bin G5.out
      have T1 := Lib.hid t1
      have T2 := Lib.hid t2
      have BB4 := G4.out.bin
      have hl4 : l4.length = 129 := by rw [G6.out]; simp
      obtain ⟨v2, v3⟩ := div_small (bin_take BB4 64) (by simp; omega) 0
      obtain ⟨v4, v5⟩ := div_small (bin_take (bin_drop BB4 64) 64) (by simp; omega) 0
      simp only [Int.pow_zero, Int.ediv_one] at v2 v3 v4 v5
      clear t1 t2 hl4
      refine wp_abs (F := fun wx => Row wx (w.heap.size + 1) #[.int .i64 0, .int .u64 0] 69 ∧ Below w.heap.size w wx ∧ Rb wx (.slice a4 k4 c4) l4) ⟨by (repeat (first | assumption | with_reducible refine Row.ext ?_ _ | with_reducible refine row_drew ?_ | (with_reducible refine row_last ?_; first | rfl | (simp; done)) | with_reducible refine Row.alloc ?_ _)), by (repeat (first | exact Below.refl _ _ | with_reducible refine Below.drew ?_ | with_reducible refine Below.ext ?_ (by first | exact Nat.le_refl _ | (simp; done) | (simp; omega)) _ | with_reducible refine Below.alloc ?_ (by first | exact Nat.le_refl _ | (simp; done) | (simp; omega)) _ | with_reducible refine Below.setCell ?_ (by first | exact Nat.le_refl _ | (simp; done) | (simp; omega)) _)), G4.out⟩ ?_
      clear HL G1 G3 G4
      intro wx ⟨R1, BW, RBX⟩
      have sz1 := R1.lt
      have c10 := R1.cell 0
      have c11 := R1.cell 1
      simp at c10 c11
      have f10 := R1.frozen 0
      have f11 := R1.frozen 1
      have HRB := Lib.hid RBX
      have HR1 := Lib.hid R1
      clear R1 RBX
      go_loopw [5, 6, 7] (fun lo hi i wr => ∃ j : Nat, i = .int .i64 ((j : Int) - 1) ∧ j ≤ 64 ∧ lo = .int .u64 (bv (l4.take 64) / 2 ^ j) ∧ hi = .int .u64 (bv ((l4.drop 64).take 64) / 2 ^ j) ∧ wr = wx)
        (fun lo hi i _ => (intOf i + 1).toNat)
      case atStart => exact ⟨64, by simp, by omega, by rw [div_all (bin_take BB4 64) (by simp; omega)], by rw [div_all (bin_take (bin_drop BB4 64) 64) (by simp; omega)], rfl⟩
      case round =>
        obtain ⟨j, rfl, hj, rfl, rfl, rfl⟩ := hrel
        cases j with
        | zero =>
          simp only [Int.pow_zero, Int.ediv_one]
          go_wp2
          simp only [T1.out, T2.out]
          have r2 := (HR1.out.set 0 (.int .i64 (hiN (-(bv l))))).set 1 (.int .u64 (loN (-(bv l))))
          have e0 := r2.cell 0
          have e1 := r2.cell 1
          simp at e0 e1
          clear r2
          refine bodyPost_ret (v := .tuple #[I2 (-(bv l)), .bool true]) (by simp [results, Try.results106, go_sem, e0, e1]) rfl (Ret.of (by (repeat (first | assumption | exact Below.refl _ _ | with_reducible refine Below.drew ?_ | with_reducible refine Below.ext ?_ (by first | exact Nat.le_refl _ | omega | (simp; done) | (simp; omega)) _ | with_reducible refine Below.alloc ?_ (by first | exact Nat.le_refl _ | omega | (simp; done) | (simp; omega)) _ | with_reducible refine Below.setCell ?_ (by first | exact Nat.le_refl _ | omega | (simp; done) | (simp; omega)) _))))
        | succ j =>
          have ej : ((j + 1 : Nat) : Int) - 1 = (j : Int) := by omega
          have hj2 : (j : Int) ≤ 63 := by omega
          have s1 := div_step (bin_take BB4 64) j
          have s2 := div_step (bin_take (bin_drop BB4 64) 64) j
          rw [bt_take (show j < 64 by omega)] at s1 s2
          rw [bt_drop] at s2
          have b1 := div_small (bin_take BB4 64) (by simp; omega) j
          have b2 := div_small (bin_take (bin_drop BB4 64) 64) (by simp; omega) j
          have b3 := div_small (bin_take BB4 64) (by simp; omega) (j + 1)
          have b4 := div_small (bin_take (bin_drop BB4 64) 64) (by simp; omega) (j + 1)
          obtain ⟨q1, q1'⟩ := BB4 j
          obtain ⟨q2, q2'⟩ := BB4 (64 + j)
          have S1 := Lib.hid s1
          have S2 := Lib.hid s2
          rw [s1] at b1
          rw [s2] at b2
          obtain ⟨b11, b12⟩ := b1
          obtain ⟨b21, b22⟩ := b2
          obtain ⟨b31, b32⟩ := b3
          obtain ⟨b41, b42⟩ := b4
          clear s1 s2
          rw [ej]
          have C1 := Lib.hid (fun w (h : Rb w (.slice a4 k4 c4) l4) => bit_nat (.slice a4 k4 c4) l4 j w h)
          have C2 := Lib.hid (fun w (h : Rb w (.slice a4 k4 c4) l4) => show Calls Try.prog 138 #[(.slice a4 k4 c4), .int .i64 (64 + (j : Int))] w (fun e w' => e = .returned (.int .u8 (bt l4 (64 + j))) ∧ w' = w) by have := bit_any (.slice a4 k4 c4) l4 (64 + (j : Int)) w h (by omega); rwa [show (64 + (j : Int)).toNat = 64 + j by omega] at this)
          go_wp2_with (first
            | (go_at_call 138; (with_reducible refine (C1.out _ HRB.out).mono ?_); rintro _ w4_ ⟨rfl, h4_⟩; obtain rfl := h4_.symm)
            | (go_at_call 138; (with_reducible refine (C2.out _ HRB.out).mono ?_); rintro _ w4_ ⟨rfl, h4_⟩; obtain rfl := h4_.symm))
          go_roundw
          case rel => exact ⟨j, rfl, by omega, by simp; have := S1.out; omega, by simp; have := S2.out; omega, by first | rfl | trivial⟩
          case measure => (simp [intOf]) <;> omega
    · rw [i2b_no hin]
      have TB := Lib.hid (fun (l4 : List Int) (v : Value) (w : World) (hr : Rb w v l4) (h : bv l4 = bv (List.replicate 128 0 ++ [1]) - bv l) => show Calls Try.prog 138 #[v, .int .i64 127] w (fun e w' => e = .returned (.int .u8 0) ∧ w' = w) by
        have hb := hr.bin
        have hc := bit_any v l4 127 w hr (by omega)
        rw [show (127 : Int).toNat = 127 from rfl] at hc
        rw [bv_top, p128] at h
        have hb00 := HB0.out.1
        have := top_bit hb (by omega)
        have := hb 127
        have hb1 : bt l4 127 = 0 := by unfold inR at hin; omega
        rwa [hb1] at hc)
      clear hin
      go_enter Try.func106, Try.ntmps106
      go_wp2_with (first
        | (obtain ⟨X3, hr, g1⟩ := make_128 ((w.alloc (.cells #[.bool true, .slice a0 l.length cap0] 138)).alloc (.cells #[.int .i64 0, .int .u64 0] 69)) 136 5 i0 Try.underlying136 hi hz0 hz1 hz2 rfl; rw [hr]; clear hr; have G1 := Lib.hid g1; clear g1)
        | (at_builtin; refine wpList_append_bits rfl _ _ 136 5 rfl i0 Try.underlying136 hi hz0 hz1 hz2 ((w.alloc (.cells #[.bool true, .slice a0 l.length cap0] 138)).alloc (.cells #[.int .i64 0, .int .u64 0] 69)).heap.size 0 128 (List.replicate 128 0) [1] (by simp [Act.eval]) (G1.out.alloc _) (rb_one (by simp)) (by simp) ?_; rintro v3 _ g3 ⟨X4, rfl⟩ -; obtain ⟨a3, k3, c3, rfl⟩ := g3.isSl; have G3 := Lib.hid g3; clear g3)
        | (go_at_call 137; (with_reducible refine (less_any _ _ _ l _ G3.out ?_ (by simp) HLE.out).mono ?_); exact (((((HL.out.alloc _).alloc _).ext _).alloc _).ext _); rintro _ _ ⟨v4, rfl, ⟨l4, g4, g5, g6⟩, ⟨X5, rfl⟩⟩; obtain ⟨a4, k4, c4, rfl⟩ := g4.isSl; have G4 := Lib.hid g4; have G5 := Lib.hid g5; have G6 := Lib.hid g6; clear g4 g5 g6)
        | (go_at_call 138; (with_reducible refine (TB.out l4 _ _ G4.out G5.out).mono ?_); rintro _ w4_ ⟨rfl, h4_⟩; obtain rfl := h4_.symm))
      refine bodyPost_ret (v := .tuple #[I2 0, .bool false]) (by simp [results, Try.results106, go_sem, hiN, loN]) rfl (Ret.of (by (repeat (first | assumption | exact Below.refl _ _ | with_reducible refine Below.drew ?_ | with_reducible refine Below.ext ?_ (by first | exact Nat.le_refl _ | omega | (simp; done) | (simp; omega)) _ | with_reducible refine Below.alloc ?_ (by first | exact Nat.le_refl _ | omega | (simp; done) | (simp; omega)) _ | with_reducible refine Below.setCell ?_ (by first | exact Nat.le_refl _ | omega | (simp; done) | (simp; omega)) _))))
  · have hin : ¬ inR (-(bv l)) := by
      have h1 := hcan.low (by omega)
      have := pow_mono (show 128 ≤ l.length - 1 by omega)
      rw [p128] at this
      unfold inR; omega
    rw [i2b_no hin]
    clear hl hb0 hin
    go_enter Try.func106, Try.ntmps106
    go_wp2
    refine bodyPost_ret (v := .tuple #[I2 0, .bool false]) (by simp [results, Try.results106, go_sem, hiN, loN]) rfl (Ret.of (by (repeat (first | assumption | exact Below.refl _ _ | with_reducible refine Below.drew ?_ | with_reducible refine Below.ext ?_ (by first | exact Nat.le_refl _ | omega | (simp; done) | (simp; omega)) _ | with_reducible refine Below.alloc ?_ (by first | exact Nat.le_refl _ | omega | (simp; done) | (simp; omega)) _ | with_reducible refine Below.setCell ?_ (by first | exact Nat.le_refl _ | omega | (simp; done) | (simp; omega)) _))))
theorem to_any (v : Value) (z : Int) (n : Nat) (w : World) (hv : RN w v z n) : Calls Try.prog 106 #[v] w (Ret (I2b z) w) := by
  obtain ⟨m, sv, l, rfl, hl, hcan, hm, rfl, -⟩ := hv
  cases m
  · exact to_plus sv l w hl hcan
  · exact to_minus sv l w hl hcan (hm rfl)
end Go.Proofs.Ytmlhbbkgfffmcaa
