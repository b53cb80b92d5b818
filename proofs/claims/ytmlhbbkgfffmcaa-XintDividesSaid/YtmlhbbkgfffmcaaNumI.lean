/- The walks of the reference of layer 2: bits as a number of 128 bits. Condition: the value reads as a number. -/
import Derived.Test.YtmlhbbkgfffmcaaNumH
namespace Go.Proofs.Ytmlhbbkgfffmcaa
set_option linter.unusedVariables false
set_option linter.unusedSimpArgs false
open Go.RowKit
theorem bv_split (k : Nat) : ∀ l : List Int, bv l = bv (l.take k) + 2 ^ k * bv (l.drop k) := by
  induction k with
  | zero => intro l; simp [bv]
  | succ k ih =>
    intro l
    cases l with
    | nil => simp [bv]
    | cons d l =>
      simp only [List.take_succ_cons, List.drop_succ_cons, bv, p2_succ]
      have := ih l
      rw [this]; grind
theorem bin_take {l : List Int} (h : Bin l) (k : Nat) : Bin (l.take k) := fun i => by
  have := h i
  by_cases hi : i < k
  · simp only [bt, List.getD_eq_getElem?_getD, List.getElem?_take, if_pos hi] at this ⊢; exact this
  · rw [bt_out (by rw [List.length_take]; omega)]; decide
theorem bin_drop {l : List Int} (h : Bin l) (k : Nat) : Bin (l.drop k) := fun i => by
  have := h (k + i)
  simpa only [bt, List.getD_eq_getElem?_getD, List.getElem?_drop] using this
theorem bt_take {l : List Int} {k i : Nat} (h : i < k) : bt (l.take k) i = bt l i := by
  simp only [bt, List.getD_eq_getElem?_getD, List.getElem?_take, if_pos h]
theorem bt_drop {l : List Int} {k i : Nat} : bt (l.drop k) i = bt l (k + i) := by
  simp only [bt, List.getD_eq_getElem?_getD, List.getElem?_drop]
theorem div_small {l : List Int} (h : Bin l) (hl : l.length ≤ 64) (j : Nat) : 0 ≤ bv l / 2 ^ j ∧ bv l / 2 ^ j < 18446744073709551616 := by
  have hb := bv_bd h
  have hp := p2_pos j
  have h1 : bv l < 18446744073709551616 := by
    have : (2 : Int) ^ l.length ≤ 2 ^ 64 := by
      obtain ⟨k, hk⟩ := Nat.exists_eq_add_of_le hl
      rw [hk, Int.pow_add]
      have := p2_pos k
      have := p2_pos l.length
      have := Int.mul_le_mul_of_nonneg_left (show (1 : Int) ≤ 2 ^ k by omega) (show (0 : Int) ≤ 2 ^ l.length by omega)
      omega
    rw [p64] at this; omega
  have := Int.ediv_le_self (2 ^ j) hb.1
  exact ⟨Int.ediv_nonneg hb.1 (by omega), by omega⟩
/-- Both halves of the bits. -/
theorem halves_bv {l : List Int} (h : Bin l) (hv : bv l < 340282366920938463463374607431768211456) : bv l = bv ((l.drop 64).take 64) * 18446744073709551616 + bv (l.take 64) ∧ 0 ≤ bv (l.take 64) ∧ bv (l.take 64) < 18446744073709551616 ∧ 0 ≤ bv ((l.drop 64).take 64) ∧ bv ((l.drop 64).take 64) < 18446744073709551616 := by
  have s1 := bv_split 64 l
  have s2 := bv_split 64 (l.drop 64)
  have b1 := div_small (bin_take h 64) (by simp; omega) 0
  have b2 := div_small (bin_take (bin_drop h 64) 64) (by simp; omega) 0
  have b3 := (bv_bd (bin_drop (bin_drop h 64) 64)).1
  rw [p64] at s1 s2
  simp only [Int.pow_zero, Int.ediv_one] at b1 b2
  omega
/-- What is made of bits. -/
theorem to_i2 {B z hi lo : Int} (e : B = hi * 18446744073709551616 + lo) (l0 : 0 ≤ lo) (l1 : lo < 18446744073709551616) (h0 : 0 ≤ hi) (h1 : hi < 18446744073709551616) (hz : inR z) (h : B = z ∨ B = z + 340282366920938463463374607431768211456) : wrap64 hi = hiN z ∧ lo = loN z := by
  unfold inR at hz
  unfold wrap64 hiN loN
  omega
set_option maxRecDepth 100000 in
set_option maxHeartbeats 8000000 in
theorem to_plus (sv : Value) (l : List Int) (w : World) (hl : Rb w sv l) (hcan : Can l) : Calls Try.prog 106 #[.agg #[.bool false, sv]] w (Ret (I2b (bv l)) w) := by
  have HL := Lib.hid hl
  have BB := hl.bin
  obtain ⟨a0, cap0, rfl, -⟩ := hl.form
  have hb0 := bv_bd BB
  by_cases hin : inR (bv l)
  · rw [i2b_yes hin]
    have len : l.length ≤ 127 := by
      apply Classical.byContradiction
      intro hc
      have := hcan.low (by omega)
      have h2 : (2 : Int) ^ 127 ≤ 2 ^ (l.length - 1) := by
        obtain ⟨k, hk⟩ := Nat.exists_eq_add_of_le (show 127 ≤ l.length - 1 by omega)
        rw [hk, Int.pow_add]
        have := p2_pos k
        have := Int.mul_le_mul_of_nonneg_left (show (1 : Int) ≤ 2 ^ k by omega) (show (0 : Int) ≤ 2 ^ 127 by decide)
        omega
      rw [p127] at h2
      unfold inR at hin; omega
    obtain ⟨v1, v2, v3, v4, v5⟩ := halves_bv BB (by unfold inR at hin; omega)
    obtain ⟨t1, t2⟩ := to_i2 v1 v2 v3 v4 v5 hin (.inl rfl)
    have T1 := Lib.hid t1
    have T2 := Lib.hid t2
    clear hl hb0 t1 t2 v1
    go_enter Try.func106, Try.ntmps106
    go_wp2
    refine wp_abs (F := fun wx => Row wx (w.heap.size + 1) #[.int .i64 0, .int .u64 0] 69 ∧ Below w.heap.size w wx ∧ Rb wx (.slice a0 l.length cap0) l) ⟨by (repeat (first | assumption | with_reducible refine Row.ext ?_ _ | with_reducible refine row_drew ?_ | (with_reducible refine row_last ?_; first | rfl | (simp; done)) | with_reducible refine Row.alloc ?_ _)), by (repeat (first | exact Below.refl _ _ | with_reducible refine Below.drew ?_ | with_reducible refine Below.ext ?_ (by first | exact Nat.le_refl _ | (simp; done) | (simp; omega)) _ | with_reducible refine Below.alloc ?_ (by first | exact Nat.le_refl _ | (simp; done) | (simp; omega)) _ | with_reducible refine Below.setCell ?_ (by first | exact Nat.le_refl _ | (simp; done) | (simp; omega)) _)), (HL.out.alloc _).alloc _⟩ ?_
    clear HL
    intro wx ⟨R1, BW, RBX⟩
    have sz1 := R1.lt
    have c10 := R1.cell 0
    have c11 := R1.cell 1
    simp at c10 c11
    have f10 := R1.frozen 0
    have f11 := R1.frozen 1
    have HRB := Lib.hid RBX
    have HR1 := Lib.hid R1
    clear R1 RBX
    go_loopw [5, 6, 7] (fun lo hi i wr => ∃ j : Nat, i = .int .i64 ((j : Int) - 1) ∧ j ≤ 64 ∧ lo = .int .u64 (bv (l.take 64) / 2 ^ j) ∧ hi = .int .u64 (bv ((l.drop 64).take 64) / 2 ^ j) ∧ wr = wx)
      (fun lo hi i _ => (intOf i + 1).toNat)
    case atStart => exact ⟨64, by simp, by omega, by rw [div_all (bin_take BB 64) (by simp; omega)], by rw [div_all (bin_take (bin_drop BB 64) 64) (by simp; omega)], rfl⟩
    case round =>
      obtain ⟨j, rfl, hj, rfl, rfl, rfl⟩ := hrel
      cases j with
      | zero =>
        simp only [Int.pow_zero, Int.ediv_one]
        go_wp2
        simp only [T1.out, T2.out]
        have r2 := (HR1.out.set 0 (.int .i64 (hiN (bv l)))).set 1 (.int .u64 (loN (bv l)))
        have e0 := r2.cell 0
        have e1 := r2.cell 1
        simp at e0 e1
        clear r2
        refine bodyPost_ret (v := .tuple #[I2 (bv l), .bool true]) (by simp [results, Try.results106, go_sem, e0, e1]) rfl (Ret.of (by (repeat (first | assumption | exact Below.refl _ _ | with_reducible refine Below.drew ?_ | with_reducible refine Below.ext ?_ (by first | exact Nat.le_refl _ | omega | (simp; done) | (simp; omega)) _ | with_reducible refine Below.alloc ?_ (by first | exact Nat.le_refl _ | omega | (simp; done) | (simp; omega)) _ | with_reducible refine Below.setCell ?_ (by first | exact Nat.le_refl _ | omega | (simp; done) | (simp; omega)) _))))
      | succ j =>
        have ej : ((j + 1 : Nat) : Int) - 1 = (j : Int) := by omega
        have hj2 : (j : Int) ≤ 63 := by omega
        have s1 := div_step (bin_take BB 64) j
        have s2 := div_step (bin_take (bin_drop BB 64) 64) j
        rw [bt_take (show j < 64 by omega)] at s1 s2
        rw [bt_drop] at s2
        have b1 := div_small (bin_take BB 64) (by simp; omega) j
        have b2 := div_small (bin_take (bin_drop BB 64) 64) (by simp; omega) j
        have b3 := div_small (bin_take BB 64) (by simp; omega) (j + 1)
        have b4 := div_small (bin_take (bin_drop BB 64) 64) (by simp; omega) (j + 1)
        obtain ⟨q1, q1'⟩ := BB j
        obtain ⟨q2, q2'⟩ := BB (64 + j)
        have S1 := Lib.hid s1
        have S2 := Lib.hid s2
        rw [s1] at b1
        rw [s2] at b2
        obtain ⟨b11, b12⟩ := b1
        obtain ⟨b21, b22⟩ := b2
        obtain ⟨b31, b32⟩ := b3
        obtain ⟨b41, b42⟩ := b4
        clear s1 s2
        rw [ej]
        have C1 := Lib.hid (fun w (h : Rb w (.slice a0 l.length cap0) l) => bit_nat (.slice a0 l.length cap0) l j w h)
        have C2 := Lib.hid (fun w (h : Rb w (.slice a0 l.length cap0) l) => show Calls Try.prog 138 #[(.slice a0 l.length cap0), .int .i64 (64 + (j : Int))] w (fun e w' => e = .returned (.int .u8 (bt l (64 + j))) ∧ w' = w) by have := bit_any (.slice a0 l.length cap0) l (64 + (j : Int)) w h (by omega); rwa [show (64 + (j : Int)).toNat = 64 + j by omega] at this)
        go_wp2_with (first
          | (go_at_call 138; (with_reducible refine (C1.out _ HRB.out).mono ?_); rintro _ w4_ ⟨rfl, h4_⟩; obtain rfl := h4_.symm)
          | (go_at_call 138; (with_reducible refine (C2.out _ HRB.out).mono ?_); rintro _ w4_ ⟨rfl, h4_⟩; obtain rfl := h4_.symm))
        go_roundw
        case rel => exact ⟨j, rfl, by omega, by simp; have := S1.out; omega, by simp; have := S2.out; omega, by first | rfl | trivial⟩
        case measure => (simp [intOf]) <;> omega
  · rw [i2b_no hin]
    have len : 127 < l.length := by
      apply Classical.byContradiction
      intro hc
      have h2 : (2 : Int) ^ l.length ≤ 2 ^ 127 := by
        obtain ⟨k, hk⟩ := Nat.exists_eq_add_of_le (show l.length ≤ 127 by omega)
        rw [hk, Int.pow_add]
        have := p2_pos k
        have := p2_pos l.length
        have := Int.mul_le_mul_of_nonneg_left (show (1 : Int) ≤ 2 ^ k by omega) (show (0 : Int) ≤ 2 ^ l.length by omega)
        omega
      rw [p127] at h2
      unfold inR at hin; omega
    clear hl hb0 hin
    go_enter Try.func106, Try.ntmps106
    go_wp2
    refine bodyPost_ret (v := .tuple #[I2 0, .bool false]) (by simp [results, Try.results106, go_sem, hiN, loN]) rfl (Ret.of (by (repeat (first | assumption | exact Below.refl _ _ | with_reducible refine Below.drew ?_ | with_reducible refine Below.ext ?_ (by first | exact Nat.le_refl _ | omega | (simp; done) | (simp; omega)) _ | with_reducible refine Below.alloc ?_ (by first | exact Nat.le_refl _ | omega | (simp; done) | (simp; omega)) _ | with_reducible refine Below.setCell ?_ (by first | exact Nat.le_refl _ | omega | (simp; done) | (simp; omega)) _))))
end Go.Proofs.Ytmlhbbkgfffmcaa
