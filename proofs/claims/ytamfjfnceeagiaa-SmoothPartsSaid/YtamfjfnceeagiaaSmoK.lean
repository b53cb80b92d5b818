/- Layer 18's law: the document's example, small rectangles, what two rectangles share. No condition. -/
import Derived.Test.YtamfjfnceeagiaaSmoM
namespace Go.Proofs.Ytamfjfnceeagiaa
set_option linter.unusedVariables false
set_option linter.unusedSimpArgs false
open Go.RowKit
abbrev lineV (a b : WinP) (n x0 y0 x1 y1 : Int) : Value := .agg #[.int .i64 a.x, .int .i64 a.y, .int .i64 a.z, .int .i64 a.c0, .int .i64 a.c1, .int .i64 a.c2, .int .i64 a.c3, .int .i64 b.x, .int .i64 b.y, .int .i64 b.z, .int .i64 b.c0, .int .i64 b.c1, .int .i64 b.c2, .int .i64 b.c3, .int .i64 n, .int .i64 x0, .int .i64 y0, .int .i64 x1, .int .i64 y1]
theorem awake18_list : smL4 ⟨0, 128, 0, 0, 0, 0, 0⟩ ⟨512, 128, 0, 0, 0, 0, 0⟩ 1 (-3) (-3) 5 5 = [⟨0, 0, 0, 0, 0, 0, 0, 64⟩, ⟨1, 0, 0, 0, 0, 0, 0, 64⟩] := by kernel_rfl
theorem awake18_c0 : cover ⟨128, 128, 0, 0, 0, 0, 0⟩ ⟨384, 128, 0, 0, 0, 0, 0⟩ 1 0 0 = 32 := by kernel_rfl
theorem awake18_c1 : cover ⟨128, 128, 0, 0, 0, 0, 0⟩ ⟨384, 128, 0, 0, 0, 0, 0⟩ 1 1 0 = 32 := by kernel_rfl
theorem wide_lit {x y : Int} (hx : w64 x) (hy : w64 y) : (⟨x, y, 0, 0, 0, 0, 0⟩ : WinP).wide := by
  have z : w64 0 := by unfold w64; decide
  exact ⟨hx, hy, z, z, z, z, z⟩
set_option maxHeartbeats 4000000 in
theorem awake18 (w : World) : Calls Try.prog 27 #[] w (Ret (.bool true) w) := by
  have L := fun w => line_any ⟨0, 128, 0, 0, 0, 0, 0⟩ ⟨512, 128, 0, 0, 0, 0, 0⟩ 1 (-3) (-3) 5 5 (wide_lit (by unfold w64; decide) (by unfold w64; decide)) (wide_lit (by unfold w64; decide) (by unfold w64; decide)) (by decide) w
  simp only [awake18_list] at L
  have C0 := fun w => scover_any ⟨128, 128, 0, 0, 0, 0, 0⟩ ⟨384, 128, 0, 0, 0, 0, 0⟩ 1 0 0 (wide_lit (by unfold w64; decide) (by unfold w64; decide)) (wide_lit (by unfold w64; decide) (by unfold w64; decide)) (by decide) (by decide) (by decide) (by decide) w
  simp only [awake18_c0] at C0
  have C1 := fun w => scover_any ⟨128, 128, 0, 0, 0, 0, 0⟩ ⟨384, 128, 0, 0, 0, 0, 0⟩ 1 1 0 (wide_lit (by unfold w64; decide) (by unfold w64; decide)) (wide_lit (by unfold w64; decide) (by unfold w64; decide)) (by decide) (by decide) (by decide) (by decide) w
  simp only [awake18_c1] at C1
  have HL := Lib.hid L
  have H0 := Lib.hid C0
  have H1 := Lib.hid C1
  clear L C0 C1
  go_enter Try.func27, Try.ntmps27
  go_upto_region 3 with (first | (go_at_call 31; (with_reducible refine (HL.out _).mono ?_); rintro _ _ ⟨v, rfl, hv, ⟨XF, rfl⟩⟩; have HV := Lib.hid hv; obtain ⟨-, av, cap, rfl, -, -⟩ := hv))
  obtain ⟨-, av', cap', hq, -, hcl⟩ := HV.out
  obtain ⟨rfl, rfl⟩ : av = av' ∧ cap = cap' := by simpa using hq
  rcases hcl with hcl | ⟨b, o, rfl, hb, hc⟩
  · cases hcl
  have d0 := hc 0 _ rfl 4 _ rfl
  have d1 := hc 0 _ rfl 7 _ rfl
  have d2 := hc 1 _ rfl 0 _ rfl
  simp only [frK, Nat.zero_mul, Nat.one_mul, Nat.add_zero] at d1 d2
  clear hc hq d0 HV
  go_wp2_with (first | (go_at_call 33; (first | (with_reducible refine (H0.out _).mono ?_) | (with_reducible refine (H1.out _).mono ?_)); rintro _ _ ⟨rfl, X_, rfl⟩))
  go_ret
  exact Ret.of' rfl (by (repeat (first | exact Below.refl _ _ | with_reducible refine Below.drew ?_ | with_reducible refine Below.ext ?_ (by first | exact Nat.le_refl _ | (simp; done) | (simp; omega)) _ | with_reducible refine Below.alloc ?_ (by first | exact Nat.le_refl _ | (simp; done) | (simp; omega)) _ | with_reducible refine Below.setCell ?_ (by first | exact Nat.le_refl _ | (simp; done) | (simp; omega)) _)))
theorem small18_any (x0 y0 x1 y1 : Int) (w : World) : Calls Try.prog 26 #[R4 x0 y0 x1 y1] w (Ret (.bool (!decide (rightP x0 y0 x1 y1) || decide (areaP x0 y0 x1 y1 ≤ 100))) w) := by
  have HR := Lib.hid (fun w => rrect_right x0 y0 x1 y1 w)
  have HA := Lib.hid (fun w => rrect_area x0 y0 x1 y1 w)
  obtain ⟨z, hz⟩ : ∃ z, decide (rightP x0 y0 x1 y1) = z := ⟨_, rfl⟩
  obtain ⟨a, ha⟩ : ∃ z, areaP x0 y0 x1 y1 = z := ⟨_, rfl⟩
  rw [hz] at HR ⊢
  rw [ha] at HA ⊢
  clear hz ha
  cases z
  · go_enter Try.func26, Try.ntmps26
    go_wp2_with (first | (go_at_call 35; (with_reducible refine (HR.out _).mono ?_); rintro _ _ ⟨rfl, X_, rfl⟩))
    go_ret
    exact Ret.of' (by simp) (by (repeat (first | exact Below.refl _ _ | with_reducible refine Below.drew ?_ | with_reducible refine Below.ext ?_ (by first | exact Nat.le_refl _ | (simp; done) | (simp; omega)) _ | with_reducible refine Below.alloc ?_ (by first | exact Nat.le_refl _ | (simp; done) | (simp; omega)) _ | with_reducible refine Below.setCell ?_ (by first | exact Nat.le_refl _ | (simp; done) | (simp; omega)) _)))
  · go_enter Try.func26, Try.ntmps26
    go_wp2_with (first | (go_at_call 35; (with_reducible refine (HR.out _).mono ?_); rintro _ _ ⟨rfl, X_, rfl⟩) | (go_at_call 36; (with_reducible refine (HA.out _).mono ?_); rintro _ _ ⟨rfl, X_, rfl⟩))
    go_ret
    exact Ret.of' (by simp) (by (repeat (first | exact Below.refl _ _ | with_reducible refine Below.drew ?_ | with_reducible refine Below.ext ?_ (by first | exact Nat.le_refl _ | (simp; done) | (simp; omega)) _ | with_reducible refine Below.alloc ?_ (by first | exact Nat.le_refl _ | (simp; done) | (simp; omega)) _ | with_reducible refine Below.setCell ?_ (by first | exact Nat.le_refl _ | (simp; done) | (simp; omega)) _)))
theorem small_area {x0 y0 x1 y1 k : Int} (hk : 0 ≤ k) : (!decide (rightP x0 y0 x1 y1) || decide (areaP x0 y0 x1 y1 ≤ k)) = decide (areaP x0 y0 x1 y1 ≤ k) := by
  by_cases h : rightP x0 y0 x1 y1
  · simp [h]
  · have : areaP x0 y0 x1 y1 = 0 := if_neg h
    simp [h, this, hk]
theorem small18_is (x0 y0 x1 y1 : Int) (w : World) : Calls Try.prog 26 #[R4 x0 y0 x1 y1] w (Ret (.bool (decide (areaP x0 y0 x1 y1 ≤ 100))) w) := by
  rw [← small_area (by decide)]; exact small18_any x0 y0 x1 y1 w
theorem smL4_has {a b : WinP} {n x0 y0 x1 y1 : Int} {f : FrP} (h : f ∈ smL4 a b n x0 y0 x1 y1) : hasP x0 y0 x1 y1 f.x f.y := by
  unfold smL4 at h
  split at h
  · rename_i k
    obtain ⟨x, y, h1, -, rfl⟩ := smTo_mem.1 h
    exact ⟨k.2, h1⟩
  · cases h
theorem smL4_rise (a b : WinP) (n x0 y0 x1 y1 : Int) : (smL4 a b n x0 y0 x1 y1).Pairwise FrP.lt := by
  unfold smL4
  split
  · exact smTo_rise ..
  · exact List.Pairwise.nil
theorem smL4_len (a b : WinP) (n x0 y0 x1 y1 : Int) : ((smL4 a b n x0 y0 x1 y1).length : Int) ≤ areaP x0 y0 x1 y1 := by
  unfold smL4
  split
  · rename_i k
    have hr := k.2
    have := smTo_len a b n (smV a b) x0 x1 y0 y1
    unfold areaP
    rw [if_pos hr]
    unfold rightP at hr
    have e : (((x1 - x0).toNat * (y1 - y0).toNat : Nat) : Int) = (x1 - x0) * (y1 - y0) := by
      rw [Int.natCast_mul, Int.toNat_of_nonneg (by omega), Int.toNat_of_nonneg (by omega)]
    omega
  · unfold areaP
    split
    · rename_i hr
      unfold rightP at hr
      exact Int.mul_nonneg (by omega) (by omega)
    · exact Int.le_refl _
end Go.Proofs.Ytamfjfnceeagiaa
