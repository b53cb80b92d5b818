/- Layer 14's law WalkMoves: a line that is moved by whole pixels has the same pixels, moved. No condition. -/
import Derived.Test.YtmlhbbkgfffmcaaWalkQ
import Derived.Test.YtmlhbbkgfffmcaaLineC
import Derived.Test.YtmlhbbkgfffmcaaEWalkMoves
namespace Go.Proofs.Ytmlhbbkgfffmcaa
set_option linter.unusedVariables false
set_option linter.unusedSimpArgs false
open Go.RowKit
theorem withinL_has {ax ay bx y2 x0 y0 x1 y1 : Int} {s : St} (h : s ∈ withinL ax ay bx y2 x0 y0 x1 y1) : hasP x0 y0 x1 y1 s.X s.Y := by
  unfold withinL at h
  split at h
  · cases h
  · exact of_decide_eq_true (List.mem_filter.1 h).2
set_option maxRecDepth 100000 in
set_option maxHeartbeats 8000000 in
theorem WalkMoves_true : WalkMoves_stmt := by
  intro aX aY bX bY c0 c1 w ⟨⟨a0, a1⟩, ⟨a2, a3⟩⟩ ⟨⟨b0, b1⟩, ⟨b2, b3⟩⟩ ⟨⟨d0, d1⟩, ⟨d2, d3⟩⟩
  go_enter Try.func7, Try.ntmps7
  go_upto_region 1 with fail
  refine wp_abs (F := fun w1 => Row w1 w.heap.size #[.int .i64 aX, .int .i64 aY] 50 ∧ Row w1 (w.heap.size + 1) #[.int .i64 bX, .int .i64 bY] 50 ∧ Row w1 (w.heap.size + 1 + 1) #[.int .i8 c0, .int .i8 c1] 65 ∧ ∃ X, w1 = w.ext X) ⟨by (repeat (first | assumption | with_reducible refine Row.ext ?_ _ | with_reducible refine row_drew ?_ | (with_reducible refine row_last ?_; first | rfl | (simp; done)) | with_reducible refine Row.alloc ?_ _)), by (repeat (first | assumption | with_reducible refine Row.ext ?_ _ | with_reducible refine row_drew ?_ | (with_reducible refine row_last ?_; first | rfl | (simp; done)) | with_reducible refine Row.alloc ?_ _)), by (repeat (first | assumption | with_reducible refine Row.ext ?_ _ | with_reducible refine row_drew ?_ | (with_reducible refine row_last ?_; first | rfl | (simp; done)) | with_reducible refine Row.alloc ?_ _)), RowKit.Below.toExt (by (repeat (first | exact Below.refl _ _ | with_reducible refine Below.drew ?_ | with_reducible refine Below.ext ?_ (by first | exact Nat.le_refl _ | (simp; done) | (simp; omega)) _ | with_reducible refine Below.alloc ?_ (by first | exact Nat.le_refl _ | (simp; done) | (simp; omega)) _ | with_reducible refine Below.setCell ?_ (by first | exact Nat.le_refl _ | (simp; done) | (simp; omega)) _)))⟩ ?_
  rintro w1 ⟨ra, rb, rc, hX⟩
  have ca := ra.cell
  have fa := ra.frozen
  have la := ra.lt
  have cb := rb.cell
  have fb := rb.frozen
  have lb := rb.lt
  have cc := rc.cell
  have fc := rc.frozen
  have lc := rc.lt
  have HX := Lib.hid hX
  have la' : w.heap.size ≤ w1.heap.size := by omega
  have lb' : w.heap.size + 1 ≤ w1.heap.size := by omega
  have lc' : w.heap.size + 1 + 1 ≤ w1.heap.size := by omega
  clear ra rb rc hX
  go_cut [51] from 14 to 52 (fun t wx => ∃ bad : Bool, t = .bool bad ∧ (bad = false → (-268435456 ≤ aX ∧ aX ≤ 268435456 ∧ -268435456 ≤ aY ∧ aY ≤ 268435456) ∧ (-268435456 ≤ bX ∧ bX ≤ 268435456 ∧ -268435456 ≤ bY ∧ bY ≤ 268435456)) ∧ wx = w1)
  case first =>
    by_cases t0 : aX < -268435456
    · go_wp2
      go_meet
      exact ⟨_, rfl, fun h => by first | (cases h; done) | omega, rfl⟩
    by_cases t1 : 268435456 < aX
    · go_wp2
      go_meet
      exact ⟨_, rfl, fun h => by first | (cases h; done) | omega, rfl⟩
    by_cases t2 : aY < -268435456
    · go_wp2
      go_meet
      exact ⟨_, rfl, fun h => by first | (cases h; done) | omega, rfl⟩
    by_cases t3 : 268435456 < aY
    · go_wp2
      go_meet
      exact ⟨_, rfl, fun h => by first | (cases h; done) | omega, rfl⟩
    by_cases t4 : bX < -268435456
    · go_wp2
      go_meet
      exact ⟨_, rfl, fun h => by first | (cases h; done) | omega, rfl⟩
    by_cases t5 : 268435456 < bX
    · go_wp2
      go_meet
      exact ⟨_, rfl, fun h => by first | (cases h; done) | omega, rfl⟩
    by_cases t6 : bY < -268435456
    · go_wp2
      go_meet
      exact ⟨_, rfl, fun h => by first | (cases h; done) | omega, rfl⟩
    by_cases t7 : 268435456 < bY
    · go_wp2
      go_meet
      exact ⟨_, rfl, fun h => by first | (cases h; done) | omega, rfl⟩
    go_wp2
    go_meet
    exact ⟨_, rfl, fun _ => by omega, rfl⟩
  case rest =>
    obtain ⟨bad, rfl, hbad, rfl⟩ := hcut
    obtain ⟨w1, rfl⟩ : ∃ w1, w1 = wc := ⟨_, rfl⟩
    cases bad
    · obtain ⟨⟨e0, e1, e2, e3⟩, ⟨g0, g1, g2, g3⟩⟩ := hbad rfl
      clear hbad
      go_upto_region 3 with fail
      refine wp_region_ext (by kernel_rfl) (by kernel_rfl) ?_
      repeat (go_big_quiet_step ((fail)))
      refine wpQuiet_nil ?_
      intro _ hw_ext
      obtain ⟨X1, hw_ext⟩ := hw_ext
      subst hw_ext
      obtain ⟨L, hL⟩ : ∃ L, withinL aX aY bX bY (-6) (-5) 14 15 = L := ⟨_, rfl⟩
      have HW1 := Lib.hid (fun w => hL ▸ walk_within aX aY bX bY (-6) (-5) 14 15 ⟨by omega, by omega, by omega, by omega⟩ ⟨by omega, by omega, by omega, by omega⟩ w)
      have hM : withinL (aX + 256 * c0) (aY + 256 * c1) (bX + 256 * c0) (bY + 256 * c1) (c0 - 6) (c1 - 5) (c0 + 14) (c1 + 15) = L.map (St.move c0 c1) := by
        have := withinL_shift aX aY bX bY (-6) (-5) 14 15 c0 c1 (by unfold rightP; omega) (by unfold rightP; omega)
        rw [hL, show -6 + c0 = c0 - 6 from by omega, show -5 + c1 = c1 - 5 from by omega, show 14 + c0 = c0 + 14 from by omega, show 15 + c1 = c1 + 15 from by omega] at this
        exact this
      have HW2 := Lib.hid (fun w => hM ▸ walk_within (aX + 256 * c0) (aY + 256 * c1) (bX + 256 * c0) (bY + 256 * c1) (c0 - 6) (c1 - 5) (c0 + 14) (c1 + 15) ⟨by omega, by omega, by omega, by omega⟩ ⟨by omega, by omega, by omega, by omega⟩ w)
      have h20 : L.length ≤ 20 := by
        have := withinL_len aX aY bX bY (-6) (-5) 20
        rw [show (-6 : Int) + ((20 : Nat) : Int) = 14 from rfl, show (-5 : Int) + ((20 : Nat) : Int) = 15 from rfl, hL] at this
        exact this
      have HR := Lib.hid (hL ▸ withinL_rise aX aY bX bY (-6) (-5) 14 15)
      have HB := Lib.hid (fun (s : St) (h : s ∈ L) => withinL_has (show s ∈ withinL aX aY bX bY (-6) (-5) 14 15 from hL.symm ▸ h))
      clear hM hL
      go_upto_region 8 with (first
        | (go_at_call 40; (with_reducible refine (HW1.out _).mono ?_); rintro _ w3 ⟨v1, rfl, h1, X3, rfl⟩; have H1 := Lib.hid h1; clear h1)
        | (go_at_call 40; (with_reducible refine (HW2.out _).mono ?_); rintro _ w4 ⟨v2, rfl, h2, X4, rfl⟩; have H2 := Lib.hid h2; clear h2))
      refine wp_abs (F := fun w5 => Sts w5 v1 L ∧ Sts w5 v2 (L.map (St.move c0 c1)) ∧ ∃ X, w5 = w1.ext X) ⟨H1.out.ext _, H2.out, RowKit.Below.toExt (by (repeat (first | exact Below.refl _ _ | with_reducible refine Below.drew ?_ | with_reducible refine Below.ext ?_ (by first | exact Nat.le_refl _ | (simp; done) | (simp; omega)) _ | with_reducible refine Below.alloc ?_ (by first | exact Nat.le_refl _ | (simp; done) | (simp; omega)) _ | with_reducible refine Below.setCell ?_ (by first | exact Nat.le_refl _ | (simp; done) | (simp; omega)) _)))⟩ ?_
      rintro w5 ⟨h1, h2, hX5⟩
      have HX5 := Lib.hid hX5
      clear hX5 H1 H2 ca fa la cb fb lb cc fc lc
      obtain ⟨-, p1, cap1, rfl, hcap1, g1⟩ := h1
      obtain ⟨-, p2, cap2, rfl, hcap2, g2⟩ := h2
      rw [List.length_map] at hcap2 ⊢
      go_wp2
      go_loopw [13] (fun i wr => ∃ (k : Nat) (X : Xt), k ≤ L.length ∧ i = .int .i64 k ∧ wr = w5.ext X)
        (fun i _ => L.length - (intOf i).toNat)
      case atStart => exact ⟨0, _, by omega, rfl, ext_self _⟩
      case round =>
        obtain ⟨k, X, hk, rfl, rfl⟩ := hrel
        by_cases hlt : k < L.length
        · rcases g1 with rfl | ⟨q1, o1, rfl, hb1, hc1⟩
          · simp at hlt
          rcases g2 with g2 | ⟨q2, o2, rfl, hb2, hc2⟩
          · simp at g2; subst g2; simp at hlt
          have hb1' : q1 ≤ w5.heap.size := by omega
          have hb2' : q2 ≤ w5.heap.size := by omega
          have hf : L[k]? = some L[k] := by simp [hlt]
          have hf2 : (L.map (St.move c0 c1))[k]? = some (L[k].move c0 c1) := by rw [List.getElem?_map, hf]; rfl
          have hs := HB.out L[k] (by simp)
          unfold hasP rightP at hs
          have f0 := hc1 k L[k] hf 0 _ rfl
          have f1 := hc1 k L[k] hf 1 _ rfl
          have f2 := hc1 k L[k] hf 2 _ rfl
          have h0 := hc2 k _ hf2 0 _ rfl
          have h1 := hc2 k _ hf2 1 _ rfl
          have h2 := hc2 k _ hf2 2 _ rfl
          unfold St.move at h0 h1 h2
          have hp : k = 0 ∨ ∃ j, k = j + 1 := by cases k; exact Or.inl rfl; exact Or.inr ⟨_, rfl⟩
          rcases hp with rfl | ⟨j, rfl⟩
          · generalize L[0] = s at *
            obtain ⟨s1, s2, s3, s4, s5⟩ := hs
            simp only [Nat.add_zero] at f0 h0
            have z1 : (s.X + c0 != s.X + c0) = false := by simp
            have z2 : (s.Y + c1 != s.Y + c1) = false := by simp
            have z3 : (s.K != s.K) = false := by simp
            clear hc1 hc2 hf hf2 s1
            go_wp2
            refine wp_region_ext (by kernel_rfl) (by kernel_rfl) ?_
            repeat (go_big_quiet_step ((fail)))
            refine wpQuiet_nil ?_
            intro _ hw_ext
            obtain ⟨Y, hw_ext⟩ := hw_ext
            subst hw_ext
            go_wp2
            go_roundw
            case rel => exact ⟨0 + 1, _, by omega, by go_num, World.ext_ext⟩
            case measure => simp [intOf]; omega
          · have hj : j < L.length := by omega
            have hfj : L[j]? = some L[j] := by simp [hj]
            have e0 := hc1 j L[j] hfj 0 _ rfl
            have hr : L[j].K < L[j + 1].K := List.pairwise_iff_getElem.1 HR.out j (j + 1) hj hlt (by omega)
            generalize L[j + 1] = s at *
            generalize L[j] = t at *
            obtain ⟨s1, s2, s3, s4, s5⟩ := hs
            simp only [Nat.add_zero] at f0 h0 e0
            have z1 : (s.X + c0 != s.X + c0) = false := by simp
            have z2 : (s.Y + c1 != s.Y + c1) = false := by simp
            have z3 : (s.K != s.K) = false := by simp
            have z4 : decide (s.K ≤ t.K) = false := by simp; omega
            clear hc1 hc2 hf hf2 hfj s1
            go_wp2
            refine wp_region_ext (by kernel_rfl) (by kernel_rfl) ?_
            repeat (go_big_quiet_step ((fail)))
            refine wpQuiet_nil ?_
            intro _ hw_ext
            obtain ⟨Y, hw_ext⟩ := hw_ext
            subst hw_ext
            go_wp2
            go_roundw
            case rel => exact ⟨j + 1 + 1, _, by omega, by go_num, World.ext_ext⟩
            case measure => simp [intOf]; omega
        · go_wp2_with (first | (go_at_call 38; (with_reducible refine (awake_any _).mono ?_); rintro _ _ ⟨rfl, X_, rfl⟩))
          go_ret
          obtain ⟨X6, hX6⟩ := HX5.out
          obtain ⟨X7, hX7⟩ := HX.out
          subst hX6
          subst hX7
          exact Ret.of' rfl (by (repeat (first | exact Below.refl _ _ | with_reducible refine Below.drew ?_ | with_reducible refine Below.ext ?_ (by first | exact Nat.le_refl _ | (simp; done) | (simp; omega)) _ | with_reducible refine Below.alloc ?_ (by first | exact Nat.le_refl _ | (simp; done) | (simp; omega)) _ | with_reducible refine Below.setCell ?_ (by first | exact Nat.le_refl _ | (simp; done) | (simp; omega)) _)))
    · clear hbad
      go_wp2_with (first | (go_at_call 38; (with_reducible refine (awake_any _).mono ?_); rintro _ _ ⟨rfl, X_, rfl⟩))
      go_ret
      obtain ⟨X, hX⟩ := HX.out
      subst hX
      exact Ret.of' rfl (by (repeat (first | exact Below.refl _ _ | with_reducible refine Below.drew ?_ | with_reducible refine Below.ext ?_ (by first | exact Nat.le_refl _ | (simp; done) | (simp; omega)) _ | with_reducible refine Below.alloc ?_ (by first | exact Nat.le_refl _ | (simp; done) | (simp; omega)) _ | with_reducible refine Below.setCell ?_ (by first | exact Nat.le_refl _ | (simp; done) | (simp; omega)) _)))
theorem WalkMoves_holds : Rows.WalkMovesSaid := WalkMoves_end WalkMoves_true
end Go.Proofs.Ytmlhbbkgfffmcaa
