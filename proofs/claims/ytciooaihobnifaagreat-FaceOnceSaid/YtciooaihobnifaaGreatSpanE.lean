/- The walk of the reference of layer 21: a triangle's fragments in a rectangle; the same fragments (layer 17). Conditions: bounds of places; the rectangle is small. -/
import Derived.Test.YtciooaihobnifaaGreatSame
import Derived.Test.YtciooaihobnifaaGreatSpanC
import Derived.Test.YtciooaihobnifaaGreatSlopeP
namespace Go.Proofs.YtciooaihobnifaaGreat
set_option linter.unusedVariables false
set_option linter.unusedSimpArgs false
open Go.RowKit
/-- The fragments up to a row. -/
def fiTo (a b c : WinP) (o x0 x1 y0 y : Int) : List FrP := fillTo a b c o (spTo a b c x0 x1 y0 y)
theorem fiTo_start (a b c : WinP) (o x0 x1 y0 : Int) : fiTo a b c o x0 x1 y0 y0 = [] := by
  unfold fiTo; rw [spTo_start]; rfl
theorem fiTo_snoc (a b c : WinP) (o x0 x1 y0 y : Int) (h : y0 ≤ y) : fiTo a b c o x0 x1 y0 (y + 1) = fiTo a b c o x0 x1 y0 y ++ rowP a b c o y (rowAt a b c x0 x1 y).1 (rowAt a b c x0 x1 y).2 x1 := by
  unfold fiTo
  rw [spTo_snoc _ _ _ _ _ _ _ h, fillTo_append, rowP_end _ _ _ _ _ _ _ _ fun k => (rowAt_in a b c x0 x1 y k).2]
theorem fiTo_len (a b c : WinP) (o x0 x1 y0 y : Int) (hx : x0 ≤ x1) : (fiTo a b c o x0 x1 y0 y).length ≤ (x1 - x0).toNat * (y - y0).toNat := by
  unfold fiTo spTo
  split
  · show ([] : List FrP).length ≤ _; simp
  · next h => exact fillTo_len a b c o x0 x1 y0 y h hx
theorem fiTo_len2 (a b c : WinP) (o x0 x1 y0 y1 y x : Int) (hx : x0 ≤ x1) (h0 : y0 ≤ y) (h1 : y < y1) : (fiTo a b c o x0 x1 y0 y ++ rowP a b c o y (rowAt a b c x0 x1 y).1 (rowAt a b c x0 x1 y).2 x).length ≤ (x1 - x0).toNat * (y1 - y0).toNat := by
  have k1 := fiTo_len a b c o x0 x1 y0 y hx
  have k2 := rowP_len a b c o y (rowAt a b c x0 x1 y).1 (rowAt a b c x0 x1 y).2 x0 x1 x (rowAt_in a b c x0 x1 y)
  have k3 : (x1 - x0).toNat * ((y - y0).toNat + 1) ≤ (x1 - x0).toNat * (y1 - y0).toNat := Nat.mul_le_mul_left _ (by omega)
  rw [Nat.mul_succ] at k3
  rw [List.length_append]; omega
theorem fillL_any (a b c : WinP) (o x0 y0 x1 y1 : Int) (hr : rightP x0 y0 x1 y1) : fillL a b c o x0 y0 x1 y1 = fiTo a b c o x0 x1 y0 y1 := by
  unfold fillL fiTo spTo; rw [spansL_any a b c x0 y0 x1 y1 hr]
theorem rfill_no (a b c : WinP) (o x0 y0 x1 y1 : Int) (hr : ¬ rightP x0 y0 x1 y1) (w : World) : Calls Tryz.prog 58 #[a.v, b.v, c.v, .int .i64 o, R4 x0 y0 x1 y1] w (RLists frK w (fillL a b c o x0 y0 x1 y1)) := by
  have e : fillL a b c o x0 y0 x1 y1 = [] := by unfold fillL spansL; rw [if_pos (.inr hr)]; rfl
  rw [e]
  have HR := Lib.hid (fun w => decide_eq_false hr ▸ rrect_right x0 y0 x1 y1 w)
  clear hr e
  go_enter Tryz.func58, Tryz.ntmps58
  go_wp2_with (first | (go_at_call 29; (with_reducible refine (HR.out _).mono ?_); rintro _ _ ⟨rfl, X_, rfl⟩))
  go_ret
  exact ⟨_, rfl, recs_nil _, RowKit.Below.toExt (by (repeat (first | exact Below.refl _ _ | with_reducible refine Below.drew ?_ | with_reducible refine Below.ext ?_ (by first | exact Nat.le_refl _ | (simp; done) | (simp; omega)) _ | with_reducible refine Below.alloc ?_ (by first | exact Nat.le_refl _ | (simp; done) | (simp; omega)) _ | with_reducible refine Below.setCell ?_ (by first | exact Nat.le_refl _ | (simp; done) | (simp; omega)) _)))⟩
set_option maxRecDepth 100000 in
set_option maxHeartbeats 8000000 in
theorem rfill_in (a b c : WinP) (o x0 y0 x1 y1 : Int) (ha : a.fits) (hb : b.fits) (hc : c.fits) (o0 : -33554432 ≤ o) (o1 : o ≤ 33554432) (hr : rightP x0 y0 x1 y1) (har : (x1 - x0).toNat * (y1 - y0).toNat ≤ 1048576) (w : World) :
    Calls Tryz.prog 58 #[a.v, b.v, c.v, .int .i64 o, R4 x0 y0 x1 y1] w (RLists frK w (fillL a b c o x0 y0 x1 y1)) := by
  rw [fillL_any a b c o x0 y0 x1 y1 hr]
  have HR := Lib.hid (fun w => decide_eq_true hr ▸ rrect_right x0 y0 x1 y1 w)
  obtain ⟨⟨r0, r1⟩, ⟨r2, r3⟩, ⟨r4, r5⟩, ⟨r6, r7⟩, rx, ry⟩ := hr
  have HA := Lib.hid (fun x y (hx : Near x y) w => rhas20_any a b c x y ha hb hc hx w)
  have HAT := Lib.hid (fun x y (hx : Near x y) (h : triHas a b c x y) w => rat21_has ha hb hc hx h w)
  have HZ := Lib.hid (fun x y (h : triHas a b c x y) => atV_z ha hb hc h)
  have HI := Lib.hid (fun x y h0 h1 => rowAt_iff a b c (x0 := x0) (x1 := x1) (x := x) (y := y) h0 h1)
  have HIN := Lib.hid (fun y hl => rowAt_in a b c x0 x1 y hl)
  have HSN := Lib.hid (fun y h => fiTo_snoc a b c o x0 x1 y0 y h)
  have HST := Lib.hid (fiTo_start a b c o x0 x1 y0)
  have HSL := Lib.hid (fun y => Nat.le_trans (fiTo_len a b c o x0 x1 y0 y (by omega)) (Nat.le_refl _))
  have HSL2 := Lib.hid (fun y x h0 h1 => Nat.le_trans (fiTo_len2 a b c o x0 x1 y0 y1 y x (by omega) h0 h1) har)
  have HAR := Lib.hid har
  obtain ⟨T, hT⟩ : ∃ T, T = fiTo a b c o x0 x1 y0 := ⟨_, rfl⟩
  obtain ⟨D, hD⟩ : ∃ D, D = rowAt a b c x0 x1 := ⟨_, rfl⟩
  simp only [← hT, ← hD] at *
  clear hT hD ha hb hc har
  go_enter Tryz.func58, Tryz.ntmps58
  go_upto_region 3 with (first | (go_at_call 29; (with_reducible refine (HR.out _).mono ?_); rintro _ _ ⟨rfl, X_, rfl⟩))
  refine wp_abs (F := BxH frK 57 w a b c x0 y0 x1 y1 (.slice none 0 0) []) (Hold.start (List.forall_mem_cons.2 ⟨by (repeat (first | assumption | with_reducible refine Row.ext ?_ _ | with_reducible refine row_drew ?_ | (with_reducible refine row_last ?_; first | rfl | (simp; done)) | with_reducible refine Row.alloc ?_ _)), List.forall_mem_cons.2 ⟨by (repeat (first | assumption | with_reducible refine Row.ext ?_ _ | with_reducible refine row_drew ?_ | (with_reducible refine row_last ?_; first | rfl | (simp; done)) | with_reducible refine Row.alloc ?_ _)), List.forall_mem_cons.2 ⟨by (repeat (first | assumption | with_reducible refine Row.ext ?_ _ | with_reducible refine row_drew ?_ | (with_reducible refine row_last ?_; first | rfl | (simp; done)) | with_reducible refine Row.alloc ?_ _)), List.forall_mem_cons.2 ⟨by (repeat (first | assumption | with_reducible refine Row.ext ?_ _ | with_reducible refine row_drew ?_ | (with_reducible refine row_last ?_; first | rfl | (simp; done)) | with_reducible refine Row.alloc ?_ _)), by simp⟩⟩⟩⟩) (by simp) (RowKit.Below.toExt (by (repeat (first | exact Below.refl _ _ | with_reducible refine Below.drew ?_ | with_reducible refine Below.ext ?_ (by first | exact Nat.le_refl _ | (simp; done) | (simp; omega)) _ | with_reducible refine Below.alloc ?_ (by first | exact Nat.le_refl _ | (simp; done) | (simp; omega)) _ | with_reducible refine Below.setCell ?_ (by first | exact Nat.le_refl _ | (simp; done) | (simp; omega)) _))))) ?_
  intro w1 h1
  have H1 := Lib.hid h1
  clear h1
  obtain ⟨i0, hii, hz0, hz1, hz2⟩ := info_parts info_fr
  have d0 := H1.out.rows _ (List.mem_cons_of_mem _ (List.mem_cons_of_mem _ (List.mem_cons_of_mem _ (List.mem_cons_self ..))))
  simp only at d0
  have d1 := d0.cell
  have d2 := d0.frozen
  have d3 := d0.lt
  clear d0
  go_wp2
  clear d1 d2 d3
  go_loopw [12, 11] (fun i u wr => ∃ (y : Int) (v : Value) (L : List FrP), y0 ≤ y ∧ y ≤ y1 ∧ i = .int .i64 y ∧ u = v ∧ Hid (L = T y) ∧ Hid (BxH frK 57 w a b c x0 y0 x1 y1 v L wr))
    (fun i _ _ => (y1 - intOf i).toNat)
  case atStart => exact ⟨y0, _, [], by omega, by omega, rfl, rfl, Lib.hid HST.out.symm, H1⟩
  case round =>
    clear H1
    obtain ⟨y, v, L, hy0, hy1, rfl, hv, hL, hR⟩ := hrel
    have hv := hv.symm
    subst hv
    have d0 := hR.out.rows _ (List.mem_cons_of_mem _ (List.mem_cons_of_mem _ (List.mem_cons_of_mem _ (List.mem_cons_self ..))))
    simp only at d0
    have d1 := d0.cell
    have d2 := d0.frozen
    have d3 := d0.lt
    clear d0
    by_cases hlt : y < y1
    · go_wp2
      have SQ := Lib.hid (HSN.out y (by omega))
      have DI := Lib.hid (HIN.out y)
      have LE := Lib.hid (fun x => HSL2.out y x (by omega) hlt)
      obtain ⟨F, hF⟩ : ∃ F, (D y).1 = F := ⟨_, rfl⟩
      obtain ⟨G, hG⟩ : ∃ F, (D y).2 = F := ⟨_, rfl⟩
      have FI := Lib.hid (fun x h0 h1 => HI.out x y h0 h1)
      simp only [hF, hG] at SQ DI FI LE
      clear hF hG d1 d2 d3
      have HP := Lib.hid (show L = T y ++ rowP a b c o y F G x0 by rw [rowP_start _ _ _ _ _ _ _ _ (fun h => (DI.out h).1), List.append_nil]; exact hL.out)
      go_loopw [13, 11] (fun i u wr => ∃ (x : Int) (v : Value) (L : List FrP), x0 ≤ x ∧ x ≤ x1 ∧ i = .int .i64 x ∧ u = v ∧ Hid (L = T y ++ rowP a b c o y F G x) ∧ Hid (BxH frK 57 w a b c x0 y0 x1 y1 v L wr))
        (fun i _ _ => (x1 - intOf i).toNat)
      case atStart => exact ⟨x0, v, L, by omega, by omega, rfl, rfl, HP, hR⟩
      case round =>
        clear hR hL HP
        obtain ⟨x, v, L, hx0, hx1, rfl, hv, hL, hR⟩ := hrel
        have hv := hv.symm
        subst hv
        have a0 := hR.out.rows _ (List.mem_cons_self ..)
        simp only at a0
        have a1 := a0.cell
        have a2 := a0.frozen
        have a3 := a0.lt
        clear a0
        have b0 := hR.out.rows _ (List.mem_cons_of_mem _ (List.mem_cons_self ..))
        simp only at b0
        have b1 := b0.cell
        have b2 := b0.frozen
        have b3 := b0.lt
        clear b0
        have c0 := hR.out.rows _ (List.mem_cons_of_mem _ (List.mem_cons_of_mem _ (List.mem_cons_self ..)))
        simp only at c0
        have c1 := c0.cell
        have c2 := c0.frozen
        have c3 := c0.lt
        clear c0
        have d0 := hR.out.rows _ (List.mem_cons_of_mem _ (List.mem_cons_of_mem _ (List.mem_cons_of_mem _ (List.mem_cons_self ..))))
        simp only at d0
        have d1 := d0.cell
        have d2 := d0.frozen
        have d3 := d0.lt
        clear d0
        by_cases hl2 : x < x1
        · obtain ⟨t, ht⟩ : ∃ t, decide (triHas a b c x y) = t := ⟨_, rfl⟩
          have HA1 := Lib.hid (fun w => ht ▸ HA.out x y ⟨by omega, by omega, by omega, by omega⟩ w)
          have fi := FI.out x (by omega) hl2
          have HFI := Lib.hid fi
          have HT := Lib.hid ht
          clear fi ht
          cases t
          · have P2 := Lib.hid (show L = T y ++ rowP a b c o y F G (x + 1) by rw [rowP_no _ _ _ _ _ _ _ _ (fun k => of_decide_eq_false HT.out (HFI.out.2 k))]; exact hL.out)
            go_wp2_with (first | (go_at_call 32; (with_reducible refine (HA1.out _).mono ?_); rintro _ _ ⟨rfl, X_, rfl⟩))
            go_roundw
            case rel => exact ⟨x + 1, _, L, by omega, by omega, rfl, rfl, P2, Lib.hid (hR.out.grow _)⟩
            case measure => simp [intOf]; omega
          · have hth := of_decide_eq_true HT.out
            have hk := HFI.out.1 hth
            have A0 := HAT.out x y ⟨by omega, by omega, by omega, by omega⟩ hth
            simp only [atP] at A0
            have P2 := Lib.hid (show T y ++ rowP a b c o y F G (x + 1) = L ++ [frAt a b c o x y] by rw [rowP_yes _ _ _ _ _ _ _ _ hk, ← List.append_assoc, ← hL.out])
            obtain ⟨zb0, zb1⟩ := HZ.out x y hth
            have P3 := Lib.hid (show frAt a b c o x y = ⟨x, y, max 0 (min (atV a b c x y (·.z) + o) 16777215), atV a b c x y (·.c0), atV a b c x y (·.c1), atV a b c x y (·.c2), atV a b c x y (·.c3), 64⟩ from rfl)
            generalize atV a b c x y (·.z) = zz at *
            generalize atV a b c x y (·.c0) = g0 at *
            generalize atV a b c x y (·.c1) = g1 at *
            generalize atV a b c x y (·.c2) = g2 at *
            generalize atV a b c x y (·.c3) = g3 at *
            have A1 := Lib.hid A0
            clear A0
            have le := LE.out x
            rw [← hL.out] at le
            have LB1 := Lib.hid (show L.length + 1 ≤ maxLen by unfold maxLen; omega)
            have LB2 := Lib.hid (show (L.length + 1) * 64 ≤ 140737488355328 by omega)
            clear hth hk le
            go_upto_region 12 with (first
              | (go_at_call 32; (with_reducible refine (HA1.out _).mono ?_); rintro _ _ ⟨rfl, XH, rfl⟩)
              | (go_at_call 100; (with_reducible refine (A1.out _).mono ?_); rintro _ _ ⟨rfl, XT, rfl⟩))
            refine wp_abs (F := fun w5 => ∃ B, B = wr.heap.size + XH.sz + XT.sz ∧ Row w5 B #[.int .i64 g0, .int .i64 g1, .int .i64 g2, .int .i64 g3] 39 ∧ BxH frK 57 w a b c x0 y0 x1 y1 v L w5) ⟨_, rfl, by (repeat (first | assumption | with_reducible refine Row.ext ?_ _ | with_reducible refine row_drew ?_ | (with_reducible refine row_last ?_; first | rfl | (simp; done)) | with_reducible refine Row.alloc ?_ _)), hR.out.grown (by (repeat (first | exact Below.refl _ _ | with_reducible refine Below.drew ?_ | with_reducible refine Below.ext ?_ (by first | exact Nat.le_refl _ | (simp; done) | (simp; omega)) _ | with_reducible refine Below.alloc ?_ (by first | exact Nat.le_refl _ | (simp; done) | (simp; omega)) _ | with_reducible refine Below.setCell ?_ (by first | exact Nat.le_refl _ | (simp; done) | (simp; omega)) _)))⟩ ?_
            rintro w5 ⟨B, hB, hs, h2⟩
            rw [← hB]
            have hR2 := Lib.hid h2
            have e1 := hs.cell
            have e2 := hs.frozen
            have e3 := hs.lt
            have hsz := hR2.out.size
            clear hB hs h2 hR a1 a2 a3 b1 b2 b3 c1 c2 c3 d1 d2 d3
            go_wp2_with (first
              | (at_builtin; refine wpList_append_own _ rfl _ _ 36 rfl w.heap.size 57 i0 (.agg #[.int .i64 0, .int .i64 0, .int .i64 0, .int .i64 0, .int .i64 0, .int .i64 0, .int .i64 0, .int .i64 0]) 8 64 Tryz.underlying36 hii hz0 hz1 hz2 rfl (by decide) v L.length (L.flatMap FrP.cells) rfl (hR2.out.own.alloc _) ⟨w5.heap.size, 0, none⟩ 1 1 (FrP.cells ⟨x, y, max 0 (min (zz + o) 16777215), g0, g1, g2, g3, 64⟩) rfl rfl (cells_newR rfl _ _) (frK.one ⟨x, y, max 0 (min (zz + o) 16777215), g0, g1, g2, g3, 64⟩) LB1.out LB2.out (by simp; omega) ?_; intro v' w6 hown hgrow _; have h5 := hR2.out.snoc (s := ⟨x, y, max 0 (min (zz + o) 16777215), g0, g1, g2, g3, 64⟩) hown hgrow; have H5 := Lib.hid h5; clear hown hgrow h5))
            go_roundw
            case rel => exact ⟨x + 1, _, L ++ [⟨x, y, max 0 (min (zz + o) 16777215), g0, g1, g2, g3, 64⟩], by omega, by omega, rfl, rfl, Lib.hid (by rw [P2.out, P3.out]), H5⟩
            case measure => simp [intOf]; omega
        · obtain rfl : x = x1 := by omega
          have P2 := Lib.hid (show L = T (y + 1) by rw [SQ.out]; exact hL.out)
          go_wp2
          go_roundw
          case rel => exact ⟨y + 1, _, L, by omega, by omega, rfl, rfl, P2, hR⟩
          case measure => simp [intOf]; omega
    · obtain rfl : y = y1 := by omega
      go_wp2
      go_ret
      refine ⟨_, rfl, ?_, hR.out.ext⟩
      rw [← hL.out]
      exact own_recs hR.out.own (by rw [hL.out]; have := HSL.out y; have := HAR.out; omega)
theorem spans_any (a b c : WinP) (x0 y0 x1 y1 : Int) (ha : a.fits) (hb : b.fits) (hc : c.fits) (w : World) : Calls Tryz.prog 153 #[a.v, b.v, c.v, R4 x0 y0 x1 y1] w (RLists spK w (spansL a b c x0 y0 x1 y1)) := by
  by_cases h : ar a b c = 0
  · exact spans_no0 a b c x0 y0 x1 y1 ha hb hc h w
  · by_cases hr : rightP x0 y0 x1 y1
    · exact spans_in a b c x0 y0 x1 y1 ha hb hc h hr w
    · exact spans_noR a b c x0 y0 x1 y1 ha hb hc h hr w
end Go.Proofs.YtciooaihobnifaaGreat
