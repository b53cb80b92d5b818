/- Parts of the proof of FaceLines, laid together. Conditions: at each. -/
import Derived.Test.YtbkmgngeahmefaaGreatSFaceLines23
import Derived.Test.YtbkmgngeahmefaaGreatSFaceLines30
import Derived.Test.YtbkmgngeahmefaaGreatSFaceLines42
set_option linter.unusedVariables false
set_option linter.unusedSimpArgs false
section
namespace Go.Proofs.YtbkmgngeahmefaaGreat
open Go.RowKit
theorem line_any (a b : WinP) (n x0 y0 x1 y1 : Int) (ha : a.wide) (hb : b.wide) (har : areaP x0 y0 x1 y1 ≤ 1048576) (w : World) : Calls Tryz.prog 56 #[a.v, b.v, .int .i64 n, R4 x0 y0 x1 y1] w (RLists frK w (smL4 a b n x0 y0 x1 y1)) := by
  by_cases h : smoP a b n
  · by_cases hr : rightP x0 y0 x1 y1
    · by_cases hne : a.x = b.x ∧ a.y = b.y
      · exact line_alike a b n x0 y0 x1 y1 ha hb h hr hne.1 hne.2 w
      · exact line_in a b n x0 y0 x1 y1 ha hb h hr hne (area_nat hr har) w
    · exact line_noR a b n x0 y0 x1 y1 ha hb h hr w
  · exact line_no a b n x0 y0 x1 y1 ha hb h w
end Go.Proofs.YtbkmgngeahmefaaGreat
end
section
namespace Go.Proofs.YtbkmgngeahmefaaGreat
open Go.RowKit
theorem rsline_no (a b : WinP) (n x0 y0 x1 y1 : Int) (h : ¬ smoP a b n) (w : World) : Calls Tryz.prog 58 #[a.v, b.v, .int .i64 n, R4 x0 y0 x1 y1] w (RLists frK w (smL4 a b n x0 y0 x1 y1)) := by
  rw [show smL4 a b n x0 y0 x1 y1 = [] from if_neg (fun k => h k.1)]
  have R := Lib.hid (fun w => decide_eq_false h ▸ rsmooth_right a b n w)
  clear h
  go_enter Tryz.func58, Tryz.ntmps58
  go_wp2_with (first | (go_at_call 117; (with_reducible refine (R.out _).mono ?_); rintro _ _ ⟨rfl, X_, rfl⟩))
  go_ret
  exact ⟨_, rfl, recs_nil _, RowKit.Below.toExt (by exact bl_)⟩
theorem rsline_noR (a b : WinP) (n x0 y0 x1 y1 : Int) (h : smoP a b n) (hr : ¬ rightP x0 y0 x1 y1) (w : World) : Calls Tryz.prog 58 #[a.v, b.v, .int .i64 n, R4 x0 y0 x1 y1] w (RLists frK w (smL4 a b n x0 y0 x1 y1)) := by
  rw [show smL4 a b n x0 y0 x1 y1 = [] from if_neg (fun k => hr k.2)]
  have R := Lib.hid (fun w => decide_eq_true h ▸ rsmooth_right a b n w)
  have RR := Lib.hid (fun w => decide_eq_false hr ▸ rrect_right x0 y0 x1 y1 w)
  clear h hr
  go_enter Tryz.func58, Tryz.ntmps58
  go_wp2_with (first | (go_at_call 117; (with_reducible refine (R.out _).mono ?_); rintro _ _ ⟨rfl, X_, rfl⟩) | (go_at_call 41; (with_reducible refine (RR.out _).mono ?_); rintro _ _ ⟨rfl, X_, rfl⟩))
  go_ret
  exact ⟨_, rfl, recs_nil _, RowKit.Below.toExt (by exact bl_)⟩
abbrev SlH (w : World) (a b : WinP) (x0 y0 x1 y1 : Int) (v : Value) (L : List FrP) (wr : World) : Prop := Hold frK w wr 76 [(w.heap.size, #[.int .i64 a.x, .int .i64 a.y, .int .i64 a.z, .int .i64 a.c0, .int .i64 a.c1, .int .i64 a.c2, .int .i64 a.c3], 41), (w.heap.size + 1, #[.int .i64 b.x, .int .i64 b.y, .int .i64 b.z, .int .i64 b.c0, .int .i64 b.c1, .int .i64 b.c2, .int .i64 b.c3], 41), (w.heap.size + 1 + 1, #[.int .i64 x0, .int .i64 y0, .int .i64 x1, .int .i64 y1], 29)] v L
set_option maxRecDepth 100000 in
set_option maxHeartbeats 8000000 in
theorem rsline_in (a b : WinP) (n x0 y0 x1 y1 : Int) (h : smoP a b n) (hr : rightP x0 y0 x1 y1) (har : (x1 - x0).toNat * (y1 - y0).toNat ≤ 1048576) (w : World) : Calls Tryz.prog 58 #[a.v, b.v, .int .i64 n, R4 x0 y0 x1 y1] w (RLists frK w (smL4 a b n x0 y0 x1 y1)) := by
  rw [show smL4 a b n x0 y0 x1 y1 = smTo a b n (smV a b) x0 x1 y0 y1 from if_pos ⟨h, hr⟩]
  have R := Lib.hid (fun w => decide_eq_true h ▸ rsmooth_right a b n w)
  have RR := Lib.hid (fun w => decide_eq_true hr ▸ rrect_right x0 y0 x1 y1 w)
  obtain ⟨⟨fa, fb⟩, hn⟩ := fitsP_f h
  obtain ⟨⟨r0, r1⟩, ⟨r2, r3⟩, ⟨r4, r5⟩, ⟨r6, r7⟩, rx, ry⟩ := hr
  have CV := Lib.hid (fun x y q0 q1 q2 q3 w => (show cover a b n x y = (covN a b n x y : Int) from if_pos h) ▸ rscover_any a b n x y q0 q1 q2 q3 w)
  have AC := Lib.hid (fun x y (hx : Near x y) w => racross_any a b x y fa fb hx w)
  have HAR := Lib.hid har
  clear h fa fb hn har
  go_enter Tryz.func58, Tryz.ntmps58
  go_upto_region 3 with (first | (go_at_call 117; (with_reducible refine (R.out _).mono ?_); rintro _ _ ⟨rfl, X_, rfl⟩) | (go_at_call 41; (with_reducible refine (RR.out _).mono ?_); rintro _ _ ⟨rfl, X_, rfl⟩))
  refine wp_abs (F := SlH w a b x0 y0 x1 y1 (.slice none 0 0) []) (Hold.start (List.forall_mem_cons.2 ⟨by exact rx_, List.forall_mem_cons.2 ⟨by exact rx_, List.forall_mem_cons.2 ⟨by exact rx_, by simp⟩⟩⟩) (by simp) (RowKit.Below.toExt (by exact bl_))) ?_
  intro w1 h1
  have H1 := Lib.hid h1
  clear h1
  obtain ⟨i0, hii, hi0, hi1, hi2⟩ := info_parts info_fr
  have d0 := H1.out.rows _ (List.mem_cons_of_mem _ (List.mem_cons_of_mem _ (List.mem_cons_self ..)))
  simp only at d0
  have d1 := d0.cell
  have d2 := d0.frozen
  have d3 := d0.lt
  clear d0
  go_wp2
  clear d1 d2 d3
  go_loopw [10, 9] (fun i u wr => ∃ (y : Int) (v : Value) (L : List FrP), y0 ≤ y ∧ y ≤ y1 ∧ i = .int .i64 y ∧ u = v ∧ Hid (L = smTo a b n (smV a b) x0 x1 y0 y) ∧ Hid (SlH w a b x0 y0 x1 y1 v L wr))
    (fun i _ _ => (y1 - intOf i).toNat)
  case atStart => exact ⟨y0, _, [], by omega, by omega, rfl, rfl, Lib.hid (smTo_start a b n _ x0 x1 y0 y0 fun z k0 k1 => by omega).symm, H1⟩
  case round =>
    clear H1
    obtain ⟨y, v, L, hy0, hy1, rfl, hv, hL, hR⟩ := hrel
    have hv := hv.symm
    subst hv
    have d0 := hR.out.rows _ (List.mem_cons_of_mem _ (List.mem_cons_of_mem _ (List.mem_cons_self ..)))
    simp only at d0
    have d1 := d0.cell
    have d2 := d0.frozen
    have d3 := d0.lt
    clear d0
    by_cases hlt : y < y1
    · go_wp2
      have HP := Lib.hid (show L = smTo a b n (smV a b) x0 x1 y0 y ++ smRowL a b n (smV a b) x0 x0 y by rw [smRowL_start a b n _ x0 x0 y fun z k0 k1 => by omega, List.append_nil]; exact hL.out)
      clear d1 d2 d3
      go_loopw [11, 9] (fun i u wr => ∃ (x : Int) (v : Value) (L : List FrP), x0 ≤ x ∧ x ≤ x1 ∧ i = .int .i64 x ∧ u = v ∧ Hid (L = smTo a b n (smV a b) x0 x1 y0 y ++ smRowL a b n (smV a b) x0 x y) ∧ Hid (SlH w a b x0 y0 x1 y1 v L wr))
        (fun i _ _ => (x1 - intOf i).toNat)
      case atStart => exact ⟨x0, v, L, by omega, by omega, rfl, rfl, HP, hR⟩
      case round =>
        clear hR hL HP
        obtain ⟨x, v, L, hx0, hx1, rfl, hv, hL, hR⟩ := hrel
        have hv := hv.symm
        subst hv
        have p0 := hR.out.rows _ (List.mem_cons_self ..)
        simp only at p0
        have p1 := p0.cell
        have p2 := p0.frozen
        have p3 := p0.lt
        clear p0
        have q0 := hR.out.rows _ (List.mem_cons_of_mem _ (List.mem_cons_self ..))
        simp only at q0
        have q1 := q0.cell
        have q2 := q0.frozen
        have q3 := q0.lt
        clear q0
        have d0 := hR.out.rows _ (List.mem_cons_of_mem _ (List.mem_cons_of_mem _ (List.mem_cons_self ..)))
        simp only at d0
        have d1 := d0.cell
        have d2 := d0.frozen
        have d3 := d0.lt
        clear d0
        by_cases hl2 : x < x1
        · have V0 := CV.out x y (by omega) (by omega) (by omega) (by omega)
          obtain ⟨cv, hcv⟩ : ∃ c, covN a b n x y = c := ⟨_, rfl⟩
          have cb : cv ≤ 64 := by rw [← hcv]; exact covN_le a b n _ y
          rw [hcv] at V0
          have V1 := Lib.hid V0
          have HCV := Lib.hid hcv
          clear hcv V0
          by_cases hc : cv = 0
          · have P2 := Lib.hid (show L = smTo a b n (smV a b) x0 x1 y0 y ++ smRowL a b n (smV a b) x0 (x + 1) y by rw [smRowL_no a b n _ x0 x y (by omega) (by rw [HCV.out]; exact hc)]; exact hL.out)
            have cz : ((cv : Int) == 0) = true := by simp; omega
            clear hc
            go_wp2_with (first | (go_at_call 118; (with_reducible refine (V1.out _).mono ?_); rintro _ _ ⟨rfl, X_, rfl⟩))
            go_roundw
            case rel => exact ⟨x + 1, _, L, by omega, by omega, rfl, rfl, P2, Lib.hid (hR.out.grow _)⟩
            case measure => simp [intOf]; omega
          · have ncz : ((cv : Int) == 0) = false := by simp; omega
            have le : L.length ≤ 1048576 := by
              have l1 := smTo_len a b n (smV a b) x0 x1 y0 y
              have l2 := smRowL_len a b n (smV a b) x0 x y
              have l3 : (x1 - x0).toNat * ((y - y0).toNat + 1) ≤ (x1 - x0).toNat * (y1 - y0).toNat := Nat.mul_le_mul_left _ (by omega)
              rw [Nat.mul_succ] at l3
              have := HAR.out
              rw [hL.out, List.length_append]; omega
            have LB1 := Lib.hid (show L.length + 1 ≤ maxLen by unfold maxLen; omega)
            have LB2 := Lib.hid (show (L.length + 1) * 64 ≤ 140737488355328 by omega)
            have A0 := AC.out x y ⟨by omega, by omega, by omega, by omega⟩
            have P3 : smFr a b n x y (smV a b) = ⟨x, y, mid a.z b.z (acN a b x y) (acD a b), mid a.c0 b.c0 (acN a b x y) (acD a b), mid a.c1 b.c1 (acN a b x y) (acD a b), mid a.c2 b.c2 (acN a b x y) (acD a b), mid a.c3 b.c3 (acN a b x y) (acD a b), (cv : Int)⟩ := by unfold smFr smV; rw [HCV.out]
            simp only [mixed] at A0
            obtain ⟨zz, h5⟩ : ∃ v, mid a.z b.z (acN a b x y) (acD a b) = v := ⟨_, rfl⟩
            obtain ⟨g0, h6⟩ : ∃ v, mid a.c0 b.c0 (acN a b x y) (acD a b) = v := ⟨_, rfl⟩
            obtain ⟨g1, h7⟩ : ∃ v, mid a.c1 b.c1 (acN a b x y) (acD a b) = v := ⟨_, rfl⟩
            obtain ⟨g2, h8⟩ : ∃ v, mid a.c2 b.c2 (acN a b x y) (acD a b) = v := ⟨_, rfl⟩
            obtain ⟨g3, h9⟩ : ∃ v, mid a.c3 b.c3 (acN a b x y) (acD a b) = v := ⟨_, rfl⟩
            rw [h5, h6, h7, h8, h9] at P3
            simp only [h5, h6, h7, h8, h9] at A0
            have A1 := Lib.hid A0
            have P2 := Lib.hid (show smTo a b n (smV a b) x0 x1 y0 y ++ smRowL a b n (smV a b) x0 (x + 1) y = L ++ [⟨x, y, zz, g0, g1, g2, g3, (cv : Int)⟩] by rw [smRowL_yes a b n _ x0 x y (by omega) (by rw [HCV.out]; exact hc), ← List.append_assoc, ← hL.out, P3])
            clear A0 P3 h5 h6 h7 h8 h9 le hc
            go_upto_region 13 with (first
              | (go_at_call 118; (with_reducible refine (V1.out _).mono ?_); rintro _ _ ⟨rfl, XH, rfl⟩)
              | (go_at_call 119; (with_reducible refine (A1.out _).mono ?_); rintro _ _ ⟨rfl, XT, rfl⟩))
            refine wp_abs (F := fun w5 => ∃ B, B = wr.heap.size + XH.sz + XT.sz ∧ Row w5 B #[.int .i64 g0, .int .i64 g1, .int .i64 g2, .int .i64 g3] 39 ∧ SlH w a b x0 y0 x1 y1 v L w5) ⟨_, rfl, by exact rx_, hR.out.grown (by exact bl_)⟩ ?_
            rintro w5 ⟨B, hB, hs, h2⟩
            rw [← hB]
            have hR2 := Lib.hid h2
            have e1 := hs.cell
            have e2 := hs.frozen
            have e3 := hs.lt
            have hsz := hR2.out.size
            clear hB hs h2 hR p1 p2 p3 q1 q2 q3 d1 d2 d3
            go_wp2_with (first
              | (at_builtin; refine wpList_append_own _ rfl _ _ 36 rfl w.heap.size 76 i0 (.agg #[.int .i64 0, .int .i64 0, .int .i64 0, .int .i64 0, .int .i64 0, .int .i64 0, .int .i64 0, .int .i64 0]) 8 64 Tryz.underlying36 hii hi0 hi1 hi2 rfl (by decide) v L.length (L.flatMap FrP.cells) rfl (hR2.out.own.alloc _) ⟨w5.heap.size, 0, none⟩ 1 1 (FrP.cells ⟨x, y, zz, g0, g1, g2, g3, (cv : Int)⟩) rfl rfl (cells_newR rfl _ _) (frK.one ⟨x, y, zz, g0, g1, g2, g3, (cv : Int)⟩) LB1.out LB2.out (by simp; omega) ?_; intro v' w6 hown hgrow _; have h5 := hR2.out.snoc (s := ⟨x, y, zz, g0, g1, g2, g3, (cv : Int)⟩) hown hgrow; have H5 := Lib.hid h5; clear hown hgrow h5))
            go_roundw
            case rel => exact ⟨x + 1, _, L ++ [⟨x, y, zz, g0, g1, g2, g3, (cv : Int)⟩], by omega, by omega, rfl, rfl, Lib.hid P2.out.symm, H5⟩
            case measure => simp [intOf]; omega
        · obtain rfl : x = x1 := by omega
          have P2 := Lib.hid (show L = smTo a b n (smV a b) x0 x y0 (y + 1) by rw [smTo_snoc a b n _ x0 x y0 y (by omega)]; exact hL.out)
          go_wp2
          go_roundw
          case rel => exact ⟨y + 1, _, L, by omega, by omega, rfl, rfl, P2, hR⟩
          case measure => simp [intOf]; omega
    · obtain rfl : y = y1 := by omega
      go_wp2
      go_ret
      refine ⟨_, rfl, ?_, hR.out.ext⟩
      rw [← hL.out]
      exact own_recs hR.out.own (by rw [hL.out]; have := smTo_len a b n (smV a b) x0 x1 y0 y; have := HAR.out; omega)
theorem rsline_any (a b : WinP) (n x0 y0 x1 y1 : Int) (har : areaP x0 y0 x1 y1 ≤ 1048576) (w : World) : Calls Tryz.prog 58 #[a.v, b.v, .int .i64 n, R4 x0 y0 x1 y1] w (RLists frK w (smL4 a b n x0 y0 x1 y1)) := by
  by_cases h : smoP a b n
  · by_cases hr : rightP x0 y0 x1 y1
    · exact rsline_in a b n x0 y0 x1 y1 h hr (area_nat hr har) w
    · exact rsline_noR a b n x0 y0 x1 y1 h hr w
  · exact rsline_no a b n x0 y0 x1 y1 h w
end Go.Proofs.YtbkmgngeahmefaaGreat
end
section
namespace Go.Proofs.YtbkmgngeahmefaaGreat
open Go.RowKit
def lnL (a b : WinP) (k : LookP) (c x0 y0 x1 y1 : Int) : List FrP := if k.soft then smL4 a b k.width x0 y0 x1 y1 else wdL a b k.width k.dashed k.p k.r c x0 y0 x1 y1
def lnC (a b : WinP) (k : LookP) (c : Int) : Int := if k.soft then c else wdC a b k.width k.dashed k.p k.r c
set_option maxRecDepth 100000 in
set_option maxHeartbeats 4000000 in
theorem face_line1 (a b : WinP) (k : LookP) (c x0 y0 x1 y1 : Int) (hs : k.soft = true) (ha : a.wide) (hb : b.wide) (har : areaP x0 y0 x1 y1 ≤ 1048576) (w : World) : Calls Tryz.prog 18 #[a.v, b.v, k.v, D3 k.p k.r c, R4 x0 y0 x1 y1] w (RLine w (smL4 a b k.width x0 y0 x1 y1) k.p k.r c) := by
  have SM := Lib.hid (fun w => line_any a b k.width x0 y0 x1 y1 ha hb har w)
  generalize smL4 a b k.width x0 y0 x1 y1 = L at *
  have HS := Lib.hid hs
  clear ha hb har hs
  go_enter Tryz.func18, Tryz.ntmps18
  go_upto_region 1 with fail
  rw [HS.out]
  refine wp_abs (F := fun w1 => Row w1 w.heap.size #[.int .i64 a.x, .int .i64 a.y, .int .i64 a.z, .int .i64 a.c0, .int .i64 a.c1, .int .i64 a.c2, .int .i64 a.c3] 41 ∧ Row w1 (w.heap.size + 1) #[.int .i64 b.x, .int .i64 b.y, .int .i64 b.z, .int .i64 b.c0, .int .i64 b.c1, .int .i64 b.c2, .int .i64 b.c3] 41 ∧ Row w1 (w.heap.size + 1 + 1) #[.int .i64 k.width, .bool true, .bool k.dashed, .int .i64 k.p, .int .i64 k.r, .int .i64 k.c, .int .i64 k.size, .int .i64 k.kind, .int .i64 k.front, .int .i64 k.back, .bool k.ccw, .int .i64 k.cull, .bool k.off, .int .i64 k.factor, .int .i64 k.units] 27 ∧ Row w1 (w.heap.size + 1 + 1 + 1) #[.int .i64 k.p, .int .i64 k.r, .int .i64 c] 25 ∧ Row w1 (w.heap.size + 1 + 1 + 1 + 1) #[.int .i64 x0, .int .i64 y0, .int .i64 x1, .int .i64 y1] 29 ∧ Row w1 (w.heap.size + 1 + 1 + 1 + 1 + 1) #[.int .i64 0, .int .i64 0, .int .i64 0] 25 ∧ ∃ X, w1 = w.ext X) ⟨by exact rx_, by exact rx_, by exact rx_, by exact rx_, by exact rx_, by exact rx_, RowKit.Below.toExt (by exact bl_)⟩ ?_
  rintro w1 ⟨Ra, Rb, Rk, Rd, Rr, Rz, hX⟩
  have HX := Lib.hid hX
  have HRz := Lib.hid Rz
  have ca := Ra.cell
  have fa := Ra.frozen
  have la := Ra.lt
  have cb := Rb.cell
  have fb := Rb.frozen
  have lb := Rb.lt
  have ck := Rk.cell
  have fk := Rk.frozen
  have lk := Rk.lt
  have cd := Rd.cell
  have fd := Rd.frozen
  have ld := Rd.lt
  have cr := Rr.cell
  have fr := Rr.frozen
  have lr := Rr.lt
  have cz := Rz.cell
  have fz := Rz.frozen
  have lz := Rz.lt
  clear Ra Rb Rk Rd Rr Rz hX
  go_wp2
  refine wp_region_rel 8 [none, none, none, none, none, some ([], srR frK L), none, none] (by kernel_rfl) (by kernel_rfl) ?_
  simp only [List.take_succ_cons, List.take_zero, List.drop_succ_cons, List.drop_zero]
  (repeat (first | (refine rel_none ?_; intro K_ hK_; go_big_quiet_op; go_big_quiet_on) | simp only [Act.put, List.setIfInBounds_toArray, List.set_cons_zero, List.set_cons_succ]))
  refine rel_some rfl (fun w_ hw_ hk_ K_ hK_ => ?_) (fun v5 f5 => ?_)
  · obtain ⟨X_, rfl⟩ := hw_
    go_simp
    go_at_call 56
    with_reducible refine (SM.out _).mono ?_
    rintro _ _ ⟨v, rfl, h1, h2⟩
    exact hK_ _ _ h1 h2
  obtain ⟨fa, fc, rfl⟩ := f5
  (repeat (first | (refine rel_none ?_; intro K_ hK_; go_big_quiet_op; go_big_quiet_on) | simp only [Act.put, List.setIfInBounds_toArray, List.set_cons_zero, List.set_cons_succ]))
  refine rel_nil ?_
  intro w_ hw_ kk
  obtain ⟨XF, rfl⟩ := hw_
  have h9 : Recs frK (w1.ext XF) (.slice fa L.length fc) L := (kk (5, _) (by repeat (first | exact List.mem_cons_self | refine List.mem_cons_of_mem _ ?_)))
  have HV1 := Lib.hid h9
  clear h9 kk
  go_wp2
  have r3 : Row (((w1.setCell ⟨w.heap.size + 1 + 1 + 1 + 1 + 1, 0, none⟩ (.int .i64 k.p)).setCell ⟨w.heap.size + 1 + 1 + 1 + 1 + 1, 1, none⟩ (.int .i64 k.r)).setCell ⟨w.heap.size + 1 + 1 + 1 + 1 + 1, 2, none⟩ (.int .i64 c)) (w.heap.size + 1 + 1 + 1 + 1 + 1) #[.int .i64 k.p, .int .i64 k.r, .int .i64 c] 25 := ((HRz.out.set 0 _).set 1 _).set 2 _
  have cE := (r3.ext XF).cell
  refine bodyPost_ret (v := .tuple #[.slice fa L.length fc, D3 k.p k.r c]) (by simp [results, Tryz.results18, go_sem, cE]; try rfl) rfl ?_
  have nl := not_short (HRz.out.ext XF) (by decide) HV1.out
  have P := ((HV1.out.set1 (i := 0) (u := .int .i64 k.p) nl).set1 (i := 1) (u := .int .i64 k.r) nl).set1 (i := 2) (u := .int .i64 c) nl
  rw [World.setCell_ext lz, World.setCell_ext (by simpa [World.setCell] using lz), World.setCell_ext (by simpa [World.setCell] using lz)] at P
  refine ⟨_, rfl, P, ?_⟩
  obtain ⟨X0, hX0⟩ := HX.out
  subst hX0
  exact RowKit.Below.toExt (by exact br_)
theorem face_line (a b : WinP) (k : LookP) (c x0 y0 x1 y1 : Int) (ha : a.wide) (hb : b.wide) (hp : w64 k.p) (hc : w64 c) (har : areaP x0 y0 x1 y1 ≤ 1048576) (w : World) : Calls Tryz.prog 18 #[a.v, b.v, k.v, D3 k.p k.r c, R4 x0 y0 x1 y1] w (RLine w (lnL a b k c x0 y0 x1 y1) k.p k.r (lnC a b k c)) := by
  unfold lnL lnC
  by_cases h : k.soft = true
  · rw [if_pos h, if_pos h]
    exact face_line1 a b k c x0 y0 x1 y1 h ha hb har w
  · rw [if_neg h, if_neg h]
    exact face_line0 a b k c x0 y0 x1 y1 (by simpa using h) ha hb hp hc har w
set_option maxRecDepth 100000 in
set_option maxHeartbeats 4000000 in
theorem rface_line1 (a b : WinP) (k : LookP) (c x0 y0 x1 y1 : Int) (hs : k.soft = true) (ha : a.wide) (hb : b.wide) (har : areaP x0 y0 x1 y1 ≤ 1048576) (w : World) : Calls Tryz.prog 19 #[a.v, b.v, k.v, D3 k.p k.r c, R4 x0 y0 x1 y1] w (RLine w (smL4 a b k.width x0 y0 x1 y1) k.p k.r c) := by
  have SM := Lib.hid (fun w => rsline_any a b k.width x0 y0 x1 y1 har w)
  generalize smL4 a b k.width x0 y0 x1 y1 = L at *
  have HS := Lib.hid hs
  clear ha hb har hs
  go_enter Tryz.func19, Tryz.ntmps19
  go_upto_region 1 with fail
  rw [HS.out]
  refine wp_abs (F := fun w1 => Row w1 w.heap.size #[.int .i64 a.x, .int .i64 a.y, .int .i64 a.z, .int .i64 a.c0, .int .i64 a.c1, .int .i64 a.c2, .int .i64 a.c3] 41 ∧ Row w1 (w.heap.size + 1) #[.int .i64 b.x, .int .i64 b.y, .int .i64 b.z, .int .i64 b.c0, .int .i64 b.c1, .int .i64 b.c2, .int .i64 b.c3] 41 ∧ Row w1 (w.heap.size + 1 + 1) #[.int .i64 k.width, .bool true, .bool k.dashed, .int .i64 k.p, .int .i64 k.r, .int .i64 k.c, .int .i64 k.size, .int .i64 k.kind, .int .i64 k.front, .int .i64 k.back, .bool k.ccw, .int .i64 k.cull, .bool k.off, .int .i64 k.factor, .int .i64 k.units] 27 ∧ Row w1 (w.heap.size + 1 + 1 + 1) #[.int .i64 k.p, .int .i64 k.r, .int .i64 c] 25 ∧ Row w1 (w.heap.size + 1 + 1 + 1 + 1) #[.int .i64 x0, .int .i64 y0, .int .i64 x1, .int .i64 y1] 29 ∧ Row w1 (w.heap.size + 1 + 1 + 1 + 1 + 1) #[.int .i64 0, .int .i64 0, .int .i64 0] 25 ∧ ∃ X, w1 = w.ext X) ⟨by exact rx_, by exact rx_, by exact rx_, by exact rx_, by exact rx_, by exact rx_, RowKit.Below.toExt (by exact bl_)⟩ ?_
  rintro w1 ⟨Ra, Rb, Rk, Rd, Rr, Rz, hX⟩
  have HX := Lib.hid hX
  have HRz := Lib.hid Rz
  have ca := Ra.cell
  have fa := Ra.frozen
  have la := Ra.lt
  have cb := Rb.cell
  have fb := Rb.frozen
  have lb := Rb.lt
  have ck := Rk.cell
  have fk := Rk.frozen
  have lk := Rk.lt
  have cd := Rd.cell
  have fd := Rd.frozen
  have ld := Rd.lt
  have cr := Rr.cell
  have fr := Rr.frozen
  have lr := Rr.lt
  have cz := Rz.cell
  have fz := Rz.frozen
  have lz := Rz.lt
  clear Ra Rb Rk Rd Rr Rz hX
  go_wp2
  refine wp_region_rel 8 [none, none, none, none, none, some ([], srR frK L), none, none] (by kernel_rfl) (by kernel_rfl) ?_
  simp only [List.take_succ_cons, List.take_zero, List.drop_succ_cons, List.drop_zero]
  (repeat (first | (refine rel_none ?_; intro K_ hK_; go_big_quiet_op; go_big_quiet_on) | simp only [Act.put, List.setIfInBounds_toArray, List.set_cons_zero, List.set_cons_succ]))
  refine rel_some rfl (fun w_ hw_ hk_ K_ hK_ => ?_) (fun v5 f5 => ?_)
  · obtain ⟨X_, rfl⟩ := hw_
    go_simp
    go_at_call 58
    with_reducible refine (SM.out _).mono ?_
    rintro _ _ ⟨v, rfl, h1, h2⟩
    exact hK_ _ _ h1 h2
  obtain ⟨fa, fc, rfl⟩ := f5
  (repeat (first | (refine rel_none ?_; intro K_ hK_; go_big_quiet_op; go_big_quiet_on) | simp only [Act.put, List.setIfInBounds_toArray, List.set_cons_zero, List.set_cons_succ]))
  refine rel_nil ?_
  intro w_ hw_ kk
  obtain ⟨XF, rfl⟩ := hw_
  have h9 : Recs frK (w1.ext XF) (.slice fa L.length fc) L := (kk (5, _) (by repeat (first | exact List.mem_cons_self | refine List.mem_cons_of_mem _ ?_)))
  have HV1 := Lib.hid h9
  clear h9 kk
  go_wp2
  have r3 : Row (((w1.setCell ⟨w.heap.size + 1 + 1 + 1 + 1 + 1, 0, none⟩ (.int .i64 k.p)).setCell ⟨w.heap.size + 1 + 1 + 1 + 1 + 1, 1, none⟩ (.int .i64 k.r)).setCell ⟨w.heap.size + 1 + 1 + 1 + 1 + 1, 2, none⟩ (.int .i64 c)) (w.heap.size + 1 + 1 + 1 + 1 + 1) #[.int .i64 k.p, .int .i64 k.r, .int .i64 c] 25 := ((HRz.out.set 0 _).set 1 _).set 2 _
  have cE := (r3.ext XF).cell
  refine bodyPost_ret (v := .tuple #[.slice fa L.length fc, D3 k.p k.r c]) (by simp [results, Tryz.results19, go_sem, cE]; try rfl) rfl ?_
  have nl := not_short (HRz.out.ext XF) (by decide) HV1.out
  have P := ((HV1.out.set1 (i := 0) (u := .int .i64 k.p) nl).set1 (i := 1) (u := .int .i64 k.r) nl).set1 (i := 2) (u := .int .i64 c) nl
  rw [World.setCell_ext lz, World.setCell_ext (by simpa [World.setCell] using lz), World.setCell_ext (by simpa [World.setCell] using lz)] at P
  refine ⟨_, rfl, P, ?_⟩
  obtain ⟨X0, hX0⟩ := HX.out
  subst hX0
  exact RowKit.Below.toExt (by exact br_)
theorem rface_line (a b : WinP) (k : LookP) (c x0 y0 x1 y1 : Int) (ha : a.wide) (hb : b.wide) (hp : w64 k.p) (hc : w64 c) (har : areaP x0 y0 x1 y1 ≤ 1048576) (w : World) : Calls Tryz.prog 19 #[a.v, b.v, k.v, D3 k.p k.r c, R4 x0 y0 x1 y1] w (RLine w (lnL a b k c x0 y0 x1 y1) k.p k.r (lnC a b k c)) := by
  unfold lnL lnC
  by_cases h : k.soft = true
  · rw [if_pos h, if_pos h]
    exact rface_line1 a b k c x0 y0 x1 y1 h ha hb har w
  · rw [if_neg h, if_neg h]
    exact rface_line0 a b k c x0 y0 x1 y1 (by simpa using h) ha hb hp hc har w
end Go.Proofs.YtbkmgngeahmefaaGreat
end
