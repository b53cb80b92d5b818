/- FragLeast: whatever the input, the law returns true and leaves its arguments as they read. No condition. -/
import Derived.Test.YtdbbeggenbhbfaaFragL
import Derived.Test.YtdbbeggenbhbfaaEFragLeast
namespace Go.Proofs.Ytdbbeggenbhbfaa
set_option linter.unusedVariables false
set_option linter.unusedSimpArgs false
open Go.RowKit
set_option maxRecDepth 100000 in
set_option maxHeartbeats 8000000 in
theorem fleast_in (W H : Int) (c z v : Value) (C Z : List Int) (L : List FrP) (o : OpsP) (ho : o.ok) (hq : o.right) (w : World) (hc : Rd w c C) (hz : Rd w z Z) (hs : smallP W H C Z) (hL : Frs w v L) (l40 : L.length ≤ 40) :
    Calls Try.prog 15 #[Im W H c z, o.v, v] w (Ret (.bool true) w) := by
  have HC := hc
  have HZ := hz
  have HL := hL
  obtain ⟨-, -, a, cap, rfl, -, -⟩ := hc
  obtain ⟨-, -, a', cap', rfl, -, -⟩ := hz
  obtain ⟨-, -, av, capv, rfl, -, -⟩ := hL
  have hr := hs.2
  have own := HL.own
  have OWN := Lib.hid own
  clear own
  have R2 := Lib.hid (fun w => rops_right o w)
  simp only [hq, decide_true] at R2
  have HQ := Lib.hid hq
  clear hq
  go_enter Try.func15, Try.ntmps15
  go_upto_if 30 with (first
    | (go_at_call 56; (with_reducible refine (small25_yes W H _ _ C Z _ ?_ ?_ hs).mono ?_); (repeat (first | assumption | with_reducible refine Rd.ext ?_ _ | with_reducible refine Rd.alloc ?_ _ | with_reducible refine Rd.drew ?_)); (repeat (first | assumption | with_reducible refine Rd.ext ?_ _ | with_reducible refine Rd.alloc ?_ _ | with_reducible refine Rd.drew ?_)); rintro _ _ ⟨rfl, X_, rfl⟩)
    | (go_at_call 51; (with_reducible refine (R2.out _).mono ?_); rintro _ _ ⟨rfl, X_, rfl⟩))
  go_cut [] (fun wx => ∃ o2 : OpsP, Keeps o2 ∧ o2.ok ∧ Row wx w.heap.size #[.int .i64 W, .int .i64 H, .slice a C.length cap, .slice a' Z.length cap'] 39 ∧ Row wx (w.heap.size + 1) #[.bool o2.cut, .int .i64 o2.x0, .int .i64 o2.y0, .int .i64 o2.x1, .int .i64 o2.y1, .bool o2.deep, .int .i64 o2.fn, .bool o2.keep, .bool o2.mix, .int .i64 o2.sf, .int .i64 o2.df, .bool o2.m0, .bool o2.m1, .bool o2.m2, .bool o2.m3] 64 ∧ Below w.heap.size w wx)
  case first =>
    by_cases h3 : o.fn = 3
    · have h3' : (o.fn != 3) = false := by simpa using h3
      go_wp2
      go_meet
      exact ⟨{ o with cut := false, deep := true, keep := true }, ⟨HQ.out, rfl, rfl, rfl, .inr h3⟩, ⟨ho.x0, ho.y0, ho.x1, ho.y1, ho.fn, ho.sf, ho.df⟩, by (repeat (first | assumption | with_reducible refine Row.ext ?_ _ | with_reducible refine row_drew ?_ | (with_reducible refine row_last ?_; first | rfl | (simp; done)) | with_reducible refine Row.alloc ?_ _)), by (repeat (first | assumption | with_reducible refine Row.ext ?_ _ | with_reducible refine row_drew ?_ | (with_reducible refine row_last ?_; first | rfl | (simp; done)) | with_reducible refine Row.alloc ?_ _)), by (repeat (first | exact Below.refl _ _ | with_reducible refine Below.drew ?_ | with_reducible refine Below.ext ?_ (by first | exact Nat.le_refl _ | (simp; done) | (simp; omega)) _ | with_reducible refine Below.alloc ?_ (by first | exact Nat.le_refl _ | (simp; done) | (simp; omega)) _ | with_reducible refine Below.setCell ?_ (by first | exact Nat.le_refl _ | (simp; done) | (simp; omega)) _))⟩
    · have h3' : (o.fn != 3) = true := by simpa using h3
      go_wp2
      go_meet
      exact ⟨{ o with cut := false, deep := true, keep := true, fn := 1 }, ⟨⟨⟨show (0 : Int) ≤ 1 by decide, show (1 : Int) ≤ 7 by decide⟩, HQ.out.2⟩, rfl, rfl, rfl, .inl rfl⟩, ⟨ho.x0, ho.y0, ho.x1, ho.y1, ⟨show (-9223372036854775808 : Int) ≤ 1 by decide, show (1 : Int) ≤ 9223372036854775807 by decide⟩, ho.sf, ho.df⟩, by (repeat (first | assumption | with_reducible refine Row.ext ?_ _ | with_reducible refine row_drew ?_ | (with_reducible refine row_last ?_; first | rfl | (simp; done)) | with_reducible refine Row.alloc ?_ _)), by (repeat (first | assumption | with_reducible refine Row.ext ?_ _ | with_reducible refine row_drew ?_ | (with_reducible refine row_last ?_; first | rfl | (simp; done)) | with_reducible refine Row.alloc ?_ _)), by (repeat (first | exact Below.refl _ _ | with_reducible refine Below.drew ?_ | with_reducible refine Below.ext ?_ (by first | exact Nat.le_refl _ | (simp; done) | (simp; omega)) _ | with_reducible refine Below.alloc ?_ (by first | exact Nat.le_refl _ | (simp; done) | (simp; omega)) _ | with_reducible refine Below.setCell ?_ (by first | exact Nat.le_refl _ | (simp; done) | (simp; omega)) _))⟩
  case rest =>
  obtain ⟨o2, KP, ok2, PM, PP, BB⟩ := hcut
  obtain ⟨w1, rfl⟩ : ∃ w1, w1 = wc := ⟨_, rfl⟩
  have HC1 : Rd w1 (.slice a C.length cap) C := by obtain ⟨Y, hY⟩ := BB.toExt; rw [hY]; exact HC.ext Y
  have HZ1 : Rd w1 (.slice a' Z.length cap') Z := by obtain ⟨Y, hY⟩ := BB.toExt; rw [hY]; exact HZ.ext Y
  have FR1 : Frs w1 (.slice av L.length capv) L := by obtain ⟨Y, hY⟩ := BB.toExt; rw [hY]; exact HL.ext Y
  have jm := PM.lt
  have jp := PP.lt
  have jm' : w.heap.size ≤ w1.heap.size := by omega
  have jp' : w.heap.size + 1 ≤ w1.heap.size := by omega
  have p0 := PP.cell 0
  have p1 := PP.cell 1
  have p2 := PP.cell 2
  have p3 := PP.cell 3
  have p4 := PP.cell 4
  have p5 := PP.cell 5
  have p6 := PP.cell 6
  have p7 := PP.cell 7
  have p8 := PP.cell 8
  have p9 := PP.cell 9
  have p10 := PP.cell 10
  have p11 := PP.cell 11
  have p12 := PP.cell 12
  have p13 := PP.cell 13
  have p14 := PP.cell 14
  simp at p0 p1 p2 p3 p4 p5 p6 p7 p8 p9 p10 p11 p12 p13 p14
  have m0 := PM.cell 0
  have m1 := PM.cell 1
  have m2 := PM.cell 2
  have m3 := PM.cell 3
  simp at m0 m1 m2 m3
  go_upto_region 6 with fail
  go_cut [7] (fun t7 wx => ∃ qa g1 k1 g2 k2 : Nat, t7 = .pointer (some ⟨qa, 0, none⟩) ∧ Img wx qa g1 k1 g2 k2 W H C Z ∧ (w1.heap.size ≤ qa ∧ w1.heap.size ≤ g1 ∧ w1.heap.size ≤ g2) ∧ ∃ X, wx = w1.ext X)
  case first =>
    go_wp2_with (first
      | (go_at_call 39; (with_reducible refine (rcopy_is W H _ _ C Z _ HC1 HZ1 hr).mono ?_); rintro _ _ ⟨g1, k1, g2, k2, rfl, ⟨X1, rfl⟩, A1, A2, b1, b2, ne1⟩))
    go_meet
    have e1 := A1.lt
    have e2 := A2.lt
    simp at b1 b2 e1 e2
    exact ⟨_, g1, k1, g2, k2, rfl, ⟨hr, row_last (by simp), A1.chg (p := fun _ => False) (Chg.refl.alloc _) id, A2.chg (p := fun _ => False) (Chg.refl.alloc _) id, by omega, by omega, ne1⟩, by omega, RowKit.Below.toExt (by (repeat (first | exact Below.refl _ _ | with_reducible refine Below.drew ?_ | with_reducible refine Below.ext ?_ (by first | exact Nat.le_refl _ | (simp; done) | (simp; omega)) _ | with_reducible refine Below.alloc ?_ (by first | exact Nat.le_refl _ | (simp; done) | (simp; omega)) _ | with_reducible refine Below.setCell ?_ (by first | exact Nat.le_refl _ | (simp; done) | (simp; omega)) _)))⟩
  case rest =>
  obtain ⟨qa, g1, k1, g2, k2, rfl, IM, lo, X, hX⟩ := hcut
  have PM2 : Row wc w.heap.size #[.int .i64 W, .int .i64 H, .slice a C.length cap, .slice a' Z.length cap'] 39 := by rw [hX]; exact PM.ext X
  have PP2 := PP.ext X
  rw [← hX] at PP2
  have FR2 : Frs wc (.slice av L.length capv) L := by rw [hX]; exact FR1.ext X
  have HZ2 : Rd wc (.slice a' Z.length cap') Z := by rw [hX]; exact HZ1.ext X
  have BB2 : Below w.heap.size w wc := by rw [hX]; exact BB.ext BB.size X
  clear hX p0 p1 p2 p3 p4 p5 p6 p7 p8 p9 p10 p11 p12 p13 p14 m0 m1 m2 m3
  obtain ⟨w2, rfl⟩ : ∃ w2, w2 = wc := ⟨_, rfl⟩
  have p0 := PP2.cell 0
  have p1 := PP2.cell 1
  have p2 := PP2.cell 2
  have p3 := PP2.cell 3
  have p4 := PP2.cell 4
  have p5 := PP2.cell 5
  have p6 := PP2.cell 6
  have p7 := PP2.cell 7
  have p8 := PP2.cell 8
  have p9 := PP2.cell 9
  have p10 := PP2.cell 10
  have p11 := PP2.cell 11
  have p12 := PP2.cell 12
  have p13 := PP2.cell 13
  have p14 := PP2.cell 14
  simp at p0 p1 p2 p3 p4 p5 p6 p7 p8 p9 p10 p11 p12 p13 p14
  have m0 := PM2.cell 0
  have m1 := PM2.cell 1
  have m2 := PM2.cell 2
  have m3 := PM2.cell 3
  simp at m0 m1 m2 m3
  go_wp2_with fail
  refine (all_any IM o2 ok2 FR2 (fun b hb hne => by have := OWN.out b hb hne; omega)).mono ?_
  rintro _ w3 ⟨rfl, I3, C3⟩
  have BB3 : Below w.heap.size w w3 := Below.chg BB2 C3 BB2.size (fun k hk h => by omega)
  have HZ3 : Rd w3 (.slice a' Z.length cap') Z := by obtain ⟨Y, hY⟩ := BB3.toExt; rw [hY]; exact HZ.ext Y
  have FR3 : Frs w3 (.slice av L.length capv) L := by obtain ⟨Y, hY⟩ := BB3.toExt; rw [hY]; exact HL.ext Y
  have PM3 := C3.row PM2 (by omega)
  have eL : (allF o2 W H C Z L).1.length = C.length := by have := I3.ok.c; have := hr.c; omega
  have eL2 : (allF o2 W H C Z L).2.1.length = Z.length := by have := I3.ok.z; have := hr.z; omega
  have LA := Lib.hid (show ∀ k, k < C.length → elt (allF o2 W H C Z L).2.1 k = leastF W k (elt Z k) L from fun k hk => least_all KP hr k hk L (C, Z, 0) hr.same)
  have hzc : ((C.length : Int) != (Z.length : Int)) = false := by have := hr.same; rw [bne_eq_false_iff_eq]; omega
  have E4 := Lib.hid hr.same
  clear p0 p1 p2 p3 p4 p5 p6 p7 p8 p9 p10 p11 p12 p13 p14 m0 m1 m2 m3
  have m0 := PM3.cell 0
  have m1 := PM3.cell 1
  have m2 := PM3.cell 2
  have m3 := PM3.cell 3
  simp at m0 m1 m2 m3
  have i0 := I3.row.cell 0
  have i1 := I3.row.cell 1
  have i2 := I3.row.cell 2
  have i3 := I3.row.cell 3
  simp [eL] at i0 i1 i2 i3
  have EL2 := Lib.hid eL2
  clear eL eL2
  have z3 := BB3.size
  have ma := I3.row.lt
  have mm := PM3.lt
  have ma' : qa ≤ w3.heap.size := by omega
  have lg2 := I3.z.lt
  have lg2' : g2 ≤ w3.heap.size := by omega
  have w0 := hr.w0
  have w1' := hr.w1
  have n400 := hs.1.1
  have n401 := hs.1.2
  go_wp2
  clear hzc
  go_loopw [8] (fun i wr => ∃ (i' : Nat) (X : Xt), i' ≤ Z.length ∧ i = .int .i64 i' ∧ wr = w3.ext X) (fun i _ => Z.length - (intOf i).toNat)
  case atStart => exact ⟨0, ⟨#[], w3.drawn⟩, by omega, rfl, (ext_none _).symm⟩
  case round =>
    obtain ⟨i', X, hi', rfl, rfl⟩ := hrel
    by_cases hlt : i' < Z.length
    · have hkc : i' < C.length := by have := E4.out; omega
      obtain ⟨⟨x0, x1, y0, y1⟩, kk⟩ := kth hr hkc
      have KK := Lib.hid kk
      clear kk
      have T1 : Int.tmod (i' : Int) W = (i' : Int) % W := Int.tmod_eq_emod_of_nonneg (by omega)
      have T2 : Int.tdiv (i' : Int) W = (i' : Int) / W := Int.tdiv_eq_ediv_of_nonneg (by omega)
      have y1' : (i' : Int) / W ≤ 1024 := by have := hr.h1; omega
      obtain ⟨b2, off2, cap2, q2, lb2, d2⟩ := rd_some HZ3 (by omega)
      obtain ⟨rfl, rfl⟩ : a' = some ⟨b2, off2, none⟩ ∧ cap' = cap2 := by simpa using q2
      have dz := d2 i' hlt
      have dz' := I3.z.cell (i := i') (by rw [EL2.out]; exact hlt)
      rw [LA.out i' hkc] at dz'
      have lb2' : b2 ≤ w3.heap.size := by omega
      have hk2 : (i' : Int) < Z.length := by omega
      clear d2 q2
      go_wp2
      go_loopw [9, 10] (fun zz kx wr => ∃ (k : Nat) (X : Xt), k ≤ L.length ∧ kx = .int .i64 k ∧ zz = .int .i64 (leastF W i' (elt Z i') (L.take k)) ∧ wr = w3.ext X) (fun _ kx _ => L.length - (intOf kx).toNat)
      case atStart => exact ⟨0, X, by omega, rfl, rfl, rfl⟩
      case round =>
        clear hlt
        obtain ⟨k, X, hk, rfl, rfl, rfl⟩ := hrel
        by_cases hlt : k < L.length
        · have LS := Lib.hid (leastF_snoc W i' (elt Z i') L k hlt)
          obtain ⟨lf, -, a1, cap1, q1, -, h3⟩ := FR3
          rcases h3 with rfl | ⟨b, off, rfl, hb, hcl⟩
          · simp at hlt
          obtain ⟨rfl, rfl⟩ : av = some ⟨b, off, none⟩ ∧ capv = cap1 := by simpa using q1
          have hfk : L[k]? = some L[k] := by simp [hlt]
          have cl := hcl k L[k] hfk
          clear q1 hcl lf
          obtain ⟨f, hF⟩ : ∃ f, L[k] = f := ⟨_, rfl⟩
          rw [hF] at cl
          have HF := Lib.hid hF
          clear hF hfk
          have e0 := cl 0 _ rfl
          have e1 := cl 1 _ rfl
          have e2 := cl 2 _ rfl
          have e3 := cl 3 _ rfl
          have e4 := cl 4 _ rfl
          have e5 := cl 5 _ rfl
          have e6 := cl 6 _ rfl
          have e7 := cl 7 _ rfl
          simp only [Nat.add_zero] at e0
          clear cl
          have hb' : b ≤ w3.heap.size := by omega
          have hki : (k : Int) < L.length := by omega
          have F2 := Lib.hid (fun w => rfr_fits f w)
          go_wp2
          by_cases ax : f.x = (i' : Int) % W
          · have ax' : (f.x == (i' : Int) % W) = true := by simpa using ax
            by_cases ay : f.y = (i' : Int) / W
            · have ay' : (f.y == (i' : Int) / W) = true := by simpa using ay
              by_cases af : f.fits
              · simp only [af, decide_true] at F2
                have na : atP W i' f := ⟨ax, ay, af⟩
                have NA := Lib.hid na
                clear na
                clear ax ay af
                refine wp_region_ext (by kernel_rfl) (by kernel_rfl) ?_
                repeat (go_big_quiet_step ((first | (go_at_call 53; with_reducible exact Calls.quiet_ret (F2.out _)))))
                refine wpQuiet_nil ?_
                intro _ hw_ext
                obtain ⟨X4, hw_ext⟩ := hw_ext
                subst hw_ext
                go_wp2
                go_roundw
                case rel => exact ⟨k + 1, _, by omega, by go_num, by rw [LS.out, HF.out]; unfold minF; rw [if_pos NA.out], World.ext_ext⟩
                case measure => simp [intOf]; omega
              · simp only [af, decide_false] at F2
                have na : ¬ atP W i' f := fun h => af h.2.2
                have NA := Lib.hid na
                clear na
                clear ax ay af
                refine wp_region_ext (by kernel_rfl) (by kernel_rfl) ?_
                repeat (go_big_quiet_step ((first | (go_at_call 53; with_reducible exact Calls.quiet_ret (F2.out _)))))
                refine wpQuiet_nil ?_
                intro _ hw_ext
                obtain ⟨X4, hw_ext⟩ := hw_ext
                subst hw_ext
                go_wp2
                go_roundw
                case rel => exact ⟨k + 1, _, by omega, by go_num, by rw [LS.out, HF.out]; unfold minF; rw [if_neg NA.out], World.ext_ext⟩
                case measure => simp [intOf]; omega
            · have ay' : (f.y == (i' : Int) / W) = false := by simpa using ay
              have na : ¬ atP W i' f := fun h => ay h.2.1
              have NA := Lib.hid na
              clear na
              clear ax ay
              refine wp_region_ext (by kernel_rfl) (by kernel_rfl) ?_
              repeat (go_big_quiet_step ((first | (go_at_call 53; with_reducible exact Calls.quiet_ret (F2.out _)))))
              refine wpQuiet_nil ?_
              intro _ hw_ext
              obtain ⟨X4, hw_ext⟩ := hw_ext
              subst hw_ext
              go_wp2
              go_roundw
              case rel => exact ⟨k + 1, _, by omega, by go_num, by rw [LS.out, HF.out]; unfold minF; rw [if_neg NA.out], World.ext_ext⟩
              case measure => simp [intOf]; omega
          · have ax' : (f.x == (i' : Int) % W) = false := by simpa using ax
            have na : ¬ atP W i' f := fun h => ax h.1
            have NA := Lib.hid na
            clear na
            clear ax
            refine wp_region_ext (by kernel_rfl) (by kernel_rfl) ?_
            repeat (go_big_quiet_step ((first | (go_at_call 53; with_reducible exact Calls.quiet_ret (F2.out _)))))
            refine wpQuiet_nil ?_
            intro _ hw_ext
            obtain ⟨X4, hw_ext⟩ := hw_ext
            subst hw_ext
            go_wp2
            go_roundw
            case rel => exact ⟨k + 1, _, by omega, by go_num, by rw [LS.out, HF.out]; unfold minF; rw [if_neg NA.out], World.ext_ext⟩
            case measure => simp [intOf]; omega
        · obtain rfl : k = L.length := by omega
          rw [List.take_length]
          go_wp2
          go_roundw
          case rel => exact ⟨i' + 1, X, by omega, by go_num, rfl⟩
          case measure => simp [intOf]; omega
    · go_wp2_with (first | (go_at_call 49; (with_reducible refine (awake25 _).mono ?_); rintro _ _ ⟨rfl, X_, rfl⟩))
      go_ret
      exact Ret.of ((BB3.ext (by omega) _).ext (by simp; omega) _)
set_option maxRecDepth 100000 in
set_option maxHeartbeats 2000000 in
theorem fleast_not (W H : Int) (c z : Value) (C Z : List Int) (a : Option Addr) (n cap : Nat) (o : OpsP) (w : World) (hc : Rd w c C) (hz : Rd w z Z) (hs : ¬ smallP W H C Z) :
    Calls Try.prog 15 #[Im W H c z, o.v, .slice a n cap] w (Ret (.bool true) w) := by
  have HC := hc
  have HZ := hz
  obtain ⟨-, -, a1, cap1, rfl, -, -⟩ := hc
  obtain ⟨-, -, a', cap', rfl, -, -⟩ := hz
  go_enter Try.func15, Try.ntmps15
  go_wp2_with (first
    | (go_at_call 56; (with_reducible refine (small25_no W H _ _ C Z _ ?_ ?_ hs).mono ?_); (repeat (first | assumption | with_reducible refine Rd.ext ?_ _ | with_reducible refine Rd.alloc ?_ _ | with_reducible refine Rd.drew ?_)); (repeat (first | assumption | with_reducible refine Rd.ext ?_ _ | with_reducible refine Rd.alloc ?_ _ | with_reducible refine Rd.drew ?_)); rintro _ _ ⟨rfl, X_, rfl⟩)
    | (go_at_call 49; (with_reducible refine (awake25 _).mono ?_); rintro _ _ ⟨rfl, X_, rfl⟩))
  go_ret
  exact Ret.of (by (repeat (first | exact Below.refl _ _ | with_reducible refine Below.drew ?_ | with_reducible refine Below.ext ?_ (by first | exact Nat.le_refl _ | (simp; done) | (simp; omega)) _ | with_reducible refine Below.alloc ?_ (by first | exact Nat.le_refl _ | (simp; done) | (simp; omega)) _ | with_reducible refine Below.setCell ?_ (by first | exact Nat.le_refl _ | (simp; done) | (simp; omega)) _)))
set_option maxRecDepth 100000 in
set_option maxHeartbeats 2000000 in
theorem fleast_long (W H : Int) (c z : Value) (C Z : List Int) (a : Option Addr) (n cap : Nat) (o : OpsP) (w : World) (hc : Rd w c C) (hz : Rd w z Z) (hs : smallP W H C Z) (h40 : 40 < n) (hn : n ≤ 9223372036854775807) :
    Calls Try.prog 15 #[Im W H c z, o.v, .slice a n cap] w (Ret (.bool true) w) := by
  have HC := hc
  have HZ := hz
  obtain ⟨-, -, a1, cap1, rfl, -, -⟩ := hc
  obtain ⟨-, -, a', cap', rfl, -, -⟩ := hz
  go_enter Try.func15, Try.ntmps15
  go_wp2_with (first
    | (go_at_call 56; (with_reducible refine (small25_yes W H _ _ C Z _ ?_ ?_ hs).mono ?_); (repeat (first | assumption | with_reducible refine Rd.ext ?_ _ | with_reducible refine Rd.alloc ?_ _ | with_reducible refine Rd.drew ?_)); (repeat (first | assumption | with_reducible refine Rd.ext ?_ _ | with_reducible refine Rd.alloc ?_ _ | with_reducible refine Rd.drew ?_)); rintro _ _ ⟨rfl, X_, rfl⟩)
    | (go_at_call 49; (with_reducible refine (awake25 _).mono ?_); rintro _ _ ⟨rfl, X_, rfl⟩))
  go_ret
  exact Ret.of (by (repeat (first | exact Below.refl _ _ | with_reducible refine Below.drew ?_ | with_reducible refine Below.ext ?_ (by first | exact Nat.le_refl _ | (simp; done) | (simp; omega)) _ | with_reducible refine Below.alloc ?_ (by first | exact Nat.le_refl _ | (simp; done) | (simp; omega)) _ | with_reducible refine Below.setCell ?_ (by first | exact Nat.le_refl _ | (simp; done) | (simp; omega)) _)))
set_option maxRecDepth 100000 in
set_option maxHeartbeats 2000000 in
theorem fleast_ops (W H : Int) (c z : Value) (C Z : List Int) (a : Option Addr) (n cap : Nat) (o : OpsP) (w : World) (hc : Rd w c C) (hz : Rd w z Z) (hs : smallP W H C Z) (h40 : n ≤ 40) (hq : ¬ o.right) :
    Calls Try.prog 15 #[Im W H c z, o.v, .slice a n cap] w (Ret (.bool true) w) := by
  have HC := hc
  have HZ := hz
  obtain ⟨-, -, a1, cap1, rfl, -, -⟩ := hc
  obtain ⟨-, -, a', cap', rfl, -, -⟩ := hz
  have R2 := Lib.hid (fun w => rops_right o w)
  simp only [hq, decide_false] at R2
  clear hq
  go_enter Try.func15, Try.ntmps15
  go_wp2_with (first
    | (go_at_call 56; (with_reducible refine (small25_yes W H _ _ C Z _ ?_ ?_ hs).mono ?_); (repeat (first | assumption | with_reducible refine Rd.ext ?_ _ | with_reducible refine Rd.alloc ?_ _ | with_reducible refine Rd.drew ?_)); (repeat (first | assumption | with_reducible refine Rd.ext ?_ _ | with_reducible refine Rd.alloc ?_ _ | with_reducible refine Rd.drew ?_)); rintro _ _ ⟨rfl, X_, rfl⟩)
    | (go_at_call 51; (with_reducible refine (R2.out _).mono ?_); rintro _ _ ⟨rfl, X_, rfl⟩)
    | (go_at_call 49; (with_reducible refine (awake25 _).mono ?_); rintro _ _ ⟨rfl, X_, rfl⟩))
  go_ret
  exact Ret.of (by (repeat (first | exact Below.refl _ _ | with_reducible refine Below.drew ?_ | with_reducible refine Below.ext ?_ (by first | exact Nat.le_refl _ | (simp; done) | (simp; omega)) _ | with_reducible refine Below.alloc ?_ (by first | exact Nat.le_refl _ | (simp; done) | (simp; omega)) _ | with_reducible refine Below.setCell ?_ (by first | exact Nat.le_refl _ | (simp; done) | (simp; omega)) _)))
theorem FragLeast_all : FragLeast_stmt := by
  intro W H c z a0 a1 a2 a3 a4 a5 a6 a7 a8 a9 a10 a11 a12 a13 a14 v w hI ho hl
  obtain ⟨-, -, ⟨C, hC⟩, ⟨Z, hZ⟩⟩ := hI
  have hc := Rd.of_ints hC
  have hz := Rd.of_ints hZ
  obtain ⟨zl, hzl⟩ := hl
  obtain ⟨L, a, cap, rfl, hn, hF⟩ := frs_of hzl
  have hok : OpsP.ok ⟨a0, a1, a2, a3, a4, a5, a6, a7, a8, a9, a10, a11, a12, a13, a14⟩ := by obtain ⟨h1, h2, h3, h4, h5, h6, h7⟩ := ho; exact ⟨h1, h2, h3, h4, h5, h6, h7⟩
  by_cases h : smallP W H C Z
  · by_cases h40 : L.length ≤ 40
    · by_cases hq : OpsP.right ⟨a0, a1, a2, a3, a4, a5, a6, a7, a8, a9, a10, a11, a12, a13, a14⟩
      · exact fleast_in W H c z _ C Z L ⟨a0, a1, a2, a3, a4, a5, a6, a7, a8, a9, a10, a11, a12, a13, a14⟩ hok hq w hc hz h (hF (by omega)) h40
      · exact fleast_ops W H c z C Z a L.length cap ⟨a0, a1, a2, a3, a4, a5, a6, a7, a8, a9, a10, a11, a12, a13, a14⟩ w hc hz h h40 hq
    · exact fleast_long W H c z C Z a L.length cap ⟨a0, a1, a2, a3, a4, a5, a6, a7, a8, a9, a10, a11, a12, a13, a14⟩ w hc hz h (by omega) hn
  · exact fleast_not W H c z C Z a L.length cap ⟨a0, a1, a2, a3, a4, a5, a6, a7, a8, a9, a10, a11, a12, a13, a14⟩ w hc hz h
theorem FragLeast_holds : Rows.FragLeastSaid := FragLeast_end FragLeast_all
end Go.Proofs.Ytdbbeggenbhbfaa
