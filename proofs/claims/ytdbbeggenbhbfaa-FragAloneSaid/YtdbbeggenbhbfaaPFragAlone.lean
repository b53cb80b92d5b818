/- FragAlone: whatever the input, the law returns true and leaves its arguments as they read. No condition. -/
import Derived.Test.YtdbbeggenbhbfaaFragD
import Derived.Test.YtdbbeggenbhbfaaPut
import Derived.Test.YtdbbeggenbhbfaaEFragAlone
namespace Go.Proofs.Ytdbbeggenbhbfaa
set_option linter.unusedVariables false
set_option linter.unusedSimpArgs false
open Go.RowKit
theorem oneC_len (o : OpsP) (f : FrP) (W H : Int) (C Z : List Int) : (oneC o f W H C Z).length = C.length := by unfold oneC; split <;> simp [putC_len]
theorem oneZ_len (o : OpsP) (f : FrP) (W H : Int) (Z : List Int) : (oneZ o f W H Z).length = Z.length := by unfold oneZ; split <;> simp [putZ_len]
theorem one_off {o : OpsP} {f : FrP} {W H : Int} {C Z : List Int} (h : ImOk W H C Z) (k : Nat) (ne : ¬ (oneB o f W H Z = true ∧ (k : Int) % W = f.x ∧ (k : Int) / W = f.y)) : elt (oneC o f W H C Z) k = elt C k ∧ elt (oneZ o f W H Z) k = elt Z k := by
  cases hb : oneB o f W H Z
  · simp [oneC, oneZ, hb]
  · have ne' : ¬ ((k : Int) % W = f.x ∧ (k : Int) / W = f.y) := fun h => ne ⟨hb, h⟩
    refine ⟨?_, ?_⟩
    · unfold oneC; rw [if_pos hb]; exact putC_off h k ne'
    · unfold oneZ; split
      · exact putZ_off h k ne'
      · rfl
/-- What the walk of this law leans on. -/
structure Fa (w wx : World) (W H : Int) (c z : Value) (C Z : List Int) (o : OpsP) (f : FrP) (qa g1 k1 g2 k2 : Nat) : Prop where
  im : Img wx qa g1 k1 g2 k2 W H C Z
  m : Row wx w.heap.size #[.int .i64 W, .int .i64 H, c, z] 39
  o : Row wx (w.heap.size + 1) #[.bool o.cut, .int .i64 o.x0, .int .i64 o.y0, .int .i64 o.x1, .int .i64 o.y1, .bool o.deep, .int .i64 o.fn, .bool o.keep, .bool o.mix, .int .i64 o.sf, .int .i64 o.df, .bool o.m0, .bool o.m1, .bool o.m2, .bool o.m3] 64
  f : Row wx (w.heap.size + 1 + 1) #[.int .i64 f.x, .int .i64 f.y, .int .i64 f.z, .int .i64 f.c0, .int .i64 f.c1, .int .i64 f.c2, .int .i64 f.c3, .int .i64 f.cov] 66
  lo : w.heap.size + 3 ≤ qa ∧ w.heap.size + 3 ≤ g1 ∧ w.heap.size + 3 ≤ g2
  bel : Below w.heap.size w wx
theorem Fa.step {w wx w1 : World} {W H : Int} {c z : Value} {C Z C2 Z2 : List Int} {o : OpsP} {f : FrP} {qa g1 k1 g2 k2 : Nat} {p : Nat → Prop} (h : Fa w wx W H c z C Z o f qa g1 k1 g2 k2) (hc : Chg p wx w1) (hp : ∀ k, p k → k = g1 ∨ k = g2)
    (hI : Img w1 qa g1 k1 g2 k2 W H C2 Z2) : Fa w w1 W H c z C2 Z2 o f qa g1 k1 g2 k2 := by
  obtain ⟨im, m, o', f', lo, bel⟩ := h
  have hs := bel.size
  exact ⟨hI, hc.row m fun h => by have := hp _ h; omega, hc.row o' fun h => by have := hp _ h; omega, hc.row f' fun h => by have := hp _ h; omega, lo, Below.chg bel hc hs fun k hk h => by have := hp _ h; omega⟩
set_option maxRecDepth 100000 in
set_option maxHeartbeats 8000000 in
theorem falone_in (W H : Int) (c z : Value) (C Z : List Int) (o : OpsP) (f : FrP) (ho : o.ok) (hf : f.ok) (w : World) (hc : Rd w c C) (hz : Rd w z Z) (hs : smallP W H C Z) :
    Calls Try.prog 13 #[Im W H c z, o.v, f.v] w (Ret (.bool true) w) := by
  have HC := hc
  have HZ := hz
  obtain ⟨-, -, a, cap, rfl, -, -⟩ := hc
  obtain ⟨-, -, a', cap', rfl, -, -⟩ := hz
  have hr := hs.2
  go_enter Try.func13, Try.ntmps13
  go_upto_region 3 with (first
    | (go_at_call 56; (with_reducible refine (small25_yes W H _ _ C Z _ ?_ ?_ hs).mono ?_); (repeat (first | assumption | with_reducible refine Rd.ext ?_ _ | with_reducible refine Rd.alloc ?_ _ | with_reducible refine Rd.drew ?_)); (repeat (first | assumption | with_reducible refine Rd.ext ?_ _ | with_reducible refine Rd.alloc ?_ _ | with_reducible refine Rd.drew ?_)); rintro _ _ ⟨rfl, X_, rfl⟩))
  go_cut [7] (fun t7 wx => ∃ qa g1 k1 g2 k2 : Nat, t7 = .pointer (some ⟨qa, 0, none⟩) ∧ Fa w wx W H (.slice a C.length cap) (.slice a' Z.length cap') C Z o f qa g1 k1 g2 k2)
  case first =>
    go_wp2_with (first
      | (go_at_call 39; (with_reducible refine (rcopy_is W H _ _ C Z _ ?_ ?_ hr).mono ?_); (repeat (first | assumption | with_reducible refine Rd.ext ?_ _ | with_reducible refine Rd.alloc ?_ _ | with_reducible refine Rd.drew ?_)); (repeat (first | assumption | with_reducible refine Rd.ext ?_ _ | with_reducible refine Rd.alloc ?_ _ | with_reducible refine Rd.drew ?_)); rintro _ _ ⟨g1, k1, g2, k2, rfl, ⟨X1, rfl⟩, A1, A2, b1, b2, ne1⟩))
    go_meet
    have e1 := A1.lt
    have e2 := A2.lt
    simp at b1 b2 e1 e2
    exact ⟨_, g1, k1, g2, k2, rfl, ⟨hr, row_last (by simp), A1.chg (p := fun _ => False) (Chg.refl.alloc _) id, A2.chg (p := fun _ => False) (Chg.refl.alloc _) id, by omega, by omega, ne1⟩, by (repeat (first | assumption | with_reducible refine Row.ext ?_ _ | with_reducible refine row_drew ?_ | (with_reducible refine row_last ?_; first | rfl | (simp; done)) | with_reducible refine Row.alloc ?_ _)), by (repeat (first | assumption | with_reducible refine Row.ext ?_ _ | with_reducible refine row_drew ?_ | (with_reducible refine row_last ?_; first | rfl | (simp; done)) | with_reducible refine Row.alloc ?_ _)), by (repeat (first | assumption | with_reducible refine Row.ext ?_ _ | with_reducible refine row_drew ?_ | (with_reducible refine row_last ?_; first | rfl | (simp; done)) | with_reducible refine Row.alloc ?_ _)), by omega, by (repeat (first | exact Below.refl _ _ | with_reducible refine Below.drew ?_ | with_reducible refine Below.ext ?_ (by first | exact Nat.le_refl _ | (simp; done) | (simp; omega)) _ | with_reducible refine Below.alloc ?_ (by first | exact Nat.le_refl _ | (simp; done) | (simp; omega)) _ | with_reducible refine Below.setCell ?_ (by first | exact Nat.le_refl _ | (simp; done) | (simp; omega)) _))⟩
  case rest =>
  obtain ⟨qa, g1, k1, g2, k2, rfl, AL⟩ := hcut
  have co0 := AL.o.cell 0
  have co1 := AL.o.cell 1
  have co2 := AL.o.cell 2
  have co3 := AL.o.cell 3
  have co4 := AL.o.cell 4
  have co5 := AL.o.cell 5
  have co6 := AL.o.cell 6
  have co7 := AL.o.cell 7
  have co8 := AL.o.cell 8
  have co9 := AL.o.cell 9
  have co10 := AL.o.cell 10
  have co11 := AL.o.cell 11
  have co12 := AL.o.cell 12
  have co13 := AL.o.cell 13
  have co14 := AL.o.cell 14
  simp at co0 co1 co2 co3 co4 co5 co6 co7 co8 co9 co10 co11 co12 co13 co14
  have cf0 := AL.f.cell 0
  have cf1 := AL.f.cell 1
  have cf2 := AL.f.cell 2
  have cf3 := AL.f.cell 3
  have cf4 := AL.f.cell 4
  have cf5 := AL.f.cell 5
  have cf6 := AL.f.cell 6
  have cf7 := AL.f.cell 7
  simp at cf0 cf1 cf2 cf3 cf4 cf5 cf6 cf7
  have cm0 := AL.m.cell 0
  have cm1 := AL.m.cell 1
  have cm2 := AL.m.cell 2
  have cm3 := AL.m.cell 3
  simp at cm0 cm1 cm2 cm3
  have ci0 := AL.im.row.cell 0
  have ci1 := AL.im.row.cell 1
  have ci2 := AL.im.row.cell 2
  have ci3 := AL.im.row.cell 3
  simp at ci0 ci1 ci2 ci3
  have hs1 := AL.bel.size
  have la := AL.im.row.lt
  have lo := AL.lo
  obtain ⟨w1, rfl⟩ : ∃ w1, w1 = wc := ⟨_, rfl⟩
  have hzc : ((C.length : Int) != (Z.length : Int)) = false := by have := hr.same; rw [bne_eq_false_iff_eq]; omega
  have HB := Lib.hid (one_off (o := o) (f := f) hr)
  obtain ⟨bi, hbi⟩ : ∃ b, b = oneB o f W H Z := ⟨_, rfl⟩
  rw [← hbi] at HB
  have HBI := Lib.hid hbi
  clear hbi
  go_upto_region 7 with (first
    | (go_at_call 57; (with_reducible refine (one_any AL.im o f ho hf).mono ?_); rw [← HBI.out]; rintro _ w3 ⟨rfl, I3, C3⟩; have AL3 := AL.step C3 (fun k h => h) I3; have em0 := AL3.m.cell 0; have em1 := AL3.m.cell 1; have em2 := AL3.m.cell 2; have em3 := AL3.m.cell 3; simp at em0 em1 em2 em3; have ef0 := AL3.f.cell 0; have ef1 := AL3.f.cell 1; have ef2 := AL3.f.cell 2; have ef3 := AL3.f.cell 3; have ef4 := AL3.f.cell 4; have ef5 := AL3.f.cell 5; have ef6 := AL3.f.cell 6; have ef7 := AL3.f.cell 7; simp at ef0 ef1 ef2 ef3 ef4 ef5 ef6 ef7; have ei0 := AL3.im.row.cell 0; have ei1 := AL3.im.row.cell 1; have ei2 := AL3.im.row.cell 2; have ei3 := AL3.im.row.cell 3; simp [oneC_len] at ei0 ei1 ei2 ei3))
  clear hzc
  have hs3 := AL3.bel.size
  have la3 := AL3.im.row.lt
  have hs4 : w.heap.size + 1 + 1 < w3.heap.size := AL3.f.lt
  have hs5 : w.heap.size < w3.heap.size := by omega
  have hs6 : w.heap.size + 1 ≤ w3.heap.size := by omega
  have hs7 : w.heap.size + 1 + 1 ≤ w3.heap.size := by omega
  have la4 : qa ≤ w3.heap.size := by omega
  have HC3 : Rd w3 (.slice a C.length cap) C := by obtain ⟨X, hX⟩ := AL3.bel.toExt; rw [hX]; exact HC.ext X
  have HZ3 : Rd w3 (.slice a' Z.length cap') Z := by obtain ⟨X, hX⟩ := AL3.bel.toExt; rw [hX]; exact HZ.ext X
  have w0 := hr.w0
  have w1' := hr.w1
  have e4 := hr.same
  have n400 := hs.1.1
  have lg1 := AL3.im.c.lt
  have lg2 := AL3.im.z.lt
  have lg1' : g1 ≤ w3.heap.size := by omega
  have lg2' : g2 ≤ w3.heap.size := by omega
  have E4 := Lib.hid e4
  clear e4
  go_wp2
  go_loopw [9] (fun i wr => ∃ (k : Nat) (X : Xt), k ≤ C.length ∧ i = .int .i64 k ∧ wr = w3.ext X) (fun i _ => C.length - (intOf i).toNat)
  case atStart => exact ⟨0, ⟨#[], w3.drawn⟩, by omega, rfl, (ext_none _).symm⟩
  case round =>
    obtain ⟨k, X, hk, rfl, rfl⟩ := hrel
    by_cases hlt : k < C.length
    · obtain ⟨⟨x0, x1, y0, y1⟩, kk⟩ := kth hr hlt
      have T1 : Int.tmod (k : Int) W = (k : Int) % W := Int.tmod_eq_emod_of_nonneg (by omega)
      have T2 : Int.tdiv (k : Int) W = (k : Int) / W := Int.tdiv_eq_ediv_of_nonneg (by omega)
      have y1' : (k : Int) / W ≤ 1024 := by have := hr.h1; omega
      have KK := Lib.hid kk
      clear kk
      have hkz : k < Z.length := by have := E4.out; omega
      obtain ⟨b1, off1, cap1, q1, lb1, d1⟩ := rd_some HC3 (by omega)
      obtain ⟨b2, off2, cap2, q2, lb2, d2⟩ := rd_some HZ3 (by omega)
      obtain ⟨rfl, rfl⟩ : a = some ⟨b1, off1, none⟩ ∧ cap = cap1 := by simpa using q1
      obtain ⟨rfl, rfl⟩ : a' = some ⟨b2, off2, none⟩ ∧ cap' = cap2 := by simpa using q2
      have dc := d1 k hlt
      have dz := d2 k hkz
      have dc' := AL3.im.c.cell (i := k) (by rw [oneC_len]; exact hlt)
      have dz' := AL3.im.z.cell (i := k) (by rw [oneZ_len]; exact hkz)
      have lb1' : b1 ≤ w3.heap.size := by omega
      have lb2' : b2 ≤ w3.heap.size := by omega
      have hk1 : (k : Int) < C.length := by omega
      have hk2 : (k : Int) < Z.length := by omega
      clear d1 d2 q1 q2
      obtain ⟨v, hv⟩ : ∃ v, v = elt (oneC o f W H C Z) k := ⟨_, rfl⟩
      obtain ⟨vz, hvz⟩ : ∃ v, v = elt (oneZ o f W H Z) k := ⟨_, rfl⟩
      rw [← hv] at dc'
      rw [← hvz] at dz'
      have HV := Lib.hid hv
      have HVZ := Lib.hid hvz
      clear hv hvz
      by_cases hx : bi = true ∧ (k : Int) % W = f.x ∧ (k : Int) / W = f.y
      · obtain ⟨rfl, ex, ey⟩ := hx
        have ex' : ((k : Int) % W != f.x) = false := by simpa using ex
        have ey' : ((k : Int) / W != f.y) = false := by simpa using ey
        clear ex ey
        by_cases ec : v = elt C k
        · have ec' : (v != elt C k) = false := by simpa using ec
          clear ec
          by_cases ez : vz = elt Z k
          · have ez' : (vz != elt Z k) = false := by simpa using ez
            clear ez
            go_wp2
            refine wp_region_ext (by kernel_rfl) (by kernel_rfl) ?_
            repeat (go_big_quiet_step ((fail)))
            refine wpQuiet_nil ?_
            intro _ hw_ext
            obtain ⟨X3, hw_ext⟩ := hw_ext
            subst hw_ext
            go_wp2
            go_roundw
            case rel => exact ⟨k + 1, _, by omega, by go_num, World.ext_ext⟩
            case measure => simp [intOf]; omega
          · have ez' : (vz != elt Z k) = true := by simpa using ez
            clear ez
            go_wp2
            refine wp_region_ext (by kernel_rfl) (by kernel_rfl) ?_
            repeat (go_big_quiet_step ((fail)))
            refine wpQuiet_nil ?_
            intro _ hw_ext
            obtain ⟨X3, hw_ext⟩ := hw_ext
            subst hw_ext
            go_wp2
            go_roundw
            case rel => exact ⟨k + 1, _, by omega, by go_num, World.ext_ext⟩
            case measure => simp [intOf]; omega
        · have ec' : (v != elt C k) = true := by simpa using ec
          clear ec
          go_wp2
          refine wp_region_ext (by kernel_rfl) (by kernel_rfl) ?_
          repeat (go_big_quiet_step ((fail)))
          refine wpQuiet_nil ?_
          intro _ hw_ext
          obtain ⟨X3, hw_ext⟩ := hw_ext
          subst hw_ext
          go_wp2
          go_roundw
          case rel => exact ⟨k + 1, _, by omega, by go_num, World.ext_ext⟩
          case measure => simp [intOf]; omega
      · obtain ⟨h1, h2⟩ := HB.out k hx
        obtain rfl : v = elt C k := by rw [HV.out, h1]
        obtain rfl : vz = elt Z k := by rw [HVZ.out, h2]
        clear hx h1 h2
        go_wp2
        refine wp_region_ext (by kernel_rfl) (by kernel_rfl) ?_
        repeat (go_big_quiet_step ((fail)))
        refine wpQuiet_nil ?_
        intro _ hw_ext
        obtain ⟨X3, hw_ext⟩ := hw_ext
        subst hw_ext
        go_wp2
        go_roundw
        case rel => exact ⟨k + 1, _, by omega, by go_num, World.ext_ext⟩
        case measure => simp [intOf]; omega
    · go_wp2_with (first | (go_at_call 49; (with_reducible refine (awake25 _).mono ?_); rintro _ _ ⟨rfl, X_, rfl⟩))
      go_ret
      exact Ret.of ((AL3.bel.ext (by omega) _).ext (by simp; omega) _)
theorem falone_not (W H : Int) (c z : Value) (C Z : List Int) (o : OpsP) (f : FrP) (w : World) (hc : Rd w c C) (hz : Rd w z Z) (hs : ¬ smallP W H C Z) :
    Calls Try.prog 13 #[Im W H c z, o.v, f.v] w (Ret (.bool true) w) := by
  have HC := hc
  have HZ := hz
  obtain ⟨-, -, a, cap, rfl, -, -⟩ := hc
  obtain ⟨-, -, a', cap', rfl, -, -⟩ := hz
  go_enter Try.func13, Try.ntmps13
  go_wp2_with (first
    | (go_at_call 56; (with_reducible refine (small25_no W H _ _ C Z _ ?_ ?_ hs).mono ?_); (repeat (first | assumption | with_reducible refine Rd.ext ?_ _ | with_reducible refine Rd.alloc ?_ _ | with_reducible refine Rd.drew ?_)); (repeat (first | assumption | with_reducible refine Rd.ext ?_ _ | with_reducible refine Rd.alloc ?_ _ | with_reducible refine Rd.drew ?_)); rintro _ _ ⟨rfl, X_, rfl⟩)
    | (go_at_call 49; (with_reducible refine (awake25 _).mono ?_); rintro _ _ ⟨rfl, X_, rfl⟩))
  go_ret
  exact Ret.of (by (repeat (first | exact Below.refl _ _ | with_reducible refine Below.drew ?_ | with_reducible refine Below.ext ?_ (by first | exact Nat.le_refl _ | (simp; done) | (simp; omega)) _ | with_reducible refine Below.alloc ?_ (by first | exact Nat.le_refl _ | (simp; done) | (simp; omega)) _ | with_reducible refine Below.setCell ?_ (by first | exact Nat.le_refl _ | (simp; done) | (simp; omega)) _)))
theorem FragAlone_all : FragAlone_stmt := by
  intro W H c z a0 a1 a2 a3 a4 a5 a6 a7 a8 a9 a10 a11 a12 a13 a14 b0 b1 b2 b3 b4 b5 b6 b7 w hI ho hf
  obtain ⟨-, -, ⟨C, hC⟩, ⟨Z, hZ⟩⟩ := hI
  have hc := Rd.of_ints hC
  have hz := Rd.of_ints hZ
  by_cases h : smallP W H C Z
  · exact falone_in W H c z C Z ⟨a0, a1, a2, a3, a4, a5, a6, a7, a8, a9, a10, a11, a12, a13, a14⟩ ⟨b0, b1, b2, b3, b4, b5, b6, b7⟩ (by obtain ⟨h1, h2, h3, h4, h5, h6, h7⟩ := ho; exact ⟨h1, h2, h3, h4, h5, h6, h7⟩) (by obtain ⟨h1, h2, h3, h4, h5, h6, h7, h8⟩ := hf; exact ⟨h1, h2, h3, h4, h5, h6, h7, h8⟩) w hc hz h
  · exact falone_not W H c z C Z ⟨a0, a1, a2, a3, a4, a5, a6, a7, a8, a9, a10, a11, a12, a13, a14⟩ ⟨b0, b1, b2, b3, b4, b5, b6, b7⟩ w hc hz h
theorem FragAlone_holds : Rows.FragAloneSaid := FragAlone_end FragAlone_all
end Go.Proofs.Ytdbbeggenbhbfaa
