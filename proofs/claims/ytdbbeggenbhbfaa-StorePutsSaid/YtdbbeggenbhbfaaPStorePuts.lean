/- StorePuts: whatever the input, the law returns true and leaves its arguments as they read. No condition. -/
import Derived.Test.YtdbbeggenbhbfaaStoreQ
import Derived.Test.YtdbbeggenbhbfaaEStorePuts
import Derived.Test.YtdbbeggenbhbfaaTwo
namespace Go.Proofs.Ytdbbeggenbhbfaa
set_option linter.unusedVariables false
set_option linter.unusedSimpArgs false
open Go.RowKit
/-- What a pixel has, as far as it is got. -/
def gotC (f : Int → Int) (W H : Int) (C : List Int) (x y : Int) : Int := if inB W H x y then f (elt C (y * W + x).toNat) else 0
abbrev gotV (W H : Int) (C Z : List Int) (x y : Int) : Value := .tuple #[C4 (gotC up0 W H C x y) (gotC up1 W H C x y) (gotC up2 W H C x y) (gotC up3 W H C x y), .int .i64 (gotC id W H Z x y), .bool (decide (inB W H x y))]
theorem get_is (W H : Int) (c z : Value) (C Z : List Int) (x y : Int) (w : World) (hc : Rd w c C) (hz : Rd w z Z) (h : ImOk W H C Z) (bx0 : -9223372036854775808 ≤ x) (bx1 : x ≤ 9223372036854775807) (by0 : -9223372036854775808 ≤ y) (by1 : y ≤ 9223372036854775807) :
    Calls Try.prog 37 #[Im W H c z, .int .i64 x, .int .i64 y] w (Ret (gotV W H C Z x y) w) := by
  unfold gotV gotC
  by_cases hi : inB W H x y
  · simp only [if_pos hi, id, hi, decide_true]; exact get_in W H c z C Z x y w hc hz h hi
  · simp only [if_neg hi, hi, decide_false]; exact get_out W H c z C Z x y w hc hz h bx0 bx1 by0 by1 hi
theorem rget_is (W H : Int) (c z : Value) (C Z : List Int) (x y : Int) (w : World) (hc : Rd w c C) (hz : Rd w z Z) (h : ImOk W H C Z) :
    Calls Try.prog 38 #[Im W H c z, .int .i64 x, .int .i64 y] w (Ret (gotV W H C Z x y) w) := by
  unfold gotV gotC
  by_cases hi : inB W H x y
  · simp only [if_pos hi, id, hi, decide_true]; exact rget_in W H c z C Z x y w hc hz h hi
  · simp only [if_neg hi, hi, decide_false]; exact rget_out W H c z C Z x y w hc hz h hi
set_option maxRecDepth 100000 in
set_option maxHeartbeats 8000000 in
theorem puts_in (W H : Int) (c z : Value) (C Z : List Int) (x y u pa pb pc pd : Int) (m0 m1 m2 m3 : Bool) (w : World) (hc : Rd w c C) (hz : Rd w z Z) (lc : C.length ≤ 400) (lz : Z.length ≤ 400) (hr : ImOk W H C Z) (hm : May pa pb pc pd) (u0 : 0 ≤ u) (u1 : u ≤ 16777215)
    (bx0 : -9223372036854775808 ≤ x) (bx1 : x ≤ 9223372036854775807) (by0 : -9223372036854775808 ≤ y) (by1 : y ≤ 9223372036854775807) :
    Calls Try.prog 9 #[Im W H c z, Pn x y u pa pb pc pd m0 m1 m2 m3] w (Ret (.bool true) w) := by
  have HC := hc
  have HZ := hz
  obtain ⟨-, -, a, cap, rfl, -, -⟩ := hc
  obtain ⟨-, -, a', cap', rfl, -, -⟩ := hz
  go_enter Try.func9, Try.ntmps9
  go_upto_region 7 with (first
    | (go_at_call 31; (with_reducible refine (small_yes W H _ _ C Z _ ?_ ?_ lc lz).mono ?_); (repeat (first | assumption | with_reducible refine Rd.ext ?_ _ | with_reducible refine Rd.alloc ?_ _ | with_reducible refine Rd.drew ?_)); (repeat (first | assumption | with_reducible refine Rd.ext ?_ _ | with_reducible refine Rd.alloc ?_ _ | with_reducible refine Rd.drew ?_)); rintro _ _ ⟨rfl, X_, rfl⟩)
    | (go_at_call 35; (with_reducible refine (rright_yes W H _ _ C Z _ ?_ ?_ hr).mono ?_); (repeat (first | assumption | with_reducible refine Rd.ext ?_ _ | with_reducible refine Rd.alloc ?_ _ | with_reducible refine Rd.drew ?_)); (repeat (first | assumption | with_reducible refine Rd.ext ?_ _ | with_reducible refine Rd.alloc ?_ _ | with_reducible refine Rd.drew ?_)); rintro _ _ ⟨rfl, X_, rfl⟩)
    | (go_at_call 29; (with_reducible refine (may23_yes _ _ _ _ hm _).mono ?_); rintro _ _ ⟨rfl, X_, rfl⟩)
    | (go_at_call 37; (with_reducible refine (get_is W H _ _ C Z x y _ ?_ ?_ hr bx0 bx1 by0 by1).mono ?_); (repeat (first | assumption | with_reducible refine Rd.ext ?_ _ | with_reducible refine Rd.alloc ?_ _ | with_reducible refine Rd.drew ?_)); (repeat (first | assumption | with_reducible refine Rd.ext ?_ _ | with_reducible refine Rd.alloc ?_ _ | with_reducible refine Rd.drew ?_)); rintro _ _ ⟨rfl, X_, rfl⟩)
    | (go_at_call 38; (with_reducible refine (rget_is W H _ _ C Z x y _ ?_ ?_ hr).mono ?_); (repeat (first | assumption | with_reducible refine Rd.ext ?_ _ | with_reducible refine Rd.alloc ?_ _ | with_reducible refine Rd.drew ?_)); (repeat (first | assumption | with_reducible refine Rd.ext ?_ _ | with_reducible refine Rd.alloc ?_ _ | with_reducible refine Rd.drew ?_)); rintro _ _ ⟨rfl, X_, rfl⟩))
  refine wp_copies2 (c := .slice a C.length cap) (z := .slice a' Z.length cap') w.heap.size hr ?_ ?_ rfl ?_ (by decide) (six (by simp [sg]) (by simp [sg]) (by simp [sg]) (by simp [sg]) (by simp [sg]) (by simp [sg])) (by decide) ?_
  · (repeat (first | assumption | with_reducible refine Rd.ext ?_ _ | with_reducible refine Rd.alloc ?_ _ | with_reducible refine Rd.drew ?_))
  · (repeat (first | assumption | with_reducible refine Rd.ext ?_ _ | with_reducible refine Rd.alloc ?_ _ | with_reducible refine Rd.drew ?_))
  · (repeat (first | assumption | with_reducible refine Row.ext ?_ _ | with_reducible refine row_drew ?_ | (with_reducible refine row_last ?_; first | rfl | (simp; done)) | with_reducible refine Row.alloc ?_ _))
  intro X qa g1 k1 g2 k2 qb g3 k3 g4 k4 T
  simp only [Act.put, List.setIfInBounds_toArray, List.set_cons_zero, List.set_cons_succ, ptr]
  go_wp2
  refine wp_abs (F := fun wx => ∃ w0 : World, Pair w0 wx W H C Z C Z qa g1 k1 g2 k2 qb g3 k3 g4 k4 ∧ Row wx (w.heap.size + 1) #[.int .i64 x, .int .i64 y, .int .i64 u, .int .i64 pa, .int .i64 pb, .int .i64 pc, .int .i64 pd, .bool m0, .bool m1, .bool m2, .bool m3] 48 ∧ w.heap.size + 2 ≤ w0.heap.size ∧ Below w.heap.size w w0) ⟨_, ⟨T.a, T.b, T.lo, T.ap, (Below.refl _ _).ext (Nat.le_refl _) X⟩, by (repeat (first | assumption | with_reducible refine Row.ext ?_ _ | with_reducible refine row_drew ?_ | (with_reducible refine row_last ?_; first | rfl | (simp; done)) | with_reducible refine Row.alloc ?_ _)), by simp; omega, by (repeat (first | exact Below.refl _ _ | with_reducible refine Below.drew ?_ | with_reducible refine Below.ext ?_ (by first | exact Nat.le_refl _ | (simp; done) | (simp; omega)) _ | with_reducible refine Below.alloc ?_ (by first | exact Nat.le_refl _ | (simp; done) | (simp; omega)) _ | with_reducible refine Below.setCell ?_ (by first | exact Nat.le_refl _ | (simp; done) | (simp; omega)) _))⟩ ?_
  rintro wx ⟨w0, PR, PP, hw0, BB⟩
  have p0 := PP.cell 0
  have p1 := PP.cell 1
  have p2 := PP.cell 2
  have p3 := PP.cell 3
  have p4 := PP.cell 4
  have p5 := PP.cell 5
  have p6 := PP.cell 6
  have p7 := PP.cell 7
  have p8 := PP.cell 8
  have p9 := PP.cell 9
  have p10 := PP.cell 10
  simp at p0 p1 p2 p3 p4 p5 p6 p7 p8 p9 p10
  go_wp2
  go_region_held3 (fun w' => w'.cell? ⟨w.heap.size + 1, 0, none⟩ = some (.int .i64 x) ∧ w'.cell? ⟨w.heap.size + 1, 1, none⟩ = some (.int .i64 y) ∧ w'.cell? ⟨w.heap.size + 1, 2, none⟩ = some (.int .i64 u) ∧ w'.cell? ⟨w.heap.size + 1, 3, none⟩ = some (.int .i64 pa) ∧ w'.cell? ⟨w.heap.size + 1, 4, none⟩ = some (.int .i64 pb) ∧ w'.cell? ⟨w.heap.size + 1, 5, none⟩ = some (.int .i64 pc) ∧ w'.cell? ⟨w.heap.size + 1, 6, none⟩ = some (.int .i64 pd) ∧ w'.cell? ⟨w.heap.size + 1, 7, none⟩ = some (.bool m0) ∧ w'.cell? ⟨w.heap.size + 1, 8, none⟩ = some (.bool m1) ∧ w'.cell? ⟨w.heap.size + 1, 9, none⟩ = some (.bool m2) ∧ w'.cell? ⟨w.heap.size + 1, 10, none⟩ = some (.bool m3)) (go_simp) ((first
    | (go_at_call 40; (with_reducible refine (put_img PR.a.drew x y pa pb pc pd m0 m1 m2 m3 bx0 bx1 by0 by1 hm).mono ?_); rintro _ w1 ⟨rfl, IA, CH⟩; have PR1 := PR.drew.stepA CH (fun k h => .inl h) IA; have PP1 := PR.drew.keep CH (fun k h => .inl h) (row_drew PP) (by omega); have r0 := PP1.cell 0; have r1 := PP1.cell 1; have r2 := PP1.cell 2; have r3 := PP1.cell 3; have r4 := PP1.cell 4; have r5 := PP1.cell 5; have r6 := PP1.cell 6; have r7 := PP1.cell 7; have r8 := PP1.cell 8; have r9 := PP1.cell 9; have r10 := PP1.cell 10; simp at r0 r1 r2 r3 r4 r5 r6 r7 r8 r9 r10)
    | (go_at_call 41; (with_reducible refine (deep_img PR1.a x y u bx0 bx1 by0 by1 ⟨u0, u1⟩).mono ?_); rintro _ w2 ⟨rfl, IA2, CH2⟩; have PR2 := PR1.stepA CH2 (fun k h => .inr h) IA2; have PP2 := PR1.keep CH2 (fun k h => .inr (.inl h)) PP1 (by omega); have t0 := PP2.cell 0; have t1 := PP2.cell 1; have t2 := PP2.cell 2; have t3 := PP2.cell 3; have t4 := PP2.cell 4; have t5 := PP2.cell 5; have t6 := PP2.cell 6; have t7 := PP2.cell 7; have t8 := PP2.cell 8; have t9 := PP2.cell 9; have t10 := PP2.cell 10; simp at t0 t1 t2 t3 t4 t5 t6 t7 t8 t9 t10)))
  go_wp2
  go_region_held3 (fun w' => w'.cell? ⟨w.heap.size + 1, 0, none⟩ = some (.int .i64 x) ∧ w'.cell? ⟨w.heap.size + 1, 1, none⟩ = some (.int .i64 y) ∧ w'.cell? ⟨w.heap.size + 1, 2, none⟩ = some (.int .i64 u) ∧ w'.cell? ⟨w.heap.size + 1, 3, none⟩ = some (.int .i64 pa) ∧ w'.cell? ⟨w.heap.size + 1, 4, none⟩ = some (.int .i64 pb) ∧ w'.cell? ⟨w.heap.size + 1, 5, none⟩ = some (.int .i64 pc) ∧ w'.cell? ⟨w.heap.size + 1, 6, none⟩ = some (.int .i64 pd) ∧ w'.cell? ⟨w.heap.size + 1, 7, none⟩ = some (.bool m0) ∧ w'.cell? ⟨w.heap.size + 1, 8, none⟩ = some (.bool m1) ∧ w'.cell? ⟨w.heap.size + 1, 9, none⟩ = some (.bool m2) ∧ w'.cell? ⟨w.heap.size + 1, 10, none⟩ = some (.bool m3)) (go_simp) ((first
    | (go_at_call 42; (with_reducible refine (rput_img PR2.b.drew x y pa pb pc pd m0 m1 m2 m3 bx0 bx1 by0 by1 hm).mono ?_); rintro _ w3 ⟨rfl, IB, CH3⟩; have PR3 := PR2.drew.stepB CH3 (fun k h => .inl h) IB; have PP3 := PR2.drew.keep CH3 (fun k h => .inr (.inr (.inl h))) (row_drew PP2) (by omega); have v0 := PP3.cell 0; have v1 := PP3.cell 1; have v2 := PP3.cell 2; have v3 := PP3.cell 3; have v4 := PP3.cell 4; have v5 := PP3.cell 5; have v6 := PP3.cell 6; have v7 := PP3.cell 7; have v8 := PP3.cell 8; have v9 := PP3.cell 9; have v10 := PP3.cell 10; simp at v0 v1 v2 v3 v4 v5 v6 v7 v8 v9 v10)
    | (go_at_call 43; (with_reducible refine (rdeep_img PR3.b x y u bx0 bx1 by0 by1 ⟨u0, u1⟩).mono ?_); rintro _ w4 ⟨rfl, IB2, CH4⟩; have PR4 := PR3.stepB CH4 (fun k h => .inr h) IB2; have PP4 := PR3.keep CH4 (fun k h => .inr (.inr (.inr h))) PP3 (by omega); have z0 := PP4.cell 0; have z1 := PP4.cell 1; have z2 := PP4.cell 2; have z3 := PP4.cell 3; have z4 := PP4.cell 4; have z5 := PP4.cell 5; have z6 := PP4.cell 6; have z7 := PP4.cell 7; have z8 := PP4.cell 8; have z9 := PP4.cell 9; have z10 := PP4.cell 10; simp at z0 z1 z2 z3 z4 z5 z6 z7 z8 z9 z10)))
  have BB4 := PR4.bel
  have la := PR4.a.row.lt
  have lb := PR4.b.row.lt
  have la' : qa ≤ w4.heap.size := by omega
  have lb' : qb ≤ w4.heap.size := by omega
  have ka0 := PR4.a.row.cell 0
  have ka1 := PR4.a.row.cell 1
  have ka2 := PR4.a.row.cell 2
  have ka3 := PR4.a.row.cell 3
  have kb0 := PR4.b.row.cell 0
  have kb1 := PR4.b.row.cell 1
  have kb2 := PR4.b.row.cell 2
  have kb3 := PR4.b.row.cell 3
  simp at ka0 ka1 ka2 ka3 kb0 kb1 kb2 kb3
  have ra := PR4.a.rds
  have rb := PR4.b.rds
  have lc4 := PR4.a.ok.bd.2
  have lz4 := PR4.a.ok.bz
  go_wp2_with (first
    | (go_at_call 26; (with_reducible refine (awake23 _).mono ?_); rintro _ _ ⟨rfl, X_, rfl⟩)
    | (go_at_call 36; (with_reducible refine (same_yes W H _ _ _ _ (putC W H C x y pa pb pc pd m0 m1 m2 m3) (putZ W H Z x y u) _ ?_ ?_ ?_ ?_ lc4 lz4).mono ?_); (with_reducible exact ra.1.ext _); (with_reducible exact ra.2.ext _); (with_reducible exact rb.1.ext _); (with_reducible exact rb.2.ext _); rintro _ _ ⟨rfl, X_, rfl⟩))
  go_ret
  have z1 := BB.size
  have z2 := BB4.size
  exact Ret.of' (by simp) (((BB.trans (BB4.mono (by omega))).ext (by omega) _).ext (by simp; omega) _)
theorem StorePuts_all : StorePuts_stmt := by
  intro W H c z x y u pa pb pc pd m0 m1 m2 m3 w hI hP
  obtain ⟨-, -, ⟨C, hC⟩, ⟨Z, hZ⟩⟩ := hI
  obtain ⟨⟨bx0, bx1⟩, ⟨by0, by1⟩, -⟩ := hP
  have hc := Rd.of_ints hC
  have hz := Rd.of_ints hZ
  by_cases h : Asked W H C Z u pa pb pc pd
  · obtain ⟨⟨lc, lz⟩, hr, hm, u0, u1⟩ := h
    exact puts_in W H c z C Z x y u pa pb pc pd m0 m1 m2 m3 w hc hz lc lz hr hm u0 u1 bx0 bx1 by0 by1
  · exact puts_not W H c z C Z x y u pa pb pc pd m0 m1 m2 m3 w hc hz h
theorem StorePuts_holds : Rows.StorePutsSaid := StorePuts_end StorePuts_all
end Go.Proofs.Ytdbbeggenbhbfaa
