/- FragComes: whatever the input, the law returns true and leaves its arguments as they read. No condition. -/
import Derived.Test.YtdbbeggenbhbfaaFragF
import Derived.Test.YtdbbeggenbhbfaaEFragComes
namespace Go.Proofs.Ytdbbeggenbhbfaa
set_option linter.unusedVariables false
set_option linter.unusedSimpArgs false
open Go.RowKit
set_option maxRecDepth 100000 in
set_option maxHeartbeats 8000000 in
theorem comes_in (W H : Int) (c z v : Value) (C Z : List Int) (L : List FrP) (o : OpsP) (ho : o.ok) (w : World) (hc : Rd w c C) (hz : Rd w z Z) (hs : smallP W H C Z) (hL : Frs w v L) (l40 : L.length ≤ 40) :
    Calls Try.prog 14 #[Im W H c z, o.v, v] w (Ret (.bool true) w) := by
  have HC := hc
  have HZ := hz
  have HL := hL
  obtain ⟨-, -, a, cap, rfl, -, -⟩ := hc
  obtain ⟨-, -, a', cap', rfl, -, -⟩ := hz
  obtain ⟨-, -, av, capv, rfl, -, -⟩ := hL
  have hr := hs.2
  have own := HL.own
  have OWN := Lib.hid own
  clear own
  go_enter Try.func14, Try.ntmps14
  go_upto_region 3 with (first
    | (go_at_call 56; (with_reducible refine (small25_yes W H _ _ C Z _ ?_ ?_ hs).mono ?_); (repeat (first | assumption | with_reducible refine Rd.ext ?_ _ | with_reducible refine Rd.alloc ?_ _ | with_reducible refine Rd.drew ?_)); (repeat (first | assumption | with_reducible refine Rd.ext ?_ _ | with_reducible refine Rd.alloc ?_ _ | with_reducible refine Rd.drew ?_)); rintro _ _ ⟨rfl, X_, rfl⟩))
  refine wp_copies2 (c := .slice a C.length cap) (z := .slice a' Z.length cap') w.heap.size hr ?_ ?_ rfl ?_ (by decide) (six (by simp [sg]) (by simp [sg]) (by simp [sg]) (by simp [sg]) (by simp [sg]) (by simp [sg])) (by decide) ?_
  · (repeat (first | assumption | with_reducible refine Rd.ext ?_ _ | with_reducible refine Rd.alloc ?_ _ | with_reducible refine Rd.drew ?_))
  · (repeat (first | assumption | with_reducible refine Rd.ext ?_ _ | with_reducible refine Rd.alloc ?_ _ | with_reducible refine Rd.drew ?_))
  · (repeat (first | assumption | with_reducible refine Row.ext ?_ _ | with_reducible refine row_drew ?_ | (with_reducible refine row_last ?_; first | rfl | (simp; done)) | with_reducible refine Row.alloc ?_ _))
  intro X qa g1 k1 g2 k2 qb g3 k3 g4 k4 T
  simp only [Act.put, List.setIfInBounds_toArray, List.set_cons_zero, List.set_cons_succ, ptr]
  go_wp2
  refine wp_abs (F := fun wx => ∃ w0 : World, Pair w0 wx W H C Z C Z qa g1 k1 g2 k2 qb g3 k3 g4 k4 ∧ Row wx w.heap.size #[.int .i64 W, .int .i64 H, .slice a C.length cap, .slice a' Z.length cap'] 39 ∧ Row wx (w.heap.size + 1) #[.bool o.cut, .int .i64 o.x0, .int .i64 o.y0, .int .i64 o.x1, .int .i64 o.y1, .bool o.deep, .int .i64 o.fn, .bool o.keep, .bool o.mix, .int .i64 o.sf, .int .i64 o.df, .bool o.m0, .bool o.m1, .bool o.m2, .bool o.m3] 64 ∧ w.heap.size + 2 ≤ w0.heap.size ∧ Below w.heap.size w w0) ⟨_, ⟨T.a, T.b, T.lo, T.ap, (Below.refl _ _).ext (Nat.le_refl _) X⟩, by (repeat (first | assumption | with_reducible refine Row.ext ?_ _ | with_reducible refine row_drew ?_ | (with_reducible refine row_last ?_; first | rfl | (simp; done)) | with_reducible refine Row.alloc ?_ _)), by (repeat (first | assumption | with_reducible refine Row.ext ?_ _ | with_reducible refine row_drew ?_ | (with_reducible refine row_last ?_; first | rfl | (simp; done)) | with_reducible refine Row.alloc ?_ _)), by first | omega | simp, by (repeat (first | exact Below.refl _ _ | with_reducible refine Below.drew ?_ | with_reducible refine Below.ext ?_ (by first | exact Nat.le_refl _ | (simp; done) | (simp; omega)) _ | with_reducible refine Below.alloc ?_ (by first | exact Nat.le_refl _ | (simp; done) | (simp; omega)) _ | with_reducible refine Below.setCell ?_ (by first | exact Nat.le_refl _ | (simp; done) | (simp; omega)) _))⟩ ?_
  rintro wx ⟨w0, PR, PM, PP, hw0, BB⟩
  have FR : Frs wx (.slice av L.length capv) L := by
    obtain ⟨Y, hY⟩ := (BB.trans (PR.bel.mono (by omega))).toExt
    rw [hY]; exact HL.ext Y
  have vn1 : ∀ b, (Value.slice av L.length capv).ownBlock = some b → L ≠ [] → b ≠ g1 ∧ b ≠ g2 := fun b hb hne => by have := OWN.out b hb hne; have := PR.lo; omega
  have vn2 : ∀ b, (Value.slice av L.length capv).ownBlock = some b → L ≠ [] → b ≠ g3 ∧ b ≠ g4 := fun b hb hne => by have := OWN.out b hb hne; have := PR.lo; omega
  have VN1 := Lib.hid vn1
  have VN2 := Lib.hid vn2
  clear vn1 vn2
  have p0 := PP.cell 0
  have p1 := PP.cell 1
  have p2 := PP.cell 2
  have p3 := PP.cell 3
  have p4 := PP.cell 4
  have p5 := PP.cell 5
  have p6 := PP.cell 6
  have p7 := PP.cell 7
  have p8 := PP.cell 8
  have p9 := PP.cell 9
  have p10 := PP.cell 10
  have p11 := PP.cell 11
  have p12 := PP.cell 12
  have p13 := PP.cell 13
  have p14 := PP.cell 14
  simp at p0 p1 p2 p3 p4 p5 p6 p7 p8 p9 p10 p11 p12 p13 p14
  go_region_held3 (fun w' => w'.cell? ⟨w.heap.size + 1, 0, none⟩ = some (.bool o.cut) ∧ w'.cell? ⟨w.heap.size + 1, 1, none⟩ = some (.int .i64 o.x0) ∧ w'.cell? ⟨w.heap.size + 1, 2, none⟩ = some (.int .i64 o.y0) ∧ w'.cell? ⟨w.heap.size + 1, 3, none⟩ = some (.int .i64 o.x1) ∧ w'.cell? ⟨w.heap.size + 1, 4, none⟩ = some (.int .i64 o.y1) ∧ w'.cell? ⟨w.heap.size + 1, 5, none⟩ = some (.bool o.deep) ∧ w'.cell? ⟨w.heap.size + 1, 6, none⟩ = some (.int .i64 o.fn) ∧ w'.cell? ⟨w.heap.size + 1, 7, none⟩ = some (.bool o.keep) ∧ w'.cell? ⟨w.heap.size + 1, 8, none⟩ = some (.bool o.mix) ∧ w'.cell? ⟨w.heap.size + 1, 9, none⟩ = some (.int .i64 o.sf) ∧ w'.cell? ⟨w.heap.size + 1, 10, none⟩ = some (.int .i64 o.df) ∧ w'.cell? ⟨w.heap.size + 1, 11, none⟩ = some (.bool o.m0) ∧ w'.cell? ⟨w.heap.size + 1, 12, none⟩ = some (.bool o.m1) ∧ w'.cell? ⟨w.heap.size + 1, 13, none⟩ = some (.bool o.m2) ∧ w'.cell? ⟨w.heap.size + 1, 14, none⟩ = some (.bool o.m3)) (go_simp) ((first
    | (go_at_call 58; (with_reducible refine (all_any PR.a.drew o ho (FR.chg (p := fun _ => False) Chg.refl.drew (fun _ _ _ _ h => h)) VN1.out).mono ?_); rintro _ w1 ⟨rfl, IA, CH⟩; have PR1 := PR.drew.stepA CH (fun k h => h) IA; have PP1 := PR.drew.keep CH (fun k h => by omega) (row_drew PP) (by omega); have PM1 := PR.drew.keep CH (fun k h => by omega) (row_drew PM) (by omega); have r0 := PP1.cell 0; have r1 := PP1.cell 1; have r2 := PP1.cell 2; have r3 := PP1.cell 3; have r4 := PP1.cell 4; have r5 := PP1.cell 5; have r6 := PP1.cell 6; have r7 := PP1.cell 7; have r8 := PP1.cell 8; have r9 := PP1.cell 9; have r10 := PP1.cell 10; have r11 := PP1.cell 11; have r12 := PP1.cell 12; have r13 := PP1.cell 13; have r14 := PP1.cell 14; simp at r0 r1 r2 r3 r4 r5 r6 r7 r8 r9 r10 r11 r12 r13 r14)
    | (go_at_call 59; (with_reducible refine (rall_any PR1.b o ho (FR.chg (p := fun k => k = g1 ∨ k = g2) (Chg.refl.drew.trans CH) (fun b hb hne _ h => by have := VN1.out b hb hne; omega)) VN2.out).mono ?_); rintro _ w2 ⟨rfl, IB, CH2⟩; have PR2 := PR1.stepB CH2 (fun k h => h) IB; have PP2 := PR1.keep CH2 (fun k h => by omega) PP1 (by omega); have PM2 := PR1.keep CH2 (fun k h => by omega) PM1 (by omega); have t0 := PP2.cell 0; have t1 := PP2.cell 1; have t2 := PP2.cell 2; have t3 := PP2.cell 3; have t4 := PP2.cell 4; have t5 := PP2.cell 5; have t6 := PP2.cell 6; have t7 := PP2.cell 7; have t8 := PP2.cell 8; have t9 := PP2.cell 9; have t10 := PP2.cell 10; have t11 := PP2.cell 11; have t12 := PP2.cell 12; have t13 := PP2.cell 13; have t14 := PP2.cell 14; simp at t0 t1 t2 t3 t4 t5 t6 t7 t8 t9 t10 t11 t12 t13 t14)))
  go_wp2
  have BT : Below w.heap.size w w2 := BB.trans (PR2.bel.mono (by omega))
  have HC2 : Rd w2 (.slice a C.length cap) C := by obtain ⟨Y, hY⟩ := BT.toExt; rw [hY]; exact HC.ext Y
  have HZ2 : Rd w2 (.slice a' Z.length cap') Z := by obtain ⟨Y, hY⟩ := BT.toExt; rw [hY]; exact HZ.ext Y
  have FR2 : Frs w2 (.slice av L.length capv) L := by obtain ⟨Y, hY⟩ := BT.toExt; rw [hY]; exact HL.ext Y
  have ja := PR2.a.row.lt
  have ja1 := PR2.a.c.lt
  have ja2 := PR2.a.z.lt
  have jb := PR2.b.row.lt
  have jb1 := PR2.b.c.lt
  have jb2 := PR2.b.z.lt
  have jm := PM2.lt
  have jp := PP2.lt
  clear p0 p1 p2 p3 p4 p5 p6 p7 p8 p9 p10 p11 p12 p13 p14 r0 r1 r2 r3 r4 r5 r6 r7 r8 r9 r10 r11 r12 r13 r14 t0 t1 t2 t3 t4 t5 t6 t7 t8 t9 t10 t11 t12 t13 t14 FR VN1 VN2
  refine wp_copies2 (c := .slice a C.length cap) (z := .slice a' Z.length cap') w.heap.size hr HC2 HZ2 rfl PM2 (by decide) (six (by simp [sg]) (by simp [sg]) (by simp [sg]) (by simp [sg]) (by simp [sg]) (by simp [sg])) (by decide) ?_
  intro X2 qc g5 k5 g6 k6 qd g7 k7 g8 k8 T2
  simp only [Act.put, List.setIfInBounds_toArray, List.set_cons_zero, List.set_cons_succ, ptr]
  go_wp2
  go_loopw [13] (fun i wr => ∃ k : Nat, k ≤ L.length ∧ i = .int .i64 k ∧ Pair w2 wr W H (allF o W H C Z (L.take k)).1 (allF o W H C Z (L.take k)).2.1 (allF o W H C Z (L.take k)).1 (allF o W H C Z (L.take k)).2.1 qc g5 k5 g6 k6 qd g7 k7 g8 k8)
    (fun i _ => L.length - (intOf i).toNat)
  case atStart => exact ⟨0, by omega, rfl, ⟨T2.a, T2.b, T2.lo, T2.ap, (Below.refl _ _).ext (Nat.le_refl _) X2⟩⟩
  case round =>
    obtain ⟨k, hk, rfl, PQ⟩ := hrel
    have CR := Below.toChg PQ.bel
    have zr := PQ.bel.size
    obtain ⟨wo, rfl⟩ : ∃ wo, wo = wr := ⟨_, rfl⟩
    have PP3 := CR.row PP2 (by omega)
    by_cases hlt : k < L.length
    · have HS := Lib.hid (allF_snoc o W H C Z L k hlt)
      generalize allF o W H C Z (L.take k) = s at *
      obtain ⟨lf, -, a1, cap1, q1, -, h3⟩ := FR2
      rcases h3 with rfl | ⟨b, off, rfl, hb, hcl⟩
      · simp at hlt
      obtain ⟨rfl, rfl⟩ : av = some ⟨b, off, none⟩ ∧ capv = cap1 := by simpa using q1
      have hfk : L[k]? = some L[k] := by simp [hlt]
      have hf := lf L[k] (by simp)
      have ec := hcl k L[k] hfk
      have bo := OWN.out b rfl (fun e => by rw [e] at hlt; simp at hlt)
      clear q1 hcl lf
      generalize hF : L[k] = f at *
      have HF := Lib.hid hF
      clear hF hfk
      have ec3 : ∀ (j : Nat) (u : Value), f.cells[j]? = some u → wo.cell? ⟨b, off + k * 8 + j, none⟩ = some u := fun j u h => by rw [CR.cell hb (by omega)]; exact ec j u h
      clear ec
      have e0 := ec3 0 _ rfl
      have e1 := ec3 1 _ rfl
      have e2 := ec3 2 _ rfl
      have e3 := ec3 3 _ rfl
      have e4 := ec3 4 _ rfl
      have e5 := ec3 5 _ rfl
      have e6 := ec3 6 _ rfl
      have e7 := ec3 7 _ rfl
      simp only [Nat.add_zero] at e0
      have p0 := PP3.cell 0
      have p1 := PP3.cell 1
      have p2 := PP3.cell 2
      have p3 := PP3.cell 3
      have p4 := PP3.cell 4
      have p5 := PP3.cell 5
      have p6 := PP3.cell 6
      have p7 := PP3.cell 7
      have p8 := PP3.cell 8
      have p9 := PP3.cell 9
      have p10 := PP3.cell 10
      have p11 := PP3.cell 11
      have p12 := PP3.cell 12
      have p13 := PP3.cell 13
      have p14 := PP3.cell 14
      simp at p0 p1 p2 p3 p4 p5 p6 p7 p8 p9 p10 p11 p12 p13 p14
      have hbo : b < wo.heap.size := by omega
      have hbo' : b ≤ wo.heap.size := by omega
      have hpo : w.heap.size + 1 ≤ wo.heap.size := by omega
      have hki : (k : Int) < L.length := by omega
      have LO := PQ.lo
      go_wp2
      go_region_held3 (fun w' => w'.cell? ⟨w.heap.size + 1, 0, none⟩ = some (.bool o.cut) ∧ w'.cell? ⟨w.heap.size + 1, 1, none⟩ = some (.int .i64 o.x0) ∧ w'.cell? ⟨w.heap.size + 1, 2, none⟩ = some (.int .i64 o.y0) ∧ w'.cell? ⟨w.heap.size + 1, 3, none⟩ = some (.int .i64 o.x1) ∧ w'.cell? ⟨w.heap.size + 1, 4, none⟩ = some (.int .i64 o.y1) ∧ w'.cell? ⟨w.heap.size + 1, 5, none⟩ = some (.bool o.deep) ∧ w'.cell? ⟨w.heap.size + 1, 6, none⟩ = some (.int .i64 o.fn) ∧ w'.cell? ⟨w.heap.size + 1, 7, none⟩ = some (.bool o.keep) ∧ w'.cell? ⟨w.heap.size + 1, 8, none⟩ = some (.bool o.mix) ∧ w'.cell? ⟨w.heap.size + 1, 9, none⟩ = some (.int .i64 o.sf) ∧ w'.cell? ⟨w.heap.size + 1, 10, none⟩ = some (.int .i64 o.df) ∧ w'.cell? ⟨w.heap.size + 1, 11, none⟩ = some (.bool o.m0) ∧ w'.cell? ⟨w.heap.size + 1, 12, none⟩ = some (.bool o.m1) ∧ w'.cell? ⟨w.heap.size + 1, 13, none⟩ = some (.bool o.m2) ∧ w'.cell? ⟨w.heap.size + 1, 14, none⟩ = some (.bool o.m3) ∧ w'.cell? ⟨b, off + k * 8, none⟩ = some (.int .i64 f.x) ∧ w'.cell? ⟨b, off + k * 8 + 1, none⟩ = some (.int .i64 f.y) ∧ w'.cell? ⟨b, off + k * 8 + 2, none⟩ = some (.int .i64 f.z) ∧ w'.cell? ⟨b, off + k * 8 + 3, none⟩ = some (.int .i64 f.c0) ∧ w'.cell? ⟨b, off + k * 8 + 4, none⟩ = some (.int .i64 f.c1) ∧ w'.cell? ⟨b, off + k * 8 + 5, none⟩ = some (.int .i64 f.c2) ∧ w'.cell? ⟨b, off + k * 8 + 6, none⟩ = some (.int .i64 f.c3) ∧ w'.cell? ⟨b, off + k * 8 + 7, none⟩ = some (.int .i64 f.cov)) (go_simp) ((first
        | (go_at_call 57; (with_reducible refine (one_any PQ.a.drew o f ho hf).mono ?_); rintro _ w3 ⟨rfl, IA, CH⟩; have PR1 := PQ.drew.stepA CH (fun k h => h) IA; have PP4 := PQ.drew.keep CH (fun k h => by omega) (row_drew PP3) (by omega); have ec4 : ∀ (j : Nat) (u : Value), f.cells[j]? = some u → w3.cell? ⟨b, off + k * 8 + j, none⟩ = some u := (fun j u h => by rw [CH.cell (show b < wo.drew.heap.size from hbo) (by omega)]; exact ec3 j u h); have r0 := PP4.cell 0; have r1 := PP4.cell 1; have r2 := PP4.cell 2; have r3 := PP4.cell 3; have r4 := PP4.cell 4; have r5 := PP4.cell 5; have r6 := PP4.cell 6; have r7 := PP4.cell 7; have r8 := PP4.cell 8; have r9 := PP4.cell 9; have r10 := PP4.cell 10; have r11 := PP4.cell 11; have r12 := PP4.cell 12; have r13 := PP4.cell 13; have r14 := PP4.cell 14; simp at r0 r1 r2 r3 r4 r5 r6 r7 r8 r9 r10 r11 r12 r13 r14; have f0 := ec4 0 _ rfl; have f1 := ec4 1 _ rfl; have f2 := ec4 2 _ rfl; have f3 := ec4 3 _ rfl; have f4 := ec4 4 _ rfl; have f5 := ec4 5 _ rfl; have f6 := ec4 6 _ rfl; have f7 := ec4 7 _ rfl; simp only [Nat.add_zero] at f0)
        | (go_at_call 60; (with_reducible refine (rone_any PR1.b o f ho hf).mono ?_); rintro _ w4 ⟨rfl, IB, CH2⟩; have PR2' := PR1.stepB CH2 (fun k h => h) IB; have PP5 := PR1.keep CH2 (fun k h => by omega) PP4 (by omega); have ec5 : ∀ (j : Nat) (u : Value), f.cells[j]? = some u → w4.cell? ⟨b, off + k * 8 + j, none⟩ = some u := (fun j u h => by rw [CH2.cell (show b < w3.heap.size by have := PR1.bel.size; omega) (by omega)]; exact ec4 j u h); have t0 := PP5.cell 0; have t1 := PP5.cell 1; have t2 := PP5.cell 2; have t3 := PP5.cell 3; have t4 := PP5.cell 4; have t5 := PP5.cell 5; have t6 := PP5.cell 6; have t7 := PP5.cell 7; have t8 := PP5.cell 8; have t9 := PP5.cell 9; have t10 := PP5.cell 10; have t11 := PP5.cell 11; have t12 := PP5.cell 12; have t13 := PP5.cell 13; have t14 := PP5.cell 14; simp at t0 t1 t2 t3 t4 t5 t6 t7 t8 t9 t10 t11 t12 t13 t14; have h0 := ec5 0 _ rfl; have h1 := ec5 1 _ rfl; have h2 := ec5 2 _ rfl; have h3 := ec5 3 _ rfl; have h4 := ec5 4 _ rfl; have h5 := ec5 5 _ rfl; have h6 := ec5 6 _ rfl; have h7 := ec5 7 _ rfl; simp only [Nat.add_zero] at h0)))
      go_wp2
      go_roundw
      case rel => exact ⟨k + 1, by omega, by go_num, by rw [HS.out]; exact PR2'⟩
      case measure => simp [intOf]; omega
    · obtain rfl : k = L.length := by omega
      rw [List.take_length] at PQ
      have IA2 := PR2.a.chg CR (by omega) (by omega) (by omega)
      have IB2 := PR2.b.chg CR (by omega) (by omega) (by omega)
      have IC2 := PQ.a
      have oka := IA2.ok
      generalize (allF o W H C Z L).1 = AC at *
      generalize (allF o W H C Z L).2.1 = AZ at *
      generalize (allF o W H C Z L).2.2 = AN at *
      have a0 := IA2.row.cell 0
      have a1 := IA2.row.cell 1
      have a2 := IA2.row.cell 2
      have a3 := IA2.row.cell 3
      simp at a0 a1 a2 a3
      have b0 := IB2.row.cell 0
      have b1 := IB2.row.cell 1
      have b2 := IB2.row.cell 2
      have b3 := IB2.row.cell 3
      simp at b0 b1 b2 b3
      have c0 := IC2.row.cell 0
      have c1 := IC2.row.cell 1
      have c2 := IC2.row.cell 2
      have c3 := IC2.row.cell 3
      simp at c0 c1 c2 c3
      have ma := IA2.row.lt
      have mb := IB2.row.lt
      have mc := IC2.row.lt
      have ma' : qa ≤ wo.heap.size := by omega
      have mb' : qb ≤ wo.heap.size := by omega
      have mc' : qc ≤ wo.heap.size := by omega
      obtain ⟨ra, rz⟩ := IA2.rds
      obtain ⟨rb, rbz⟩ := IB2.rds
      obtain ⟨rc, rcz⟩ := IC2.rds
      have lcA := oka.bd.2
      have lzA := oka.bz
      have BF : Below w.heap.size w wo := BT.trans (PQ.bel.mono (by omega))
      have zf : w.heap.size ≤ wo.heap.size := by omega
      go_wp2_with (first
        | (go_at_call 49; (with_reducible refine (awake25 _).mono ?_); rintro _ _ ⟨rfl, X_, rfl⟩)
        | (go_at_call 36; (with_reducible refine (same_yes W H _ _ _ _ AC AZ _ ?_ ?_ ?_ ?_ lcA lzA).mono ?_); (repeat (first | assumption | with_reducible refine Rd.ext ?_ _ | with_reducible refine Rd.alloc ?_ _ | with_reducible refine Rd.drew ?_)); (repeat (first | assumption | with_reducible refine Rd.ext ?_ _ | with_reducible refine Rd.alloc ?_ _ | with_reducible refine Rd.drew ?_)); (repeat (first | assumption | with_reducible refine Rd.ext ?_ _ | with_reducible refine Rd.alloc ?_ _ | with_reducible refine Rd.drew ?_)); (repeat (first | assumption | with_reducible refine Rd.ext ?_ _ | with_reducible refine Rd.alloc ?_ _ | with_reducible refine Rd.drew ?_)); rintro _ _ ⟨rfl, X_, rfl⟩))
      go_ret
      exact Ret.of' (by simp) (by repeat (first | exact BF | (with_reducible refine Below.ext ?_ (by first | omega | (simp; omega)) _)))
theorem comes_not (W H : Int) (c z : Value) (C Z : List Int) (a : Option Addr) (n cap : Nat) (o : OpsP) (w : World) (hc : Rd w c C) (hz : Rd w z Z) (hs : ¬ smallP W H C Z) :
    Calls Try.prog 14 #[Im W H c z, o.v, .slice a n cap] w (Ret (.bool true) w) := by
  have HC := hc
  have HZ := hz
  obtain ⟨-, -, a1, cap1, rfl, -, -⟩ := hc
  obtain ⟨-, -, a', cap', rfl, -, -⟩ := hz
  go_enter Try.func14, Try.ntmps14
  go_wp2_with (first
    | (go_at_call 56; (with_reducible refine (small25_no W H _ _ C Z _ ?_ ?_ hs).mono ?_); (repeat (first | assumption | with_reducible refine Rd.ext ?_ _ | with_reducible refine Rd.alloc ?_ _ | with_reducible refine Rd.drew ?_)); (repeat (first | assumption | with_reducible refine Rd.ext ?_ _ | with_reducible refine Rd.alloc ?_ _ | with_reducible refine Rd.drew ?_)); rintro _ _ ⟨rfl, X_, rfl⟩)
    | (go_at_call 49; (with_reducible refine (awake25 _).mono ?_); rintro _ _ ⟨rfl, X_, rfl⟩))
  go_ret
  exact Ret.of (by (repeat (first | exact Below.refl _ _ | with_reducible refine Below.drew ?_ | with_reducible refine Below.ext ?_ (by first | exact Nat.le_refl _ | (simp; done) | (simp; omega)) _ | with_reducible refine Below.alloc ?_ (by first | exact Nat.le_refl _ | (simp; done) | (simp; omega)) _ | with_reducible refine Below.setCell ?_ (by first | exact Nat.le_refl _ | (simp; done) | (simp; omega)) _)))
theorem comes_long (W H : Int) (c z : Value) (C Z : List Int) (a : Option Addr) (n cap : Nat) (o : OpsP) (w : World) (hc : Rd w c C) (hz : Rd w z Z) (hs : smallP W H C Z) (h40 : 40 < n) (hn : n ≤ 9223372036854775807) :
    Calls Try.prog 14 #[Im W H c z, o.v, .slice a n cap] w (Ret (.bool true) w) := by
  have HC := hc
  have HZ := hz
  obtain ⟨-, -, a1, cap1, rfl, -, -⟩ := hc
  obtain ⟨-, -, a', cap', rfl, -, -⟩ := hz
  go_enter Try.func14, Try.ntmps14
  go_wp2_with (first
    | (go_at_call 56; (with_reducible refine (small25_yes W H _ _ C Z _ ?_ ?_ hs).mono ?_); (repeat (first | assumption | with_reducible refine Rd.ext ?_ _ | with_reducible refine Rd.alloc ?_ _ | with_reducible refine Rd.drew ?_)); (repeat (first | assumption | with_reducible refine Rd.ext ?_ _ | with_reducible refine Rd.alloc ?_ _ | with_reducible refine Rd.drew ?_)); rintro _ _ ⟨rfl, X_, rfl⟩)
    | (go_at_call 49; (with_reducible refine (awake25 _).mono ?_); rintro _ _ ⟨rfl, X_, rfl⟩))
  go_ret
  exact Ret.of (by (repeat (first | exact Below.refl _ _ | with_reducible refine Below.drew ?_ | with_reducible refine Below.ext ?_ (by first | exact Nat.le_refl _ | (simp; done) | (simp; omega)) _ | with_reducible refine Below.alloc ?_ (by first | exact Nat.le_refl _ | (simp; done) | (simp; omega)) _ | with_reducible refine Below.setCell ?_ (by first | exact Nat.le_refl _ | (simp; done) | (simp; omega)) _)))
theorem FragComes_all : FragComes_stmt := by
  intro W H c z a0 a1 a2 a3 a4 a5 a6 a7 a8 a9 a10 a11 a12 a13 a14 v w hI ho hl
  obtain ⟨-, -, ⟨C, hC⟩, ⟨Z, hZ⟩⟩ := hI
  have hc := Rd.of_ints hC
  have hz := Rd.of_ints hZ
  obtain ⟨zl, hzl⟩ := hl
  obtain ⟨L, a, cap, rfl, hn, hF⟩ := frs_of hzl
  have hok : OpsP.ok ⟨a0, a1, a2, a3, a4, a5, a6, a7, a8, a9, a10, a11, a12, a13, a14⟩ := by obtain ⟨h1, h2, h3, h4, h5, h6, h7⟩ := ho; exact ⟨h1, h2, h3, h4, h5, h6, h7⟩
  by_cases h : smallP W H C Z
  · by_cases h40 : L.length ≤ 40
    · exact comes_in W H c z _ C Z L ⟨a0, a1, a2, a3, a4, a5, a6, a7, a8, a9, a10, a11, a12, a13, a14⟩ hok w hc hz h (hF (by omega)) h40
    · exact comes_long W H c z C Z a L.length cap ⟨a0, a1, a2, a3, a4, a5, a6, a7, a8, a9, a10, a11, a12, a13, a14⟩ w hc hz h (by omega) hn
  · exact comes_not W H c z C Z a L.length cap ⟨a0, a1, a2, a3, a4, a5, a6, a7, a8, a9, a10, a11, a12, a13, a14⟩ w hc hz h
theorem FragComes_holds : Rows.FragComesSaid := FragComes_end FragComes_all
end Go.Proofs.Ytdbbeggenbhbfaa
