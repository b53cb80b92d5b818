/- Parts of the proof of FaceLines, laid together. Conditions: at each. -/
import Derived.Test.YtbkmgngeahmefaaGreatSFaceLines21
set_option linter.unusedVariables false
set_option linter.unusedSimpArgs false
namespace Go.Proofs.YtbkmgngeahmefaaGreat
open Go.RowKit
theorem RN.plus {w : World} {v : Value} {z : Int} {n : Nat} (h : RN w v z n) (hz : 0 ≤ z) : ∃ sv l, v = .agg #[.bool false, sv] ∧ Rb w sv l ∧ Can l ∧ bv l = z ∧ l.length ≤ n := by
  obtain ⟨m, sv, l, rfl, h2, h3, h4, rfl, h5⟩ := h
  have hb := (bv_bd h3.1).1
  cases m
  · exact ⟨sv, l, rfl, h2, h3, rfl, h5⟩
  · exfalso
    have := h4 rfl
    simp [pmv] at hz; omega
theorem below_set1 {B p k : Nat} {w0 wr : World} {u : Value} (h : Below B w0 wr) (hp : B ≤ p) : Below B w0 (wr.setCell ⟨p, k, none⟩ u) := Below.setCell h (by simpa using hp) _
theorem below_set2 {B p : Nat} {w0 wr : World} {u v : Value} (h : Below B w0 wr) (hp : B ≤ p) : Below B w0 ((wr.setCell ⟨p, 0, none⟩ u).setCell ⟨p, 1, none⟩ v) := below_set1 (below_set1 h hp) hp
structure FL (n : Nat) (w0 wr : World) (ma md : Bool) (va vd : Value) (a d lq lr : List Int) (vq vr : Value) : Prop where
  ra : Row wr n #[.bool ma, va] 104
  rd : Row wr (n + 1) #[.bool md, vd] 104
  r1 : Row wr (n + 1 + 1) #[.bool false, .slice none 0 0] 104
  r2 : Row wr (n + 1 + 1 + 1) #[.bool false, .slice none 0 0] 104
  rq : Row wr (n + 1 + 1 + 1 + 1) #[.bool false, vq] 104
  rr : Row wr (n + 1 + 1 + 1 + 1 + 1) #[.bool false, vr] 104
  bel : Below n w0 wr
  ba : Rb wr va a
  bd : Rb wr vd d
  bq : Rb wr vq lq
  br : Rb wr vr lr
theorem Rb.noByte {w : World} {v : Value} {l : List Int} (h : Rb w v l) : ∀ d, v ≠ .int .u8 d := by
  obtain ⟨a, cap, rfl, -⟩ := h.form
  exact fun d => by simp
section
variable {n : Nat} {w0 wr : World} {ma md : Bool} {va vd vq vr : Value} {a d lq lr : List Int}
theorem FL.ext (h : FL n w0 wr ma md va vd a d lq lr vq vr) (hn : n ≤ w0.heap.size) (X : Xt) : FL n w0 (wr.ext X) ma md va vd a d lq lr vq vr :=
  ⟨h.ra.ext X, h.rd.ext X, h.r1.ext X, h.r2.ext X, h.rq.ext X, h.rr.ext X, h.bel.ext (by have := h.bel.size; omega) X, h.ba.ext X, h.bd.ext X, h.bq.ext X, h.br.ext X⟩
theorem FL.alloc (h : FL n w0 wr ma md va vd a d lq lr vq vr) (hn : n ≤ w0.heap.size) (o : Obj) : FL n w0 (wr.alloc o) ma md va vd a d lq lr vq vr :=
  ⟨h.ra.alloc o, h.rd.alloc o, h.r1.alloc o, h.r2.alloc o, h.rq.alloc o, h.rr.alloc o, h.bel.alloc (by have := h.bel.size; omega) o, h.ba.alloc o, h.bd.alloc o, h.bq.alloc o, h.br.alloc o⟩
theorem FL.setr (h : FL n w0 wr ma md va vd a d lq lr vq vr) {vr' : Value} {lr' : List Int} (hb : Rb wr vr' lr') : FL n w0 ((wr.setCell ⟨n + 1 + 1 + 1 + 1 + 1, 0, none⟩ (.bool false)).setCell ⟨n + 1 + 1 + 1 + 1 + 1, 1, none⟩ vr') ma md va vd a d lq lr' vq vr' := by
  have C : Chg (fun j => j = n + 1 + 1 + 1 + 1 + 1) wr ((wr.setCell ⟨n + 1 + 1 + 1 + 1 + 1, 0, none⟩ (.bool false)).setCell ⟨n + 1 + 1 + 1 + 1 + 1, 1, none⟩ vr') := chg_two
  have k : ∀ {v l}, Rb wr v l → Rb ((wr.setCell ⟨n + 1 + 1 + 1 + 1 + 1, 0, none⟩ (.bool false)).setCell ⟨n + 1 + 1 + 1 + 1 + 1, 1, none⟩ vr') v l := fun hv => hv.chg2 h.rr (fun d => by simp) h.br.noByte C
  refine ⟨C.row h.ra (by omega), C.row h.rd (by omega), C.row h.r1 (by omega), C.row h.r2 (by omega), C.row h.rq (by omega), ?_, below_set2 h.bel (by omega), k h.ba, k h.bd, k h.bq, k hb⟩
  have := (h.rr.set 0 (.bool false)).set 1 vr'
  simpa using this
theorem FL.setq (h : FL n w0 wr ma md va vd a d lq lr vq vr) {vq' : Value} {lq' : List Int} (hb : Rb wr vq' lq') : FL n w0 (wr.setCell ⟨n + 1 + 1 + 1 + 1, 1, none⟩ vq') ma md va vd a d lq' lr vq' vr := by
  have C : Chg (fun j => j = n + 1 + 1 + 1 + 1) wr (wr.setCell ⟨n + 1 + 1 + 1 + 1, 1, none⟩ vq') := Chg.one _ _ _ _
  have k : ∀ {v l}, Rb wr v l → Rb (wr.setCell ⟨n + 1 + 1 + 1 + 1, 1, none⟩ vq') v l := fun hv => hv.chg2 h.rq (fun d => by simp) h.bq.noByte C
  refine ⟨C.row h.ra (by omega), C.row h.rd (by omega), C.row h.r1 (by omega), C.row h.r2 (by omega), ?_, C.row h.rr (by omega), below_set1 h.bel (by omega), k h.ba, k h.bd, k hb, k h.br⟩
  have := h.rq.set 1 vq'
  simpa using this
theorem FL.setq2 (h : FL n w0 wr ma md va vd a d lq lr vq vr) {vq' : Value} {lq' : List Int} (hb : Rb wr vq' lq') : FL n w0 ((wr.setCell ⟨n + 1 + 1 + 1 + 1, 0, none⟩ (.bool false)).setCell ⟨n + 1 + 1 + 1 + 1, 1, none⟩ vq') ma md va vd a d lq' lr vq' vr := by
  have C : Chg (fun j => j = n + 1 + 1 + 1 + 1) wr ((wr.setCell ⟨n + 1 + 1 + 1 + 1, 0, none⟩ (.bool false)).setCell ⟨n + 1 + 1 + 1 + 1, 1, none⟩ vq') := chg_two
  have k : ∀ {v l}, Rb wr v l → Rb ((wr.setCell ⟨n + 1 + 1 + 1 + 1, 0, none⟩ (.bool false)).setCell ⟨n + 1 + 1 + 1 + 1, 1, none⟩ vq') v l := fun hv => hv.chg2 h.rq (fun d => by simp) h.bq.noByte C
  refine ⟨C.row h.ra (by omega), C.row h.rd (by omega), C.row h.r1 (by omega), C.row h.r2 (by omega), ?_, C.row h.rr (by omega), below_set2 h.bel (by omega), k h.ba, k h.bd, k hb, k h.br⟩
  have := (h.rq.set 0 (.bool false)).set 1 vq'
  simpa using this
theorem FL.facts (h : FL n w0 wr ma md va vd a d lq lr vq vr) : wr.cell? ⟨n, 0, none⟩ = some (.bool ma) ∧ wr.cell? ⟨n, 1, none⟩ = some (va) ∧ wr.cell? ⟨n + 1, 0, none⟩ = some (.bool md) ∧ wr.cell? ⟨n + 1, 1, none⟩ = some (vd) ∧ wr.cell? ⟨n + 1 + 1, 0, none⟩ = some (.bool false) ∧ wr.cell? ⟨n + 1 + 1, 1, none⟩ = some (.slice none 0 0) ∧ wr.cell? ⟨n + 1 + 1 + 1, 0, none⟩ = some (.bool false) ∧ wr.cell? ⟨n + 1 + 1 + 1, 1, none⟩ = some (.slice none 0 0) ∧ wr.cell? ⟨n + 1 + 1 + 1 + 1, 0, none⟩ = some (.bool false) ∧ wr.cell? ⟨n + 1 + 1 + 1 + 1, 1, none⟩ = some (vq) ∧ wr.cell? ⟨n + 1 + 1 + 1 + 1 + 1, 0, none⟩ = some (.bool false) ∧ wr.cell? ⟨n + 1 + 1 + 1 + 1 + 1, 1, none⟩ = some (vr) ∧ wr.frozen? ⟨n + 1 + 1, 0, none⟩ = false ∧ wr.frozen? ⟨n + 1 + 1, 1, none⟩ = false ∧ wr.frozen? ⟨n + 1 + 1 + 1, 0, none⟩ = false ∧ wr.frozen? ⟨n + 1 + 1 + 1, 1, none⟩ = false ∧ wr.frozen? ⟨n + 1 + 1 + 1 + 1, 0, none⟩ = false ∧ wr.frozen? ⟨n + 1 + 1 + 1 + 1, 1, none⟩ = false ∧ wr.frozen? ⟨n + 1 + 1 + 1 + 1 + 1, 0, none⟩ = false ∧ wr.frozen? ⟨n + 1 + 1 + 1 + 1 + 1, 1, none⟩ = false ∧ n < wr.heap.size ∧ n + 1 < wr.heap.size ∧ n + 1 + 1 < wr.heap.size ∧ n + 1 + 1 + 1 < wr.heap.size ∧ n + 1 + 1 + 1 + 1 < wr.heap.size ∧ n + 1 + 1 + 1 + 1 + 1 < wr.heap.size :=
  ⟨by rw [h.ra.cell 0]; rfl, by rw [h.ra.cell 1]; rfl, by rw [h.rd.cell 0]; rfl, by rw [h.rd.cell 1]; rfl, by rw [h.r1.cell 0]; rfl, by rw [h.r1.cell 1]; rfl, by rw [h.r2.cell 0]; rfl, by rw [h.r2.cell 1]; rfl, by rw [h.rq.cell 0]; rfl, by rw [h.rq.cell 1]; rfl, by rw [h.rr.cell 0]; rfl, by rw [h.rr.cell 1]; rfl, h.r1.frozen 0, h.r1.frozen 1, h.r2.frozen 0, h.r2.frozen 1, h.rq.frozen 0, h.rq.frozen 1, h.rr.frozen 0, h.rr.frozen 1, h.ra.lt, h.rd.lt, h.r1.lt, h.r2.lt, h.rq.lt, h.rr.lt⟩
end
theorem floor_step {a d lq lr l2 : List Int} {j : Nat} {one : Int} (ha : Bin a) (e : bv a / 2 ^ (j + 1) = bv lq * bv d + bv lr) (h2 : bv l2 = bt a j + 2 * bv lr - one * bv d) : bv a / 2 ^ j = bv (one :: lq) * bv d + bv l2 := by
  rw [div_step ha j, e, h2, bv]; grind
theorem floor_val {x d q r : Int} (he : x / 2 ^ 0 = q * d + r) (r0 : 0 ≤ r) (r1 : r < d) : x / d = q ∧ x % d = r := by
  have e : x = r + d * q := by
    have : x / 2 ^ 0 = x := by simp
    rw [this] at he; rw [he]; grind
  rw [e, Int.add_mul_ediv_left _ _ (by omega), Int.add_mul_emod_self_left, Int.ediv_eq_zero_of_lt r0 r1, Int.emod_eq_of_lt r0 r1]
  omega
theorem can_len {l d : List Int} (hc : Can l) (hd : Bin d) (h : bv l < 2 * bv d) : l.length ≤ d.length + 1 := by
  apply Classical.byContradiction
  intro hn
  have h1 := hc.low (by omega)
  have h2 := (bv_bd hd).2
  have h3 := pow_mono (show d.length + 1 ≤ l.length - 1 by omega)
  rw [p2_succ] at h3
  omega
set_option maxRecDepth 100000 in
set_option maxHeartbeats 8000000 in
theorem floor_any (va vd : Value) (x y : Int) (n k : Nat) (w : World) (ha : RN w va x n) (hd : RN w vd y k) (hy : 1 ≤ y) (hnk : n + k ≤ 1000) :
    Calls Tryz.prog 91 #[va, vd] w (RetR (fun v w => ∃ q r, v = .tuple #[q, r] ∧ RN w q (x / y) (n + 2) ∧ RN w r (x % y) (k + 4)) w) := by
  obtain ⟨i0, hi, hz0, hz1, hz2⟩ := info_parts info_u8
  obtain ⟨sd, d, rfl, rd, can_d, rfl, ld⟩ := hd.plus (by omega)
  obtain ⟨ma, sa, a, rfl, ra, can_a, hma, rfl, la⟩ := ha
  have HA := Lib.hid ra
  have HB := Lib.hid rd
  have BA := ra.bin
  have BD := rd.bin
  obtain ⟨aa, acap, rfl, -⟩ := ra.form
  obtain ⟨da, dcap, rfl, -⟩ := rd.form
  clear ra rd hd can_a
  go_enter Tryz.func91, Tryz.ntmps91
  go_wp2
  refine wp_abs (F := fun wx => FL w.heap.size w wx ma false (.slice aa a.length acap) (.slice da d.length dcap) a d [] [] (.slice none 0 0) (.slice none 0 0)) ?_ ?_
  · exact ⟨by exact rx_, by exact rx_, by exact rx_, by exact rx_, by exact rx_, by exact rx_, by exact bl_, by (repeat (first | assumption | exact HA.out | exact HB.out | with_reducible refine Rb.ext ?_ _ | with_reducible refine Rb.alloc ?_ _ | with_reducible refine Rb.drew ?_)), by (repeat (first | assumption | exact HA.out | exact HB.out | with_reducible refine Rb.ext ?_ _ | with_reducible refine Rb.alloc ?_ _ | with_reducible refine Rb.drew ?_)), Rb.nil, Rb.nil⟩
  clear HA HB
  intro wx HF
  go_loopw [8] (fun i wr => ∃ (lq lr : List Int) (vq vr : Value) (j : Nat), i = .int .i64 ((j : Int) - 1) ∧ j ≤ a.length ∧ FL w.heap.size w wr ma false (.slice aa a.length acap) (.slice da d.length dcap) a d lq lr vq vr ∧ lq.length + j = a.length ∧ Can lr ∧ bv lr < bv d ∧ bv a / 2 ^ j = bv lq * bv d + bv lr)
    (fun i _ => (intOf i + 1).toNat)
  case atStart => exact ⟨[], [], _, _, a.length, by simp, by omega, HF, by simp, ⟨Bin.nil, fun h => by simp at h⟩, by simp [bv]; omega, by rw [div_all BA (Nat.le_refl _)]; simp [bv]⟩
  case round =>
    clear HF
    obtain ⟨lq, lr, vq, vr, j, rfl, hj, HF, hlq, hcr, hrd, he⟩ := hrel
    obtain ⟨qa, qcap, rfl, -⟩ := HF.bq.form
    obtain ⟨r0a, rcap, rfl, -⟩ := HF.br.form
    obtain ⟨c00, c01, c10, c11, c20, c21, c30, c31, c40, c41, c50, c51, f20, f21, f30, f31, f40, f41, f50, f51, s0, s1, s2, s3, s4, s5⟩ := HF.facts
    have HFL := Lib.hid HF
    have hqn := (bv_bd HF.bq.bin).1
    have hrn := (bv_bd HF.br.bin).1
    have lrl := can_len hcr BD (by have := (bv_bd BD).1; omega)
    clear HF
    cases j with
    | zero =>
      have HE := Lib.hid he
      have HRD := Lib.hid hrd
      have HCR := Lib.hid hcr
      have lrk : lr.length ≤ k + 1 := by omega
      have lq1 : lq.length ≤ n := by omega
      obtain ⟨hq1, hq2⟩ := floor_val (x := bv a) he hrn hrd
      have HQ1 := Lib.hid (show bv a / bv d = pmv (bv lq) false from hq1)
      have HQ2 := Lib.hid hq2
      clear hq1 hq2 he hrd hcr
      cases ma
      · go_upto_region 14 with (first | (go_at_call 130; (with_reducible refine (trim_any _ _ lq _ HFL.out.bq).mono ?_); rintro _ w4 ⟨v4, rfl, g4, ⟨Y4, hY4⟩⟩; have HF4 := HFL.out.ext (Nat.le_refl _) Y4; rw [← hY4] at HF4; clear c00 c01 c10 c11 c20 c21 c30 c31 c40 c41 c50 c51 f20 f21 f30 f31 f40 f41 f50 f51 s0 s1 s2 s3 s4 s5; obtain ⟨c00, c01, c10, c11, c20, c21, c30, c31, c40, c41, c50, c51, f20, f21, f30, f31, f40, f41, f50, f51, s0, s1, s2, s3, s4, s5⟩ := HF4.facts; obtain ⟨s4v, l4, rfl, rb4, can4, hv4, hl4⟩ := RN.plus g4 (by simp [pmv]; omega); obtain ⟨a4, c4, rfl, -⟩ := rb4.form; have HFL4 := Lib.hid HF4; have G4 := Lib.hid rb4; have CAN4 := Lib.hid can4; have HV4 := Lib.hid hv4; have HL4 := Lib.hid hl4; clear HF4 hY4 g4 rb4 can4 hv4 hl4))
        have HFX := HFL4.out.setq2 G4.out
        refine wp_abs (F := fun wx => FL w.heap.size w wx false false (.slice aa a.length acap) (.slice da d.length dcap) a d l4 lr (.slice a4 l4.length c4) (.slice r0a lr.length rcap)) HFX ?_
        clear HFX HFL HFL4 G4
        intro w5 HF5
        clear c00 c01 c10 c11 c20 c21 c30 c31 c40 c41 c50 c51 f20 f21 f30 f31 f40 f41 f50 f51 s0 s1 s2 s3 s4 s5; obtain ⟨c00, c01, c10, c11, c20, c21, c30, c31, c40, c41, c50, c51, f20, f21, f30, f31, f40, f41, f50, f51, s0, s1, s2, s3, s4, s5⟩ := HF5.facts
        have G1 : Hh (w.heap.size + 1 + 1) w5 := ⟨_, _, HF5.r1, _, _, _, rfl⟩
        have G2 : Hh (w.heap.size + 1 + 1 + 1) w5 := ⟨_, _, HF5.r2, _, _, _, rfl⟩
        have NQ : RN w5 (.agg #[.bool false, .slice a4 l4.length c4]) (bv l4) l4.length := ⟨false, _, l4, rfl, HF5.bq, CAN4.out, by simp, rfl, Nat.le_refl _⟩
        have NR : RN w5 (.agg #[.bool false, .slice r0a lr.length rcap]) (bv lr) lr.length := ⟨false, _, lr, rfl, HF5.br, HCR.out, by simp, rfl, Nat.le_refl _⟩
        have ND : RN w5 (.agg #[.bool false, .slice da d.length dcap]) (bv d) d.length := ⟨false, _, d, rfl, HF5.bd, can_d, by simp, rfl, Nat.le_refl _⟩
        have g6 := Lib.hid HF5
        clear HF5
        replace G1 := Lib.hid G1
        replace G2 := Lib.hid G2
        replace NQ := Lib.hid NQ
        replace NR := Lib.hid NR
        replace ND := Lib.hid ND
        clear c00 c01 c10 c11 c20 c21 c30 c31 c40 c41 c50 c51 f20 f21 f30 f31 f40 f41 f50 f51
        refine wp_region_relL (L := LL (w.heap.size + 1 + 1) (w.heap.size + 1 + 1 + 1) (bv l4) (bv lr) (n + 2) (k + 4)) preLL [some ([], srNL _ _ _ _ _ _ (bv l4) l4.length), some ([], srNL _ _ _ _ _ _ (bv lr) lr.length), some ([0], srD1 _ _ _ _ _ _), some ([1], srD2 _ _ _ _ _ _)] (by kernel_rfl) (by kernel_rfl) ?_
        refine relL_some rfl (fun w_ hw_ hk_ K_ hK_ => ?_) (fun v55 f55 => ?_)
        · have R := hw_.chg.row g6.out.rq (by omega)
          have q0 := R.cell 0
          have q1 := R.cell 1
          have q2 := R.lt
          simp at q0 q1
          go_simp
          exact hK_ _ _ ⟨hw_.h1 G1.out, hw_.h2 G2.out, NQ.out.ll hw_ G1.out G2.out⟩ (preLL.refl _)
        obtain ⟨m55, a55, k55, c55, rfl⟩ := f55
        (simp only [Act.put, List.setIfInBounds_toArray, List.set_cons_zero, List.set_cons_succ])
        refine relL_some rfl (fun w_ hw_ hk_ K_ hK_ => ?_) (fun v56 f56 => ?_)
        · have R := hw_.chg.row g6.out.rr (by omega)
          have q0 := R.cell 0
          have q1 := R.cell 1
          have q2 := R.lt
          simp at q0 q1
          go_simp
          exact hK_ _ _ ⟨hw_.h1 G1.out, hw_.h2 G2.out, NR.out.ll hw_ G1.out G2.out⟩ (preLL.refl _)
        obtain ⟨m56, a56, k56, c56, rfl⟩ := f56
        (simp only [Act.put, List.setIfInBounds_toArray, List.set_cons_zero, List.set_cons_succ])
        refine relL_store rfl (fun w_ hw_ hk_ K_ hK_ => ?_) (fun _ _ => ?_)
        · obtain ⟨g1, g2, h⟩ := (hk_ (0, _) (by repeat (first | exact List.mem_cons_self | refine List.mem_cons_of_mem _ ?_))) (by simp)
          have S := LL.set1 (z2 := (bv lr)) (n1 := n + 2) (n2 := k + 4) g1 g2 (by omega) (h.mono (by have := HL4.out; omega))
          have gx := g1
          obtain ⟨m0, s0, R, hs0⟩ := gx
          have q0 := R.cell 0
          have q1 := R.cell 1
          have q2 := R.lt
          have q3 := R.frozen 0
          have q4 := R.frozen 1
          simp at q0 q1
          go_simp
          exact hK_ _ ⟨S.1.h1 g1, S.1.h2 g2, S.2⟩ S.1
        refine relL_store rfl (fun w_ hw_ hk_ K_ hK_ => ?_) (fun _ _ => ?_)
        · obtain ⟨g1, g2, h⟩ := (hk_ (1, _) (by repeat (first | exact List.mem_cons_self | refine List.mem_cons_of_mem _ ?_))) (by simp)
          have S := LL.set2 (z1 := (bv l4)) (n1 := n + 2) (n2 := k + 4) g1 g2 (by omega) (h.mono (by omega))
          have gx := g2
          obtain ⟨m0, s0, R, hs0⟩ := gx
          have q0 := R.cell 0
          have q1 := R.cell 1
          have q2 := R.lt
          have q3 := R.frozen 0
          have q4 := R.frozen 1
          simp at q0 q1
          go_simp
          exact hK_ _ ⟨S.1.h1 g1, S.1.h2 g2, S.2⟩ S.1
        refine rel_nil ?_
        intro w7 hL7 hk7
        obtain ⟨-, -, ⟨m1, s1, R1, N1⟩⟩ := (hk7 (2, _) (by repeat (first | exact List.mem_cons_self | refine List.mem_cons_of_mem _ ?_)))
        obtain ⟨-, -, ⟨m2, s2, R2, N2⟩⟩ := (hk7 (3, _) (by repeat (first | exact List.mem_cons_self | refine List.mem_cons_of_mem _ ?_)))
        clear hk7
        have t0 := R1.cell 0
        have t1 := R1.cell 1
        have t2 := R2.cell 0
        have t3 := R2.cell 1
        simp at t0 t1 t2 t3
        go_wp2
        refine bodyPost_ret (v := .tuple #[.agg #[.bool m1, s1], .agg #[.bool m2, s2]]) (by simp [results, Tryz.results91, go_sem, t0, t1, t2, t3]) rfl ?_
        have E1 : pmv (bv a) false / bv d = bv l4 := by rw [HV4.out]; exact HQ1.out
        have E2 : pmv (bv a) false % bv d = bv lr := HQ2.out
        rw [E1, E2]
        exact two_fin g6.out.bel (by have := g6.out.bel.size; omega) (by omega) (by omega) hL7 N1 N2
      · by_cases hz : lr.length = 0
        · have dz : ((lr.length : Int) == 0) = true := by simp [hz]
          have LZ : bv lr = 0 := HCR.out.zero.2 hz
          clear hz
          go_upto_region 16 with (first | (go_at_call 130; (with_reducible refine (trim_any _ _ lq _ HFL.out.bq).mono ?_); rintro _ w4 ⟨v4, rfl, g4, ⟨Y4, hY4⟩⟩; have HF4 := HFL.out.ext (Nat.le_refl _) Y4; rw [← hY4] at HF4; clear c00 c01 c10 c11 c20 c21 c30 c31 c40 c41 c50 c51 f20 f21 f30 f31 f40 f41 f50 f51 s0 s1 s2 s3 s4 s5; obtain ⟨c00, c01, c10, c11, c20, c21, c30, c31, c40, c41, c50, c51, f20, f21, f30, f31, f40, f41, f50, f51, s0, s1, s2, s3, s4, s5⟩ := HF4.facts; obtain ⟨s4v, l4, rfl, rb4, can4, hv4, hl4⟩ := RN.plus g4 (by simp [pmv]; omega); obtain ⟨a4, c4, rfl, -⟩ := rb4.form; have HFL4 := Lib.hid HF4; have G4 := Lib.hid rb4; have CAN4 := Lib.hid can4; have HV4 := Lib.hid hv4; have HL4 := Lib.hid hl4; clear HF4 hY4 g4 rb4 can4 hv4 hl4))
          clear dz
          have HFX := HFL4.out.setq2 G4.out
          refine wp_abs (F := fun wx => FL w.heap.size w wx true false (.slice aa a.length acap) (.slice da d.length dcap) a d l4 lr (.slice a4 l4.length c4) (.slice r0a lr.length rcap)) HFX ?_
          clear HFX HFL HFL4 G4
          intro w5 HF5
          clear c00 c01 c10 c11 c20 c21 c30 c31 c40 c41 c50 c51 f20 f21 f30 f31 f40 f41 f50 f51 s0 s1 s2 s3 s4 s5; obtain ⟨c00, c01, c10, c11, c20, c21, c30, c31, c40, c41, c50, c51, f20, f21, f30, f31, f40, f41, f50, f51, s0, s1, s2, s3, s4, s5⟩ := HF5.facts
          have G1 : Hh (w.heap.size + 1 + 1) w5 := ⟨_, _, HF5.r1, _, _, _, rfl⟩
          have G2 : Hh (w.heap.size + 1 + 1 + 1) w5 := ⟨_, _, HF5.r2, _, _, _, rfl⟩
          have NQ : RN w5 (.agg #[.bool false, .slice a4 l4.length c4]) (bv l4) l4.length := ⟨false, _, l4, rfl, HF5.bq, CAN4.out, by simp, rfl, Nat.le_refl _⟩
          have NR : RN w5 (.agg #[.bool false, .slice r0a lr.length rcap]) (bv lr) lr.length := ⟨false, _, lr, rfl, HF5.br, HCR.out, by simp, rfl, Nat.le_refl _⟩
          have ND : RN w5 (.agg #[.bool false, .slice da d.length dcap]) (bv d) d.length := ⟨false, _, d, rfl, HF5.bd, can_d, by simp, rfl, Nat.le_refl _⟩
          have g6 := Lib.hid HF5
          clear HF5
          replace G1 := Lib.hid G1
          replace G2 := Lib.hid G2
          replace NQ := Lib.hid NQ
          replace NR := Lib.hid NR
          replace ND := Lib.hid ND
          clear c00 c01 c10 c11 c20 c21 c30 c31 c40 c41 c50 c51 f20 f21 f30 f31 f40 f41 f50 f51
          refine wp_region_relL (L := LL (w.heap.size + 1 + 1) (w.heap.size + 1 + 1 + 1) (-bv l4) (bv lr) (n + 2) (k + 4)) preLL [some ([], srNL _ _ _ _ _ _ (bv l4) l4.length), some ([0], srNL _ _ _ _ _ _ (-bv l4) l4.length), some ([], srNL _ _ _ _ _ _ (bv lr) lr.length), some ([1], srD1 _ _ _ _ _ _), some ([2], srD2 _ _ _ _ _ _)] (by kernel_rfl) (by kernel_rfl) ?_
          refine relL_some rfl (fun w_ hw_ hk_ K_ hK_ => ?_) (fun v61 f61 => ?_)
          · have R := hw_.chg.row g6.out.rq (by omega)
            have q0 := R.cell 0
            have q1 := R.cell 1
            have q2 := R.lt
            simp at q0 q1
            go_simp
            exact hK_ _ _ ⟨hw_.h1 G1.out, hw_.h2 G2.out, NQ.out.ll hw_ G1.out G2.out⟩ (preLL.refl _)
          obtain ⟨m61, a61, k61, c61, rfl⟩ := f61
          (simp only [Act.put, List.setIfInBounds_toArray, List.set_cons_zero, List.set_cons_succ])
          refine relL_some rfl (fun w_ hw_ hk_ K_ hK_ => ?_) (fun v62 f62 => ?_)
          · obtain ⟨g1, g2, h0⟩ := (hk_ (0, _) (by repeat (first | exact List.mem_cons_self | refine List.mem_cons_of_mem _ ?_))) (by simp)
            go_simp
            go_at_call 134
            refine (rturn_any _ _ _ _ h0).mono ?_
            rintro _ _ ⟨v, rfl, e1, e2⟩
            obtain ⟨X9, rfl⟩ := e2; exact hK_ _ _ ⟨g1.ext X9, g2.ext X9, e1⟩ (LL.ext _ X9)
          obtain ⟨m62, a62, k62, c62, rfl⟩ := f62
          (simp only [Act.put, List.setIfInBounds_toArray, List.set_cons_zero, List.set_cons_succ])
          refine relL_some rfl (fun w_ hw_ hk_ K_ hK_ => ?_) (fun v63 f63 => ?_)
          · have R := hw_.chg.row g6.out.rr (by omega)
            have q0 := R.cell 0
            have q1 := R.cell 1
            have q2 := R.lt
            simp at q0 q1
            go_simp
            exact hK_ _ _ ⟨hw_.h1 G1.out, hw_.h2 G2.out, NR.out.ll hw_ G1.out G2.out⟩ (preLL.refl _)
          obtain ⟨m63, a63, k63, c63, rfl⟩ := f63
          (simp only [Act.put, List.setIfInBounds_toArray, List.set_cons_zero, List.set_cons_succ])
          refine relL_store rfl (fun w_ hw_ hk_ K_ hK_ => ?_) (fun _ _ => ?_)
          · obtain ⟨g1, g2, h⟩ := (hk_ (1, _) (by repeat (first | exact List.mem_cons_self | refine List.mem_cons_of_mem _ ?_))) (by simp)
            have S := LL.set1 (z2 := (bv lr)) (n1 := n + 2) (n2 := k + 4) g1 g2 (by omega) (h.mono (by have := HL4.out; omega))
            have gx := g1
            obtain ⟨m0, s0, R, hs0⟩ := gx
            have q0 := R.cell 0
            have q1 := R.cell 1
            have q2 := R.lt
            have q3 := R.frozen 0
            have q4 := R.frozen 1
            simp at q0 q1
            go_simp
            exact hK_ _ ⟨S.1.h1 g1, S.1.h2 g2, S.2⟩ S.1
          refine relL_store rfl (fun w_ hw_ hk_ K_ hK_ => ?_) (fun _ _ => ?_)
          · obtain ⟨g1, g2, h⟩ := (hk_ (2, _) (by repeat (first | exact List.mem_cons_self | refine List.mem_cons_of_mem _ ?_))) (by simp)
            have S := LL.set2 (z1 := (-bv l4)) (n1 := n + 2) (n2 := k + 4) g1 g2 (by omega) (h.mono (by omega))
            have gx := g2
            obtain ⟨m0, s0, R, hs0⟩ := gx
            have q0 := R.cell 0
            have q1 := R.cell 1
            have q2 := R.lt
            have q3 := R.frozen 0
            have q4 := R.frozen 1
            simp at q0 q1
            go_simp
            exact hK_ _ ⟨S.1.h1 g1, S.1.h2 g2, S.2⟩ S.1
          refine rel_nil ?_
          intro w7 hL7 hk7
          obtain ⟨-, -, ⟨m1, s1, R1, N1⟩⟩ := (hk7 (3, _) (by repeat (first | exact List.mem_cons_self | refine List.mem_cons_of_mem _ ?_)))
          obtain ⟨-, -, ⟨m2, s2, R2, N2⟩⟩ := (hk7 (4, _) (by repeat (first | exact List.mem_cons_self | refine List.mem_cons_of_mem _ ?_)))
          clear hk7
          have t0 := R1.cell 0
          have t1 := R1.cell 1
          have t2 := R2.cell 0
          have t3 := R2.cell 1
          simp at t0 t1 t2 t3
          go_wp2
          refine bodyPost_ret (v := .tuple #[.agg #[.bool m1, s1], .agg #[.bool m2, s2]]) (by simp [results, Tryz.results91, go_sem, t0, t1, t2, t3]) rfl ?_
          have E1 : pmv (bv a) true / bv d = -bv l4 := by rw [HV4.out]; have e := ((neg_div (A := bv a) (d := bv d) (by omega)).1 (by rw [show bv a % bv d = bv lr from HQ2.out]; exact LZ)).1; rw [show bv a / bv d = pmv (bv lq) false from HQ1.out] at e; exact e
          have E2 : pmv (bv a) true % bv d = bv lr := by rw [LZ]; exact ((neg_div (A := bv a) (d := bv d) (by omega)).1 (by rw [show bv a % bv d = bv lr from HQ2.out]; exact LZ)).2
          rw [E1, E2]
          exact two_fin g6.out.bel (by have := g6.out.bel.size; omega) (by omega) (by omega) hL7 N1 N2
        · have dz : ((lr.length : Int) == 0) = false := by simp [hz]
          have LZ : bv lr ≠ 0 := fun h => hz (HCR.out.zero.1 h)
          clear hz
          go_upto_region 17 with (first | (go_at_call 130; (with_reducible refine (trim_any _ _ lq _ HFL.out.bq).mono ?_); rintro _ w4 ⟨v4, rfl, g4, ⟨Y4, hY4⟩⟩; have HF4 := HFL.out.ext (Nat.le_refl _) Y4; rw [← hY4] at HF4; clear c00 c01 c10 c11 c20 c21 c30 c31 c40 c41 c50 c51 f20 f21 f30 f31 f40 f41 f50 f51 s0 s1 s2 s3 s4 s5; obtain ⟨c00, c01, c10, c11, c20, c21, c30, c31, c40, c41, c50, c51, f20, f21, f30, f31, f40, f41, f50, f51, s0, s1, s2, s3, s4, s5⟩ := HF4.facts; obtain ⟨s4v, l4, rfl, rb4, can4, hv4, hl4⟩ := RN.plus g4 (by simp [pmv]; omega); obtain ⟨a4, c4, rfl, -⟩ := rb4.form; have HFL4 := Lib.hid HF4; have G4 := Lib.hid rb4; have CAN4 := Lib.hid can4; have HV4 := Lib.hid hv4; have HL4 := Lib.hid hl4; clear HF4 hY4 g4 rb4 can4 hv4 hl4))
          clear dz
          have HFX := HFL4.out.setq2 G4.out
          refine wp_abs (F := fun wx => FL w.heap.size w wx true false (.slice aa a.length acap) (.slice da d.length dcap) a d l4 lr (.slice a4 l4.length c4) (.slice r0a lr.length rcap)) HFX ?_
          clear HFX HFL HFL4 G4
          intro w5 HF5
          clear c00 c01 c10 c11 c20 c21 c30 c31 c40 c41 c50 c51 f20 f21 f30 f31 f40 f41 f50 f51 s0 s1 s2 s3 s4 s5; obtain ⟨c00, c01, c10, c11, c20, c21, c30, c31, c40, c41, c50, c51, f20, f21, f30, f31, f40, f41, f50, f51, s0, s1, s2, s3, s4, s5⟩ := HF5.facts
          have G1 : Hh (w.heap.size + 1 + 1) w5 := ⟨_, _, HF5.r1, _, _, _, rfl⟩
          have G2 : Hh (w.heap.size + 1 + 1 + 1) w5 := ⟨_, _, HF5.r2, _, _, _, rfl⟩
          have NQ : RN w5 (.agg #[.bool false, .slice a4 l4.length c4]) (bv l4) l4.length := ⟨false, _, l4, rfl, HF5.bq, CAN4.out, by simp, rfl, Nat.le_refl _⟩
          have NR : RN w5 (.agg #[.bool false, .slice r0a lr.length rcap]) (bv lr) lr.length := ⟨false, _, lr, rfl, HF5.br, HCR.out, by simp, rfl, Nat.le_refl _⟩
          have ND : RN w5 (.agg #[.bool false, .slice da d.length dcap]) (bv d) d.length := ⟨false, _, d, rfl, HF5.bd, can_d, by simp, rfl, Nat.le_refl _⟩
          have g6 := Lib.hid HF5
          clear HF5
          replace G1 := Lib.hid G1
          replace G2 := Lib.hid G2
          replace NQ := Lib.hid NQ
          replace NR := Lib.hid NR
          replace ND := Lib.hid ND
          clear c00 c01 c10 c11 c20 c21 c30 c31 c40 c41 c50 c51 f20 f21 f30 f31 f40 f41 f50 f51
          refine wp_region_relL (L := LL (w.heap.size + 1 + 1) (w.heap.size + 1 + 1 + 1) (-(bv l4 + 1)) (bv d + -bv lr) (n + 2) (k + 4)) preLL [some ([], srNL _ _ _ _ _ _ (bv l4) l4.length), some ([], srFL _ _ _ _ _ _ [1]), none, some ([0, 1], srNL _ _ _ _ _ _ (bv l4 + 1) (max l4.length 1 + 1)), some ([3], srNL _ _ _ _ _ _ (-(bv l4 + 1)) (max l4.length 1 + 1)), some ([], srNL _ _ _ _ _ _ (bv d) d.length), some ([], srNL _ _ _ _ _ _ (bv lr) lr.length), some ([6], srNL _ _ _ _ _ _ (-bv lr) lr.length), some ([5, 7], srNL _ _ _ _ _ _ (bv d + -bv lr) (max d.length lr.length + 1)), some ([4], srD1 _ _ _ _ _ _), some ([8], srD2 _ _ _ _ _ _)] (by kernel_rfl) (by kernel_rfl) ?_
          refine relL_some rfl (fun w_ hw_ hk_ K_ hK_ => ?_) (fun v64 f64 => ?_)
          · have R := hw_.chg.row g6.out.rq (by omega)
            have q0 := R.cell 0
            have q1 := R.cell 1
            have q2 := R.lt
            simp at q0 q1
            go_simp
            exact hK_ _ _ ⟨hw_.h1 G1.out, hw_.h2 G2.out, NQ.out.ll hw_ G1.out G2.out⟩ (preLL.refl _)
          obtain ⟨m64, a64, k64, c64, rfl⟩ := f64
          (simp only [Act.put, List.setIfInBounds_toArray, List.set_cons_zero, List.set_cons_succ])
          refine relL_some rfl (fun w_ hw_ hk_ K_ hK_ => ?_) (fun v65 f65 => ?_)
          · have g1 := hw_.h1 G1.out
            have g2 := hw_.h2 G2.out
            go_simp
            have hx := new_X (w := w_) (o := .cells #[.int .u8 1] 5)
            obtain ⟨X9, hx9⟩ := hx; exact hK_ _ _ ⟨by rw [hx9]; exact g1.ext X9, by rw [hx9]; exact g2.ext X9, ⟨_, rfl⟩, rb_one rfl⟩ (LL.of ⟨X9, hx9⟩)
          obtain ⟨g65, rfl⟩ := f65
          (simp only [Act.put, List.setIfInBounds_toArray, List.set_cons_zero, List.set_cons_succ])
          rw [List.length_singleton]
          refine relL_none ?_
          intro K_ hK_
          go_big_quiet_op
          refine ⟨_, fun _ _ => rfl, ?_⟩
          go_big_quiet_on
          refine relL_some rfl (fun w_ hw_ hk_ K_ hK_ => ?_) (fun v67 f67 => ?_)
          · obtain ⟨g1, g2, h0⟩ := (hk_ (0, _) (by repeat (first | exact List.mem_cons_self | refine List.mem_cons_of_mem _ ?_))) (by simp)
            obtain ⟨-, -, -, h1⟩ := (hk_ (1, _) (by repeat (first | exact List.mem_cons_self | refine List.mem_cons_of_mem _ ?_))) (by simp)
            have h9 : RN w_ (.agg #[.bool false, .slice (some ⟨g65, 0, none⟩) 1 1]) 1 1 := ⟨false, _, [1], rfl, h1, ⟨Bin.nil.cons (by decide) (by decide), fun _ => rfl⟩, by simp, by simp [pmv, bv], by simp⟩
            go_simp
            go_at_call 65
            refine (sum_any _ _ _ _ _ _ _ h0 h9 (by have := HL4.out; omega) (by omega)).mono ?_
            rintro _ _ ⟨v, rfl, e1, e2⟩
            obtain ⟨X9, rfl⟩ := e2; exact hK_ _ _ ⟨g1.ext X9, g2.ext X9, e1⟩ (LL.ext _ X9)
          obtain ⟨m67, a67, k67, c67, rfl⟩ := f67
          (simp only [Act.put, List.setIfInBounds_toArray, List.set_cons_zero, List.set_cons_succ])
          refine relL_some rfl (fun w_ hw_ hk_ K_ hK_ => ?_) (fun v68 f68 => ?_)
          · obtain ⟨g1, g2, h3⟩ := (hk_ (3, _) (by repeat (first | exact List.mem_cons_self | refine List.mem_cons_of_mem _ ?_))) (by simp)
            go_simp
            go_at_call 134
            refine (rturn_any _ _ _ _ h3).mono ?_
            rintro _ _ ⟨v, rfl, e1, e2⟩
            obtain ⟨X9, rfl⟩ := e2; exact hK_ _ _ ⟨g1.ext X9, g2.ext X9, e1⟩ (LL.ext _ X9)
          obtain ⟨m68, a68, k68, c68, rfl⟩ := f68
          (simp only [Act.put, List.setIfInBounds_toArray, List.set_cons_zero, List.set_cons_succ])
          refine relL_some rfl (fun w_ hw_ hk_ K_ hK_ => ?_) (fun v69 f69 => ?_)
          · have R := hw_.chg.row g6.out.rd (by omega)
            have q0 := R.cell 0
            have q1 := R.cell 1
            have q2 := R.lt
            simp at q0 q1
            go_simp
            exact hK_ _ _ ⟨hw_.h1 G1.out, hw_.h2 G2.out, ND.out.ll hw_ G1.out G2.out⟩ (preLL.refl _)
          obtain ⟨m69, a69, k69, c69, rfl⟩ := f69
          (simp only [Act.put, List.setIfInBounds_toArray, List.set_cons_zero, List.set_cons_succ])
          refine relL_some rfl (fun w_ hw_ hk_ K_ hK_ => ?_) (fun v70 f70 => ?_)
          · have R := hw_.chg.row g6.out.rr (by omega)
            have q0 := R.cell 0
            have q1 := R.cell 1
            have q2 := R.lt
            simp at q0 q1
            go_simp
            exact hK_ _ _ ⟨hw_.h1 G1.out, hw_.h2 G2.out, NR.out.ll hw_ G1.out G2.out⟩ (preLL.refl _)
          obtain ⟨m70, a70, k70, c70, rfl⟩ := f70
          (simp only [Act.put, List.setIfInBounds_toArray, List.set_cons_zero, List.set_cons_succ])
          refine relL_some rfl (fun w_ hw_ hk_ K_ hK_ => ?_) (fun v71 f71 => ?_)
          · obtain ⟨g1, g2, h6⟩ := (hk_ (6, _) (by repeat (first | exact List.mem_cons_self | refine List.mem_cons_of_mem _ ?_))) (by simp)
            go_simp
            go_at_call 134
            refine (rturn_any _ _ _ _ h6).mono ?_
            rintro _ _ ⟨v, rfl, e1, e2⟩
            obtain ⟨X9, rfl⟩ := e2; exact hK_ _ _ ⟨g1.ext X9, g2.ext X9, e1⟩ (LL.ext _ X9)
          obtain ⟨m71, a71, k71, c71, rfl⟩ := f71
          (simp only [Act.put, List.setIfInBounds_toArray, List.set_cons_zero, List.set_cons_succ])
          refine relL_some rfl (fun w_ hw_ hk_ K_ hK_ => ?_) (fun v72 f72 => ?_)
          · obtain ⟨g1, g2, h5⟩ := (hk_ (5, _) (by repeat (first | exact List.mem_cons_self | refine List.mem_cons_of_mem _ ?_))) (by simp)
            obtain ⟨g1, g2, h7⟩ := (hk_ (7, _) (by repeat (first | exact List.mem_cons_self | refine List.mem_cons_of_mem _ ?_))) (by simp)
            go_simp
            go_at_call 65
            refine (sum_any _ _ _ _ _ _ _ h5 h7 (by omega) (by omega)).mono ?_
            rintro _ _ ⟨v, rfl, e1, e2⟩
            obtain ⟨X9, rfl⟩ := e2; exact hK_ _ _ ⟨g1.ext X9, g2.ext X9, e1⟩ (LL.ext _ X9)
          obtain ⟨m72, a72, k72, c72, rfl⟩ := f72
          (simp only [Act.put, List.setIfInBounds_toArray, List.set_cons_zero, List.set_cons_succ])
          refine relL_store rfl (fun w_ hw_ hk_ K_ hK_ => ?_) (fun _ _ => ?_)
          · obtain ⟨g1, g2, h⟩ := (hk_ (4, _) (by repeat (first | exact List.mem_cons_self | refine List.mem_cons_of_mem _ ?_))) (by simp)
            have S := LL.set1 (z2 := (bv d + -bv lr)) (n1 := n + 2) (n2 := k + 4) g1 g2 (by omega) (h.mono (by have := HL4.out; omega))
            have gx := g1
            obtain ⟨m0, s0, R, hs0⟩ := gx
            have q0 := R.cell 0
            have q1 := R.cell 1
            have q2 := R.lt
            have q3 := R.frozen 0
            have q4 := R.frozen 1
            simp at q0 q1
            go_simp
            exact hK_ _ ⟨S.1.h1 g1, S.1.h2 g2, S.2⟩ S.1
          refine relL_store rfl (fun w_ hw_ hk_ K_ hK_ => ?_) (fun _ _ => ?_)
          · obtain ⟨g1, g2, h⟩ := (hk_ (8, _) (by repeat (first | exact List.mem_cons_self | refine List.mem_cons_of_mem _ ?_))) (by simp)
            have S := LL.set2 (z1 := (-(bv l4 + 1))) (n1 := n + 2) (n2 := k + 4) g1 g2 (by omega) (h.mono (by omega))
            have gx := g2
            obtain ⟨m0, s0, R, hs0⟩ := gx
            have q0 := R.cell 0
            have q1 := R.cell 1
            have q2 := R.lt
            have q3 := R.frozen 0
            have q4 := R.frozen 1
            simp at q0 q1
            go_simp
            exact hK_ _ ⟨S.1.h1 g1, S.1.h2 g2, S.2⟩ S.1
          refine rel_nil ?_
          intro w7 hL7 hk7
          obtain ⟨-, -, ⟨m1, s1, R1, N1⟩⟩ := (hk7 (9, _) (by repeat (first | exact List.mem_cons_self | refine List.mem_cons_of_mem _ ?_)))
          obtain ⟨-, -, ⟨m2, s2, R2, N2⟩⟩ := (hk7 (10, _) (by repeat (first | exact List.mem_cons_self | refine List.mem_cons_of_mem _ ?_)))
          clear hk7
          have t0 := R1.cell 0
          have t1 := R1.cell 1
          have t2 := R2.cell 0
          have t3 := R2.cell 1
          simp at t0 t1 t2 t3
          go_wp2
          refine bodyPost_ret (v := .tuple #[.agg #[.bool m1, s1], .agg #[.bool m2, s2]]) (by simp [results, Tryz.results91, go_sem, t0, t1, t2, t3]) rfl ?_
          have E1 : pmv (bv a) true / bv d = -(bv l4 + 1) := by have e := ((neg_div (A := bv a) (d := bv d) (by omega)).2 (by rw [show bv a % bv d = bv lr from HQ2.out]; exact LZ)).1; rw [show bv a / bv d = pmv (bv lq) false from HQ1.out, ← HV4.out] at e; rw [show pmv (bv a) true = -bv a from rfl, e]; omega
          have E2 : pmv (bv a) true % bv d = bv d + -bv lr := by have e := ((neg_div (A := bv a) (d := bv d) (by omega)).2 (by rw [show bv a % bv d = bv lr from HQ2.out]; exact LZ)).2; rw [show bv a % bv d = bv lr from HQ2.out] at e; rw [show pmv (bv a) true = -bv a from rfl, e]; omega
          rw [E1, E2]
          exact two_fin g6.out.bel (by have := g6.out.bel.size; omega) (by omega) (by omega) hL7 N1 N2
    | succ j =>
      have ej : ((j + 1 : Nat) : Int) - 1 = (j : Int) := by omega
      rw [ej]
      have hjl : j < a.length := by omega
      obtain ⟨b0, off, rfl⟩ : ∃ b off, aa = some ⟨b, off, none⟩ := by
        obtain ⟨-, -, a', cap', e, -, -, h4⟩ := HFL.out.ba
        cases e
        rcases h4 with h | ⟨b, off, h, -⟩
        · simp [h] at hjl
        · exact ⟨b, off, h⟩
      obtain ⟨c0, hb0⟩ := HFL.out.ba.cell hjl
      obtain ⟨b1, b2⟩ := BA j
      have HE := Lib.hid he
      have HHJ := Lib.hid hj
      have HLQ := Lib.hid hlq
      have lq1 : lq.length ≤ 1000 := by omega
      clear he hlq
      go_wp2
      refine wp_region_rel 11 [none, none, none, none, none, some ([], srFull [bt a j]), none, none, some ([5], srB (bt a j :: lr)), none, some ([8], srN (bt a j + 2 * bv lr) (lr.length + 1))] (by kernel_rfl) (by kernel_rfl) ?_
      simp only [List.take_succ_cons, List.take_zero, List.drop_succ_cons, List.drop_zero]
      (repeat (first | (refine rel_none ?_; intro K_ hK_; go_big_quiet_op; go_big_quiet_on) | simp only [Act.put, List.setIfInBounds_toArray, List.set_cons_zero, List.set_cons_succ]))
      refine rel_some rfl (fun w_ hw_ hk_ K_ hK_ => ?_) (fun v25 f25 => ?_)
      · obtain ⟨X_, rfl⟩ := hw_
        go_simp
        exact hK_ _ _ ⟨⟨_, rfl⟩, rb_bit b1 b2 (by simp)⟩ new_X
      obtain ⟨g25, rfl⟩ := f25
      rw [List.length_singleton]
      (repeat (first | (refine rel_none ?_; intro K_ hK_; go_big_quiet_op; go_big_quiet_on) | simp only [Act.put, List.setIfInBounds_toArray, List.set_cons_zero, List.set_cons_succ]))
      refine rel_some rfl (fun w_ hw_ hk_ K_ hK_ => ?_) (fun v28 f28 => ?_)
      · obtain ⟨X_, rfl⟩ := hw_
        have h1 := (hk_ (5, _) (by repeat (first | exact List.mem_cons_self | refine List.mem_cons_of_mem _ ?_))) (by simp)
        refine wp_append_bits _ _ 102 5 rfl i0 Tryz.underlying102 hi hz0 hz1 hz2 g25 0 1 [bt a j] lr rfl h1.2 (HFL.out.br.ext _) (by simp; omega) (fun v w1 h2 h3 _ => hK_ _ _ h2 h3)
      obtain ⟨a28, k28, c28, rfl⟩ := f28
      (repeat (first | (refine rel_none ?_; intro K_ hK_; go_big_quiet_op; go_big_quiet_on) | simp only [Act.put, List.setIfInBounds_toArray, List.set_cons_zero, List.set_cons_succ]))
      refine rel_some rfl (fun w_ hw_ hk_ K_ hK_ => ?_) (fun v30 f30 => ?_)
      · obtain ⟨X_, rfl⟩ := hw_
        have h1 := (hk_ (8, _) (by repeat (first | exact List.mem_cons_self | refine List.mem_cons_of_mem _ ?_))) (by simp)
        go_simp
        go_at_call 130
        refine (trim_any _ _ _ _ h1).mono ?_
        rintro _ _ ⟨v, rfl, h4, h5⟩
        exact hK_ _ _ h4 h5
      refine rel_nil ?_
      intro w_ hw_ hk
      obtain ⟨X, rfl⟩ := hw_
      obtain ⟨s2v, l2, rfl, rb2, can2, hv2, hl2⟩ := RN.plus (hk (10, _) (by repeat (first | exact List.mem_cons_self | refine List.mem_cons_of_mem _ ?_))) (by omega)
      obtain ⟨a2, cap2, rfl, -⟩ := rb2.form
      clear hk
      refine wpl_abs (F := fun wx => FL w.heap.size w wx ma false (.slice (some ⟨b0, off, none⟩) a.length acap) (.slice da d.length dcap) a d lq lr (.slice qa lq.length qcap) (.slice r0a lr.length rcap) ∧ Rb wx (.slice a2 l2.length cap2) l2) ⟨HFL.out.ext (Nat.le_refl _) X, rb2⟩ ?_
      intro w2 ⟨HF2, RB2⟩
      clear c00 c01 c10 c11 c20 c21 c30 c31 c40 c41 c50 c51 f20 f21 f30 f31 f40 f41 f50 f51 s0 s1 s2 s3 s4 s5; obtain ⟨c00, c01, c10, c11, c20, c21, c30, c31, c40, c41, c50, c51, f20, f21, f30, f31, f40, f41, f50, f51, s0, s1, s2, s3, s4, s5⟩ := HF2.facts
      replace HFL := Lib.hid (HF2.setr RB2)
      have l2l : l2.length ≤ 1100 := by omega
      have HV2 := Lib.hid hv2
      have HRD := Lib.hid hrd
      clear HF2 RB2 rb2 c0 hv2 hrd X
      go_upto_region 8 with fail
      refine wp_abs (F := fun wx => FL w.heap.size w wx ma false (.slice (some ⟨b0, off, none⟩) a.length acap) (.slice da d.length dcap) a d lq l2 (.slice qa lq.length qcap) (.slice a2 l2.length cap2)) HFL.out ?_
      clear HFL
      intro w3 HF3
      clear c00 c01 c10 c11 c20 c21 c30 c31 c40 c41 c50 c51 f20 f21 f30 f31 f40 f41 f50 f51 s0 s1 s2 s3 s4 s5; obtain ⟨c00, c01, c10, c11, c20, c21, c30, c31, c40, c41, c50, c51, f20, f21, f30, f31, f40, f41, f50, f51, s0, s1, s2, s3, s4, s5⟩ := HF3.facts
      have HFL3 := Lib.hid HF3
      clear HF3
      by_cases hge : bv d ≤ bv l2
      · have d8 : decide (0 ≤ sgn (bv l2 - bv d)) = true := by have := sgn_01 (bv l2 - bv d); simp; omega
        have HGE := Lib.hid hge
        clear hge
        go_wp2_with (first
          | (go_at_call 132; (with_reducible refine (above_any _ _ l2 d _ HFL3.out.br HFL3.out.bd).mono ?_); rintro _ w4 ⟨rfl, Y4, hY4⟩; have HF4 := HFL3.out.ext (Nat.le_refl _) Y4; rw [← hY4] at HF4; clear c00 c01 c10 c11 c20 c21 c30 c31 c40 c41 c50 c51 f20 f21 f30 f31 f40 f41 f50 f51 s0 s1 s2 s3 s4 s5; obtain ⟨c00, c01, c10, c11, c20, c21, c30, c31, c40, c41, c50, c51, f20, f21, f30, f31, f40, f41, f50, f51, s0, s1, s2, s3, s4, s5⟩ := HF4.facts; have HFL4 := Lib.hid HF4; clear HF4 hY4)
          | (go_at_call 133; (with_reducible refine (less_any _ _ l2 d _ HFL4.out.br HFL4.out.bd (by omega) HGE.out).mono ?_); rintro _ w5 ⟨v5, rfl, ⟨l5, g5, g51, g52⟩, ⟨Y5, hY5⟩⟩; have HF5 := HFL4.out.ext (Nat.le_refl _) Y5; rw [← hY5] at HF5; clear c00 c01 c10 c11 c20 c21 c30 c31 c40 c41 c50 c51 f20 f21 f30 f31 f40 f41 f50 f51 s0 s1 s2 s3 s4 s5; obtain ⟨c00, c01, c10, c11, c20, c21, c30, c31, c40, c41, c50, c51, f20, f21, f30, f31, f40, f41, f50, f51, s0, s1, s2, s3, s4, s5⟩ := HF5.facts; obtain ⟨a5, k5, c5, rfl⟩ := g5.isSl; have HFL5 := Lib.hid HF5; have G5 := Lib.hid g5; have G51 := Lib.hid g51; have G52 := Lib.hid g52; clear HF5 hY5 g5 g51 g52)
          | (go_at_call 130; (with_reducible refine (trim_any _ _ l5 _ G5.out).mono ?_); rintro _ w6 ⟨v6, rfl, g6, ⟨Y6, hY6⟩⟩; have HF6 := HFL5.out.ext (Nat.le_refl _) Y6; rw [← hY6] at HF6; clear c00 c01 c10 c11 c20 c21 c30 c31 c40 c41 c50 c51 f20 f21 f30 f31 f40 f41 f50 f51 s0 s1 s2 s3 s4 s5; obtain ⟨c00, c01, c10, c11, c20, c21, c30, c31, c40, c41, c50, c51, f20, f21, f30, f31, f40, f41, f50, f51, s0, s1, s2, s3, s4, s5⟩ := HF6.facts; obtain ⟨s6, l6, rfl, rb6, can6, hv6, hl6⟩ := RN.plus g6 (by rw [G51.out]; have := HGE.out; simp [pmv]; omega); obtain ⟨a6, c6, rfl, -⟩ := rb6.form; have HFL6 := Lib.hid HF6; have G6 := Lib.hid rb6; have CAN6 := Lib.hid can6; have HV6 := Lib.hid hv6; have HL6 := Lib.hid hl6; clear HF6 hY6 g6 rb6 can6 hv6 hl6)
          | (at_builtin; refine wpList_append_bits rfl _ _ 102 5 rfl i0 Tryz.underlying102 hi hz0 hz1 hz2 _ 0 1 [1] lq rfl (rb_bit (by decide) (by decide) (by simp [size_set])) ((HFL6.out.setr G6.out).alloc (Nat.le_refl _) (.cells #[.int .u8 1] 5)).bq (by simp; omega) ?_; rintro v7 w7 g7 ⟨Y7, hY7⟩ -; obtain ⟨a7, k7, c7, rfl⟩ := g7.isSl; have HF7 := ((HFL6.out.setr G6.out).alloc (Nat.le_refl _) (.cells #[.int .u8 1] 5)).ext (Nat.le_refl _) Y7; rw [← hY7] at HF7; clear c00 c01 c10 c11 c20 c21 c30 c31 c40 c41 c50 c51 f20 f21 f30 f31 f40 f41 f50 f51 s0 s1 s2 s3 s4 s5; obtain ⟨c00, c01, c10, c11, c20, c21, c30, c31, c40, c41, c50, c51, f20, f21, f30, f31, f40, f41, f50, f51, s0, s1, s2, s3, s4, s5⟩ := HF7.facts; have HFL7 := Lib.hid HF7; have G7 := Lib.hid g7; clear HF7 g7 hY7))
        go_roundw
        case rel =>
          have e1 := HV6.out
          have e2 := G51.out
          have e3 := HV2.out
          have e4 : bv l6 = bv l2 - bv d := by rw [e1, e2]; simp [pmv]
          exact ⟨1 :: lq, l6, _, _, j, rfl, by omega, HFL7.out.setq G7.out, by have := HLQ.out; simp; omega, CAN6.out, by have := HRD.out; omega, floor_step BA HE.out (by omega)⟩
        case measure => (simp [intOf]) <;> omega
      · have d8 : decide (0 ≤ sgn (bv l2 - bv d)) = false := by have := sgn_01 (bv l2 - bv d); simp; omega
        have HGE := Lib.hid hge
        clear hge
        go_wp2_with (first
          | (go_at_call 132; (with_reducible refine (above_any _ _ l2 d _ HFL3.out.br HFL3.out.bd).mono ?_); rintro _ w4 ⟨rfl, Y4, hY4⟩; have HF4 := HFL3.out.ext (Nat.le_refl _) Y4; rw [← hY4] at HF4; clear c00 c01 c10 c11 c20 c21 c30 c31 c40 c41 c50 c51 f20 f21 f30 f31 f40 f41 f50 f51 s0 s1 s2 s3 s4 s5; obtain ⟨c00, c01, c10, c11, c20, c21, c30, c31, c40, c41, c50, c51, f20, f21, f30, f31, f40, f41, f50, f51, s0, s1, s2, s3, s4, s5⟩ := HF4.facts; have HFL4 := Lib.hid HF4; clear HF4 hY4)
          | (at_builtin; refine wpList_append_bits rfl _ _ 102 5 rfl i0 Tryz.underlying102 hi hz0 hz1 hz2 _ 0 1 [0] lq rfl (rb_bit (by decide) (by decide) (by simp [size_set])) (HFL4.out.alloc (Nat.le_refl _) (.cells #[.int .u8 0] 5)).bq (by simp; omega) ?_; rintro v7 w7 g7 ⟨Y7, hY7⟩ -; obtain ⟨a7, k7, c7, rfl⟩ := g7.isSl; have HF7 := (HFL4.out.alloc (Nat.le_refl _) (.cells #[.int .u8 0] 5)).ext (Nat.le_refl _) Y7; rw [← hY7] at HF7; clear c00 c01 c10 c11 c20 c21 c30 c31 c40 c41 c50 c51 f20 f21 f30 f31 f40 f41 f50 f51 s0 s1 s2 s3 s4 s5; obtain ⟨c00, c01, c10, c11, c20, c21, c30, c31, c40, c41, c50, c51, f20, f21, f30, f31, f40, f41, f50, f51, s0, s1, s2, s3, s4, s5⟩ := HF7.facts; have HFL7 := Lib.hid HF7; have G7 := Lib.hid g7; clear HF7 g7 hY7))
        go_roundw
        case rel =>
          have e3 := HV2.out
          exact ⟨0 :: lq, l2, _, _, j, rfl, by omega, HFL7.out.setq G7.out, by have := HLQ.out; simp; omega, can2, by have := HGE.out; omega, floor_step BA HE.out (by omega)⟩
        case measure => (simp [intOf]) <;> omega
end Go.Proofs.YtbkmgngeahmefaaGreat
