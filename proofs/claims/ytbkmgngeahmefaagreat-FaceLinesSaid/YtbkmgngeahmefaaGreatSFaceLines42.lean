/- Parts of the proof of FaceLines, laid together. Conditions: at each. -/
import Derived.Lib.SliceRun
import Derived.Test.YtbkmgngeahmefaaGreatSFaceLines41
set_option linter.unusedVariables false
set_option linter.unusedSimpArgs false
namespace Go.Proofs.YtbkmgngeahmefaaGreat
open Go.RowKit
theorem Row.clears {g m : Nat} {T : TypeId} (F : Nat → Nat) : ∀ (n k : Nat) (w : World), k + n = m → Row w g (cntL (fun j => if j < k then 0 else F j) m) T → Row (w.setCells g k (List.replicate n (.int .i64 0))) g (cntL (fun _ => 0) m) T
  | 0, k, w, h, hr => by
    have : cntL (fun j => if j < k then 0 else F j) m = cntL (fun _ => 0) m := cntL_congr fun j hj => if_pos (by omega)
    rw [← this]; exact hr
  | n + 1, k, w, h, hr => by
    rw [List.replicate_succ]
    refine Row.clears F n (k + 1) _ (by omega) ?_
    have h1 := hr.set k (.int .i64 0)
    have h2 := cntL_set (fun j => if j < k then 0 else F j) m k (by omega) 0
    rw [show ((0 : Nat) : Int) = 0 from rfl] at h2
    rw [h2] at h1
    have h3 : cntL (fun i => if i = k then 0 else if i < k then 0 else F i) m = cntL (fun j => if j < k + 1 then 0 else F j) m := cntL_congr fun j hj => by
      by_cases e : j = k
      · subst e; rw [if_pos rfl, if_pos (by omega)]
      · rw [if_neg e]
        by_cases e2 : j < k
        · rw [if_pos e2, if_pos (by omega)]
        · rw [if_neg e2, if_neg (by omega)]
    rw [h3] at h1
    exact h1
theorem chg_clears {g : Nat} {v : Value} : ∀ (n k : Nat) (w : World), Chg (fun j => j = g) w (w.setCells g k (List.replicate n v))
  | 0, _, _ => Chg.refl
  | n + 1, k, w => by rw [List.replicate_succ]; exact (Chg.one w g k v).trans (chg_clears n (k + 1) _)
theorem Hold.chg {α : Type} {K : RecK α} {w wr w' : World} {E : TypeId} {R R' : List (Nat × Array Value × TypeId)} {v : Value} {L : List α} {g : Nat} (h : Hold K w wr E R v L) (hc : Chg (fun j => j = g) wr w') (hg : some g ≠ v.ownBlock) (hw : w.heap.size ≤ g)
    (hr : ∀ r ∈ R', Row w' r.1 r.2.1 r.2.2) (hf : ∀ r ∈ R', r.2.2 ≠ E) : Hold K w w' E R' v L := by
  refine ⟨hr, hf, World.ownsRow.kept (row := some g) h.own ⟨hc.os, hc.tape, hc.output, hc.size, fun j hj hne => hc.block j hj fun e => hne (by rw [e])⟩ (.inr hg.symm), ?_⟩
  exact RowKit.Below.toExt (h.below.trans (hc.below (B := w.heap.size) (fun k hk e => by omega) h.size))
set_option maxHeartbeats 4000000 in
theorem rows_any (a b : WinP) (n x0 y0 x1 y1 : Int) (ha : a.fits) (hb : b.fits) (hn : widthP n) (w : World) : Calls Tryz.prog 104 #[a.v, b.v, .int .i64 n, R4 x0 y0 x1 y1] w (Ret (.tuple #[.int .i64 (max y0 ((min a.y b.y - n * 128) / 256 - 1)), .int .i64 (min y1 ((max a.y b.y + n * 128) / 256 + 2))]) w) := by
  obtain ⟨-, -, a2, a3, -, -, -⟩ := ha
  obtain ⟨-, -, b2, b3, -, -, -⟩ := hb
  obtain ⟨n0, n1⟩ := hn
  have k1 : IntKind.i64.wrap (min a.y b.y - n * 128) = min a.y b.y - n * 128 := IntWalk.i64_in _ (by omega)
  have k2 : IntKind.i64.wrap (max a.y b.y + n * 128) = max a.y b.y + n * 128 := IntWalk.i64_in _ (by omega)
  have k3 : IntKind.i64.wrap ((min a.y b.y - n * 128) / 256 - 1) = (min a.y b.y - n * 128) / 256 - 1 := IntWalk.i64_in _ (by omega)
  have k4 : IntKind.i64.wrap ((max a.y b.y + n * 128) / 256 + 2) = (max a.y b.y + n * 128) / 256 + 2 := IntWalk.i64_in _ (by omega)
  have k5 : IntKind.i64.wrap (n * 128) = n * 128 := IntWalk.i64_in _ (by omega)
  go_enter Tryz.func104, Tryz.ntmps104
  go_wp2
  refine wp_region_ext (by kernel_rfl) (by kernel_rfl) ?_
  repeat (go_big_quiet_step ((fail)))
  refine wpQuiet_nil ?_
  intro _ hw_ext
  obtain ⟨X, hw_ext⟩ := hw_ext
  subst hw_ext
  go_wp2
  refine bodyPost_ret (v := .tuple #[.int .i64 (max y0 ((min a.y b.y - n * 128) / 256 - 1)), .int .i64 (min y1 ((max a.y b.y + n * 128) / 256 + 2))]) (by simp [results, Tryz.results104, go_sem]) rfl (Ret.of (by exact bl_))
def smV (a b : WinP) (x y : Int) : Int × Int × Int × Int × Int := (mid a.z b.z (acN a b x y) (acD a b), mid a.c0 b.c0 (acN a b x y) (acD a b), mid a.c1 b.c1 (acN a b x y) (acD a b), mid a.c2 b.c2 (acN a b x y) (acD a b), mid a.c3 b.c3 (acN a b x y) (acD a b))
def smL4 (a b : WinP) (n x0 y0 x1 y1 : Int) : List FrP := if smoP a b n ∧ rightP x0 y0 x1 y1 then smTo a b n (smV a b) x0 x1 y0 y1 else []
theorem line_no (a b : WinP) (n x0 y0 x1 y1 : Int) (ha : a.wide) (hb : b.wide) (h : ¬ smoP a b n) (w : World) : Calls Tryz.prog 56 #[a.v, b.v, .int .i64 n, R4 x0 y0 x1 y1] w (RLists frK w (smL4 a b n x0 y0 x1 y1)) := by
  rw [show smL4 a b n x0 y0 x1 y1 = [] from if_neg (fun k => h k.1)]
  have R := Lib.hid (fun w => decide_eq_false h ▸ smooth_right a b n ha hb w)
  clear h ha hb
  go_enter Tryz.func56, Tryz.ntmps56
  go_wp2_with (first | (go_at_call 102; (with_reducible refine (R.out _).mono ?_); rintro _ _ ⟨rfl, X_, rfl⟩))
  go_ret
  exact ⟨_, rfl, recs_nil _, RowKit.Below.toExt (by exact bl_)⟩
theorem line_noR (a b : WinP) (n x0 y0 x1 y1 : Int) (ha : a.wide) (hb : b.wide) (h : smoP a b n) (hr : ¬ rightP x0 y0 x1 y1) (w : World) : Calls Tryz.prog 56 #[a.v, b.v, .int .i64 n, R4 x0 y0 x1 y1] w (RLists frK w (smL4 a b n x0 y0 x1 y1)) := by
  rw [show smL4 a b n x0 y0 x1 y1 = [] from if_neg (fun k => hr k.2)]
  have R := Lib.hid (fun w => decide_eq_true h ▸ smooth_right a b n ha hb w)
  have RR := Lib.hid (fun w => decide_eq_false hr ▸ rect_right x0 y0 x1 y1 w)
  clear h ha hb hr
  go_enter Tryz.func56, Tryz.ntmps56
  go_wp2_with (first | (go_at_call 102; (with_reducible refine (R.out _).mono ?_); rintro _ _ ⟨rfl, X_, rfl⟩) | (go_at_call 49; (with_reducible refine (RR.out _).mono ?_); rintro _ _ ⟨rfl, X_, rfl⟩))
  go_ret
  exact ⟨_, rfl, recs_nil _, RowKit.Below.toExt (by exact bl_)⟩
theorem line_alike (a b : WinP) (n x0 y0 x1 y1 : Int) (ha : a.wide) (hb : b.wide) (h : smoP a b n) (hr : rightP x0 y0 x1 y1) (hx : a.x = b.x) (hy : a.y = b.y) (w : World) : Calls Tryz.prog 56 #[a.v, b.v, .int .i64 n, R4 x0 y0 x1 y1] w (RLists frK w (smL4 a b n x0 y0 x1 y1)) := by
  rw [show smL4 a b n x0 y0 x1 y1 = [] by unfold smL4; rw [if_pos ⟨h, hr⟩]; exact smTo_start a b n _ x0 x1 y0 y1 fun z _ _ x => covN_alike hx hy n x z]
  have R := Lib.hid (fun w => decide_eq_true h ▸ smooth_right a b n ha hb w)
  have RR := Lib.hid (fun w => decide_eq_true hr ▸ rect_right x0 y0 x1 y1 w)
  have ex : (a.x == b.x) = true := by simpa using hx
  have ey : (a.y == b.y) = true := by simpa using hy
  clear h ha hb hr hx hy
  go_enter Tryz.func56, Tryz.ntmps56
  go_wp2_with (first | (go_at_call 102; (with_reducible refine (R.out _).mono ?_); rintro _ _ ⟨rfl, X_, rfl⟩) | (go_at_call 49; (with_reducible refine (RR.out _).mono ?_); rintro _ _ ⟨rfl, X_, rfl⟩))
  go_ret
  exact ⟨_, rfl, recs_nil _, RowKit.Below.toExt (by exact bl_)⟩
abbrev SmH (w : World) (a b : WinP) (r t : Int) (Bt g m : Nat) (F : Nat → Nat) (v : Value) (L : List FrP) (wr : World) : Prop := Hold frK w wr 76 [(w.heap.size, #[.int .i64 a.x, .int .i64 a.y, .int .i64 a.z, .int .i64 a.c0, .int .i64 a.c1, .int .i64 a.c2, .int .i64 a.c3], 41), (w.heap.size + 1, #[.int .i64 b.x, .int .i64 b.y, .int .i64 b.z, .int .i64 b.c0, .int .i64 b.c1, .int .i64 b.c2, .int .i64 b.c3], 41), (Bt, #[.int .i64 a.x, .int .i64 a.y, .int .i64 (b.x - a.x), .int .i64 (b.y - a.y), .int .i64 (smL a b), .int .i64 t, .int .i64 r], 143), (g, cntL (F) m, 3)] v L
set_option maxRecDepth 100000 in
set_option maxHeartbeats 8000000 in
theorem line_in (a b : WinP) (n x0 y0 x1 y1 : Int) (ha : a.wide) (hb : b.wide) (h : smoP a b n) (hr : rightP x0 y0 x1 y1) (hne : ¬ (a.x = b.x ∧ a.y = b.y)) (har : (x1 - x0).toNat * (y1 - y0).toNat ≤ 1048576) (w : World) : Calls Tryz.prog 56 #[a.v, b.v, .int .i64 n, R4 x0 y0 x1 y1] w (RLists frK w (smL4 a b n x0 y0 x1 y1)) := by
  rw [show smL4 a b n x0 y0 x1 y1 = smTo a b n (smV a b) x0 x1 y0 y1 from if_pos ⟨h, hr⟩]
  have R := Lib.hid (fun w => decide_eq_true h ▸ smooth_right a b n ha hb w)
  have RR := Lib.hid (fun w => decide_eq_true hr ▸ rect_right x0 y0 x1 y1 w)
  obtain ⟨⟨fa, fb⟩, hn⟩ := fitsP_f h
  obtain ⟨r, t, hA, hrr⟩ := across_ex fa fb hn
  have NS := Lib.hid (fun w => newStrip_any a b n r t fa fb hn hA hrr w)
  have RW := fun w => rows_any a b n x0 y0 x1 y1 fa fb hn w
  obtain ⟨⟨r0, r1⟩, ⟨r2, r3⟩, ⟨r4, r5⟩, ⟨r6, r7⟩, rx, ry⟩ := hr
  obtain ⟨LE, hLE⟩ : ∃ l, l = max x0 ((min a.x b.x - n * 128) / 256 - 1) := ⟨_, rfl⟩
  obtain ⟨RI, hRI⟩ : ∃ l, l = min x1 ((max a.x b.x + n * 128) / 256 + 2) := ⟨_, rfl⟩
  obtain ⟨LO, hLO⟩ : ∃ l, l = max y0 ((min a.y b.y - n * 128) / 256 - 1) := ⟨_, rfl⟩
  obtain ⟨HI, hHI⟩ : ∃ l, l = min y1 ((max a.y b.y + n * 128) / 256 + 2) := ⟨_, rfl⟩
  have BD := Lib.hid (Band.mk hLE hRI hLO hHI)
  have n0 : 0 ≤ n := by have := hn.1; omega
  have CT := Lib.hid (fun (g m : Nat) (y : Int) (q0 : -4194304 ≤ LE) (q1 : LE ≤ 4194304) (q2 : -4194304 ≤ y) (q3 : y ≤ 4194304) (q4 : 1 ≤ m) (q5 : m ≤ 8388608) w hg => count_any a b n r t LE y m g fa fb hn hA (smK_pos hn hne) hrr q0 q1 q2 q3 q4 q5 w hg)
  have AC := Lib.hid (fun x y (hx : Near x y) w => across_any a b x y fa fb hx w)
  have b1 : -4194304 ≤ LO ∧ LO ≤ 8388608 ∧ y0 ≤ LO := by have := fa.y0; have := fa.y1; have := fb.y0; have := fb.y1; have := hn.2; omega
  have b2 : HI ≤ y1 := by omega
  have b3 : x0 ≤ LE ∧ RI ≤ x1 := by omega
  have b4 : LE ≤ 8388608 := by have := fa.x0; have := fa.x1; have := fb.x0; have := fb.x1; have := hn.2; omega
  have b5 : -8388608 ≤ RI ∧ -8388608 ≤ HI := by have := fa.x0; have := fa.x1; have := fb.x0; have := fb.x1; have := fa.y0; have := fa.y1; have := fb.y0; have := fb.y1; have := hn.1; omega
  have e1 : IntKind.i64.wrap (n * 128) = n * 128 := by have := hn.1; have := hn.2; exact IntWalk.i64_in _ (by omega)
  have e2 : IntKind.i64.wrap (min a.x b.x - n * 128) = min a.x b.x - n * 128 := by have := hn.1; have := hn.2; have := fa.x0; have := fa.x1; have := fb.x0; have := fb.x1; exact IntWalk.i64_in _ (by omega)
  have e3 : IntKind.i64.wrap (max a.x b.x + n * 128) = max a.x b.x + n * 128 := by have := hn.1; have := hn.2; have := fa.x0; have := fa.x1; have := fb.x0; have := fb.x1; exact IntWalk.i64_in _ (by omega)
  have e4 : IntKind.i64.wrap ((min a.x b.x - n * 128) / 256 - 1) = (min a.x b.x - n * 128) / 256 - 1 := by have := hn.1; have := hn.2; have := fa.x0; have := fa.x1; have := fb.x0; have := fb.x1; exact IntWalk.i64_in _ (by omega)
  have e5 : IntKind.i64.wrap ((max a.x b.x + n * 128) / 256 + 2) = (max a.x b.x + n * 128) / 256 + 2 := by have := hn.1; have := hn.2; have := fa.x0; have := fa.x1; have := fb.x0; have := fb.x1; exact IntWalk.i64_in _ (by omega)
  rw [← hLO, ← hHI] at RW
  have RWH := Lib.hid RW
  have HLE := Lib.hid hLE
  have HRI := Lib.hid hRI
  have HZ := Lib.hid (alike_no hne)
  obtain ⟨b10, b11, b12⟩ := b1
  obtain ⟨b30, b31⟩ := b3
  obtain ⟨b50, b51⟩ := b5
  have HAR := Lib.hid har
  clear RW hLE hRI hLO hHI h ha hb fa fb hA hrr hne har hn
  go_enter Tryz.func56, Tryz.ntmps56
  go_upto_region 1 with fail
  refine wp_abs (F := fun w1 => Row w1 w.heap.size #[.int .i64 a.x, .int .i64 a.y, .int .i64 a.z, .int .i64 a.c0, .int .i64 a.c1, .int .i64 a.c2, .int .i64 a.c3] 41 ∧ Row w1 (w.heap.size + 1) #[.int .i64 b.x, .int .i64 b.y, .int .i64 b.z, .int .i64 b.c0, .int .i64 b.c1, .int .i64 b.c2, .int .i64 b.c3] 41 ∧ Row w1 (w.heap.size + 1 + 1) #[.int .i64 x0, .int .i64 y0, .int .i64 x1, .int .i64 y1] 29 ∧ ∃ X, w1 = w.ext X) ⟨by exact rx_, by exact rx_, by exact rx_, RowKit.Below.toExt (by exact bl_)⟩ ?_
  rintro w1 ⟨h2, h3, h4, hX⟩
  have HA := Lib.hid h2
  have HB := Lib.hid h3
  have HC := Lib.hid h4
  have HX := Lib.hid hX
  have c1 := h2.cell
  have c2 := h2.frozen
  have c3 := h2.lt
  have d1 := h3.cell
  have d2 := h3.frozen
  have d3 := h3.lt
  have f1 := h4.cell
  have f2 := h4.frozen
  have f3 := h4.lt
  clear h2 h3 h4 hX
  go_cut [43] from 20 to 43 (fun t wx => t = .bool false ∧ ∃ X, wx = w1.ext X)
  case first =>
    rcases HZ.out with z1 | ⟨z1, z2⟩
    all_goals
      go_wp2_with (first | (go_at_call 102; (with_reducible refine (R.out _).mono ?_); rintro _ _ ⟨rfl, X_, rfl⟩) | (go_at_call 49; (with_reducible refine (RR.out _).mono ?_); rintro _ _ ⟨rfl, X_, rfl⟩))
      go_meet
      exact ⟨rfl, RowKit.Below.toExt (by exact br_)⟩
  case rest =>
  obtain ⟨rfl, X1, rfl⟩ := hcut
  go_upto_region 4 with (first
    | (go_at_call 103; (with_reducible refine (NS.out _).mono ?_); rintro _ _ ⟨rfl, XC, rfl⟩))
  obtain ⟨Bt, hBt⟩ : ∃ B, w1.heap.size + X1.sz + XC.sz = B := ⟨_, rfl⟩
  have HF := Lib.hid (show Row w1 (w.heap.size + 1 + 1) #[.int .i64 x0, .int .i64 y0, .int .i64 x1, .int .i64 y1] 29 → True from fun _ => trivial)
  refine wp_abs (F := fun w2 => Row w2 w.heap.size #[.int .i64 a.x, .int .i64 a.y, .int .i64 a.z, .int .i64 a.c0, .int .i64 a.c1, .int .i64 a.c2, .int .i64 a.c3] 41 ∧ Row w2 (w.heap.size + 1) #[.int .i64 b.x, .int .i64 b.y, .int .i64 b.z, .int .i64 b.c0, .int .i64 b.c1, .int .i64 b.c2, .int .i64 b.c3] 41 ∧ Row w2 (w.heap.size + 1 + 1) #[.int .i64 x0, .int .i64 y0, .int .i64 x1, .int .i64 y1] 29 ∧ Row w2 Bt #[.int .i64 a.x, .int .i64 a.y, .int .i64 (b.x - a.x), .int .i64 (b.y - a.y), .int .i64 (smL a b), .int .i64 t, .int .i64 r] 143 ∧ ∃ X, w2 = w.ext X) ⟨((HA.out.ext _).ext _).alloc _, ((HB.out.ext _).ext _).alloc _, ((HC.out.ext _).ext _).alloc _, by rw [← hBt]; exact rx_, by obtain ⟨X0, hX0⟩ := HX.out; rw [hX0]; exact RowKit.Below.toExt (by exact bl_)⟩ ?_
  have hbt : w.heap.size ≤ Bt := by omega
  rw [hBt]
  clear HA HB HC HX HF c1 c2 c3 d1 d2 d3 f1 f2 f3 hBt
  rintro w2 ⟨h2, h3, h4, h5, hX⟩
  have HA := Lib.hid h2
  have HB := Lib.hid h3
  have HT := Lib.hid h5
  have HX := Lib.hid hX
  have c1 := h2.cell
  have c2 := h2.frozen
  have c3 := h2.lt
  have d1 := h3.cell
  have d2 := h3.frozen
  have d3 := h3.lt
  have f1 := h4.cell
  have f2 := h4.frozen
  have f3 := h4.lt
  clear h2 h3 h4 h5 hX
  go_upto_region 6 with fail
  rw [← HLE.out, ← HRI.out]
  by_cases hlr : RI ≤ LE
  · have e := BD.out.none (v := smV a b) n0 hlr
    have HE := Lib.hid e
    clear e
    go_wp2
    go_ret
    rw [HE.out]
    exact ⟨_, rfl, recs_nil _, HX.out⟩
  · obtain ⟨m, em⟩ : ∃ m : Nat, RI - LE = (m : Int) := ⟨(RI - LE).toNat, by omega⟩
    have hmk : ∀ w, (Instr.makeSlice 55 (.int .i64 (m : Int)) (.int .i64 (m : Int))).run Tryz.prog w = .ok (.slice (some ⟨w.heap.size, 0, none⟩) m m) (w.alloc (.cells (madeCells #[.int .i64 0] m) 3)) := run_make_row' (P := Tryz.prog) 55 3 (.int .i64 0) 8 Tryz.underlying55 info_i64 rfl .i64 .i64 m (by omega) (by omega)
    simp only [made_cnt] at hmk
    go_upto_region 11 with (first
      | (go_at_call 104; (with_reducible refine (RWH.out _).mono ?_); rintro _ _ ⟨rfl, XD, rfl⟩))
    obtain ⟨g, hg⟩ : ∃ g, w2.heap.size = g := ⟨_, rfl⟩
    have gt1 : Bt < g := by have := HT.out.lt; omega
    have gt2 : w.heap.size + 1 < g := by have := HB.out.lt; omega
    refine wp_abs (F := SmH w a b r t Bt g m (fun _ => 0) (.slice none 0 0) []) (Hold.start (List.forall_mem_cons.2 ⟨(HA.out.alloc _).ext _, List.forall_mem_cons.2 ⟨(HB.out.alloc _).ext _, List.forall_mem_cons.2 ⟨(HT.out.alloc _).ext _, List.forall_mem_cons.2 ⟨by rw [← hg]; exact rx_, by simp⟩⟩⟩⟩) (by simp) (by obtain ⟨X0, hX0⟩ := HX.out; rw [hX0]; exact RowKit.Below.toExt (by exact bl_))) ?_
    rw [hg]
    clear hmk hg HA HB HT HX c1 c2 c3 d1 d2 d3 f1 f2 f3
    intro w3 h3
    have H3 := Lib.hid h3
    clear h3
    obtain ⟨i0, hii, hi0, hi1, hi2⟩ := info_parts info_fr
    have m1 : 1 ≤ m := by omega
    have m2 : m ≤ 8388608 := by omega
    go_wp2
    go_loopw [16, 12] (fun i u wr => ∃ (y : Int) (v : Value) (L : List FrP) (F : Nat → Nat), LO ≤ y ∧ y ≤ max LO HI ∧ i = .int .i64 y ∧ u = v ∧ Hid (L = smTo a b n (smV a b) x0 x1 y0 (min y y1)) ∧ Hid (SmH w a b r t Bt g m F v L wr))
      (fun i _ _ => (HI - intOf i).toNat)
    case atStart => exact ⟨LO, _, [], _, by omega, by omega, rfl, rfl, Lib.hid (BD.out.start n0 ry).symm, H3⟩
    case round =>
      clear H3
      obtain ⟨y, v, L, F, hy0, hy1, rfl, hv, hL, hR⟩ := hrel
      have hv := hv.symm
      subst hv
      by_cases hlt : y < HI
      · have hltc := hlt
        have k0 := hR.out.rows _ (List.mem_cons_of_mem _ (List.mem_cons_of_mem _ (List.mem_cons_of_mem _ (List.mem_cons_self ..))))
        simp only at k0
        have k1 := k0.cell
        have k2 := k0.frozen
        have k3 := k0.lt
        have HK := Lib.hid k0
        clear k0
        have hcl : ∀ ty, (Builtin.clear_ #[55] ty #[.slice (some ⟨g, 0, none⟩) m m]).run Tryz.prog wr = .ok (.tuple #[]) (wr.setCells g 0 (List.replicate m (.int .i64 0))) := fun ty => Lib.run_clear_slice wr 55 3 ty (.int .i64 0) Tryz.underlying55 (fun w => Tryz.zeroValue3 w) rfl rfl g 0 m m (by omega) (fun j hj => by rw [Nat.zero_add, HK.out.cell, cntL_get _ _ _ hj]; rfl) (fun j hj => HK.out.frozen _)
        have gv : some g ≠ v.ownBlock := row_apart (HK.out) (by decide) hR.out.own
        have GV := Lib.hid gv
        clear gv
        go_upto_region 15 with fail
        refine wp_abs (F := SmH w a b r t Bt g m (fun _ => 0) v L) (hR.out.chg (chg_clears m 0 wr) GV.out (by omega) (List.forall_mem_cons.2 ⟨(chg_clears m 0 wr).row (hR.out.rows _ (List.mem_cons_self ..)) (by show ¬ (w.heap.size = g); omega), List.forall_mem_cons.2 ⟨(chg_clears m 0 wr).row (hR.out.rows _ (List.mem_cons_of_mem _ (List.mem_cons_self ..))) (by show ¬ (w.heap.size + 1 = g); omega), List.forall_mem_cons.2 ⟨(chg_clears m 0 wr).row (hR.out.rows _ (List.mem_cons_of_mem _ (List.mem_cons_of_mem _ (List.mem_cons_self ..)))) (by show ¬ (Bt = g); omega), List.forall_mem_cons.2 ⟨Row.clears F m 0 wr (by omega) (by rw [show cntL (fun j => if j < 0 then 0 else F j) m = cntL F m from cntL_congr fun j hj => if_neg (by omega)]; exact HK.out), by simp⟩⟩⟩⟩) (by simp)) ?_
        clear hR HK hcl k1 k2 k3
        intro w4 h4
        have hR := Lib.hid h4
        clear h4
        have s0 := hR.out.rows _ (List.mem_cons_of_mem _ (List.mem_cons_of_mem _ (List.mem_cons_self ..)))
        simp only at s0
        have s1 := s0.cell
        have s2 := s0.frozen
        have s3 := s0.lt
        clear s0
        have HK := Lib.hid (show Row w4 g (cntL (fun _ => 0) m) 3 from hR.out.rows _ (List.mem_cons_of_mem _ (List.mem_cons_of_mem _ (List.mem_cons_of_mem _ (List.mem_cons_self ..)))))
        have C1 := Lib.hid (fun w hg => CT.out g m y (by omega) (by omega) (by omega) (by omega) m1 m2 w hg)
        go_upto_region 16 with (go_at_call 105; (with_reducible refine (C1.out _ HK.out).mono ?_); rintro _ w5 ⟨rfl, hrow, hchg⟩; have HROW := Lib.hid hrow; have HCHG := Lib.hid hchg; clear hrow hchg)
        refine wp_abs (F := SmH w a b r t Bt g m (fun j => covN a b n (LE + j) y) v L) (hR.out.chg HCHG.out GV.out (by omega) (List.forall_mem_cons.2 ⟨HCHG.out.row (hR.out.rows _ (List.mem_cons_self ..)) (by show ¬ (w.heap.size = g); omega), List.forall_mem_cons.2 ⟨HCHG.out.row (hR.out.rows _ (List.mem_cons_of_mem _ (List.mem_cons_self ..))) (by show ¬ (w.heap.size + 1 = g); omega), List.forall_mem_cons.2 ⟨HCHG.out.row (hR.out.rows _ (List.mem_cons_of_mem _ (List.mem_cons_of_mem _ (List.mem_cons_self ..)))) (by show ¬ (Bt = g); omega), List.forall_mem_cons.2 ⟨HROW.out, by simp⟩⟩⟩⟩) (by simp)) ?_
        clear hR HK s1 s2 s3 HROW HCHG GV C1
        intro w6 h6
        have hR := Lib.hid h6
        clear h6
        go_wp2
        have hyy : y < y1 := by omega
        have HP := Lib.hid (show L = smTo a b n (smV a b) x0 x1 y0 y ++ smRowL a b n (smV a b) x0 (LE + (0 : Nat)) y by rw [show LE + ((0 : Nat) : Int) = LE by simp, BD.out.left n0 (by omega) y, List.append_nil, ← (show min y y1 = y by omega)]; rw [show min y y1 = y by omega]; have := hL.out; rw [show min y y1 = y by omega] at this; exact this)
        go_loopw [103, 12] (fun i u wr => ∃ (j : Nat) (v : Value) (L : List FrP), j ≤ m ∧ i = .int .i64 j ∧ u = v ∧ Hid (L = smTo a b n (smV a b) x0 x1 y0 y ++ smRowL a b n (smV a b) x0 (LE + j) y) ∧ Hid (SmH w a b r t Bt g m (fun j => covN a b n (LE + j) y) v L wr))
          (fun i _ _ => m - (intOf i).toNat)
        case atStart => exact ⟨0, v, L, by omega, rfl, rfl, HP, hR⟩
        case round =>
          clear hR hL HP
          obtain ⟨j, v, L, hj, rfl, hv, hL, hR⟩ := hrel
          have hv := hv.symm
          subst hv
          by_cases hjm : j < m
          · have hji : (j : Int) < m := by omega
            have HK := Lib.hid (show Row wr g (cntL (fun j => covN a b n (LE + j) y) m) 3 from hR.out.rows _ (List.mem_cons_of_mem _ (List.mem_cons_of_mem _ (List.mem_cons_of_mem _ (List.mem_cons_self ..)))))
            obtain ⟨cv, hcv⟩ : ∃ c, covN a b n (LE + j) y = c := ⟨_, rfl⟩
            have k1 : wr.cell? ⟨g, j, none⟩ = some (.int .i64 (cv : Int)) := by rw [HK.out.cell, cntL_get _ _ _ hjm, hcv]
            have k3 := HK.out.lt
            have cb : cv ≤ 64 := by rw [← hcv]; exact covN_le a b n _ y
            have HCV := Lib.hid hcv
            clear hcv
            by_cases hc : cv = 0
            · have P2 := Lib.hid (show L = smTo a b n (smV a b) x0 x1 y0 y ++ smRowL a b n (smV a b) x0 (LE + ((j + 1 : Nat) : Int)) y by rw [show LE + ((j + 1 : Nat) : Int) = (LE + j) + 1 by omega, smRowL_no a b n _ x0 (LE + j) y (by omega) (by rw [HCV.out]; exact hc)]; exact hL.out)
              have cz : ((cv : Int) == 0) = true := by simp; omega
              clear hc
              go_wp2
              go_roundw
              case rel => exact ⟨j + 1, _, L, by omega, by go_num, rfl, P2, hR⟩
              case measure => simp [intOf]; omega
            · have ncz : ((cv : Int) == 0) = false := by simp; omega
              have le : L.length ≤ 1048576 := by
                have l1 := smTo_len a b n (smV a b) x0 x1 y0 y
                have l2 := smRowL_len a b n (smV a b) x0 (LE + j) y
                have l3 : (x1 - x0).toNat * ((y - y0).toNat + 1) ≤ (x1 - x0).toNat * (y1 - y0).toNat := Nat.mul_le_mul_left _ (by omega)
                rw [Nat.mul_succ] at l3
                have := HAR.out
                rw [hL.out, List.length_append]; omega
              have LB1 := Lib.hid (show L.length + 1 ≤ maxLen by unfold maxLen; omega)
              have LB2 := Lib.hid (show (L.length + 1) * 64 ≤ 140737488355328 by omega)
              have A0 := AC.out (LE + j) y ⟨by omega, by omega, by omega, by omega⟩
              have P3 : smFr a b n (LE + j) y (smV a b) = ⟨LE + j, y, mid a.z b.z (acN a b (LE + j) y) (acD a b), mid a.c0 b.c0 (acN a b (LE + j) y) (acD a b), mid a.c1 b.c1 (acN a b (LE + j) y) (acD a b), mid a.c2 b.c2 (acN a b (LE + j) y) (acD a b), mid a.c3 b.c3 (acN a b (LE + j) y) (acD a b), (cv : Int)⟩ := by unfold smFr smV; rw [HCV.out]
              simp only [mixed] at A0
              obtain ⟨zz, h5⟩ : ∃ v, mid a.z b.z (acN a b (LE + j) y) (acD a b) = v := ⟨_, rfl⟩
              obtain ⟨g0, h6⟩ : ∃ v, mid a.c0 b.c0 (acN a b (LE + j) y) (acD a b) = v := ⟨_, rfl⟩
              obtain ⟨g1, h7⟩ : ∃ v, mid a.c1 b.c1 (acN a b (LE + j) y) (acD a b) = v := ⟨_, rfl⟩
              obtain ⟨g2, h8⟩ : ∃ v, mid a.c2 b.c2 (acN a b (LE + j) y) (acD a b) = v := ⟨_, rfl⟩
              obtain ⟨g3, h9⟩ : ∃ v, mid a.c3 b.c3 (acN a b (LE + j) y) (acD a b) = v := ⟨_, rfl⟩
              rw [h5, h6, h7, h8, h9] at P3
              simp only [h5, h6, h7, h8, h9] at A0
              have A1 := Lib.hid A0
              have P2 := Lib.hid (show smTo a b n (smV a b) x0 x1 y0 y ++ smRowL a b n (smV a b) x0 (LE + ((j + 1 : Nat) : Int)) y = L ++ [⟨LE + (j : Int), y, zz, g0, g1, g2, g3, (cv : Int)⟩] by rw [show LE + ((j + 1 : Nat) : Int) = (LE + j) + 1 by omega, smRowL_yes a b n _ x0 (LE + j) y (by omega) (by rw [HCV.out]; exact hc), ← List.append_assoc, ← hL.out, P3])
              clear A0 P3 h5 h6 h7 h8 h9 le hc
              have p0 := hR.out.rows _ (List.mem_cons_self ..)
              simp only at p0
              have p1 := p0.cell
              have p2 := p0.frozen
              have p3 := p0.lt
              clear p0
              have q0 := hR.out.rows _ (List.mem_cons_of_mem _ (List.mem_cons_self ..))
              simp only at q0
              have q1 := q0.cell
              have q2 := q0.frozen
              have q3 := q0.lt
              clear q0
              go_upto_region 22 with (go_at_call 106; (with_reducible refine (A1.out _).mono ?_); rintro _ _ ⟨rfl, XE, rfl⟩)
              refine wp_abs (F := fun w7 => ∃ B, B = wr.heap.size ∧ Row w7 B #[.int .i64 (LE + j), .int .i64 y, .int .i64 zz, .int .i64 g0, .int .i64 g1, .int .i64 g2, .int .i64 g3, .int .i64 (cv : Int)] 76 ∧ SmH w a b r t Bt g m (fun j => covN a b n (LE + j) y) v L w7) ⟨_, rfl, by exact rx_, hR.out.grown (by exact bl_)⟩ ?_
              rintro w7 ⟨B, hB, hs, h2⟩
              rw [← hB]
              have hR2 := Lib.hid h2
              have e1 := hs.cell
              have e2 := hs.frozen
              have e3 := hs.lt
              have hsz := hR2.out.size
              clear hB hs h2 hR p1 p2 p3 q1 q2 q3 k1 k3 HK
              go_wp2_with (first
                | (at_builtin; refine wpList_append_own _ rfl _ _ 36 rfl w.heap.size 76 i0 (.agg #[.int .i64 0, .int .i64 0, .int .i64 0, .int .i64 0, .int .i64 0, .int .i64 0, .int .i64 0, .int .i64 0]) 8 64 Tryz.underlying36 hii hi0 hi1 hi2 rfl (by decide) v L.length (L.flatMap FrP.cells) rfl (hR2.out.own.alloc _) ⟨w7.heap.size, 0, none⟩ 1 1 (FrP.cells ⟨LE + (j : Int), y, zz, g0, g1, g2, g3, (cv : Int)⟩) rfl rfl (cells_newR rfl _ _) (frK.one ⟨LE + (j : Int), y, zz, g0, g1, g2, g3, (cv : Int)⟩) LB1.out LB2.out (by simp; omega) ?_; intro v' w8 hown hgrow _; have h5 := hR2.out.snoc (s := ⟨LE + (j : Int), y, zz, g0, g1, g2, g3, (cv : Int)⟩) hown hgrow; have H5 := Lib.hid h5; clear hown hgrow h5))
              go_roundw
              case rel => exact ⟨j + 1, _, L ++ [⟨LE + (j : Int), y, zz, g0, g1, g2, g3, (cv : Int)⟩], by omega, by go_num, rfl, Lib.hid P2.out.symm, H5⟩
              case measure => simp [intOf]; omega
          · obtain rfl : j = m := by omega
            have P2 := Lib.hid (show L = smTo a b n (smV a b) x0 x1 y0 (min (y + 1) y1) by rw [show min (y + 1) y1 = y + 1 by omega, smTo_snoc a b n _ x0 x1 y0 y (by omega), ← BD.out.right n0 (by omega) y, show RI = LE + (j : Int) by omega]; exact hL.out)
            go_wp2
            go_roundw
            case rel => exact ⟨y + 1, _, L, _, by omega, by omega, rfl, rfl, P2, hR⟩
            case measure => simp [intOf]; omega
      · have P2 := Lib.hid (show L = smTo a b n (smV a b) x0 x1 y0 y1 by rw [hL.out]; exact BD.out.stop n0 (min y y1) (by omega) (by omega) (by omega))
        clear hL
        go_wp2
        go_ret
        refine ⟨_, rfl, ?_, hR.out.ext⟩
        rw [← P2.out]
        exact own_recs hR.out.own (by rw [P2.out]; have := smTo_len a b n (smV a b) x0 x1 y0 y1; have := HAR.out; omega)
end Go.Proofs.YtbkmgngeahmefaaGreat
