/- Parts of the proof of FaceLines, laid together. Conditions: at each. -/
import Derived.Test.YtbkmgngeahmefaaGreatSFaceLines14
import Derived.Test.YtbkmgngeahmefaaGreatSFaceLines45
import Derived.Test.YtbkmgngeahmefaaGreatSFaceLines46
set_option linter.unusedVariables false
set_option linter.unusedSimpArgs false
section
namespace Go.Proofs.YtbkmgngeahmefaaGreat
open Go.RowKit
def frontK (L : List WinP) (k : LookP) : Bool := frontB (sgn (faceN L)) k.ccw
def showP (L : List WinP) (B : List Bool) (k : LookP) (x0 y0 x1 y1 : Int) : Prop := mayP L B ∧ k.ok ∧ rightP x0 y0 x1 y1 ∧ culledB (frontK L k) k.cull = false
instance (L : List WinP) (B : List Bool) (k : LookP) (x0 y0 x1 y1 : Int) : Decidable (showP L B k x0 y0 x1 y1) := by unfold showP; exact inferInstance
def modeK (L : List WinP) (k : LookP) : Int := if frontK L k then k.front else k.back
@[go_sem] theorem index3_0 (f g h : Value) (w : World) : (Instr.index 87 (.agg #[f, g, h]) (.int .i64 0)).run Tryz.prog w = .ok f w := by kernel_rfl
@[go_sem] theorem index3_1 (f g h : Value) (w : World) : (Instr.index 87 (.agg #[f, g, h]) (.int .i64 1)).run Tryz.prog w = .ok g w := by kernel_rfl
@[go_sem] theorem index3_2 (f g h : Value) (w : World) : (Instr.index 87 (.agg #[f, g, h]) (.int .i64 2)).run Tryz.prog w = .ok h w := by kernel_rfl
theorem may_fits {L : List WinP} {B : List Bool} (h : mayP L B) : ∀ a ∈ L, a.fits := fun a ha => (h.2.2 a ha).f
theorem ok_cull {k : LookP} (h : k.ok) : amongP k.cull 0 3 := h.2.2.2.2.2.1
set_option maxRecDepth 100000 in
set_option maxHeartbeats 8000000 in
theorem face_draw_fill (v ev : Value) (L : List WinP) (B : List Bool) (k : LookP) (x0 y0 x1 y1 : Int) (w : World) (hv : Recs wnK w v L) (he : Recs boK w ev B) (hw : ∀ a ∈ L, a.wide) (hk : k.wide) (h : showP L B k x0 y0 x1 y1) (hm : modeK L k = 0) (hL : L.length ≤ 4096) (har : areaP x0 y0 x1 y1 ≤ 1048576) : Calls Tryz.prog 16 #[v, ev, k.v, R4 x0 y0 x1 y1] w (RLists frK w (faceF L k x0 y0 x1 y1)) := by
  obtain ⟨h1, h2, h3, h4⟩ := h
  have MY := Lib.hid (fun w1 h g => decide_eq_true h1 ▸ face_may v ev L B k x0 y0 x1 y1 w1 h g hw)
  have RI := Lib.hid (fun w => decide_eq_true h2 ▸ look_right k hk w)
  have RR := Lib.hid (fun w => decide_eq_true h3 ▸ rect_right x0 y0 x1 y1 w)
  have CU0 := fun w1 h => face_culled v L k w1 h (may_fits h1) (ok_cull h2)
  have FT0 := fun w1 h => face_front v L k.ccw w1 h (may_fits h1)
  have FI := Lib.hid (fun ea el ec w1 h => face_filled v L ea el ec k x0 y0 x1 y1 w1 h (may_fits h1) h2 hL har)
  unfold frontK at h4
  simp only [h4] at CU0
  have CU := Lib.hid CU0
  unfold modeK frontK at hm
  obtain ⟨bf, hbf⟩ : ∃ b, frontB (sgn (faceN L)) k.ccw = b := ⟨_, rfl⟩
  rw [hbf] at FT0 hm
  have FT := Lib.hid FT0
  clear CU0 FT0 h1 h2 h3 h4 hw hk hbf hL har
  obtain ⟨TT, hTT⟩ : ∃ T, faceF L k x0 y0 x1 y1 = T := ⟨_, rfl⟩
  rw [hTT] at FI ⊢
  clear hTT
  have HV := Lib.hid hv
  have HE := Lib.hid he
  obtain ⟨hl, av, cap, rfl, hcap, -⟩ := hv
  obtain ⟨hl2, ev, ecap, rfl, -, -⟩ := he
  cases bf
  case false =>
    simp only [if_true, if_false, Bool.false_eq_true] at hm
    obtain ⟨k2, rfl⟩ : ∃ k2 : LookP, k = { k2 with back := 0 } := ⟨k, by cases k; simp only at hm; subst hm; rfl⟩
    clear hm
    simp only at FI CU FT RI MY
    go_enter Tryz.func16, Tryz.ntmps16
    go_upto_region 2 with fail
    refine wp_abs (F := fun w1 => Row w1 w.heap.size #[.int .i64 k2.width, .bool k2.soft, .bool k2.dashed, .int .i64 k2.p, .int .i64 k2.r, .int .i64 k2.c, .int .i64 k2.size, .int .i64 k2.kind, .int .i64 k2.front, .int .i64 0, .bool k2.ccw, .int .i64 k2.cull, .bool k2.off, .int .i64 k2.factor, .int .i64 k2.units] 27 ∧ Row w1 (w.heap.size + 1) #[.int .i64 x0, .int .i64 y0, .int .i64 x1, .int .i64 y1] 29 ∧ Row w1 (w.heap.size + 1 + 1) #[.slice av L.length cap, .slice ev B.length ecap, .int .i64 k2.width, .bool k2.soft, .bool k2.dashed, .int .i64 k2.p, .int .i64 k2.r, .int .i64 k2.c, .int .i64 k2.size, .int .i64 k2.kind, .int .i64 k2.front, .int .i64 0, .bool k2.ccw, .int .i64 k2.cull, .bool k2.off, .int .i64 k2.factor, .int .i64 k2.units, .int .i64 x0, .int .i64 y0, .int .i64 x1, .int .i64 y1] 85 ∧ Recs wnK w1 (.slice av L.length cap) L ∧ Recs boK w1 (.slice ev B.length ecap) B ∧ ∃ X, w1 = w.ext X) ⟨by exact rx_, by exact rx_, by exact rx_, (by exact rc_ HV.out), (by exact rc_ HE.out), RowKit.Below.toExt (by exact bl_)⟩ ?_
    clear HV HE
    rintro w1 ⟨Rk, Rr, Rf, hv, he, hX⟩
    have HX := Lib.hid hX
    have HV := Lib.hid hv
    have HE := Lib.hid he
    have ck := Rk.cell
    have fk := Rk.frozen
    have lk := Rk.lt
    have cr := Rr.cell
    have fr := Rr.frozen
    have lr := Rr.lt
    have cf := Rf.cell
    have ff := Rf.frozen
    have lf := Rf.lt
    have dk := World.rowD_of Rk
    have df := World.rowD_of Rf
    clear Rk Rr Rf hv he hX
    go_wp2_with (first
      | (go_at_call 48; (with_reducible refine (MY.out _ (by exact rc_ HV.out) (by exact rc_ HE.out)).mono ?_); rintro _ _ ⟨rfl, X_, rfl⟩)
      | (go_at_call 13; (with_reducible refine (RI.out _).mono ?_); rintro _ _ ⟨rfl, X_, rfl⟩)
      | (go_at_call 49; (with_reducible refine (RR.out _).mono ?_); rintro _ _ ⟨rfl, X_, rfl⟩)
      | (go_at_call 25; (with_reducible refine (CU.out _ (by exact rc_ HV.out)).mono ?_); rintro _ _ ⟨rfl, X_, rfl⟩)
      | (go_at_call 23; (with_reducible refine (FT.out _ (by exact rc_ HV.out)).mono ?_); rintro _ _ ⟨rfl, X_, rfl⟩)
      | (go_at_call 50; (with_reducible refine (FI.out _ _ _ _ (by exact rc_ HV.out)).mono ?_); rintro _ _ ⟨vq, rfl, hq, ⟨XQ, rfl⟩⟩; have HQ := Lib.hid hq; clear hq))
    go_ret
    obtain ⟨X0, hX0⟩ := HX.out
    subst hX0
    exact ⟨_, rfl, HQ.out, RowKit.Below.toExt (by exact br_)⟩
  case true =>
    simp only [if_true, if_false, Bool.false_eq_true] at hm
    obtain ⟨k2, rfl⟩ : ∃ k2 : LookP, k = { k2 with front := 0 } := ⟨k, by cases k; simp only at hm; subst hm; rfl⟩
    clear hm
    simp only at FI CU FT RI MY
    go_enter Tryz.func16, Tryz.ntmps16
    go_upto_region 2 with fail
    refine wp_abs (F := fun w1 => Row w1 w.heap.size #[.int .i64 k2.width, .bool k2.soft, .bool k2.dashed, .int .i64 k2.p, .int .i64 k2.r, .int .i64 k2.c, .int .i64 k2.size, .int .i64 k2.kind, .int .i64 0, .int .i64 k2.back, .bool k2.ccw, .int .i64 k2.cull, .bool k2.off, .int .i64 k2.factor, .int .i64 k2.units] 27 ∧ Row w1 (w.heap.size + 1) #[.int .i64 x0, .int .i64 y0, .int .i64 x1, .int .i64 y1] 29 ∧ Row w1 (w.heap.size + 1 + 1) #[.slice av L.length cap, .slice ev B.length ecap, .int .i64 k2.width, .bool k2.soft, .bool k2.dashed, .int .i64 k2.p, .int .i64 k2.r, .int .i64 k2.c, .int .i64 k2.size, .int .i64 k2.kind, .int .i64 0, .int .i64 k2.back, .bool k2.ccw, .int .i64 k2.cull, .bool k2.off, .int .i64 k2.factor, .int .i64 k2.units, .int .i64 x0, .int .i64 y0, .int .i64 x1, .int .i64 y1] 85 ∧ Recs wnK w1 (.slice av L.length cap) L ∧ Recs boK w1 (.slice ev B.length ecap) B ∧ ∃ X, w1 = w.ext X) ⟨by exact rx_, by exact rx_, by exact rx_, (by exact rc_ HV.out), (by exact rc_ HE.out), RowKit.Below.toExt (by exact bl_)⟩ ?_
    clear HV HE
    rintro w1 ⟨Rk, Rr, Rf, hv, he, hX⟩
    have HX := Lib.hid hX
    have HV := Lib.hid hv
    have HE := Lib.hid he
    have ck := Rk.cell
    have fk := Rk.frozen
    have lk := Rk.lt
    have cr := Rr.cell
    have fr := Rr.frozen
    have lr := Rr.lt
    have cf := Rf.cell
    have ff := Rf.frozen
    have lf := Rf.lt
    have dk := World.rowD_of Rk
    have df := World.rowD_of Rf
    clear Rk Rr Rf hv he hX
    go_wp2_with (first
      | (go_at_call 48; (with_reducible refine (MY.out _ (by exact rc_ HV.out) (by exact rc_ HE.out)).mono ?_); rintro _ _ ⟨rfl, X_, rfl⟩)
      | (go_at_call 13; (with_reducible refine (RI.out _).mono ?_); rintro _ _ ⟨rfl, X_, rfl⟩)
      | (go_at_call 49; (with_reducible refine (RR.out _).mono ?_); rintro _ _ ⟨rfl, X_, rfl⟩)
      | (go_at_call 25; (with_reducible refine (CU.out _ (by exact rc_ HV.out)).mono ?_); rintro _ _ ⟨rfl, X_, rfl⟩)
      | (go_at_call 23; (with_reducible refine (FT.out _ (by exact rc_ HV.out)).mono ?_); rintro _ _ ⟨rfl, X_, rfl⟩)
      | (go_at_call 50; (with_reducible refine (FI.out _ _ _ _ (by exact rc_ HV.out)).mono ?_); rintro _ _ ⟨vq, rfl, hq, ⟨XQ, rfl⟩⟩; have HQ := Lib.hid hq; clear hq))
    go_ret
    obtain ⟨X0, hX0⟩ := HX.out
    subst hX0
    exact ⟨_, rfl, HQ.out, RowKit.Below.toExt (by exact br_)⟩
end Go.Proofs.YtbkmgngeahmefaaGreat
end
section
namespace Go.Proofs.YtbkmgngeahmefaaGreat
open Go.RowKit
def look22 : LookP := ⟨1, false, false, 0, 1, 0, 1, 0, 0, 0, true, 0, false, 0, 0⟩
def quad22 : List WinP := [⟨0, 0, 0, 0, 0, 0, 0⟩, ⟨1024, 0, 0, 0, 0, 0, 0⟩, ⟨1024, 1024, 0, 0, 0, 0, 0⟩, ⟨0, 1024, 0, 0, 0, 0, 0⟩]
theorem look22_any (w : World) : Calls Tryz.prog 44 #[] w (Ret look22.v w) := by
  go_enter Tryz.func44, Tryz.ntmps44
  go_wp2
  refine bodyPost_ret (v := look22.v) (by simp [results, Tryz.results44, go_sem, look22]) rfl (Ret.of (by exact bl_))
theorem quad22_any (w : World) : Calls Tryz.prog 43 #[] w (RLists wnK w quad22) := by
  go_enter Tryz.func43, Tryz.ntmps43
  go_wp2
  go_ret
  exact ⟨_, rfl, recs_lit (K := wnK) rfl quad22 _ rfl _ (by decide), RowKit.Below.toExt (by exact bl_)⟩
theorem made_bools (n : Nat) : (madeCells (Value.bool false).cells n).toList = (List.replicate n false).flatMap boK.cells := by
  have h : madeCells (Value.bool false).cells n = (List.replicate n (Value.bool false)).toArray := by
    unfold madeCells
    apply Array.ext
    · simp
    · intro i h1 h2
      simp [Value.cells, Nat.mod_one]
  rw [h]
  induction n with
  | zero => rfl
  | succ n ih =>
    rw [List.replicate_succ, List.replicate_succ, List.flatMap_cons, ← ih (by
      unfold madeCells
      apply Array.ext
      · simp
      · intro i h1 h2
        simp [Value.cells, Nat.mod_one])]; rfl
theorem info_bool : (Tryz.prog.info? 4).map (fun i => (i.zero, i.size, i.bytes)) = some (some (.bool false), 1, 1) := by kernel_rfl
theorem make_bools (n : Nat) (N : Int) (hN : N = n) (hn : n ≤ 4096) (w : World) : ∃ w', (Instr.makeSlice 23 (.int .i64 N) (.int .i64 N)).run Tryz.prog w = .ok (.slice (some ⟨w.heap.size, 0, none⟩) n n) w' ∧ Recs boK w' (.slice (some ⟨w.heap.size, 0, none⟩) n n) (List.replicate n false) ∧ ∃ X, w' = w.ext X := by
  subst hN
  obtain ⟨i, hi, hz, hs, hb⟩ := info_parts info_bool
  obtain ⟨w', h1, h2, h3⟩ := run_makeSlice_full (P := Tryz.prog) (w := w) w.heap.size 23 4 i (.bool false) 1 Tryz.underlying23 hi hz hs .i64 .i64 n (by omega) (by rw [hb]; omega) (by unfold maxLen; omega) (Nat.le_refl _)
  rw [Nat.mul_one, made_bools] at h2
  have h4 : w'.ownsRow w.heap.size 4 boK.k (.slice (some ⟨w.heap.size, 0, none⟩) n n) (List.replicate n false).length ((List.replicate n false).flatMap boK.cells) := by
    rw [List.length_replicate]; exact h2
  have h5 := own_recs h4 (by rw [List.length_replicate]; omega)
  have h6 := RowKit.Below.toExt (Below.grown (Below.refl _ w) h3 (Nat.le_refl _) (fun k hk => by cases hk))
  exact ⟨w', h1, h5, h6⟩
def no4 : List Bool := [false, false, false, false]
theorem quad22_fitsP : ∀ a ∈ quad22, a.fitsP := by decide
theorem quad22_fits : ∀ a ∈ quad22, a.fits := fun a h => (quad22_fitsP a h).f
theorem fitsP_wide {a : WinP} (h : a.fitsP) : a.wide := by
  unfold WinP.fitsP at h
  constructor <;> unfold w64 <;> omega
theorem look22_wide : look22.wide := by constructor <;> unfold w64 look22 <;> decide
theorem show22 : showP quad22 no4 look22 (-3) (-3) 9 9 := of_decide_eq_true (by kernel_rfl)
theorem list22 : (faceF quad22 look22 (-3) (-3) 9 9).length = 16 := by kernel_rfl
theorem sign22 : sgn (faceN quad22) = 1 := by kernel_rfl
theorem ok22 : decide look22.ok = true := by kernel_rfl
set_option maxRecDepth 100000 in
set_option maxHeartbeats 4000000 in
theorem awake22 (w : World) : Calls Tryz.prog 12 #[] w (Ret (.bool true) w) := by
  have DR := Lib.hid (fun v ev w1 (h : Recs wnK w1 v quad22) (g : Recs boK w1 ev no4) => face_draw_fill v ev quad22 no4 look22 (-3) (-3) 9 9 w1 h g (fun a h => fitsP_wide (quad22_fitsP a h)) look22_wide show22 (by kernel_rfl) (by decide) (by decide))
  have SG := Lib.hid (fun v w1 (h : Recs wnK w1 v quad22) => sign22 ▸ face_sign v quad22 w1 h quad22_fits)
  have RG := Lib.hid (fun w => ok22 ▸ look_right look22 look22_wide w)
  have hlen := list22
  obtain ⟨T, hT⟩ : ∃ T, faceF quad22 look22 (-3) (-3) 9 9 = T := ⟨_, rfl⟩
  rw [hT] at DR hlen
  have HL := Lib.hid hlen
  clear hT hlen
  go_enter Tryz.func12, Tryz.ntmps12
  go_wp2
  refine wp_region_rel 5 [some ([], srR wnK quad22), some ([], srR boK no4), some ([], srV look22.v), none, some ([0, 1], srR frK T)] (by kernel_rfl) (by kernel_rfl) ?_
  simp only [List.take_succ_cons, List.take_zero, List.drop_succ_cons, List.drop_zero]
  (repeat (first | (refine rel_none ?_; intro K_ hK_; go_big_quiet_op; go_big_quiet_on) | simp only [Act.put, List.setIfInBounds_toArray, List.set_cons_zero, List.set_cons_succ]))
  refine rel_some rfl (fun w_ hw_ hk_ K_ hK_ => ?_) (fun v0 f0 => ?_)
  · obtain ⟨X_, rfl⟩ := hw_
    go_simp
    go_at_call 43
    refine (quad22_any _).mono ?_
    rintro _ _ ⟨v, rfl, h1, h2⟩
    exact hK_ _ _ h1 h2
  obtain ⟨qa, qc, rfl⟩ := f0
  (repeat (first | (refine rel_none ?_; intro K_ hK_; go_big_quiet_op; go_big_quiet_on) | simp only [Act.put, List.setIfInBounds_toArray, List.set_cons_zero, List.set_cons_succ]))
  refine rel_some rfl (fun w_ hw_ hk_ K_ hK_ => ?_) (fun v1 f1 => ?_)
  · obtain ⟨X_, rfl⟩ := hw_
    go_simp
    obtain ⟨w2_, e1_, e2_, e3_⟩ := make_bools 4 4 rfl (by decide) (w.ext X_)
    rw [e1_]
    exact hK_ _ _ e2_ e3_
  obtain ⟨ba, bc, rfl⟩ := f1
  (repeat (first | (refine rel_none ?_; intro K_ hK_; go_big_quiet_op; go_big_quiet_on) | simp only [Act.put, List.setIfInBounds_toArray, List.set_cons_zero, List.set_cons_succ]))
  refine rel_some rfl (fun w_ hw_ hk_ K_ hK_ => ?_) (fun v2 f2 => ?_)
  · obtain ⟨X_, rfl⟩ := hw_
    go_simp
    go_at_call 44
    refine (look22_any _).mono ?_
    rintro _ _ ⟨rfl, hX⟩
    exact hK_ _ _ rfl hX
  obtain rfl := f2
  (repeat (first | (refine rel_none ?_; intro K_ hK_; go_big_quiet_op; go_big_quiet_on) | simp only [Act.put, List.setIfInBounds_toArray, List.set_cons_zero, List.set_cons_succ]))
  refine rel_some rfl (fun w_ hw_ hk_ K_ hK_ => ?_) (fun v4 f4 => ?_)
  · obtain ⟨X_, rfl⟩ := hw_
    have h0 := (hk_ (0, _) (by repeat (first | exact List.mem_cons_self | refine List.mem_cons_of_mem _ ?_))) (by simp)
    have h1 := (hk_ (1, _) (by repeat (first | exact List.mem_cons_self | refine List.mem_cons_of_mem _ ?_))) (by simp)
    go_simp
    go_at_call 16
    refine (DR.out _ _ _ h0 h1).mono ?_
    rintro _ _ ⟨v, rfl, h1, h2⟩
    exact hK_ _ _ h1 h2
  obtain ⟨fa, fc, rfl⟩ := f4
  (repeat (first | (refine rel_none ?_; intro K_ hK_; go_big_quiet_op; go_big_quiet_on) | simp only [Act.put, List.setIfInBounds_toArray, List.set_cons_zero, List.set_cons_succ]))
  refine rel_nil ?_
  intro w_ hw_ kk
  obtain ⟨X, rfl⟩ := hw_
  have hlen := HL.out
  have hl16 : ((T.length : Int) == 16) = true := by simp; omega
  clear hlen kk
  go_wp2_with (first
    | (go_at_call 43; (with_reducible refine (quad22_any _).mono ?_); rintro _ _ ⟨vq, rfl, hq, ⟨XQ, rfl⟩⟩; have HQ := Lib.hid hq; clear hq)
    | (go_at_call 21; (with_reducible refine (SG.out _ _ HQ.out).mono ?_); rintro _ _ ⟨rfl, X_, rfl⟩)
    | (go_at_call 44; (with_reducible refine (look22_any _).mono ?_); rintro _ _ ⟨rfl, X_, rfl⟩)
    | (go_at_call 13; (with_reducible refine (RG.out _).mono ?_); rintro _ _ ⟨rfl, X_, rfl⟩))
  go_ret
  exact Ret.of' (by first | rfl | simp) (by exact bl_)
end Go.Proofs.YtbkmgngeahmefaaGreat
end
section
namespace Go.Proofs.YtbkmgngeahmefaaGreat
open Go.RowKit
theorem rect_area0 {x0 y0 x1 y1 : Int} (h : ¬ rightP x0 y0 x1 y1) : areaP x0 y0 x1 y1 = 0 := if_neg h
set_option maxHeartbeats 4000000 in
theorem small22_any (av ev : Option Addr) (n cap m ecap : Nat) (k : LookP) (x0 y0 x1 y1 : Int) (w : World) (hn : n ≤ maxLen) (hm : m ≤ maxLen) : Calls Tryz.prog 11 #[fcV (.slice av n cap) (.slice ev m ecap) k x0 y0 x1 y1] w (Ret (.bool (decide (n ≤ 12 ∧ m ≤ 14 ∧ areaP x0 y0 x1 y1 ≤ 80))) w) := by
  unfold maxLen at hn hm
  have R := fun w => rrect_right x0 y0 x1 y1 w
  have A := Lib.hid (fun w => rrect_area x0 y0 x1 y1 w)
  by_cases h1 : n ≤ 12
  case neg =>
    have e : decide (n ≤ 12 ∧ m ≤ 14 ∧ areaP x0 y0 x1 y1 ≤ 80) = false := decide_eq_false fun q => h1 q.1
    have h1i : ¬ ((n : Int) ≤ 12) := by omega
    rw [e]
    clear e h1 R
    go_enter Tryz.func11, Tryz.ntmps11
    go_wp2
    go_ret
    exact Ret.of' rfl (by exact bl_)
  have h1i : (n : Int) ≤ 12 := by omega
  by_cases h2 : m ≤ 14
  case neg =>
    have e : decide (n ≤ 12 ∧ m ≤ 14 ∧ areaP x0 y0 x1 y1 ≤ 80) = false := decide_eq_false fun q => h2 q.2.1
    have h2i : ¬ ((m : Int) ≤ 14) := by omega
    rw [e]
    clear e h1 h2 R
    go_enter Tryz.func11, Tryz.ntmps11
    go_wp2
    go_ret
    exact Ret.of' rfl (by exact bl_)
  have h2i : (m : Int) ≤ 14 := by omega
  have e : decide (n ≤ 12 ∧ m ≤ 14 ∧ areaP x0 y0 x1 y1 ≤ 80) = decide (areaP x0 y0 x1 y1 ≤ 80) := decide_eq_decide.2 ⟨fun q => q.2.2, fun q => ⟨h1, h2, q⟩⟩
  rw [e]
  by_cases hr : rightP x0 y0 x1 y1
  · simp only [hr, decide_true] at R
    have HR := Lib.hid R
    generalize areaP x0 y0 x1 y1 = ar at *
    clear R e h1 h2 hr
    go_enter Tryz.func11, Tryz.ntmps11
    go_wp2_with (first | (go_at_call 41; (with_reducible refine (HR.out _).mono ?_); rintro _ _ ⟨rfl, X_, rfl⟩) | (go_at_call 42; (with_reducible refine (A.out _).mono ?_); rintro _ _ ⟨rfl, X_, rfl⟩))
    go_ret
    exact Ret.of' (by first | rfl | simp) (by exact bl_)
  · simp only [hr, decide_false] at R
    have HR := Lib.hid R
    rw [rect_area0 hr]
    clear R e h1 h2 hr A
    go_enter Tryz.func11, Tryz.ntmps11
    go_wp2_with (first | (go_at_call 41; (with_reducible refine (HR.out _).mono ?_); rintro _ _ ⟨rfl, X_, rfl⟩))
    go_ret
    exact Ret.of' (by first | rfl | decide) (by exact bl_)
end Go.Proofs.YtbkmgngeahmefaaGreat
end
