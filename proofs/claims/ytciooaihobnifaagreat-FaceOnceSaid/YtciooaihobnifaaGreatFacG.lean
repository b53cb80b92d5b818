/- Layer 22's law: the document's example. No condition. -/
import Derived.Test.YtciooaihobnifaaGreatFacF
import Derived.Test.YtciooaihobnifaaGreatSame
namespace Go.Proofs.YtciooaihobnifaaGreat
set_option linter.unusedVariables false
set_option linter.unusedSimpArgs false
open Go.RowKit
/-- The law's look. -/
def look22 : LookP := ⟨1, false, false, 0, 1, 0, 1, 0, 0, 0, true, 0, false, 0, 0⟩
def quad22 : List WinP := [⟨0, 0, 0, 0, 0, 0, 0⟩, ⟨1024, 0, 0, 0, 0, 0, 0⟩, ⟨1024, 1024, 0, 0, 0, 0, 0⟩, ⟨0, 1024, 0, 0, 0, 0, 0⟩]
theorem look22_any (w : World) : Calls Tryz.prog 31 #[] w (Ret look22.v w) := by
  go_enter Tryz.func31, Tryz.ntmps31
  go_wp2
  refine bodyPost_ret (v := look22.v) (by simp [results, Tryz.results31, go_sem, look22]) rfl (Ret.of (by (repeat (first | exact Below.refl _ _ | with_reducible refine Below.drew ?_ | with_reducible refine Below.ext ?_ (by first | exact Nat.le_refl _ | (simp; done) | (simp; omega)) _ | with_reducible refine Below.alloc ?_ (by first | exact Nat.le_refl _ | (simp; done) | (simp; omega)) _ | with_reducible refine Below.setCell ?_ (by first | exact Nat.le_refl _ | (simp; done) | (simp; omega)) _))))
theorem quad22_any (w : World) : Calls Tryz.prog 48 #[] w (RLists wnK w quad22) := by
  go_enter Tryz.func48, Tryz.ntmps48
  go_wp2
  go_ret
  exact ⟨_, rfl, recs_lit (K := wnK) rfl quad22 _ rfl _ (by decide), RowKit.Below.toExt (by (repeat (first | exact Below.refl _ _ | with_reducible refine Below.drew ?_ | with_reducible refine Below.ext ?_ (by first | exact Nat.le_refl _ | (simp; done) | (simp; omega)) _ | with_reducible refine Below.alloc ?_ (by first | exact Nat.le_refl _ | (simp; done) | (simp; omega)) _ | with_reducible refine Below.setCell ?_ (by first | exact Nat.le_refl _ | (simp; done) | (simp; omega)) _)))⟩
theorem made_bools (n : Nat) : (madeCells (Value.bool false).cells n).toList = (List.replicate n false).flatMap boK.cells := by
  have h : madeCells (Value.bool false).cells n = (List.replicate n (Value.bool false)).toArray := by
    unfold madeCells
    apply Array.ext
    · simp
    · intro i h1 h2
      simp [Value.cells, Nat.mod_one]
  rw [h]
  induction n with
  | zero => rfl
  | succ n ih =>
    rw [List.replicate_succ, List.replicate_succ, List.flatMap_cons, ← ih (by
      unfold madeCells
      apply Array.ext
      · simp
      · intro i h1 h2
        simp [Value.cells, Nat.mod_one])]; rfl
theorem info_bool : (Tryz.prog.info? 4).map (fun i => (i.zero, i.size, i.bytes)) = some (some (.bool false), 1, 1) := by kernel_rfl
theorem make_bools (n : Nat) (N : Int) (hN : N = n) (hn : n ≤ 4096) (w : World) : ∃ w', (Instr.makeSlice 23 (.int .i64 N) (.int .i64 N)).run Tryz.prog w = .ok (.slice (some ⟨w.heap.size, 0, none⟩) n n) w' ∧ Recs boK w' (.slice (some ⟨w.heap.size, 0, none⟩) n n) (List.replicate n false) ∧ ∃ X, w' = w.ext X := by
  subst hN
  obtain ⟨i, hi, hz, hs, hb⟩ := info_parts info_bool
  obtain ⟨w', h1, h2, h3⟩ := run_makeSlice_full (P := Tryz.prog) (w := w) w.heap.size 23 4 i (.bool false) 1 Tryz.underlying23 hi hz hs .i64 .i64 n (by omega) (by rw [hb]; omega) (by unfold maxLen; omega) (Nat.le_refl _)
  rw [Nat.mul_one, made_bools] at h2
  have h4 : w'.ownsRow w.heap.size 4 boK.k (.slice (some ⟨w.heap.size, 0, none⟩) n n) (List.replicate n false).length ((List.replicate n false).flatMap boK.cells) := by
    rw [List.length_replicate]; exact h2
  have h5 := own_recs h4 (by rw [List.length_replicate]; omega)
  have h6 := RowKit.Below.toExt (Below.grown (Below.refl _ w) h3 (Nat.le_refl _) (fun k hk => by cases hk))
  exact ⟨w', h1, h5, h6⟩
def no4 : List Bool := [false, false, false, false]
theorem quad22_fitsP : ∀ a ∈ quad22, a.fitsP := by decide
theorem quad22_fits : ∀ a ∈ quad22, a.fits := fun a h => (quad22_fitsP a h).f
theorem fitsP_wide {a : WinP} (h : a.fitsP) : a.wide := by
  unfold WinP.fitsP at h
  constructor <;> unfold w64 <;> omega
theorem look22_wide : look22.wide := by constructor <;> unfold w64 look22 <;> decide
theorem show22 : showP quad22 no4 look22 (-3) (-3) 9 9 := of_decide_eq_true (by kernel_rfl)
theorem list22 : (faceF quad22 look22 (-3) (-3) 9 9).length = 16 := by kernel_rfl
theorem sign22 : sgn (faceN quad22) = 1 := by kernel_rfl
theorem ok22 : decide look22.ok = true := by kernel_rfl
set_option maxRecDepth 100000 in
set_option maxHeartbeats 4000000 in
theorem awake22 (w : World) : Calls Tryz.prog 14 #[] w (Ret (.bool true) w) := by
  have DR := Lib.hid (fun v ev w1 (h : Recs wnK w1 v quad22) (g : Recs boK w1 ev no4) => face_draw_fill v ev quad22 no4 look22 (-3) (-3) 9 9 w1 h g (fun a h => fitsP_wide (quad22_fitsP a h)) look22_wide show22 (by kernel_rfl) (by decide) (by decide))
  have SG := Lib.hid (fun v w1 (h : Recs wnK w1 v quad22) => sign22 ▸ face_sign v quad22 w1 h quad22_fits)
  have RG := Lib.hid (fun w => ok22 ▸ look_right look22 look22_wide w)
  have hlen := list22
  obtain ⟨T, hT⟩ : ∃ T, faceF quad22 look22 (-3) (-3) 9 9 = T := ⟨_, rfl⟩
  rw [hT] at DR hlen
  have HL := Lib.hid hlen
  clear hT hlen
  go_enter Tryz.func14, Tryz.ntmps14
  go_wp2
  refine wp_region_rel 5 [some ([], srR wnK quad22), some ([], srR boK no4), some ([], srV look22.v), none, some ([0, 1], srR frK T)] (by kernel_rfl) (by kernel_rfl) ?_
  simp only [List.take_succ_cons, List.take_zero, List.drop_succ_cons, List.drop_zero]
  (repeat (first | (refine rel_none ?_; intro K_ hK_; go_big_quiet_op; go_big_quiet_on) | simp only [Act.put, List.setIfInBounds_toArray, List.set_cons_zero, List.set_cons_succ]))
  refine rel_some rfl (fun w_ hw_ hk_ K_ hK_ => ?_) (fun v0 f0 => ?_)
  · obtain ⟨X_, rfl⟩ := hw_
    go_simp
    go_at_call 48
    refine (quad22_any _).mono ?_
    rintro _ _ ⟨v, rfl, h1, h2⟩
    exact hK_ _ _ h1 h2
  obtain ⟨qa, qc, rfl⟩ := f0
  (repeat (first | (refine rel_none ?_; intro K_ hK_; go_big_quiet_op; go_big_quiet_on) | simp only [Act.put, List.setIfInBounds_toArray, List.set_cons_zero, List.set_cons_succ]))
  refine rel_some rfl (fun w_ hw_ hk_ K_ hK_ => ?_) (fun v1 f1 => ?_)
  · obtain ⟨X_, rfl⟩ := hw_
    go_simp
    obtain ⟨w2_, e1_, e2_, e3_⟩ := make_bools 4 4 rfl (by decide) (w.ext X_)
    rw [e1_]
    exact hK_ _ _ e2_ e3_
  obtain ⟨ba, bc, rfl⟩ := f1
  (repeat (first | (refine rel_none ?_; intro K_ hK_; go_big_quiet_op; go_big_quiet_on) | simp only [Act.put, List.setIfInBounds_toArray, List.set_cons_zero, List.set_cons_succ]))
  refine rel_some rfl (fun w_ hw_ hk_ K_ hK_ => ?_) (fun v2 f2 => ?_)
  · obtain ⟨X_, rfl⟩ := hw_
    go_simp
    go_at_call 31
    refine (look22_any _).mono ?_
    rintro _ _ ⟨rfl, hX⟩
    exact hK_ _ _ rfl hX
  obtain rfl := f2
  (repeat (first | (refine rel_none ?_; intro K_ hK_; go_big_quiet_op; go_big_quiet_on) | simp only [Act.put, List.setIfInBounds_toArray, List.set_cons_zero, List.set_cons_succ]))
  refine rel_some rfl (fun w_ hw_ hk_ K_ hK_ => ?_) (fun v4 f4 => ?_)
  · obtain ⟨X_, rfl⟩ := hw_
    have h0 := (hk_ (0, _) (by repeat (first | exact List.mem_cons_self | refine List.mem_cons_of_mem _ ?_))) (by simp)
    have h1 := (hk_ (1, _) (by repeat (first | exact List.mem_cons_self | refine List.mem_cons_of_mem _ ?_))) (by simp)
    go_simp
    go_at_call 18
    refine (DR.out _ _ _ h0 h1).mono ?_
    rintro _ _ ⟨v, rfl, h1, h2⟩
    exact hK_ _ _ h1 h2
  obtain ⟨fa, fc, rfl⟩ := f4
  (repeat (first | (refine rel_none ?_; intro K_ hK_; go_big_quiet_op; go_big_quiet_on) | simp only [Act.put, List.setIfInBounds_toArray, List.set_cons_zero, List.set_cons_succ]))
  refine rel_nil ?_
  intro w_ hw_ kk
  obtain ⟨X, rfl⟩ := hw_
  have hlen := HL.out
  have hl16 : ((T.length : Int) == 16) = true := by simp; omega
  clear hlen kk
  go_wp2_with (first
    | (go_at_call 48; (with_reducible refine (quad22_any _).mono ?_); rintro _ _ ⟨vq, rfl, hq, ⟨XQ, rfl⟩⟩; have HQ := Lib.hid hq; clear hq)
    | (go_at_call 23; (with_reducible refine (SG.out _ _ HQ.out).mono ?_); rintro _ _ ⟨rfl, X_, rfl⟩)
    | (go_at_call 31; (with_reducible refine (look22_any _).mono ?_); rintro _ _ ⟨rfl, X_, rfl⟩)
    | (go_at_call 15; (with_reducible refine (RG.out _).mono ?_); rintro _ _ ⟨rfl, X_, rfl⟩))
  go_ret
  exact Ret.of' (by first | rfl | simp) (by (repeat (first | exact Below.refl _ _ | with_reducible refine Below.drew ?_ | with_reducible refine Below.ext ?_ (by first | exact Nat.le_refl _ | (simp; done) | (simp; omega)) _ | with_reducible refine Below.alloc ?_ (by first | exact Nat.le_refl _ | (simp; done) | (simp; omega)) _ | with_reducible refine Below.setCell ?_ (by first | exact Nat.le_refl _ | (simp; done) | (simp; omega)) _)))
end Go.Proofs.YtciooaihobnifaaGreat
