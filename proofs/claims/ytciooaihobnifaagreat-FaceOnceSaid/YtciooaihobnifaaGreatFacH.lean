/- The walks of layer 22: few corners; a face by lines or points, no side of which is an edge: nothing is drawn. Conditions: 64 bits. -/
import Derived.Test.YtciooaihobnifaaGreatFacG
namespace Go.Proofs.YtciooaihobnifaaGreat
set_option linter.unusedVariables false
set_option linter.unusedSimpArgs false
open Go.RowKit
theorem rect_area0 {x0 y0 x1 y1 : Int} (h : ¬ rightP x0 y0 x1 y1) : areaP x0 y0 x1 y1 = 0 := if_neg h
set_option maxHeartbeats 4000000 in
theorem small22_any (av ev : Option Addr) (n cap m ecap : Nat) (k : LookP) (x0 y0 x1 y1 : Int) (w : World) (hn : n ≤ maxLen) (hm : m ≤ maxLen) : Calls Tryz.prog 13 #[fcV (.slice av n cap) (.slice ev m ecap) k x0 y0 x1 y1] w (Ret (.bool (decide (n ≤ 12 ∧ m ≤ 14 ∧ areaP x0 y0 x1 y1 ≤ 80))) w) := by
  unfold maxLen at hn hm
  have R := fun w => rrect_right x0 y0 x1 y1 w
  have A := Lib.hid (fun w => rrect_area x0 y0 x1 y1 w)
  by_cases h1 : n ≤ 12
  case neg =>
    have e : decide (n ≤ 12 ∧ m ≤ 14 ∧ areaP x0 y0 x1 y1 ≤ 80) = false := decide_eq_false fun q => h1 q.1
    have h1i : ¬ ((n : Int) ≤ 12) := by omega
    rw [e]
    clear e h1 R
    go_enter Tryz.func13, Tryz.ntmps13
    go_wp2
    go_ret
    exact Ret.of' rfl (by (repeat (first | exact Below.refl _ _ | with_reducible refine Below.drew ?_ | with_reducible refine Below.ext ?_ (by first | exact Nat.le_refl _ | (simp; done) | (simp; omega)) _ | with_reducible refine Below.alloc ?_ (by first | exact Nat.le_refl _ | (simp; done) | (simp; omega)) _ | with_reducible refine Below.setCell ?_ (by first | exact Nat.le_refl _ | (simp; done) | (simp; omega)) _)))
  have h1i : (n : Int) ≤ 12 := by omega
  by_cases h2 : m ≤ 14
  case neg =>
    have e : decide (n ≤ 12 ∧ m ≤ 14 ∧ areaP x0 y0 x1 y1 ≤ 80) = false := decide_eq_false fun q => h2 q.2.1
    have h2i : ¬ ((m : Int) ≤ 14) := by omega
    rw [e]
    clear e h1 h2 R
    go_enter Tryz.func13, Tryz.ntmps13
    go_wp2
    go_ret
    exact Ret.of' rfl (by (repeat (first | exact Below.refl _ _ | with_reducible refine Below.drew ?_ | with_reducible refine Below.ext ?_ (by first | exact Nat.le_refl _ | (simp; done) | (simp; omega)) _ | with_reducible refine Below.alloc ?_ (by first | exact Nat.le_refl _ | (simp; done) | (simp; omega)) _ | with_reducible refine Below.setCell ?_ (by first | exact Nat.le_refl _ | (simp; done) | (simp; omega)) _)))
  have h2i : (m : Int) ≤ 14 := by omega
  have e : decide (n ≤ 12 ∧ m ≤ 14 ∧ areaP x0 y0 x1 y1 ≤ 80) = decide (areaP x0 y0 x1 y1 ≤ 80) := decide_eq_decide.2 ⟨fun q => q.2.2, fun q => ⟨h1, h2, q⟩⟩
  rw [e]
  by_cases hr : rightP x0 y0 x1 y1
  · simp only [hr, decide_true] at R
    have HR := Lib.hid R
    generalize areaP x0 y0 x1 y1 = ar at *
    clear R e h1 h2 hr
    go_enter Tryz.func13, Tryz.ntmps13
    go_wp2_with (first | (go_at_call 29; (with_reducible refine (HR.out _).mono ?_); rintro _ _ ⟨rfl, X_, rfl⟩) | (go_at_call 30; (with_reducible refine (A.out _).mono ?_); rintro _ _ ⟨rfl, X_, rfl⟩))
    go_ret
    exact Ret.of' (by first | rfl | simp) (by (repeat (first | exact Below.refl _ _ | with_reducible refine Below.drew ?_ | with_reducible refine Below.ext ?_ (by first | exact Nat.le_refl _ | (simp; done) | (simp; omega)) _ | with_reducible refine Below.alloc ?_ (by first | exact Nat.le_refl _ | (simp; done) | (simp; omega)) _ | with_reducible refine Below.setCell ?_ (by first | exact Nat.le_refl _ | (simp; done) | (simp; omega)) _)))
  · simp only [hr, decide_false] at R
    have HR := Lib.hid R
    rw [rect_area0 hr]
    clear R e h1 h2 hr A
    go_enter Tryz.func13, Tryz.ntmps13
    go_wp2_with (first | (go_at_call 29; (with_reducible refine (HR.out _).mono ?_); rintro _ _ ⟨rfl, X_, rfl⟩))
    go_ret
    exact Ret.of' (by first | rfl | decide) (by (repeat (first | exact Below.refl _ _ | with_reducible refine Below.drew ?_ | with_reducible refine Below.ext ?_ (by first | exact Nat.le_refl _ | (simp; done) | (simp; omega)) _ | with_reducible refine Below.alloc ?_ (by first | exact Nat.le_refl _ | (simp; done) | (simp; omega)) _ | with_reducible refine Below.setCell ?_ (by first | exact Nat.le_refl _ | (simp; done) | (simp; omega)) _)))
set_option maxRecDepth 100000 in
set_option maxHeartbeats 4000000 in
theorem face_lined_none (av : Option Addr) (n cap : Nat) (ev : Value) (B : List Bool) (k : LookP) (x0 y0 x1 y1 : Int) (w : World) (he : Recs boK w ev B) (hB : ∀ b ∈ B, b = false) : Calls Tryz.prog 55 #[fcV (.slice av n cap) ev k x0 y0 x1 y1] w (RLists frK w []) := by
  have HE := Lib.hid he
  have HB := Lib.hid hB
  obtain ⟨hl, ev, ecap, rfl, -, -⟩ := he
  clear hB
  go_enter Tryz.func55, Tryz.ntmps55
  go_upto_region 2 with fail
  refine wp_abs (F := fun w1 => Row w1 w.heap.size #[.slice av n cap, .slice ev B.length ecap, .int .i64 k.width, .bool k.soft, .bool k.dashed, .int .i64 k.p, .int .i64 k.r, .int .i64 k.c, .int .i64 k.size, .int .i64 k.kind, .int .i64 k.front, .int .i64 k.back, .bool k.ccw, .int .i64 k.cull, .bool k.off, .int .i64 k.factor, .int .i64 k.units, .int .i64 x0, .int .i64 y0, .int .i64 x1, .int .i64 y1] 92 ∧ Recs boK w1 (.slice ev B.length ecap) B ∧ ∃ X, w1 = w.ext X) ⟨by (repeat (first | assumption | with_reducible refine Row.ext ?_ _ | with_reducible refine row_drew ?_ | (with_reducible refine row_last ?_; first | rfl | (simp; done)) | with_reducible refine Row.alloc ?_ _)), (by repeat (first | with_reducible exact HE.out | with_reducible refine Recs.ext ?_ _ | with_reducible refine Recs.alloc ?_ _ | with_reducible refine Recs.drew ?_)), RowKit.Below.toExt (by (repeat (first | exact Below.refl _ _ | with_reducible refine Below.drew ?_ | with_reducible refine Below.ext ?_ (by first | exact Nat.le_refl _ | (simp; done) | (simp; omega)) _ | with_reducible refine Below.alloc ?_ (by first | exact Nat.le_refl _ | (simp; done) | (simp; omega)) _ | with_reducible refine Below.setCell ?_ (by first | exact Nat.le_refl _ | (simp; done) | (simp; omega)) _)))⟩ ?_
  clear HE
  rintro w1 ⟨Rl, he, hX⟩
  have HX := Lib.hid hX
  have cl := Rl.cell
  have fl := Rl.frozen
  have ll := Rl.lt
  have HE := Lib.hid he
  clear Rl hX he
  go_wp2
  go_loopw [14, 3] (fun i o wr => ∃ (j : Nat), j ≤ B.length ∧ i = .int .i64 j ∧ o = .slice none 0 0 ∧ Recs boK wr (.slice ev B.length ecap) B ∧ ∃ X, wr = w1.ext X)
    (fun i _ _ => B.length - (intOf i).toNat)
  case atStart => exact ⟨0, by omega, rfl, rfl, (by repeat (first | with_reducible exact HE.out | with_reducible refine Recs.ext ?_ _ | with_reducible refine Recs.alloc ?_ _ | with_reducible refine Recs.drew ?_)), by first | exact ⟨_, (ext_none' _).symm⟩ | exact RowKit.Below.toExt (by (repeat (first | with_reducible assumption | with_reducible exact Below.refl _ _ | with_reducible refine Below.drew ?_ | with_reducible refine Below.ext ?_ (by first | exact Nat.le_refl _ | omega | (simp; done) | (simp; omega)) _ | with_reducible refine Below.alloc ?_ (by first | exact Nat.le_refl _ | omega | (simp; done) | (simp; omega)) _ | with_reducible refine Below.setCell ?_ (by first | exact Nat.le_refl _ | omega | (simp; done) | (simp; omega)) _)))⟩
  case round =>
    obtain ⟨j, hj, rfl, rfl, he, X, rfl⟩ := hrel
    by_cases hlt : j < B.length
    · have HJ := Lib.hid (show j + 1 ≤ B.length from hlt)
      have hji : (j : Int) < B.length := by omega
      obtain ⟨b, hb⟩ : ∃ f, B[j]? = some f := ⟨_, List.getElem?_eq_getElem hlt⟩
      obtain rfl := HB.out b (List.mem_of_getElem? hb)
      have HE2 := Lib.hid he
      obtain ⟨-, av', cap', hq, -, hcl⟩ := HE.out
      obtain ⟨rfl, rfl⟩ : ev = av' ∧ ecap = cap' := by simpa using hq
      rcases hcl with e | ⟨lb, lo, rfl, hlb, hcl⟩
      · rw [e] at hlt; simp at hlt
      have g0 : w1.cell? ⟨lb, lo + j, none⟩ = some (.bool false) := by simpa [boK] using hcl j _ hb 0 _ rfl
      clear hcl hb hq he
      go_wp2
      go_roundw
      case rel => exact ⟨j + 1, HJ.out, by go_num, rfl, (by repeat (first | with_reducible exact HE2.out | with_reducible refine Recs.ext ?_ _ | with_reducible refine Recs.alloc ?_ _ | with_reducible refine Recs.drew ?_)), RowKit.Below.toExt (by (repeat (first | with_reducible assumption | with_reducible exact Below.refl _ _ | with_reducible refine Below.drew ?_ | with_reducible refine Below.ext ?_ (by first | exact Nat.le_refl _ | omega | (simp; done) | (simp; omega)) _ | with_reducible refine Below.alloc ?_ (by first | exact Nat.le_refl _ | omega | (simp; done) | (simp; omega)) _ | with_reducible refine Below.setCell ?_ (by first | exact Nat.le_refl _ | omega | (simp; done) | (simp; omega)) _)))⟩
      case measure => have := HJ.out; simp [intOf]; omega
    · obtain rfl : j = B.length := by omega
      clear he
      go_wp2
      go_ret
      obtain ⟨X0, hX0⟩ := HX.out
      subst hX0
      exact ⟨_, rfl, recs_nil _, RowKit.Below.toExt (by (repeat (first | with_reducible assumption | with_reducible exact Below.refl _ _ | with_reducible refine Below.drew ?_ | with_reducible refine Below.ext ?_ (by first | exact Nat.le_refl _ | omega | (simp; done) | (simp; omega)) _ | with_reducible refine Below.alloc ?_ (by first | exact Nat.le_refl _ | omega | (simp; done) | (simp; omega)) _ | with_reducible refine Below.setCell ?_ (by first | exact Nat.le_refl _ | omega | (simp; done) | (simp; omega)) _)))⟩
set_option maxRecDepth 100000 in
set_option maxHeartbeats 4000000 in
theorem face_dotted_none (av : Option Addr) (n cap : Nat) (ev : Value) (B : List Bool) (k : LookP) (x0 y0 x1 y1 : Int) (w : World) (he : Recs boK w ev B) (hB : ∀ b ∈ B, b = false) : Calls Tryz.prog 56 #[fcV (.slice av n cap) ev k x0 y0 x1 y1] w (RLists frK w []) := by
  have HE := Lib.hid he
  have HB := Lib.hid hB
  obtain ⟨hl, ev, ecap, rfl, -, -⟩ := he
  clear hB
  go_enter Tryz.func56, Tryz.ntmps56
  go_upto_region 2 with fail
  refine wp_abs (F := fun w1 => Row w1 w.heap.size #[.slice av n cap, .slice ev B.length ecap, .int .i64 k.width, .bool k.soft, .bool k.dashed, .int .i64 k.p, .int .i64 k.r, .int .i64 k.c, .int .i64 k.size, .int .i64 k.kind, .int .i64 k.front, .int .i64 k.back, .bool k.ccw, .int .i64 k.cull, .bool k.off, .int .i64 k.factor, .int .i64 k.units, .int .i64 x0, .int .i64 y0, .int .i64 x1, .int .i64 y1] 92 ∧ Recs boK w1 (.slice ev B.length ecap) B ∧ ∃ X, w1 = w.ext X) ⟨by (repeat (first | assumption | with_reducible refine Row.ext ?_ _ | with_reducible refine row_drew ?_ | (with_reducible refine row_last ?_; first | rfl | (simp; done)) | with_reducible refine Row.alloc ?_ _)), (by repeat (first | with_reducible exact HE.out | with_reducible refine Recs.ext ?_ _ | with_reducible refine Recs.alloc ?_ _ | with_reducible refine Recs.drew ?_)), RowKit.Below.toExt (by (repeat (first | exact Below.refl _ _ | with_reducible refine Below.drew ?_ | with_reducible refine Below.ext ?_ (by first | exact Nat.le_refl _ | (simp; done) | (simp; omega)) _ | with_reducible refine Below.alloc ?_ (by first | exact Nat.le_refl _ | (simp; done) | (simp; omega)) _ | with_reducible refine Below.setCell ?_ (by first | exact Nat.le_refl _ | (simp; done) | (simp; omega)) _)))⟩ ?_
  clear HE
  rintro w1 ⟨Rl, he, hX⟩
  have HX := Lib.hid hX
  have cl := Rl.cell
  have fl := Rl.frozen
  have ll := Rl.lt
  have HE := Lib.hid he
  clear Rl hX he
  go_wp2
  go_loopw [9, 3] (fun i o wr => ∃ (j : Nat), j ≤ B.length ∧ i = .int .i64 j ∧ o = .slice none 0 0 ∧ Recs boK wr (.slice ev B.length ecap) B ∧ ∃ X, wr = w1.ext X)
    (fun i _ _ => B.length - (intOf i).toNat)
  case atStart => exact ⟨0, by omega, rfl, rfl, (by repeat (first | with_reducible exact HE.out | with_reducible refine Recs.ext ?_ _ | with_reducible refine Recs.alloc ?_ _ | with_reducible refine Recs.drew ?_)), by first | exact ⟨_, (ext_none' _).symm⟩ | exact RowKit.Below.toExt (by (repeat (first | with_reducible assumption | with_reducible exact Below.refl _ _ | with_reducible refine Below.drew ?_ | with_reducible refine Below.ext ?_ (by first | exact Nat.le_refl _ | omega | (simp; done) | (simp; omega)) _ | with_reducible refine Below.alloc ?_ (by first | exact Nat.le_refl _ | omega | (simp; done) | (simp; omega)) _ | with_reducible refine Below.setCell ?_ (by first | exact Nat.le_refl _ | omega | (simp; done) | (simp; omega)) _)))⟩
  case round =>
    obtain ⟨j, hj, rfl, rfl, he, X, rfl⟩ := hrel
    by_cases hlt : j < B.length
    · have HJ := Lib.hid (show j + 1 ≤ B.length from hlt)
      have hji : (j : Int) < B.length := by omega
      obtain ⟨b, hb⟩ : ∃ f, B[j]? = some f := ⟨_, List.getElem?_eq_getElem hlt⟩
      obtain rfl := HB.out b (List.mem_of_getElem? hb)
      have HE2 := Lib.hid he
      obtain ⟨-, av', cap', hq, -, hcl⟩ := HE.out
      obtain ⟨rfl, rfl⟩ : ev = av' ∧ ecap = cap' := by simpa using hq
      rcases hcl with e | ⟨lb, lo, rfl, hlb, hcl⟩
      · rw [e] at hlt; simp at hlt
      have g0 : w1.cell? ⟨lb, lo + j, none⟩ = some (.bool false) := by simpa [boK] using hcl j _ hb 0 _ rfl
      clear hcl hb hq he
      go_wp2
      go_roundw
      case rel => exact ⟨j + 1, HJ.out, by go_num, rfl, (by repeat (first | with_reducible exact HE2.out | with_reducible refine Recs.ext ?_ _ | with_reducible refine Recs.alloc ?_ _ | with_reducible refine Recs.drew ?_)), RowKit.Below.toExt (by (repeat (first | with_reducible assumption | with_reducible exact Below.refl _ _ | with_reducible refine Below.drew ?_ | with_reducible refine Below.ext ?_ (by first | exact Nat.le_refl _ | omega | (simp; done) | (simp; omega)) _ | with_reducible refine Below.alloc ?_ (by first | exact Nat.le_refl _ | omega | (simp; done) | (simp; omega)) _ | with_reducible refine Below.setCell ?_ (by first | exact Nat.le_refl _ | omega | (simp; done) | (simp; omega)) _)))⟩
      case measure => have := HJ.out; simp [intOf]; omega
    · obtain rfl : j = B.length := by omega
      clear he
      go_wp2
      go_ret
      obtain ⟨X0, hX0⟩ := HX.out
      subst hX0
      exact ⟨_, rfl, recs_nil _, RowKit.Below.toExt (by (repeat (first | with_reducible assumption | with_reducible exact Below.refl _ _ | with_reducible refine Below.drew ?_ | with_reducible refine Below.ext ?_ (by first | exact Nat.le_refl _ | omega | (simp; done) | (simp; omega)) _ | with_reducible refine Below.alloc ?_ (by first | exact Nat.le_refl _ | omega | (simp; done) | (simp; omega)) _ | with_reducible refine Below.setCell ?_ (by first | exact Nat.le_refl _ | omega | (simp; done) | (simp; omega)) _)))⟩
set_option maxRecDepth 100000 in
set_option maxHeartbeats 8000000 in
theorem face_draw_none (v ev : Value) (L : List WinP) (B : List Bool) (k : LookP) (x0 y0 x1 y1 : Int) (w : World) (hv : Recs wnK w v L) (he : Recs boK w ev B) (hw : ∀ a ∈ L, a.wide) (hk : k.wide) (h : showP L B k x0 y0 x1 y1) (hm : modeK L k = 1 ∨ modeK L k = 2) (hB : ∀ b ∈ B, b = false) : Calls Tryz.prog 18 #[v, ev, k.v, R4 x0 y0 x1 y1] w (RLists frK w []) := by
  obtain ⟨h1, h2, h3, h4⟩ := h
  have MY := Lib.hid (fun w1 h g => decide_eq_true h1 ▸ face_may v ev L B k x0 y0 x1 y1 w1 h g hw)
  have RI := Lib.hid (fun w => decide_eq_true h2 ▸ look_right k hk w)
  have RR := Lib.hid (fun w => decide_eq_true h3 ▸ rect_right x0 y0 x1 y1 w)
  have CU0 := fun w1 h => face_culled v L k w1 h (may_fits h1) (ok_cull h2)
  have FT0 := fun w1 h => face_front v L k.ccw w1 h (may_fits h1)
  have FI1 := Lib.hid (fun av n cap ev w1 h => face_lined_none av n cap ev B k x0 y0 x1 y1 w1 h hB)
  have FI2 := Lib.hid (fun av n cap ev w1 h => face_dotted_none av n cap ev B k x0 y0 x1 y1 w1 h hB)
  unfold frontK at h4
  simp only [h4] at CU0
  have CU := Lib.hid CU0
  unfold modeK frontK at hm
  obtain ⟨bf, hbf⟩ : ∃ b, frontB (sgn (faceN L)) k.ccw = b := ⟨_, rfl⟩
  rw [hbf] at FT0 hm
  have FT := Lib.hid FT0
  clear CU0 FT0 h1 h2 h3 h4 hw hk hbf hB
  have HV := Lib.hid hv
  have HE := Lib.hid he
  obtain ⟨hl, av, cap, rfl, hcap, -⟩ := hv
  obtain ⟨hl2, ev, ecap, rfl, -, -⟩ := he
  rcases hm with hm | hm <;> cases bf
  · simp only [if_true, if_false, Bool.false_eq_true] at hm
    obtain ⟨k2, rfl⟩ : ∃ k2 : LookP, k = { k2 with back := 1 } := ⟨k, by cases k; simp only at hm; subst hm; rfl⟩
    clear hm
    simp only at FI1 FI2 CU FT RI MY
    go_enter Tryz.func18, Tryz.ntmps18
    go_upto_region 2 with fail
    refine wp_abs (F := fun w1 => Row w1 w.heap.size #[.int .i64 k2.width, .bool k2.soft, .bool k2.dashed, .int .i64 k2.p, .int .i64 k2.r, .int .i64 k2.c, .int .i64 k2.size, .int .i64 k2.kind, .int .i64 k2.front, .int .i64 1, .bool k2.ccw, .int .i64 k2.cull, .bool k2.off, .int .i64 k2.factor, .int .i64 k2.units] 27 ∧ Row w1 (w.heap.size + 1) #[.int .i64 x0, .int .i64 y0, .int .i64 x1, .int .i64 y1] 29 ∧ Row w1 (w.heap.size + 1 + 1) #[.slice av L.length cap, .slice ev B.length ecap, .int .i64 k2.width, .bool k2.soft, .bool k2.dashed, .int .i64 k2.p, .int .i64 k2.r, .int .i64 k2.c, .int .i64 k2.size, .int .i64 k2.kind, .int .i64 k2.front, .int .i64 1, .bool k2.ccw, .int .i64 k2.cull, .bool k2.off, .int .i64 k2.factor, .int .i64 k2.units, .int .i64 x0, .int .i64 y0, .int .i64 x1, .int .i64 y1] 92 ∧ Recs wnK w1 (.slice av L.length cap) L ∧ Recs boK w1 (.slice ev B.length ecap) B ∧ ∃ X, w1 = w.ext X) ⟨by (repeat (first | assumption | with_reducible refine Row.ext ?_ _ | with_reducible refine row_drew ?_ | (with_reducible refine row_last ?_; first | rfl | (simp; done)) | with_reducible refine Row.alloc ?_ _)), by (repeat (first | assumption | with_reducible refine Row.ext ?_ _ | with_reducible refine row_drew ?_ | (with_reducible refine row_last ?_; first | rfl | (simp; done)) | with_reducible refine Row.alloc ?_ _)), by (repeat (first | assumption | with_reducible refine Row.ext ?_ _ | with_reducible refine row_drew ?_ | (with_reducible refine row_last ?_; first | rfl | (simp; done)) | with_reducible refine Row.alloc ?_ _)), (by repeat (first | with_reducible exact HV.out | with_reducible refine Recs.ext ?_ _ | with_reducible refine Recs.alloc ?_ _ | with_reducible refine Recs.drew ?_)), (by repeat (first | with_reducible exact HE.out | with_reducible refine Recs.ext ?_ _ | with_reducible refine Recs.alloc ?_ _ | with_reducible refine Recs.drew ?_)), RowKit.Below.toExt (by (repeat (first | exact Below.refl _ _ | with_reducible refine Below.drew ?_ | with_reducible refine Below.ext ?_ (by first | exact Nat.le_refl _ | (simp; done) | (simp; omega)) _ | with_reducible refine Below.alloc ?_ (by first | exact Nat.le_refl _ | (simp; done) | (simp; omega)) _ | with_reducible refine Below.setCell ?_ (by first | exact Nat.le_refl _ | (simp; done) | (simp; omega)) _)))⟩ ?_
    clear HV HE
    rintro w1 ⟨Rk, Rr, Rf, hv, he, hX⟩
    have HX := Lib.hid hX
    have HV := Lib.hid hv
    have HE := Lib.hid he
    have ck := Rk.cell
    have fk := Rk.frozen
    have lk := Rk.lt
    have cr := Rr.cell
    have fr := Rr.frozen
    have lr := Rr.lt
    have cf := Rf.cell
    have ff := Rf.frozen
    have lf := Rf.lt
    have dk := World.rowD_of Rk
    have df := World.rowD_of Rf
    clear Rk Rr Rf hv he hX
    go_wp2_with (first
      | (go_at_call 52; (with_reducible refine (MY.out _ (by repeat (first | with_reducible exact HV.out | with_reducible refine Recs.ext ?_ _ | with_reducible refine Recs.alloc ?_ _ | with_reducible refine Recs.drew ?_)) (by repeat (first | with_reducible exact HE.out | with_reducible refine Recs.ext ?_ _ | with_reducible refine Recs.alloc ?_ _ | with_reducible refine Recs.drew ?_))).mono ?_); rintro _ _ ⟨rfl, X_, rfl⟩)
      | (go_at_call 15; (with_reducible refine (RI.out _).mono ?_); rintro _ _ ⟨rfl, X_, rfl⟩)
      | (go_at_call 53; (with_reducible refine (RR.out _).mono ?_); rintro _ _ ⟨rfl, X_, rfl⟩)
      | (go_at_call 27; (with_reducible refine (CU.out _ (by repeat (first | with_reducible exact HV.out | with_reducible refine Recs.ext ?_ _ | with_reducible refine Recs.alloc ?_ _ | with_reducible refine Recs.drew ?_))).mono ?_); rintro _ _ ⟨rfl, X_, rfl⟩)
      | (go_at_call 25; (with_reducible refine (FT.out _ (by repeat (first | with_reducible exact HV.out | with_reducible refine Recs.ext ?_ _ | with_reducible refine Recs.alloc ?_ _ | with_reducible refine Recs.drew ?_))).mono ?_); rintro _ _ ⟨rfl, X_, rfl⟩)
      | (go_at_call 55; (with_reducible refine (FI1.out _ _ _ _ _ (by repeat (first | with_reducible exact HE.out | with_reducible refine Recs.ext ?_ _ | with_reducible refine Recs.alloc ?_ _ | with_reducible refine Recs.drew ?_))).mono ?_); rintro _ _ ⟨vq, rfl, hq, ⟨XQ, rfl⟩⟩; have HQ := Lib.hid hq; clear hq))
    go_ret
    obtain ⟨X0, hX0⟩ := HX.out
    subst hX0
    exact ⟨_, rfl, HQ.out, RowKit.Below.toExt (by (repeat (first | with_reducible assumption | with_reducible exact Below.refl _ _ | with_reducible refine Below.drew ?_ | with_reducible refine Below.ext ?_ (by first | exact Nat.le_refl _ | omega | (simp; done) | (simp; omega)) _ | with_reducible refine Below.alloc ?_ (by first | exact Nat.le_refl _ | omega | (simp; done) | (simp; omega)) _ | with_reducible refine Below.setCell ?_ (by first | exact Nat.le_refl _ | omega | (simp; done) | (simp; omega)) _)))⟩
  · simp only [if_true, if_false, Bool.false_eq_true] at hm
    obtain ⟨k2, rfl⟩ : ∃ k2 : LookP, k = { k2 with front := 1 } := ⟨k, by cases k; simp only at hm; subst hm; rfl⟩
    clear hm
    simp only at FI1 FI2 CU FT RI MY
    go_enter Tryz.func18, Tryz.ntmps18
    go_upto_region 2 with fail
    refine wp_abs (F := fun w1 => Row w1 w.heap.size #[.int .i64 k2.width, .bool k2.soft, .bool k2.dashed, .int .i64 k2.p, .int .i64 k2.r, .int .i64 k2.c, .int .i64 k2.size, .int .i64 k2.kind, .int .i64 1, .int .i64 k2.back, .bool k2.ccw, .int .i64 k2.cull, .bool k2.off, .int .i64 k2.factor, .int .i64 k2.units] 27 ∧ Row w1 (w.heap.size + 1) #[.int .i64 x0, .int .i64 y0, .int .i64 x1, .int .i64 y1] 29 ∧ Row w1 (w.heap.size + 1 + 1) #[.slice av L.length cap, .slice ev B.length ecap, .int .i64 k2.width, .bool k2.soft, .bool k2.dashed, .int .i64 k2.p, .int .i64 k2.r, .int .i64 k2.c, .int .i64 k2.size, .int .i64 k2.kind, .int .i64 1, .int .i64 k2.back, .bool k2.ccw, .int .i64 k2.cull, .bool k2.off, .int .i64 k2.factor, .int .i64 k2.units, .int .i64 x0, .int .i64 y0, .int .i64 x1, .int .i64 y1] 92 ∧ Recs wnK w1 (.slice av L.length cap) L ∧ Recs boK w1 (.slice ev B.length ecap) B ∧ ∃ X, w1 = w.ext X) ⟨by (repeat (first | assumption | with_reducible refine Row.ext ?_ _ | with_reducible refine row_drew ?_ | (with_reducible refine row_last ?_; first | rfl | (simp; done)) | with_reducible refine Row.alloc ?_ _)), by (repeat (first | assumption | with_reducible refine Row.ext ?_ _ | with_reducible refine row_drew ?_ | (with_reducible refine row_last ?_; first | rfl | (simp; done)) | with_reducible refine Row.alloc ?_ _)), by (repeat (first | assumption | with_reducible refine Row.ext ?_ _ | with_reducible refine row_drew ?_ | (with_reducible refine row_last ?_; first | rfl | (simp; done)) | with_reducible refine Row.alloc ?_ _)), (by repeat (first | with_reducible exact HV.out | with_reducible refine Recs.ext ?_ _ | with_reducible refine Recs.alloc ?_ _ | with_reducible refine Recs.drew ?_)), (by repeat (first | with_reducible exact HE.out | with_reducible refine Recs.ext ?_ _ | with_reducible refine Recs.alloc ?_ _ | with_reducible refine Recs.drew ?_)), RowKit.Below.toExt (by (repeat (first | exact Below.refl _ _ | with_reducible refine Below.drew ?_ | with_reducible refine Below.ext ?_ (by first | exact Nat.le_refl _ | (simp; done) | (simp; omega)) _ | with_reducible refine Below.alloc ?_ (by first | exact Nat.le_refl _ | (simp; done) | (simp; omega)) _ | with_reducible refine Below.setCell ?_ (by first | exact Nat.le_refl _ | (simp; done) | (simp; omega)) _)))⟩ ?_
    clear HV HE
    rintro w1 ⟨Rk, Rr, Rf, hv, he, hX⟩
    have HX := Lib.hid hX
    have HV := Lib.hid hv
    have HE := Lib.hid he
    have ck := Rk.cell
    have fk := Rk.frozen
    have lk := Rk.lt
    have cr := Rr.cell
    have fr := Rr.frozen
    have lr := Rr.lt
    have cf := Rf.cell
    have ff := Rf.frozen
    have lf := Rf.lt
    have dk := World.rowD_of Rk
    have df := World.rowD_of Rf
    clear Rk Rr Rf hv he hX
    go_wp2_with (first
      | (go_at_call 52; (with_reducible refine (MY.out _ (by repeat (first | with_reducible exact HV.out | with_reducible refine Recs.ext ?_ _ | with_reducible refine Recs.alloc ?_ _ | with_reducible refine Recs.drew ?_)) (by repeat (first | with_reducible exact HE.out | with_reducible refine Recs.ext ?_ _ | with_reducible refine Recs.alloc ?_ _ | with_reducible refine Recs.drew ?_))).mono ?_); rintro _ _ ⟨rfl, X_, rfl⟩)
      | (go_at_call 15; (with_reducible refine (RI.out _).mono ?_); rintro _ _ ⟨rfl, X_, rfl⟩)
      | (go_at_call 53; (with_reducible refine (RR.out _).mono ?_); rintro _ _ ⟨rfl, X_, rfl⟩)
      | (go_at_call 27; (with_reducible refine (CU.out _ (by repeat (first | with_reducible exact HV.out | with_reducible refine Recs.ext ?_ _ | with_reducible refine Recs.alloc ?_ _ | with_reducible refine Recs.drew ?_))).mono ?_); rintro _ _ ⟨rfl, X_, rfl⟩)
      | (go_at_call 25; (with_reducible refine (FT.out _ (by repeat (first | with_reducible exact HV.out | with_reducible refine Recs.ext ?_ _ | with_reducible refine Recs.alloc ?_ _ | with_reducible refine Recs.drew ?_))).mono ?_); rintro _ _ ⟨rfl, X_, rfl⟩)
      | (go_at_call 55; (with_reducible refine (FI1.out _ _ _ _ _ (by repeat (first | with_reducible exact HE.out | with_reducible refine Recs.ext ?_ _ | with_reducible refine Recs.alloc ?_ _ | with_reducible refine Recs.drew ?_))).mono ?_); rintro _ _ ⟨vq, rfl, hq, ⟨XQ, rfl⟩⟩; have HQ := Lib.hid hq; clear hq))
    go_ret
    obtain ⟨X0, hX0⟩ := HX.out
    subst hX0
    exact ⟨_, rfl, HQ.out, RowKit.Below.toExt (by (repeat (first | with_reducible assumption | with_reducible exact Below.refl _ _ | with_reducible refine Below.drew ?_ | with_reducible refine Below.ext ?_ (by first | exact Nat.le_refl _ | omega | (simp; done) | (simp; omega)) _ | with_reducible refine Below.alloc ?_ (by first | exact Nat.le_refl _ | omega | (simp; done) | (simp; omega)) _ | with_reducible refine Below.setCell ?_ (by first | exact Nat.le_refl _ | omega | (simp; done) | (simp; omega)) _)))⟩
  · simp only [if_true, if_false, Bool.false_eq_true] at hm
    obtain ⟨k2, rfl⟩ : ∃ k2 : LookP, k = { k2 with back := 2 } := ⟨k, by cases k; simp only at hm; subst hm; rfl⟩
    clear hm
    simp only at FI1 FI2 CU FT RI MY
    go_enter Tryz.func18, Tryz.ntmps18
    go_upto_region 2 with fail
    refine wp_abs (F := fun w1 => Row w1 w.heap.size #[.int .i64 k2.width, .bool k2.soft, .bool k2.dashed, .int .i64 k2.p, .int .i64 k2.r, .int .i64 k2.c, .int .i64 k2.size, .int .i64 k2.kind, .int .i64 k2.front, .int .i64 2, .bool k2.ccw, .int .i64 k2.cull, .bool k2.off, .int .i64 k2.factor, .int .i64 k2.units] 27 ∧ Row w1 (w.heap.size + 1) #[.int .i64 x0, .int .i64 y0, .int .i64 x1, .int .i64 y1] 29 ∧ Row w1 (w.heap.size + 1 + 1) #[.slice av L.length cap, .slice ev B.length ecap, .int .i64 k2.width, .bool k2.soft, .bool k2.dashed, .int .i64 k2.p, .int .i64 k2.r, .int .i64 k2.c, .int .i64 k2.size, .int .i64 k2.kind, .int .i64 k2.front, .int .i64 2, .bool k2.ccw, .int .i64 k2.cull, .bool k2.off, .int .i64 k2.factor, .int .i64 k2.units, .int .i64 x0, .int .i64 y0, .int .i64 x1, .int .i64 y1] 92 ∧ Recs wnK w1 (.slice av L.length cap) L ∧ Recs boK w1 (.slice ev B.length ecap) B ∧ ∃ X, w1 = w.ext X) ⟨by (repeat (first | assumption | with_reducible refine Row.ext ?_ _ | with_reducible refine row_drew ?_ | (with_reducible refine row_last ?_; first | rfl | (simp; done)) | with_reducible refine Row.alloc ?_ _)), by (repeat (first | assumption | with_reducible refine Row.ext ?_ _ | with_reducible refine row_drew ?_ | (with_reducible refine row_last ?_; first | rfl | (simp; done)) | with_reducible refine Row.alloc ?_ _)), by (repeat (first | assumption | with_reducible refine Row.ext ?_ _ | with_reducible refine row_drew ?_ | (with_reducible refine row_last ?_; first | rfl | (simp; done)) | with_reducible refine Row.alloc ?_ _)), (by repeat (first | with_reducible exact HV.out | with_reducible refine Recs.ext ?_ _ | with_reducible refine Recs.alloc ?_ _ | with_reducible refine Recs.drew ?_)), (by repeat (first | with_reducible exact HE.out | with_reducible refine Recs.ext ?_ _ | with_reducible refine Recs.alloc ?_ _ | with_reducible refine Recs.drew ?_)), RowKit.Below.toExt (by (repeat (first | exact Below.refl _ _ | with_reducible refine Below.drew ?_ | with_reducible refine Below.ext ?_ (by first | exact Nat.le_refl _ | (simp; done) | (simp; omega)) _ | with_reducible refine Below.alloc ?_ (by first | exact Nat.le_refl _ | (simp; done) | (simp; omega)) _ | with_reducible refine Below.setCell ?_ (by first | exact Nat.le_refl _ | (simp; done) | (simp; omega)) _)))⟩ ?_
    clear HV HE
    rintro w1 ⟨Rk, Rr, Rf, hv, he, hX⟩
    have HX := Lib.hid hX
    have HV := Lib.hid hv
    have HE := Lib.hid he
    have ck := Rk.cell
    have fk := Rk.frozen
    have lk := Rk.lt
    have cr := Rr.cell
    have fr := Rr.frozen
    have lr := Rr.lt
    have cf := Rf.cell
    have ff := Rf.frozen
    have lf := Rf.lt
    have dk := World.rowD_of Rk
    have df := World.rowD_of Rf
    clear Rk Rr Rf hv he hX
    go_wp2_with (first
      | (go_at_call 52; (with_reducible refine (MY.out _ (by repeat (first | with_reducible exact HV.out | with_reducible refine Recs.ext ?_ _ | with_reducible refine Recs.alloc ?_ _ | with_reducible refine Recs.drew ?_)) (by repeat (first | with_reducible exact HE.out | with_reducible refine Recs.ext ?_ _ | with_reducible refine Recs.alloc ?_ _ | with_reducible refine Recs.drew ?_))).mono ?_); rintro _ _ ⟨rfl, X_, rfl⟩)
      | (go_at_call 15; (with_reducible refine (RI.out _).mono ?_); rintro _ _ ⟨rfl, X_, rfl⟩)
      | (go_at_call 53; (with_reducible refine (RR.out _).mono ?_); rintro _ _ ⟨rfl, X_, rfl⟩)
      | (go_at_call 27; (with_reducible refine (CU.out _ (by repeat (first | with_reducible exact HV.out | with_reducible refine Recs.ext ?_ _ | with_reducible refine Recs.alloc ?_ _ | with_reducible refine Recs.drew ?_))).mono ?_); rintro _ _ ⟨rfl, X_, rfl⟩)
      | (go_at_call 25; (with_reducible refine (FT.out _ (by repeat (first | with_reducible exact HV.out | with_reducible refine Recs.ext ?_ _ | with_reducible refine Recs.alloc ?_ _ | with_reducible refine Recs.drew ?_))).mono ?_); rintro _ _ ⟨rfl, X_, rfl⟩)
      | (go_at_call 56; (with_reducible refine (FI2.out _ _ _ _ _ (by repeat (first | with_reducible exact HE.out | with_reducible refine Recs.ext ?_ _ | with_reducible refine Recs.alloc ?_ _ | with_reducible refine Recs.drew ?_))).mono ?_); rintro _ _ ⟨vq, rfl, hq, ⟨XQ, rfl⟩⟩; have HQ := Lib.hid hq; clear hq))
    go_ret
    obtain ⟨X0, hX0⟩ := HX.out
    subst hX0
    exact ⟨_, rfl, HQ.out, RowKit.Below.toExt (by (repeat (first | with_reducible assumption | with_reducible exact Below.refl _ _ | with_reducible refine Below.drew ?_ | with_reducible refine Below.ext ?_ (by first | exact Nat.le_refl _ | omega | (simp; done) | (simp; omega)) _ | with_reducible refine Below.alloc ?_ (by first | exact Nat.le_refl _ | omega | (simp; done) | (simp; omega)) _ | with_reducible refine Below.setCell ?_ (by first | exact Nat.le_refl _ | omega | (simp; done) | (simp; omega)) _)))⟩
  · simp only [if_true, if_false, Bool.false_eq_true] at hm
    obtain ⟨k2, rfl⟩ : ∃ k2 : LookP, k = { k2 with front := 2 } := ⟨k, by cases k; simp only at hm; subst hm; rfl⟩
    clear hm
    simp only at FI1 FI2 CU FT RI MY
    go_enter Tryz.func18, Tryz.ntmps18
    go_upto_region 2 with fail
    refine wp_abs (F := fun w1 => Row w1 w.heap.size #[.int .i64 k2.width, .bool k2.soft, .bool k2.dashed, .int .i64 k2.p, .int .i64 k2.r, .int .i64 k2.c, .int .i64 k2.size, .int .i64 k2.kind, .int .i64 2, .int .i64 k2.back, .bool k2.ccw, .int .i64 k2.cull, .bool k2.off, .int .i64 k2.factor, .int .i64 k2.units] 27 ∧ Row w1 (w.heap.size + 1) #[.int .i64 x0, .int .i64 y0, .int .i64 x1, .int .i64 y1] 29 ∧ Row w1 (w.heap.size + 1 + 1) #[.slice av L.length cap, .slice ev B.length ecap, .int .i64 k2.width, .bool k2.soft, .bool k2.dashed, .int .i64 k2.p, .int .i64 k2.r, .int .i64 k2.c, .int .i64 k2.size, .int .i64 k2.kind, .int .i64 2, .int .i64 k2.back, .bool k2.ccw, .int .i64 k2.cull, .bool k2.off, .int .i64 k2.factor, .int .i64 k2.units, .int .i64 x0, .int .i64 y0, .int .i64 x1, .int .i64 y1] 92 ∧ Recs wnK w1 (.slice av L.length cap) L ∧ Recs boK w1 (.slice ev B.length ecap) B ∧ ∃ X, w1 = w.ext X) ⟨by (repeat (first | assumption | with_reducible refine Row.ext ?_ _ | with_reducible refine row_drew ?_ | (with_reducible refine row_last ?_; first | rfl | (simp; done)) | with_reducible refine Row.alloc ?_ _)), by (repeat (first | assumption | with_reducible refine Row.ext ?_ _ | with_reducible refine row_drew ?_ | (with_reducible refine row_last ?_; first | rfl | (simp; done)) | with_reducible refine Row.alloc ?_ _)), by (repeat (first | assumption | with_reducible refine Row.ext ?_ _ | with_reducible refine row_drew ?_ | (with_reducible refine row_last ?_; first | rfl | (simp; done)) | with_reducible refine Row.alloc ?_ _)), (by repeat (first | with_reducible exact HV.out | with_reducible refine Recs.ext ?_ _ | with_reducible refine Recs.alloc ?_ _ | with_reducible refine Recs.drew ?_)), (by repeat (first | with_reducible exact HE.out | with_reducible refine Recs.ext ?_ _ | with_reducible refine Recs.alloc ?_ _ | with_reducible refine Recs.drew ?_)), RowKit.Below.toExt (by (repeat (first | exact Below.refl _ _ | with_reducible refine Below.drew ?_ | with_reducible refine Below.ext ?_ (by first | exact Nat.le_refl _ | (simp; done) | (simp; omega)) _ | with_reducible refine Below.alloc ?_ (by first | exact Nat.le_refl _ | (simp; done) | (simp; omega)) _ | with_reducible refine Below.setCell ?_ (by first | exact Nat.le_refl _ | (simp; done) | (simp; omega)) _)))⟩ ?_
    clear HV HE
    rintro w1 ⟨Rk, Rr, Rf, hv, he, hX⟩
    have HX := Lib.hid hX
    have HV := Lib.hid hv
    have HE := Lib.hid he
    have ck := Rk.cell
    have fk := Rk.frozen
    have lk := Rk.lt
    have cr := Rr.cell
    have fr := Rr.frozen
    have lr := Rr.lt
    have cf := Rf.cell
    have ff := Rf.frozen
    have lf := Rf.lt
    have dk := World.rowD_of Rk
    have df := World.rowD_of Rf
    clear Rk Rr Rf hv he hX
    go_wp2_with (first
      | (go_at_call 52; (with_reducible refine (MY.out _ (by repeat (first | with_reducible exact HV.out | with_reducible refine Recs.ext ?_ _ | with_reducible refine Recs.alloc ?_ _ | with_reducible refine Recs.drew ?_)) (by repeat (first | with_reducible exact HE.out | with_reducible refine Recs.ext ?_ _ | with_reducible refine Recs.alloc ?_ _ | with_reducible refine Recs.drew ?_))).mono ?_); rintro _ _ ⟨rfl, X_, rfl⟩)
      | (go_at_call 15; (with_reducible refine (RI.out _).mono ?_); rintro _ _ ⟨rfl, X_, rfl⟩)
      | (go_at_call 53; (with_reducible refine (RR.out _).mono ?_); rintro _ _ ⟨rfl, X_, rfl⟩)
      | (go_at_call 27; (with_reducible refine (CU.out _ (by repeat (first | with_reducible exact HV.out | with_reducible refine Recs.ext ?_ _ | with_reducible refine Recs.alloc ?_ _ | with_reducible refine Recs.drew ?_))).mono ?_); rintro _ _ ⟨rfl, X_, rfl⟩)
      | (go_at_call 25; (with_reducible refine (FT.out _ (by repeat (first | with_reducible exact HV.out | with_reducible refine Recs.ext ?_ _ | with_reducible refine Recs.alloc ?_ _ | with_reducible refine Recs.drew ?_))).mono ?_); rintro _ _ ⟨rfl, X_, rfl⟩)
      | (go_at_call 56; (with_reducible refine (FI2.out _ _ _ _ _ (by repeat (first | with_reducible exact HE.out | with_reducible refine Recs.ext ?_ _ | with_reducible refine Recs.alloc ?_ _ | with_reducible refine Recs.drew ?_))).mono ?_); rintro _ _ ⟨vq, rfl, hq, ⟨XQ, rfl⟩⟩; have HQ := Lib.hid hq; clear hq))
    go_ret
    obtain ⟨X0, hX0⟩ := HX.out
    subst hX0
    exact ⟨_, rfl, HQ.out, RowKit.Below.toExt (by (repeat (first | with_reducible assumption | with_reducible exact Below.refl _ _ | with_reducible refine Below.drew ?_ | with_reducible refine Below.ext ?_ (by first | exact Nat.le_refl _ | omega | (simp; done) | (simp; omega)) _ | with_reducible refine Below.alloc ?_ (by first | exact Nat.le_refl _ | omega | (simp; done) | (simp; omega)) _ | with_reducible refine Below.setCell ?_ (by first | exact Nat.le_refl _ | omega | (simp; done) | (simp; omega)) _)))⟩
end Go.Proofs.YtciooaihobnifaaGreat
