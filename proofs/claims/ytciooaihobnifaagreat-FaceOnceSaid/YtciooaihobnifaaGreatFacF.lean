/- The walk of layer 22: Draw, where nothing is drawn, and where the face is filled. Conditions: 64 bits; few corners; the rectangle is small. -/
import Derived.Test.YtciooaihobnifaaGreatFacC
import Derived.Test.YtciooaihobnifaaGreatFacE
namespace Go.Proofs.YtciooaihobnifaaGreat
set_option linter.unusedVariables false
set_option linter.unusedSimpArgs false
open Go.RowKit
/-- Does a face show its front? -/
def frontK (L : List WinP) (k : LookP) : Bool := frontB (sgn (faceN L)) k.ccw
def showP (L : List WinP) (B : List Bool) (k : LookP) (x0 y0 x1 y1 : Int) : Prop := mayP L B ∧ k.ok ∧ rightP x0 y0 x1 y1 ∧ culledB (frontK L k) k.cull = false
instance (L : List WinP) (B : List Bool) (k : LookP) (x0 y0 x1 y1 : Int) : Decidable (showP L B k x0 y0 x1 y1) := by unfold showP; exact inferInstance
def modeK (L : List WinP) (k : LookP) : Int := if frontK L k then k.front else k.back
@[go_sem] theorem index3_0 (f g h : Value) (w : World) : (Instr.index 94 (.agg #[f, g, h]) (.int .i64 0)).run Tryz.prog w = .ok f w := by kernel_rfl
@[go_sem] theorem index3_1 (f g h : Value) (w : World) : (Instr.index 94 (.agg #[f, g, h]) (.int .i64 1)).run Tryz.prog w = .ok g w := by kernel_rfl
@[go_sem] theorem index3_2 (f g h : Value) (w : World) : (Instr.index 94 (.agg #[f, g, h]) (.int .i64 2)).run Tryz.prog w = .ok h w := by kernel_rfl
theorem may_fits {L : List WinP} {B : List Bool} (h : mayP L B) : ∀ a ∈ L, a.fits := fun a ha => (h.2.2 a ha).f
theorem ok_cull {k : LookP} (h : k.ok) : amongP k.cull 0 3 := h.2.2.2.2.2.1
set_option maxRecDepth 100000 in
set_option maxHeartbeats 4000000 in
theorem face_draw_no (v ev : Value) (L : List WinP) (B : List Bool) (k : LookP) (x0 y0 x1 y1 : Int) (w : World) (hv : Recs wnK w v L) (he : Recs boK w ev B) (hw : ∀ a ∈ L, a.wide) (hk : k.wide) (h : ¬ showP L B k x0 y0 x1 y1) : Calls Tryz.prog 18 #[v, ev, k.v, R4 x0 y0 x1 y1] w (RLists frK w []) := by
  have MY0 := fun w1 h g => face_may v ev L B k x0 y0 x1 y1 w1 h g hw
  have RI0 := fun w => look_right k hk w
  have RR0 := fun w => rect_right x0 y0 x1 y1 w
  have CU0 := fun w1 h (q : mayP L B) (c : k.ok) => face_culled v L k w1 h (may_fits q) (ok_cull c)
  obtain ⟨bc, hbc⟩ : ∃ b, culledB (frontB (sgn (faceN L)) k.ccw) k.cull = b := ⟨_, rfl⟩
  rw [hbc] at CU0
  by_cases h1 : mayP L B
  case neg =>
    simp only [h1, decide_false] at MY0
    have MY := Lib.hid MY0
    clear h h1 MY0 RI0 RR0 CU0 hw hk hbc
    have HV := Lib.hid hv
    have HE := Lib.hid he
    obtain ⟨hl, av, cap, rfl, hcap, -⟩ := hv
    obtain ⟨hl2, ev, ecap, rfl, -, -⟩ := he

    go_enter Tryz.func18, Tryz.ntmps18
    go_upto_region 2 with fail
    refine wp_abs (F := fun w1 => Row w1 w.heap.size #[.int .i64 k.width, .bool k.soft, .bool k.dashed, .int .i64 k.p, .int .i64 k.r, .int .i64 k.c, .int .i64 k.size, .int .i64 k.kind, .int .i64 k.front, .int .i64 k.back, .bool k.ccw, .int .i64 k.cull, .bool k.off, .int .i64 k.factor, .int .i64 k.units] 27 ∧ Row w1 (w.heap.size + 1) #[.int .i64 x0, .int .i64 y0, .int .i64 x1, .int .i64 y1] 29 ∧ Row w1 (w.heap.size + 1 + 1) #[.slice av L.length cap, .slice ev B.length ecap, .int .i64 k.width, .bool k.soft, .bool k.dashed, .int .i64 k.p, .int .i64 k.r, .int .i64 k.c, .int .i64 k.size, .int .i64 k.kind, .int .i64 k.front, .int .i64 k.back, .bool k.ccw, .int .i64 k.cull, .bool k.off, .int .i64 k.factor, .int .i64 k.units, .int .i64 x0, .int .i64 y0, .int .i64 x1, .int .i64 y1] 92 ∧ Recs wnK w1 (.slice av L.length cap) L ∧ Recs boK w1 (.slice ev B.length ecap) B ∧ ∃ X, w1 = w.ext X) ⟨by (repeat (first | assumption | with_reducible refine Row.ext ?_ _ | with_reducible refine row_drew ?_ | (with_reducible refine row_last ?_; first | rfl | (simp; done)) | with_reducible refine Row.alloc ?_ _)), by (repeat (first | assumption | with_reducible refine Row.ext ?_ _ | with_reducible refine row_drew ?_ | (with_reducible refine row_last ?_; first | rfl | (simp; done)) | with_reducible refine Row.alloc ?_ _)), by (repeat (first | assumption | with_reducible refine Row.ext ?_ _ | with_reducible refine row_drew ?_ | (with_reducible refine row_last ?_; first | rfl | (simp; done)) | with_reducible refine Row.alloc ?_ _)), (by repeat (first | with_reducible exact HV.out | with_reducible refine Recs.ext ?_ _ | with_reducible refine Recs.alloc ?_ _ | with_reducible refine Recs.drew ?_)), (by repeat (first | with_reducible exact HE.out | with_reducible refine Recs.ext ?_ _ | with_reducible refine Recs.alloc ?_ _ | with_reducible refine Recs.drew ?_)), RowKit.Below.toExt (by (repeat (first | exact Below.refl _ _ | with_reducible refine Below.drew ?_ | with_reducible refine Below.ext ?_ (by first | exact Nat.le_refl _ | (simp; done) | (simp; omega)) _ | with_reducible refine Below.alloc ?_ (by first | exact Nat.le_refl _ | (simp; done) | (simp; omega)) _ | with_reducible refine Below.setCell ?_ (by first | exact Nat.le_refl _ | (simp; done) | (simp; omega)) _)))⟩ ?_
    clear HV HE
    rintro w1 ⟨Rk, Rr, Rf, hv, he, hX⟩
    have HX := Lib.hid hX
    have HV := Lib.hid hv
    have HE := Lib.hid he
    have ck := Rk.cell
    have fk := Rk.frozen
    have lk := Rk.lt
    have cr := Rr.cell
    have fr := Rr.frozen
    have lr := Rr.lt
    have cf := Rf.cell
    have ff := Rf.frozen
    have lf := Rf.lt
    have dk := World.rowD_of Rk
    have df := World.rowD_of Rf
    clear Rk Rr Rf hv he hX
    go_wp2_with (first
      | (go_at_call 52; (with_reducible refine (MY.out _ (by repeat (first | with_reducible exact HV.out | with_reducible refine Recs.ext ?_ _ | with_reducible refine Recs.alloc ?_ _ | with_reducible refine Recs.drew ?_)) (by repeat (first | with_reducible exact HE.out | with_reducible refine Recs.ext ?_ _ | with_reducible refine Recs.alloc ?_ _ | with_reducible refine Recs.drew ?_))).mono ?_); rintro _ _ ⟨rfl, X_, rfl⟩)
      | (fail)
      | (fail)
      | (fail)
      | (fail))
    go_ret
    obtain ⟨X0, hX0⟩ := HX.out
    subst hX0
    exact ⟨_, rfl, recs_nil _, RowKit.Below.toExt (by (repeat (first | with_reducible assumption | with_reducible exact Below.refl _ _ | with_reducible refine Below.drew ?_ | with_reducible refine Below.ext ?_ (by first | exact Nat.le_refl _ | omega | (simp; done) | (simp; omega)) _ | with_reducible refine Below.alloc ?_ (by first | exact Nat.le_refl _ | omega | (simp; done) | (simp; omega)) _ | with_reducible refine Below.setCell ?_ (by first | exact Nat.le_refl _ | omega | (simp; done) | (simp; omega)) _)))⟩
  simp only [h1, decide_true] at MY0
  have MY := Lib.hid MY0
  by_cases h2 : k.ok
  case neg =>
    simp only [h2, decide_false] at RI0
    have RI := Lib.hid RI0
    clear h h1 h2 MY0 RI0 RR0 CU0 hw hk hbc
    have HV := Lib.hid hv
    have HE := Lib.hid he
    obtain ⟨hl, av, cap, rfl, hcap, -⟩ := hv
    obtain ⟨hl2, ev, ecap, rfl, -, -⟩ := he
    go_enter Tryz.func18, Tryz.ntmps18
    go_upto_region 2 with fail
    refine wp_abs (F := fun w1 => Row w1 w.heap.size #[.int .i64 k.width, .bool k.soft, .bool k.dashed, .int .i64 k.p, .int .i64 k.r, .int .i64 k.c, .int .i64 k.size, .int .i64 k.kind, .int .i64 k.front, .int .i64 k.back, .bool k.ccw, .int .i64 k.cull, .bool k.off, .int .i64 k.factor, .int .i64 k.units] 27 ∧ Row w1 (w.heap.size + 1) #[.int .i64 x0, .int .i64 y0, .int .i64 x1, .int .i64 y1] 29 ∧ Row w1 (w.heap.size + 1 + 1) #[.slice av L.length cap, .slice ev B.length ecap, .int .i64 k.width, .bool k.soft, .bool k.dashed, .int .i64 k.p, .int .i64 k.r, .int .i64 k.c, .int .i64 k.size, .int .i64 k.kind, .int .i64 k.front, .int .i64 k.back, .bool k.ccw, .int .i64 k.cull, .bool k.off, .int .i64 k.factor, .int .i64 k.units, .int .i64 x0, .int .i64 y0, .int .i64 x1, .int .i64 y1] 92 ∧ Recs wnK w1 (.slice av L.length cap) L ∧ Recs boK w1 (.slice ev B.length ecap) B ∧ ∃ X, w1 = w.ext X) ⟨by (repeat (first | assumption | with_reducible refine Row.ext ?_ _ | with_reducible refine row_drew ?_ | (with_reducible refine row_last ?_; first | rfl | (simp; done)) | with_reducible refine Row.alloc ?_ _)), by (repeat (first | assumption | with_reducible refine Row.ext ?_ _ | with_reducible refine row_drew ?_ | (with_reducible refine row_last ?_; first | rfl | (simp; done)) | with_reducible refine Row.alloc ?_ _)), by (repeat (first | assumption | with_reducible refine Row.ext ?_ _ | with_reducible refine row_drew ?_ | (with_reducible refine row_last ?_; first | rfl | (simp; done)) | with_reducible refine Row.alloc ?_ _)), (by repeat (first | with_reducible exact HV.out | with_reducible refine Recs.ext ?_ _ | with_reducible refine Recs.alloc ?_ _ | with_reducible refine Recs.drew ?_)), (by repeat (first | with_reducible exact HE.out | with_reducible refine Recs.ext ?_ _ | with_reducible refine Recs.alloc ?_ _ | with_reducible refine Recs.drew ?_)), RowKit.Below.toExt (by (repeat (first | exact Below.refl _ _ | with_reducible refine Below.drew ?_ | with_reducible refine Below.ext ?_ (by first | exact Nat.le_refl _ | (simp; done) | (simp; omega)) _ | with_reducible refine Below.alloc ?_ (by first | exact Nat.le_refl _ | (simp; done) | (simp; omega)) _ | with_reducible refine Below.setCell ?_ (by first | exact Nat.le_refl _ | (simp; done) | (simp; omega)) _)))⟩ ?_
    clear HV HE
    rintro w1 ⟨Rk, Rr, Rf, hv, he, hX⟩
    have HX := Lib.hid hX
    have HV := Lib.hid hv
    have HE := Lib.hid he
    have ck := Rk.cell
    have fk := Rk.frozen
    have lk := Rk.lt
    have cr := Rr.cell
    have fr := Rr.frozen
    have lr := Rr.lt
    have cf := Rf.cell
    have ff := Rf.frozen
    have lf := Rf.lt
    have dk := World.rowD_of Rk
    have df := World.rowD_of Rf
    clear Rk Rr Rf hv he hX
    go_wp2_with (first
      | (go_at_call 52; (with_reducible refine (MY.out _ (by repeat (first | with_reducible exact HV.out | with_reducible refine Recs.ext ?_ _ | with_reducible refine Recs.alloc ?_ _ | with_reducible refine Recs.drew ?_)) (by repeat (first | with_reducible exact HE.out | with_reducible refine Recs.ext ?_ _ | with_reducible refine Recs.alloc ?_ _ | with_reducible refine Recs.drew ?_))).mono ?_); rintro _ _ ⟨rfl, X_, rfl⟩)
      | (go_at_call 15; (with_reducible refine (RI.out _).mono ?_); rintro _ _ ⟨rfl, X_, rfl⟩)
      | (fail)
      | (fail)
      | (fail))
    go_ret
    obtain ⟨X0, hX0⟩ := HX.out
    subst hX0
    exact ⟨_, rfl, recs_nil _, RowKit.Below.toExt (by (repeat (first | with_reducible assumption | with_reducible exact Below.refl _ _ | with_reducible refine Below.drew ?_ | with_reducible refine Below.ext ?_ (by first | exact Nat.le_refl _ | omega | (simp; done) | (simp; omega)) _ | with_reducible refine Below.alloc ?_ (by first | exact Nat.le_refl _ | omega | (simp; done) | (simp; omega)) _ | with_reducible refine Below.setCell ?_ (by first | exact Nat.le_refl _ | omega | (simp; done) | (simp; omega)) _)))⟩
  simp only [h2, decide_true] at RI0
  have RI := Lib.hid RI0
  by_cases h3 : rightP x0 y0 x1 y1
  case neg =>
    simp only [h3, decide_false] at RR0
    have RR := Lib.hid RR0
    clear h h1 h2 h3 MY0 RI0 RR0 CU0 hw hk hbc
    have HV := Lib.hid hv
    have HE := Lib.hid he
    obtain ⟨hl, av, cap, rfl, hcap, -⟩ := hv
    obtain ⟨hl2, ev, ecap, rfl, -, -⟩ := he
    go_enter Tryz.func18, Tryz.ntmps18
    go_upto_region 2 with fail
    refine wp_abs (F := fun w1 => Row w1 w.heap.size #[.int .i64 k.width, .bool k.soft, .bool k.dashed, .int .i64 k.p, .int .i64 k.r, .int .i64 k.c, .int .i64 k.size, .int .i64 k.kind, .int .i64 k.front, .int .i64 k.back, .bool k.ccw, .int .i64 k.cull, .bool k.off, .int .i64 k.factor, .int .i64 k.units] 27 ∧ Row w1 (w.heap.size + 1) #[.int .i64 x0, .int .i64 y0, .int .i64 x1, .int .i64 y1] 29 ∧ Row w1 (w.heap.size + 1 + 1) #[.slice av L.length cap, .slice ev B.length ecap, .int .i64 k.width, .bool k.soft, .bool k.dashed, .int .i64 k.p, .int .i64 k.r, .int .i64 k.c, .int .i64 k.size, .int .i64 k.kind, .int .i64 k.front, .int .i64 k.back, .bool k.ccw, .int .i64 k.cull, .bool k.off, .int .i64 k.factor, .int .i64 k.units, .int .i64 x0, .int .i64 y0, .int .i64 x1, .int .i64 y1] 92 ∧ Recs wnK w1 (.slice av L.length cap) L ∧ Recs boK w1 (.slice ev B.length ecap) B ∧ ∃ X, w1 = w.ext X) ⟨by (repeat (first | assumption | with_reducible refine Row.ext ?_ _ | with_reducible refine row_drew ?_ | (with_reducible refine row_last ?_; first | rfl | (simp; done)) | with_reducible refine Row.alloc ?_ _)), by (repeat (first | assumption | with_reducible refine Row.ext ?_ _ | with_reducible refine row_drew ?_ | (with_reducible refine row_last ?_; first | rfl | (simp; done)) | with_reducible refine Row.alloc ?_ _)), by (repeat (first | assumption | with_reducible refine Row.ext ?_ _ | with_reducible refine row_drew ?_ | (with_reducible refine row_last ?_; first | rfl | (simp; done)) | with_reducible refine Row.alloc ?_ _)), (by repeat (first | with_reducible exact HV.out | with_reducible refine Recs.ext ?_ _ | with_reducible refine Recs.alloc ?_ _ | with_reducible refine Recs.drew ?_)), (by repeat (first | with_reducible exact HE.out | with_reducible refine Recs.ext ?_ _ | with_reducible refine Recs.alloc ?_ _ | with_reducible refine Recs.drew ?_)), RowKit.Below.toExt (by (repeat (first | exact Below.refl _ _ | with_reducible refine Below.drew ?_ | with_reducible refine Below.ext ?_ (by first | exact Nat.le_refl _ | (simp; done) | (simp; omega)) _ | with_reducible refine Below.alloc ?_ (by first | exact Nat.le_refl _ | (simp; done) | (simp; omega)) _ | with_reducible refine Below.setCell ?_ (by first | exact Nat.le_refl _ | (simp; done) | (simp; omega)) _)))⟩ ?_
    clear HV HE
    rintro w1 ⟨Rk, Rr, Rf, hv, he, hX⟩
    have HX := Lib.hid hX
    have HV := Lib.hid hv
    have HE := Lib.hid he
    have ck := Rk.cell
    have fk := Rk.frozen
    have lk := Rk.lt
    have cr := Rr.cell
    have fr := Rr.frozen
    have lr := Rr.lt
    have cf := Rf.cell
    have ff := Rf.frozen
    have lf := Rf.lt
    have dk := World.rowD_of Rk
    have df := World.rowD_of Rf
    clear Rk Rr Rf hv he hX
    go_wp2_with (first
      | (go_at_call 52; (with_reducible refine (MY.out _ (by repeat (first | with_reducible exact HV.out | with_reducible refine Recs.ext ?_ _ | with_reducible refine Recs.alloc ?_ _ | with_reducible refine Recs.drew ?_)) (by repeat (first | with_reducible exact HE.out | with_reducible refine Recs.ext ?_ _ | with_reducible refine Recs.alloc ?_ _ | with_reducible refine Recs.drew ?_))).mono ?_); rintro _ _ ⟨rfl, X_, rfl⟩)
      | (go_at_call 15; (with_reducible refine (RI.out _).mono ?_); rintro _ _ ⟨rfl, X_, rfl⟩)
      | (go_at_call 53; (with_reducible refine (RR.out _).mono ?_); rintro _ _ ⟨rfl, X_, rfl⟩)
      | (fail)
      | (fail))
    go_ret
    obtain ⟨X0, hX0⟩ := HX.out
    subst hX0
    exact ⟨_, rfl, recs_nil _, RowKit.Below.toExt (by (repeat (first | with_reducible assumption | with_reducible exact Below.refl _ _ | with_reducible refine Below.drew ?_ | with_reducible refine Below.ext ?_ (by first | exact Nat.le_refl _ | omega | (simp; done) | (simp; omega)) _ | with_reducible refine Below.alloc ?_ (by first | exact Nat.le_refl _ | omega | (simp; done) | (simp; omega)) _ | with_reducible refine Below.setCell ?_ (by first | exact Nat.le_refl _ | omega | (simp; done) | (simp; omega)) _)))⟩
  simp only [h3, decide_true] at RR0
  have RR := Lib.hid RR0
  have hb : bc = true := by
    cases hq : bc
    · exact absurd ⟨h1, h2, h3, by unfold frontK; rw [hbc, hq]⟩ h
    · rfl
  subst hb
  have CU := Lib.hid (fun w1 h => CU0 w1 h h1 h2)
  clear h h1 h2 h3 MY0 RI0 RR0 CU0 hw hk hbc
  have HV := Lib.hid hv
  have HE := Lib.hid he
  obtain ⟨hl, av, cap, rfl, hcap, -⟩ := hv
  obtain ⟨hl2, ev, ecap, rfl, -, -⟩ := he
  go_enter Tryz.func18, Tryz.ntmps18
  go_upto_region 2 with fail
  refine wp_abs (F := fun w1 => Row w1 w.heap.size #[.int .i64 k.width, .bool k.soft, .bool k.dashed, .int .i64 k.p, .int .i64 k.r, .int .i64 k.c, .int .i64 k.size, .int .i64 k.kind, .int .i64 k.front, .int .i64 k.back, .bool k.ccw, .int .i64 k.cull, .bool k.off, .int .i64 k.factor, .int .i64 k.units] 27 ∧ Row w1 (w.heap.size + 1) #[.int .i64 x0, .int .i64 y0, .int .i64 x1, .int .i64 y1] 29 ∧ Row w1 (w.heap.size + 1 + 1) #[.slice av L.length cap, .slice ev B.length ecap, .int .i64 k.width, .bool k.soft, .bool k.dashed, .int .i64 k.p, .int .i64 k.r, .int .i64 k.c, .int .i64 k.size, .int .i64 k.kind, .int .i64 k.front, .int .i64 k.back, .bool k.ccw, .int .i64 k.cull, .bool k.off, .int .i64 k.factor, .int .i64 k.units, .int .i64 x0, .int .i64 y0, .int .i64 x1, .int .i64 y1] 92 ∧ Recs wnK w1 (.slice av L.length cap) L ∧ Recs boK w1 (.slice ev B.length ecap) B ∧ ∃ X, w1 = w.ext X) ⟨by (repeat (first | assumption | with_reducible refine Row.ext ?_ _ | with_reducible refine row_drew ?_ | (with_reducible refine row_last ?_; first | rfl | (simp; done)) | with_reducible refine Row.alloc ?_ _)), by (repeat (first | assumption | with_reducible refine Row.ext ?_ _ | with_reducible refine row_drew ?_ | (with_reducible refine row_last ?_; first | rfl | (simp; done)) | with_reducible refine Row.alloc ?_ _)), by (repeat (first | assumption | with_reducible refine Row.ext ?_ _ | with_reducible refine row_drew ?_ | (with_reducible refine row_last ?_; first | rfl | (simp; done)) | with_reducible refine Row.alloc ?_ _)), (by repeat (first | with_reducible exact HV.out | with_reducible refine Recs.ext ?_ _ | with_reducible refine Recs.alloc ?_ _ | with_reducible refine Recs.drew ?_)), (by repeat (first | with_reducible exact HE.out | with_reducible refine Recs.ext ?_ _ | with_reducible refine Recs.alloc ?_ _ | with_reducible refine Recs.drew ?_)), RowKit.Below.toExt (by (repeat (first | exact Below.refl _ _ | with_reducible refine Below.drew ?_ | with_reducible refine Below.ext ?_ (by first | exact Nat.le_refl _ | (simp; done) | (simp; omega)) _ | with_reducible refine Below.alloc ?_ (by first | exact Nat.le_refl _ | (simp; done) | (simp; omega)) _ | with_reducible refine Below.setCell ?_ (by first | exact Nat.le_refl _ | (simp; done) | (simp; omega)) _)))⟩ ?_
  clear HV HE
  rintro w1 ⟨Rk, Rr, Rf, hv, he, hX⟩
  have HX := Lib.hid hX
  have HV := Lib.hid hv
  have HE := Lib.hid he
  have ck := Rk.cell
  have fk := Rk.frozen
  have lk := Rk.lt
  have cr := Rr.cell
  have fr := Rr.frozen
  have lr := Rr.lt
  have cf := Rf.cell
  have ff := Rf.frozen
  have lf := Rf.lt
  have dk := World.rowD_of Rk
  have df := World.rowD_of Rf
  clear Rk Rr Rf hv he hX
  go_wp2_with (first
    | (go_at_call 52; (with_reducible refine (MY.out _ (by repeat (first | with_reducible exact HV.out | with_reducible refine Recs.ext ?_ _ | with_reducible refine Recs.alloc ?_ _ | with_reducible refine Recs.drew ?_)) (by repeat (first | with_reducible exact HE.out | with_reducible refine Recs.ext ?_ _ | with_reducible refine Recs.alloc ?_ _ | with_reducible refine Recs.drew ?_))).mono ?_); rintro _ _ ⟨rfl, X_, rfl⟩)
    | (go_at_call 15; (with_reducible refine (RI.out _).mono ?_); rintro _ _ ⟨rfl, X_, rfl⟩)
    | (go_at_call 53; (with_reducible refine (RR.out _).mono ?_); rintro _ _ ⟨rfl, X_, rfl⟩)
    | (go_at_call 27; (with_reducible refine (CU.out _ (by repeat (first | with_reducible exact HV.out | with_reducible refine Recs.ext ?_ _ | with_reducible refine Recs.alloc ?_ _ | with_reducible refine Recs.drew ?_))).mono ?_); rintro _ _ ⟨rfl, X_, rfl⟩)
    | (fail))
  go_ret
  obtain ⟨X0, hX0⟩ := HX.out
  subst hX0
  exact ⟨_, rfl, recs_nil _, RowKit.Below.toExt (by (repeat (first | with_reducible assumption | with_reducible exact Below.refl _ _ | with_reducible refine Below.drew ?_ | with_reducible refine Below.ext ?_ (by first | exact Nat.le_refl _ | omega | (simp; done) | (simp; omega)) _ | with_reducible refine Below.alloc ?_ (by first | exact Nat.le_refl _ | omega | (simp; done) | (simp; omega)) _ | with_reducible refine Below.setCell ?_ (by first | exact Nat.le_refl _ | omega | (simp; done) | (simp; omega)) _)))⟩
set_option maxRecDepth 100000 in
set_option maxHeartbeats 8000000 in
theorem face_draw_fill (v ev : Value) (L : List WinP) (B : List Bool) (k : LookP) (x0 y0 x1 y1 : Int) (w : World) (hv : Recs wnK w v L) (he : Recs boK w ev B) (hw : ∀ a ∈ L, a.wide) (hk : k.wide) (h : showP L B k x0 y0 x1 y1) (hm : modeK L k = 0) (hL : L.length ≤ 4096) (har : areaP x0 y0 x1 y1 ≤ 1048576) : Calls Tryz.prog 18 #[v, ev, k.v, R4 x0 y0 x1 y1] w (RLists frK w (faceF L k x0 y0 x1 y1)) := by
  obtain ⟨h1, h2, h3, h4⟩ := h
  have MY := Lib.hid (fun w1 h g => decide_eq_true h1 ▸ face_may v ev L B k x0 y0 x1 y1 w1 h g hw)
  have RI := Lib.hid (fun w => decide_eq_true h2 ▸ look_right k hk w)
  have RR := Lib.hid (fun w => decide_eq_true h3 ▸ rect_right x0 y0 x1 y1 w)
  have CU0 := fun w1 h => face_culled v L k w1 h (may_fits h1) (ok_cull h2)
  have FT0 := fun w1 h => face_front v L k.ccw w1 h (may_fits h1)
  have FI := Lib.hid (fun ea el ec w1 h => face_filled v L ea el ec k x0 y0 x1 y1 w1 h (may_fits h1) h2 hL har)
  unfold frontK at h4
  simp only [h4] at CU0
  have CU := Lib.hid CU0
  unfold modeK frontK at hm
  obtain ⟨bf, hbf⟩ : ∃ b, frontB (sgn (faceN L)) k.ccw = b := ⟨_, rfl⟩
  rw [hbf] at FT0 hm
  have FT := Lib.hid FT0
  clear CU0 FT0 h1 h2 h3 h4 hw hk hbf hL har
  obtain ⟨TT, hTT⟩ : ∃ T, faceF L k x0 y0 x1 y1 = T := ⟨_, rfl⟩
  rw [hTT] at FI ⊢
  clear hTT
  have HV := Lib.hid hv
  have HE := Lib.hid he
  obtain ⟨hl, av, cap, rfl, hcap, -⟩ := hv
  obtain ⟨hl2, ev, ecap, rfl, -, -⟩ := he
  cases bf
  case false =>
    simp only [if_true, if_false, Bool.false_eq_true] at hm
    obtain ⟨k2, rfl⟩ : ∃ k2 : LookP, k = { k2 with back := 0 } := ⟨k, by cases k; simp only at hm; subst hm; rfl⟩
    clear hm
    simp only at FI CU FT RI MY
    go_enter Tryz.func18, Tryz.ntmps18
    go_upto_region 2 with fail
    refine wp_abs (F := fun w1 => Row w1 w.heap.size #[.int .i64 k2.width, .bool k2.soft, .bool k2.dashed, .int .i64 k2.p, .int .i64 k2.r, .int .i64 k2.c, .int .i64 k2.size, .int .i64 k2.kind, .int .i64 k2.front, .int .i64 0, .bool k2.ccw, .int .i64 k2.cull, .bool k2.off, .int .i64 k2.factor, .int .i64 k2.units] 27 ∧ Row w1 (w.heap.size + 1) #[.int .i64 x0, .int .i64 y0, .int .i64 x1, .int .i64 y1] 29 ∧ Row w1 (w.heap.size + 1 + 1) #[.slice av L.length cap, .slice ev B.length ecap, .int .i64 k2.width, .bool k2.soft, .bool k2.dashed, .int .i64 k2.p, .int .i64 k2.r, .int .i64 k2.c, .int .i64 k2.size, .int .i64 k2.kind, .int .i64 k2.front, .int .i64 0, .bool k2.ccw, .int .i64 k2.cull, .bool k2.off, .int .i64 k2.factor, .int .i64 k2.units, .int .i64 x0, .int .i64 y0, .int .i64 x1, .int .i64 y1] 92 ∧ Recs wnK w1 (.slice av L.length cap) L ∧ Recs boK w1 (.slice ev B.length ecap) B ∧ ∃ X, w1 = w.ext X) ⟨by (repeat (first | assumption | with_reducible refine Row.ext ?_ _ | with_reducible refine row_drew ?_ | (with_reducible refine row_last ?_; first | rfl | (simp; done)) | with_reducible refine Row.alloc ?_ _)), by (repeat (first | assumption | with_reducible refine Row.ext ?_ _ | with_reducible refine row_drew ?_ | (with_reducible refine row_last ?_; first | rfl | (simp; done)) | with_reducible refine Row.alloc ?_ _)), by (repeat (first | assumption | with_reducible refine Row.ext ?_ _ | with_reducible refine row_drew ?_ | (with_reducible refine row_last ?_; first | rfl | (simp; done)) | with_reducible refine Row.alloc ?_ _)), (by repeat (first | with_reducible exact HV.out | with_reducible refine Recs.ext ?_ _ | with_reducible refine Recs.alloc ?_ _ | with_reducible refine Recs.drew ?_)), (by repeat (first | with_reducible exact HE.out | with_reducible refine Recs.ext ?_ _ | with_reducible refine Recs.alloc ?_ _ | with_reducible refine Recs.drew ?_)), RowKit.Below.toExt (by (repeat (first | exact Below.refl _ _ | with_reducible refine Below.drew ?_ | with_reducible refine Below.ext ?_ (by first | exact Nat.le_refl _ | (simp; done) | (simp; omega)) _ | with_reducible refine Below.alloc ?_ (by first | exact Nat.le_refl _ | (simp; done) | (simp; omega)) _ | with_reducible refine Below.setCell ?_ (by first | exact Nat.le_refl _ | (simp; done) | (simp; omega)) _)))⟩ ?_
    clear HV HE
    rintro w1 ⟨Rk, Rr, Rf, hv, he, hX⟩
    have HX := Lib.hid hX
    have HV := Lib.hid hv
    have HE := Lib.hid he
    have ck := Rk.cell
    have fk := Rk.frozen
    have lk := Rk.lt
    have cr := Rr.cell
    have fr := Rr.frozen
    have lr := Rr.lt
    have cf := Rf.cell
    have ff := Rf.frozen
    have lf := Rf.lt
    have dk := World.rowD_of Rk
    have df := World.rowD_of Rf
    clear Rk Rr Rf hv he hX
    go_wp2_with (first
      | (go_at_call 52; (with_reducible refine (MY.out _ (by repeat (first | with_reducible exact HV.out | with_reducible refine Recs.ext ?_ _ | with_reducible refine Recs.alloc ?_ _ | with_reducible refine Recs.drew ?_)) (by repeat (first | with_reducible exact HE.out | with_reducible refine Recs.ext ?_ _ | with_reducible refine Recs.alloc ?_ _ | with_reducible refine Recs.drew ?_))).mono ?_); rintro _ _ ⟨rfl, X_, rfl⟩)
      | (go_at_call 15; (with_reducible refine (RI.out _).mono ?_); rintro _ _ ⟨rfl, X_, rfl⟩)
      | (go_at_call 53; (with_reducible refine (RR.out _).mono ?_); rintro _ _ ⟨rfl, X_, rfl⟩)
      | (go_at_call 27; (with_reducible refine (CU.out _ (by repeat (first | with_reducible exact HV.out | with_reducible refine Recs.ext ?_ _ | with_reducible refine Recs.alloc ?_ _ | with_reducible refine Recs.drew ?_))).mono ?_); rintro _ _ ⟨rfl, X_, rfl⟩)
      | (go_at_call 25; (with_reducible refine (FT.out _ (by repeat (first | with_reducible exact HV.out | with_reducible refine Recs.ext ?_ _ | with_reducible refine Recs.alloc ?_ _ | with_reducible refine Recs.drew ?_))).mono ?_); rintro _ _ ⟨rfl, X_, rfl⟩)
      | (go_at_call 54; (with_reducible refine (FI.out _ _ _ _ (by repeat (first | with_reducible exact HV.out | with_reducible refine Recs.ext ?_ _ | with_reducible refine Recs.alloc ?_ _ | with_reducible refine Recs.drew ?_))).mono ?_); rintro _ _ ⟨vq, rfl, hq, ⟨XQ, rfl⟩⟩; have HQ := Lib.hid hq; clear hq))
    go_ret
    obtain ⟨X0, hX0⟩ := HX.out
    subst hX0
    exact ⟨_, rfl, HQ.out, RowKit.Below.toExt (by (repeat (first | with_reducible assumption | with_reducible exact Below.refl _ _ | with_reducible refine Below.drew ?_ | with_reducible refine Below.ext ?_ (by first | exact Nat.le_refl _ | omega | (simp; done) | (simp; omega)) _ | with_reducible refine Below.alloc ?_ (by first | exact Nat.le_refl _ | omega | (simp; done) | (simp; omega)) _ | with_reducible refine Below.setCell ?_ (by first | exact Nat.le_refl _ | omega | (simp; done) | (simp; omega)) _)))⟩
  case true =>
    simp only [if_true, if_false, Bool.false_eq_true] at hm
    obtain ⟨k2, rfl⟩ : ∃ k2 : LookP, k = { k2 with front := 0 } := ⟨k, by cases k; simp only at hm; subst hm; rfl⟩
    clear hm
    simp only at FI CU FT RI MY
    go_enter Tryz.func18, Tryz.ntmps18
    go_upto_region 2 with fail
    refine wp_abs (F := fun w1 => Row w1 w.heap.size #[.int .i64 k2.width, .bool k2.soft, .bool k2.dashed, .int .i64 k2.p, .int .i64 k2.r, .int .i64 k2.c, .int .i64 k2.size, .int .i64 k2.kind, .int .i64 0, .int .i64 k2.back, .bool k2.ccw, .int .i64 k2.cull, .bool k2.off, .int .i64 k2.factor, .int .i64 k2.units] 27 ∧ Row w1 (w.heap.size + 1) #[.int .i64 x0, .int .i64 y0, .int .i64 x1, .int .i64 y1] 29 ∧ Row w1 (w.heap.size + 1 + 1) #[.slice av L.length cap, .slice ev B.length ecap, .int .i64 k2.width, .bool k2.soft, .bool k2.dashed, .int .i64 k2.p, .int .i64 k2.r, .int .i64 k2.c, .int .i64 k2.size, .int .i64 k2.kind, .int .i64 0, .int .i64 k2.back, .bool k2.ccw, .int .i64 k2.cull, .bool k2.off, .int .i64 k2.factor, .int .i64 k2.units, .int .i64 x0, .int .i64 y0, .int .i64 x1, .int .i64 y1] 92 ∧ Recs wnK w1 (.slice av L.length cap) L ∧ Recs boK w1 (.slice ev B.length ecap) B ∧ ∃ X, w1 = w.ext X) ⟨by (repeat (first | assumption | with_reducible refine Row.ext ?_ _ | with_reducible refine row_drew ?_ | (with_reducible refine row_last ?_; first | rfl | (simp; done)) | with_reducible refine Row.alloc ?_ _)), by (repeat (first | assumption | with_reducible refine Row.ext ?_ _ | with_reducible refine row_drew ?_ | (with_reducible refine row_last ?_; first | rfl | (simp; done)) | with_reducible refine Row.alloc ?_ _)), by (repeat (first | assumption | with_reducible refine Row.ext ?_ _ | with_reducible refine row_drew ?_ | (with_reducible refine row_last ?_; first | rfl | (simp; done)) | with_reducible refine Row.alloc ?_ _)), (by repeat (first | with_reducible exact HV.out | with_reducible refine Recs.ext ?_ _ | with_reducible refine Recs.alloc ?_ _ | with_reducible refine Recs.drew ?_)), (by repeat (first | with_reducible exact HE.out | with_reducible refine Recs.ext ?_ _ | with_reducible refine Recs.alloc ?_ _ | with_reducible refine Recs.drew ?_)), RowKit.Below.toExt (by (repeat (first | exact Below.refl _ _ | with_reducible refine Below.drew ?_ | with_reducible refine Below.ext ?_ (by first | exact Nat.le_refl _ | (simp; done) | (simp; omega)) _ | with_reducible refine Below.alloc ?_ (by first | exact Nat.le_refl _ | (simp; done) | (simp; omega)) _ | with_reducible refine Below.setCell ?_ (by first | exact Nat.le_refl _ | (simp; done) | (simp; omega)) _)))⟩ ?_
    clear HV HE
    rintro w1 ⟨Rk, Rr, Rf, hv, he, hX⟩
    have HX := Lib.hid hX
    have HV := Lib.hid hv
    have HE := Lib.hid he
    have ck := Rk.cell
    have fk := Rk.frozen
    have lk := Rk.lt
    have cr := Rr.cell
    have fr := Rr.frozen
    have lr := Rr.lt
    have cf := Rf.cell
    have ff := Rf.frozen
    have lf := Rf.lt
    have dk := World.rowD_of Rk
    have df := World.rowD_of Rf
    clear Rk Rr Rf hv he hX
    go_wp2_with (first
      | (go_at_call 52; (with_reducible refine (MY.out _ (by repeat (first | with_reducible exact HV.out | with_reducible refine Recs.ext ?_ _ | with_reducible refine Recs.alloc ?_ _ | with_reducible refine Recs.drew ?_)) (by repeat (first | with_reducible exact HE.out | with_reducible refine Recs.ext ?_ _ | with_reducible refine Recs.alloc ?_ _ | with_reducible refine Recs.drew ?_))).mono ?_); rintro _ _ ⟨rfl, X_, rfl⟩)
      | (go_at_call 15; (with_reducible refine (RI.out _).mono ?_); rintro _ _ ⟨rfl, X_, rfl⟩)
      | (go_at_call 53; (with_reducible refine (RR.out _).mono ?_); rintro _ _ ⟨rfl, X_, rfl⟩)
      | (go_at_call 27; (with_reducible refine (CU.out _ (by repeat (first | with_reducible exact HV.out | with_reducible refine Recs.ext ?_ _ | with_reducible refine Recs.alloc ?_ _ | with_reducible refine Recs.drew ?_))).mono ?_); rintro _ _ ⟨rfl, X_, rfl⟩)
      | (go_at_call 25; (with_reducible refine (FT.out _ (by repeat (first | with_reducible exact HV.out | with_reducible refine Recs.ext ?_ _ | with_reducible refine Recs.alloc ?_ _ | with_reducible refine Recs.drew ?_))).mono ?_); rintro _ _ ⟨rfl, X_, rfl⟩)
      | (go_at_call 54; (with_reducible refine (FI.out _ _ _ _ (by repeat (first | with_reducible exact HV.out | with_reducible refine Recs.ext ?_ _ | with_reducible refine Recs.alloc ?_ _ | with_reducible refine Recs.drew ?_))).mono ?_); rintro _ _ ⟨vq, rfl, hq, ⟨XQ, rfl⟩⟩; have HQ := Lib.hid hq; clear hq))
    go_ret
    obtain ⟨X0, hX0⟩ := HX.out
    subst hX0
    exact ⟨_, rfl, HQ.out, RowKit.Below.toExt (by (repeat (first | with_reducible assumption | with_reducible exact Below.refl _ _ | with_reducible refine Below.drew ?_ | with_reducible refine Below.ext ?_ (by first | exact Nat.le_refl _ | omega | (simp; done) | (simp; omega)) _ | with_reducible refine Below.alloc ?_ (by first | exact Nat.le_refl _ | omega | (simp; done) | (simp; omega)) _ | with_reducible refine Below.setCell ?_ (by first | exact Nat.le_refl _ | omega | (simp; done) | (simp; omega)) _)))⟩
end Go.Proofs.YtciooaihobnifaaGreat
