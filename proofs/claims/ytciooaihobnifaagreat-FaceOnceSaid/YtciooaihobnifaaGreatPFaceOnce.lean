/- FaceOnce: whatever the input, the law returns true and leaves its arguments as they read. No condition. -/
import Derived.Test.YtciooaihobnifaaGreatFacP
import Derived.Test.YtciooaihobnifaaGreatFacQ
import Derived.Test.YtciooaihobnifaaGreatEFaceOnce
namespace Go.Proofs.YtciooaihobnifaaGreat
set_option linter.unusedVariables false
set_option linter.unusedSimpArgs false
open Go.RowKit
theorem pxRw_len (J : Int → Int → Bool) (y x0 x : Int) : (pxRw J y x0 x).length ≤ (x - x0).toNat := by
  unfold pxRw
  rw [List.length_map, ← rng_len]
  exact List.length_filter_le _ _
theorem pxTo_len (J : Int → Int → Bool) (x0 x1 y0 y : Int) (hx : x1 - x0 ≤ 8388608) (hy : y - y0 ≤ 8388608) : (pxTo J x0 x1 y0 y).length ≤ 70368744177664 := by
  have h : (pxTo J x0 x1 y0 y).length ≤ (rng y0 y).length * 8388608 := by
    unfold pxTo
    generalize rng y0 y = l
    induction l with
    | nil => simp
    | cons z l ih =>
      have := pxRw_len J z x0 x1
      rw [List.flatMap_cons, List.length_append, List.length_cons, Nat.succ_mul]
      omega
  rw [rng_len] at h
  omega
def srO {α : Type} (K : RecK α) (base : Nat) (E : TypeId) (L : List α) : SR Grows := ⟨fun v w => Recs K w v L ∧ w.ownsRow base E K.k v L.length (L.flatMap K.cells), fun v w w' ⟨h1, h2⟩ ⟨X, e⟩ => by subst e; exact ⟨h1.ext X, own_extR h2 X⟩, fun v => ∃ a cap, v = .slice a L.length cap, .slice none L.length 0, ⟨_, _, rfl⟩, fun v w ⟨⟨_, a, cap, h, _⟩, _⟩ => ⟨a, cap, h⟩⟩
theorem win_fits22 {x y : Int} (hx : -268435456 ≤ x ∧ x ≤ 268435456) (hy : -268435456 ≤ y ∧ y ≤ 268435456) : (⟨x, y, 0, 0, 0, 0, 0⟩ : WinP).fitsP := by
  unfold WinP.fitsP
  simp only
  omega
theorem show4 {a b c d : WinP} {x0 y0 x1 y1 : Int} (ha : a.fitsP) (hb : b.fitsP) (hc : c.fitsP) (hd : d.fitsP) (hr : rightP x0 y0 x1 y1) : showP [a, b, c, d] no4 look22 x0 y0 x1 y1 := by
  refine ⟨⟨by simp, rfl, fun p hp => ?_⟩, of_decide_eq_true ok22, hr, ?_⟩
  · simp only [List.mem_cons, List.not_mem_nil, or_false] at hp
    rcases hp with rfl | rfl | rfl | rfl <;> assumption
  · show culledB _ 0 = false
    cases frontK [a, b, c, d] look22 <;> decide
theorem wide4 {a b c d : WinP} (ha : a.fitsP) (hb : b.fitsP) (hc : c.fitsP) (hd : d.fitsP) : ∀ p ∈ [a, b, c, d], p.wide := fun p hp => by
  simp only [List.mem_cons, List.not_mem_nil, or_false] at hp
  rcases hp with rfl | rfl | rfl | rfl <;> exact fitsP_wide (by assumption)
set_option maxRecDepth 100000 in
set_option maxHeartbeats 4000000 in
theorem once22_no (a0 a1 u0 u1 v0 v1 x0 y0 x1 y1 : Int) (h : ¬ rightP x0 y0 x1 y1 ∨ 200 < areaP x0 y0 x1 y1) (w : World) : Calls Tryz.prog 6 #[.agg #[.int .i16 a0, .int .i16 a1, .int .i16 u0, .int .i16 u1, .int .i16 v0, .int .i16 v1], R4 x0 y0 x1 y1] w (Ret (.bool true) w) := by
  have R := fun w => rrect_right x0 y0 x1 y1 w
  have A := Lib.hid (fun w => rrect_area x0 y0 x1 y1 w)
  by_cases hr : rightP x0 y0 x1 y1
  · simp only [hr, decide_true] at R
    have h1 := h.resolve_left fun k => k hr
    generalize areaP x0 y0 x1 y1 = ar at *
    have HR := Lib.hid R
    clear R hr h
    go_enter Tryz.func6, Tryz.ntmps6
    go_wp2_with (first | (go_at_call 29; (with_reducible refine (HR.out _).mono ?_); rintro _ _ ⟨rfl, X_, rfl⟩) | (go_at_call 30; (with_reducible refine (A.out _).mono ?_); rintro _ _ ⟨rfl, X_, rfl⟩) | (go_at_call 14; (with_reducible refine (awake22 _).mono ?_); rintro _ _ ⟨rfl, X_, rfl⟩))
    go_ret
    exact Ret.of' rfl (by (repeat (first | exact Below.refl _ _ | with_reducible refine Below.drew ?_ | with_reducible refine Below.ext ?_ (by first | exact Nat.le_refl _ | (simp; done) | (simp; omega)) _ | with_reducible refine Below.alloc ?_ (by first | exact Nat.le_refl _ | (simp; done) | (simp; omega)) _ | with_reducible refine Below.setCell ?_ (by first | exact Nat.le_refl _ | (simp; done) | (simp; omega)) _)))
  · simp only [hr, decide_false] at R
    have HR := Lib.hid R
    clear R hr h
    go_enter Tryz.func6, Tryz.ntmps6
    go_wp2_with (first | (go_at_call 29; (with_reducible refine (HR.out _).mono ?_); rintro _ _ ⟨rfl, X_, rfl⟩) | (go_at_call 14; (with_reducible refine (awake22 _).mono ?_); rintro _ _ ⟨rfl, X_, rfl⟩))
    go_ret
    exact Ret.of' rfl (by (repeat (first | exact Below.refl _ _ | with_reducible refine Below.drew ?_ | with_reducible refine Below.ext ?_ (by first | exact Nat.le_refl _ | (simp; done) | (simp; omega)) _ | with_reducible refine Below.alloc ?_ (by first | exact Nat.le_refl _ | (simp; done) | (simp; omega)) _ | with_reducible refine Below.setCell ?_ (by first | exact Nat.le_refl _ | (simp; done) | (simp; omega)) _)))
set_option maxRecDepth 100000 in
set_option maxHeartbeats 8000000 in
theorem once22_in (a0 a1 u0 u1 v0 v1 x0 y0 x1 y1 : Int) (ha0 : -32768 ≤ a0 ∧ a0 ≤ 32767) (ha1 : -32768 ≤ a1 ∧ a1 ≤ 32767) (hu0 : -32768 ≤ u0 ∧ u0 ≤ 32767) (hu1 : -32768 ≤ u1 ∧ u1 ≤ 32767) (hv0 : -32768 ≤ v0 ∧ v0 ≤ 32767) (hv1 : -32768 ≤ v1 ∧ v1 ≤ 32767) (hr : rightP x0 y0 x1 y1) (har : areaP x0 y0 x1 y1 ≤ 200) (w : World) : Calls Tryz.prog 6 #[.agg #[.int .i16 a0, .int .i16 a1, .int .i16 u0, .int .i16 u1, .int .i16 v0, .int .i16 v1], R4 x0 y0 x1 y1] w (Ret (.bool true) w) := by
  have R := fun w => rrect_right x0 y0 x1 y1 w
  simp only [hr, decide_true] at R
  have HR := Lib.hid R
  have A := Lib.hid (fun w => rrect_area x0 y0 x1 y1 w)
  obtain ⟨ax, hax⟩ : ∃ t, a0 = t := ⟨_, rfl⟩
  obtain ⟨ay, hay⟩ : ∃ t, a1 = t := ⟨_, rfl⟩
  obtain ⟨bx, hbx⟩ : ∃ t, a0 + u0 = t := ⟨_, rfl⟩
  obtain ⟨b_y, hb_y⟩ : ∃ t, a1 + u1 = t := ⟨_, rfl⟩
  obtain ⟨cx, hcx⟩ : ∃ t, a0 + u0 + v0 = t := ⟨_, rfl⟩
  obtain ⟨cy, hcy⟩ : ∃ t, a1 + u1 + v1 = t := ⟨_, rfl⟩
  obtain ⟨dx, hdx⟩ : ∃ t, a0 + v0 = t := ⟨_, rfl⟩
  obtain ⟨dy, hdy⟩ : ∃ t, a1 + v1 = t := ⟨_, rfl⟩
  obtain ⟨ex, hex⟩ : ∃ t, a0 + u0 + v0 + v0 = t := ⟨_, rfl⟩
  obtain ⟨ey, hey⟩ : ∃ t, a1 + u1 + v1 + v1 = t := ⟨_, rfl⟩
  obtain ⟨fx, hfx⟩ : ∃ t, a0 + v0 + v0 = t := ⟨_, rfl⟩
  obtain ⟨fy, hfy⟩ : ∃ t, a1 + v1 + v1 = t := ⟨_, rfl⟩
  have Fa : (⟨ax, ay, 0, 0, 0, 0, 0⟩ : WinP).fitsP := win_fits22 (by omega) (by omega)
  have Fb : (⟨bx, b_y, 0, 0, 0, 0, 0⟩ : WinP).fitsP := win_fits22 (by omega) (by omega)
  have Fc : (⟨cx, cy, 0, 0, 0, 0, 0⟩ : WinP).fitsP := win_fits22 (by omega) (by omega)
  have Fd : (⟨dx, dy, 0, 0, 0, 0, 0⟩ : WinP).fitsP := win_fits22 (by omega) (by omega)
  have Fe : (⟨ex, ey, 0, 0, 0, 0, 0⟩ : WinP).fitsP := win_fits22 (by omega) (by omega)
  have Ff : (⟨fx, fy, 0, 0, 0, 0, 0⟩ : WinP).fitsP := win_fits22 (by omega) (by omega)
  obtain ⟨hon, hlen⟩ := once22_plain ⟨ax, ay, 0, 0, 0, 0, 0⟩ ⟨bx, b_y, 0, 0, 0, 0, 0⟩ ⟨cx, cy, 0, 0, 0, 0, 0⟩ ⟨dx, dy, 0, 0, 0, 0, 0⟩ ⟨ex, ey, 0, 0, 0, 0, 0⟩ ⟨fx, fy, 0, 0, 0, 0, 0⟩ u0 u1 v0 v1 hu0 hu1 hv0 hv1 (by simp only; omega) (by simp only; omega) (by simp only; omega) (by simp only; omega) (by simp only; omega) (by simp only; omega) (by simp only; omega) (by simp only; omega) (by simp only; omega) (by simp only; omega) x0 y0 x1 y1 hr
  have LA := fillF_len [⟨ax, ay, 0, 0, 0, 0, 0⟩, ⟨bx, b_y, 0, 0, 0, 0, 0⟩, ⟨cx, cy, 0, 0, 0, 0, 0⟩, ⟨dx, dy, 0, 0, 0, 0, 0⟩] look22 x0 y0 x1 y1 (by omega) 2
  have LB := fillF_len [⟨dx, dy, 0, 0, 0, 0, 0⟩, ⟨cx, cy, 0, 0, 0, 0, 0⟩, ⟨ex, ey, 0, 0, 0, 0, 0⟩, ⟨fx, fy, 0, 0, 0, 0, 0⟩] look22 x0 y0 x1 y1 (by omega) 2
  have D1 := Lib.hid (fun v ev w1 h g => face_draw_fillO v ev [⟨ax, ay, 0, 0, 0, 0, 0⟩, ⟨bx, b_y, 0, 0, 0, 0, 0⟩, ⟨cx, cy, 0, 0, 0, 0, 0⟩, ⟨dx, dy, 0, 0, 0, 0, 0⟩] no4 look22 x0 y0 x1 y1 w1 h g (wide4 Fa Fb Fc Fd) look22_wide (show4 Fa Fb Fc Fd hr) (by unfold modeK; split <;> rfl) (by simp) (by omega))
  have D2 := Lib.hid (fun v ev w1 h g => face_draw_fillO v ev [⟨dx, dy, 0, 0, 0, 0, 0⟩, ⟨cx, cy, 0, 0, 0, 0, 0⟩, ⟨ex, ey, 0, 0, 0, 0, 0⟩, ⟨fx, fy, 0, 0, 0, 0, 0⟩] no4 look22 x0 y0 x1 y1 w1 h g (wide4 Fd Fc Fe Ff) look22_wide (show4 Fd Fc Fe Ff hr) (by unfold modeK; split <;> rfl) (by simp) (by omega))
  unfold quadL at hon hlen
  obtain ⟨T1, hT1⟩ : ∃ T, faceF [⟨ax, ay, 0, 0, 0, 0, 0⟩, ⟨bx, b_y, 0, 0, 0, 0, 0⟩, ⟨cx, cy, 0, 0, 0, 0, 0⟩, ⟨dx, dy, 0, 0, 0, 0, 0⟩] look22 x0 y0 x1 y1 = T := ⟨_, rfl⟩
  obtain ⟨T2, hT2⟩ : ∃ T, faceF [⟨dx, dy, 0, 0, 0, 0, 0⟩, ⟨cx, cy, 0, 0, 0, 0, 0⟩, ⟨ex, ey, 0, 0, 0, 0, 0⟩, ⟨fx, fy, 0, 0, 0, 0, 0⟩] look22 x0 y0 x1 y1 = T := ⟨_, rfl⟩
  have hb1 : T1.length ≤ 2097152 := by rw [← hT1]; exact LA
  have hb2 : T2.length ≤ 2097152 := by rw [← hT2]; exact LB
  rw [hT1, hT2] at hon hlen
  rw [hT1] at D1
  rw [hT2] at D2
  have HOn := Lib.hid hon
  have HB1 := Lib.hid hb1
  have HB2 := Lib.hid hb2
  have J1 := Lib.hid (fun x y (hx : Near x y) w => rhas20_any ⟨bx, b_y, 0, 0, 0, 0, 0⟩ ⟨cx, cy, 0, 0, 0, 0, 0⟩ ⟨fx, fy, 0, 0, 0, 0, 0⟩ x y Fb.f Fc.f Ff.f hx w)
  have J2 := Lib.hid (fun x y (hx : Near x y) w => rhas20_any ⟨ax, ay, 0, 0, 0, 0, 0⟩ ⟨bx, b_y, 0, 0, 0, 0, 0⟩ ⟨fx, fy, 0, 0, 0, 0, 0⟩ x y Fa.f Fb.f Ff.f hx w)
  have J3 := Lib.hid (fun x y (hx : Near x y) w => rhas20_any ⟨cx, cy, 0, 0, 0, 0, 0⟩ ⟨ex, ey, 0, 0, 0, 0, 0⟩ ⟨fx, fy, 0, 0, 0, 0, 0⟩ x y Fc.f Fe.f Ff.f hx w)
  have OT := Lib.hid (fun x y => show otherB ⟨ax, ay, 0, 0, 0, 0, 0⟩ ⟨bx, b_y, 0, 0, 0, 0, 0⟩ ⟨cx, cy, 0, 0, 0, 0, 0⟩ ⟨ex, ey, 0, 0, 0, 0, 0⟩ ⟨fx, fy, 0, 0, 0, 0, 0⟩ x y = (decide (triHas ⟨bx, b_y, 0, 0, 0, 0, 0⟩ ⟨cx, cy, 0, 0, 0, 0, 0⟩ ⟨fx, fy, 0, 0, 0, 0, 0⟩ x y) || (decide (triHas ⟨ax, ay, 0, 0, 0, 0, 0⟩ ⟨bx, b_y, 0, 0, 0, 0, 0⟩ ⟨fx, fy, 0, 0, 0, 0, 0⟩ x y) || decide (triHas ⟨cx, cy, 0, 0, 0, 0, 0⟩ ⟨ex, ey, 0, 0, 0, 0, 0⟩ ⟨fx, fy, 0, 0, 0, 0, 0⟩ x y))) from rfl)
  obtain ⟨J, hJ⟩ : ∃ J, otherB ⟨ax, ay, 0, 0, 0, 0, 0⟩ ⟨bx, b_y, 0, 0, 0, 0, 0⟩ ⟨cx, cy, 0, 0, 0, 0, 0⟩ ⟨ex, ey, 0, 0, 0, 0, 0⟩ ⟨fx, fy, 0, 0, 0, 0, 0⟩ = J := ⟨_, rfl⟩
  rw [hJ] at OT hlen
  have HLen := Lib.hid hlen
  unfold rightP at hr
  obtain ⟨⟨r0, r1⟩, ⟨r2, r3⟩, ⟨r4, r5⟩, ⟨r6, r7⟩, rx, ry⟩ := hr
  generalize areaP x0 y0 x1 y1 = ar at *
  obtain ⟨a00, a01⟩ := ha0
  obtain ⟨a10, a11⟩ := ha1
  obtain ⟨u00, u01⟩ := hu0
  obtain ⟨u10, u11⟩ := hu1
  obtain ⟨v00, v01⟩ := hv0
  obtain ⟨v10, v11⟩ := hv1
  have Hax := Lib.hid hax
  have Hay := Lib.hid hay
  have Hbx := Lib.hid hbx
  have Hb_y := Lib.hid hb_y
  have Hcx := Lib.hid hcx
  have Hcy := Lib.hid hcy
  have Hdx := Lib.hid hdx
  have Hdy := Lib.hid hdy
  have Hex := Lib.hid hex
  have Hey := Lib.hid hey
  have Hfx := Lib.hid hfx
  have Hfy := Lib.hid hfy
  clear R hJ hT1 hT2 hon hlen hb1 hb2 LA LB Fa Fb Fc Fd Fe Ff hax hay hbx hb_y hcx hcy hdx hdy hex hey hfx hfy
  go_enter Tryz.func6, Tryz.ntmps6
  go_upto_region 3 with (first | (go_at_call 29; (with_reducible refine (HR.out _).mono ?_); rintro _ _ ⟨rfl, X_, rfl⟩) | (go_at_call 30; (with_reducible refine (A.out _).mono ?_); rintro _ _ ⟨rfl, X_, rfl⟩))
  refine wp_abs (F := fun w1 => Row w1 w.heap.size #[.int .i16 a0, .int .i16 a1, .int .i16 u0, .int .i16 u1, .int .i16 v0, .int .i16 v1] 52 ∧ Row w1 (w.heap.size + 1) #[.int .i64 x0, .int .i64 y0, .int .i64 x1, .int .i64 y1] 29 ∧ ∃ X, w1 = w.ext X) ⟨by (repeat (first | assumption | with_reducible refine Row.ext ?_ _ | with_reducible refine row_drew ?_ | (with_reducible refine row_last ?_; first | rfl | (simp; done)) | with_reducible refine Row.alloc ?_ _)), by (repeat (first | assumption | with_reducible refine Row.ext ?_ _ | with_reducible refine row_drew ?_ | (with_reducible refine row_last ?_; first | rfl | (simp; done)) | with_reducible refine Row.alloc ?_ _)), RowKit.Below.toExt (by (repeat (first | exact Below.refl _ _ | with_reducible refine Below.drew ?_ | with_reducible refine Below.ext ?_ (by first | exact Nat.le_refl _ | (simp; done) | (simp; omega)) _ | with_reducible refine Below.alloc ?_ (by first | exact Nat.le_refl _ | (simp; done) | (simp; omega)) _ | with_reducible refine Below.setCell ?_ (by first | exact Nat.le_refl _ | (simp; done) | (simp; omega)) _)))⟩ ?_
  rintro w1 ⟨Rq, Rr, hX⟩
  have HX := Lib.hid hX
  have HRr := Lib.hid Rr
  have HRQ := Lib.hid Rq
  have cq := Rq.cell
  have fq := Rq.frozen
  have lq := Rq.lt
  have cr := Rr.cell
  have fr := Rr.frozen
  have lr := Rr.lt
  clear Rq Rr hX
  go_upto_region 6 with fail
  obtain ⟨Ba, hBa⟩ : ∃ b, w1.heap.size = b := ⟨_, rfl⟩
  refine wp_abs (F := fun w2 => (Row w2 w.heap.size #[.int .i16 a0, .int .i16 a1, .int .i16 u0, .int .i16 u1, .int .i16 v0, .int .i16 v1] 52 ∧ Row w2 (w.heap.size + 1) #[.int .i64 x0, .int .i64 y0, .int .i64 x1, .int .i64 y1] 29 ∧ Row w2 Ba #[.int .i64 (a0), .int .i64 (a1), .int .i64 0, .int .i64 0, .int .i64 0, .int .i64 0, .int .i64 0] 41 ∧ Row w2 (Ba + 1) #[.int .i64 (a0 + u0), .int .i64 (a1 + u1), .int .i64 0, .int .i64 0, .int .i64 0, .int .i64 0, .int .i64 0] 41 ∧ Row w2 (Ba + 1 + 1) #[.int .i64 (a0 + u0 + v0), .int .i64 (a1 + u1 + v1), .int .i64 0, .int .i64 0, .int .i64 0, .int .i64 0, .int .i64 0] 41) ∧ ∃ X, w2 = w.ext X) ⟨by rw [← hBa]; exact ⟨by (repeat (first | with_reducible exact HRQ.out | with_reducible refine Row.ext ?_ _ | with_reducible refine row_drew ?_ | with_reducible refine Row.alloc ?_ _)), by (repeat (first | with_reducible exact HRr.out | with_reducible refine Row.ext ?_ _ | with_reducible refine row_drew ?_ | with_reducible refine Row.alloc ?_ _)), by (repeat (first | assumption | with_reducible refine Row.ext ?_ _ | with_reducible refine row_drew ?_ | (with_reducible refine row_last ?_; first | rfl | (simp; done)) | with_reducible refine Row.alloc ?_ _)), by (repeat (first | assumption | with_reducible refine Row.ext ?_ _ | with_reducible refine row_drew ?_ | (with_reducible refine row_last ?_; first | rfl | (simp; done)) | with_reducible refine Row.alloc ?_ _)), by (repeat (first | assumption | with_reducible refine Row.ext ?_ _ | with_reducible refine row_drew ?_ | (with_reducible refine row_last ?_; first | rfl | (simp; done)) | with_reducible refine Row.alloc ?_ _))⟩, by obtain ⟨X0, hX0⟩ := HX.out; subst hX0; exact RowKit.Below.toExt (by (repeat (first | with_reducible assumption | with_reducible exact Below.refl _ _ | with_reducible refine Below.drew ?_ | with_reducible refine Below.ext ?_ (by first | exact Nat.le_refl _ | omega | (simp; done) | (simp; omega)) _ | with_reducible refine Below.alloc ?_ (by first | exact Nat.le_refl _ | omega | (simp; done) | (simp; omega)) _ | with_reducible refine Below.setCell ?_ (by first | exact Nat.le_refl _ | omega | (simp; done) | (simp; omega)) _)))⟩ ?_
  rw [hBa]
  have hb0 : w.heap.size + 1 < Ba := by omega
  clear hBa cq fq lq cr fr lr HRr HRQ HX
  rintro w2 ⟨⟨Rq, Rr, Ra, Rb, Rc⟩, hX⟩
  have HX := Lib.hid hX
  have HRr := Lib.hid Rr
  have HRa := Lib.hid Ra
  have HRb := Lib.hid Rb
  have HRc := Lib.hid Rc
  have cq := Rq.cell
  have fq := Rq.frozen
  have lq := Rq.lt
  have ca := Ra.cell
  have fa := Ra.frozen
  have la := Ra.lt
  have cb := Rb.cell
  have fb := Rb.frozen
  have lb := Rb.lt
  have cc := Rc.cell
  have fc := Rc.frozen
  have lc := Rc.lt
  clear Rq Rr Ra Rb Rc hX
  go_upto_region 9 with fail
  obtain ⟨Bd, hBd⟩ : ∃ b, w2.heap.size = b := ⟨_, rfl⟩
  refine wp_abs (F := fun w3 => (Row w3 (w.heap.size + 1) #[.int .i64 x0, .int .i64 y0, .int .i64 x1, .int .i64 y1] 29 ∧ Row w3 Ba #[.int .i64 (a0), .int .i64 (a1), .int .i64 0, .int .i64 0, .int .i64 0, .int .i64 0, .int .i64 0] 41 ∧ Row w3 (Ba + 1) #[.int .i64 (a0 + u0), .int .i64 (a1 + u1), .int .i64 0, .int .i64 0, .int .i64 0, .int .i64 0, .int .i64 0] 41 ∧ Row w3 (Ba + 1 + 1) #[.int .i64 (a0 + u0 + v0), .int .i64 (a1 + u1 + v1), .int .i64 0, .int .i64 0, .int .i64 0, .int .i64 0, .int .i64 0] 41 ∧ Row w3 Bd #[.int .i64 (a0 + v0), .int .i64 (a1 + v1), .int .i64 0, .int .i64 0, .int .i64 0, .int .i64 0, .int .i64 0] 41 ∧ Row w3 (Bd + 1) #[.int .i64 (a0 + u0 + v0 + v0), .int .i64 (a1 + u1 + v1 + v1), .int .i64 0, .int .i64 0, .int .i64 0, .int .i64 0, .int .i64 0] 41 ∧ Row w3 (Bd + 1 + 1) #[.int .i64 (a0 + v0 + v0), .int .i64 (a1 + v1 + v1), .int .i64 0, .int .i64 0, .int .i64 0, .int .i64 0, .int .i64 0] 41) ∧ ∃ X, w3 = w.ext X) ⟨by rw [← hBd]; exact ⟨by (repeat (first | with_reducible exact HRr.out | with_reducible refine Row.ext ?_ _ | with_reducible refine row_drew ?_ | with_reducible refine Row.alloc ?_ _)), by (repeat (first | with_reducible exact HRa.out | with_reducible refine Row.ext ?_ _ | with_reducible refine row_drew ?_ | with_reducible refine Row.alloc ?_ _)), by (repeat (first | with_reducible exact HRb.out | with_reducible refine Row.ext ?_ _ | with_reducible refine row_drew ?_ | with_reducible refine Row.alloc ?_ _)), by (repeat (first | with_reducible exact HRc.out | with_reducible refine Row.ext ?_ _ | with_reducible refine row_drew ?_ | with_reducible refine Row.alloc ?_ _)), by (repeat (first | assumption | with_reducible refine Row.ext ?_ _ | with_reducible refine row_drew ?_ | (with_reducible refine row_last ?_; first | rfl | (simp; done)) | with_reducible refine Row.alloc ?_ _)), by (repeat (first | assumption | with_reducible refine Row.ext ?_ _ | with_reducible refine row_drew ?_ | (with_reducible refine row_last ?_; first | rfl | (simp; done)) | with_reducible refine Row.alloc ?_ _)), by (repeat (first | assumption | with_reducible refine Row.ext ?_ _ | with_reducible refine row_drew ?_ | (with_reducible refine row_last ?_; first | rfl | (simp; done)) | with_reducible refine Row.alloc ?_ _))⟩, by obtain ⟨X0, hX0⟩ := HX.out; subst hX0; exact RowKit.Below.toExt (by (repeat (first | with_reducible assumption | with_reducible exact Below.refl _ _ | with_reducible refine Below.drew ?_ | with_reducible refine Below.ext ?_ (by first | exact Nat.le_refl _ | omega | (simp; done) | (simp; omega)) _ | with_reducible refine Below.alloc ?_ (by first | exact Nat.le_refl _ | omega | (simp; done) | (simp; omega)) _ | with_reducible refine Below.setCell ?_ (by first | exact Nat.le_refl _ | omega | (simp; done) | (simp; omega)) _)))⟩ ?_
  rw [hBd]
  have hb1 : w.heap.size + 1 < Bd := by omega
  clear hBd cq fq lq ca fa la cb fb lb cc fc lc HRr HRa HRb HRc HX
  rintro w3 ⟨⟨Rr, Ra, Rb, Rc, Rd, Re, Rf⟩, hX⟩
  rw [Hax.out, Hay.out] at Ra
  rw [Hbx.out, Hb_y.out] at Rb
  rw [Hcx.out, Hcy.out] at Rc
  rw [Hdx.out, Hdy.out] at Rd
  rw [Hex.out, Hey.out] at Re
  rw [Hfx.out, Hfy.out] at Rf
  have HX := Lib.hid hX
  have HRr := Lib.hid Rr
  have HRa := Lib.hid Ra
  have HRb := Lib.hid Rb
  have HRc := Lib.hid Rc
  have HRd := Lib.hid Rd
  have HRe := Lib.hid Re
  have HRf := Lib.hid Rf
  clear Rr Ra Rb Rc Rd Re Rf hX
  go_wp2
  obtain ⟨wm, e1, hm, hXm⟩ := make_bools 4 4 rfl (by decide) w3
  rw [e1]
  clear e1
  obtain ⟨Xm, rfl⟩ := hXm
  have HM := Lib.hid hm
  clear hm
  go_upto_region 10 with fail
  obtain ⟨Bm, hBm⟩ : ∃ b, w3.heap.size = b := ⟨_, rfl⟩
  rw [hBm] at HM ⊢
  have hb2 : w.heap.size + 1 < Bm := by have := HRd.out.lt; omega
  clear hBm
  refine wp_abs (F := fun w4 => (Row w4 (w.heap.size + 1) #[.int .i64 x0, .int .i64 y0, .int .i64 x1, .int .i64 y1] 29 ∧ Row w4 Ba #[.int .i64 (ax), .int .i64 (ay), .int .i64 0, .int .i64 0, .int .i64 0, .int .i64 0, .int .i64 0] 41 ∧ Row w4 (Ba + 1) #[.int .i64 (bx), .int .i64 (b_y), .int .i64 0, .int .i64 0, .int .i64 0, .int .i64 0, .int .i64 0] 41 ∧ Row w4 (Ba + 1 + 1) #[.int .i64 (cx), .int .i64 (cy), .int .i64 0, .int .i64 0, .int .i64 0, .int .i64 0, .int .i64 0] 41 ∧ Row w4 Bd #[.int .i64 (dx), .int .i64 (dy), .int .i64 0, .int .i64 0, .int .i64 0, .int .i64 0, .int .i64 0] 41 ∧ Row w4 (Bd + 1) #[.int .i64 (ex), .int .i64 (ey), .int .i64 0, .int .i64 0, .int .i64 0, .int .i64 0, .int .i64 0] 41 ∧ Row w4 (Bd + 1 + 1) #[.int .i64 (fx), .int .i64 (fy), .int .i64 0, .int .i64 0, .int .i64 0, .int .i64 0, .int .i64 0] 41) ∧ Recs boK w4 (.slice (some ⟨Bm, 0, none⟩) 4 4) no4 ∧ ∃ X, w4 = w.ext X) ⟨⟨by (repeat (first | with_reducible exact HRr.out | with_reducible refine Row.ext ?_ _ | with_reducible refine row_drew ?_ | with_reducible refine Row.alloc ?_ _)), by (repeat (first | with_reducible exact HRa.out | with_reducible refine Row.ext ?_ _ | with_reducible refine row_drew ?_ | with_reducible refine Row.alloc ?_ _)), by (repeat (first | with_reducible exact HRb.out | with_reducible refine Row.ext ?_ _ | with_reducible refine row_drew ?_ | with_reducible refine Row.alloc ?_ _)), by (repeat (first | with_reducible exact HRc.out | with_reducible refine Row.ext ?_ _ | with_reducible refine row_drew ?_ | with_reducible refine Row.alloc ?_ _)), by (repeat (first | with_reducible exact HRd.out | with_reducible refine Row.ext ?_ _ | with_reducible refine row_drew ?_ | with_reducible refine Row.alloc ?_ _)), by (repeat (first | with_reducible exact HRe.out | with_reducible refine Row.ext ?_ _ | with_reducible refine row_drew ?_ | with_reducible refine Row.alloc ?_ _)), by (repeat (first | with_reducible exact HRf.out | with_reducible refine Row.ext ?_ _ | with_reducible refine row_drew ?_ | with_reducible refine Row.alloc ?_ _))⟩, HM.out, by obtain ⟨X0, hX0⟩ := HX.out; subst hX0; exact RowKit.Below.toExt (by (repeat (first | with_reducible assumption | with_reducible exact Below.refl _ _ | with_reducible refine Below.drew ?_ | with_reducible refine Below.ext ?_ (by first | exact Nat.le_refl _ | omega | (simp; done) | (simp; omega)) _ | with_reducible refine Below.alloc ?_ (by first | exact Nat.le_refl _ | omega | (simp; done) | (simp; omega)) _ | with_reducible refine Below.setCell ?_ (by first | exact Nat.le_refl _ | omega | (simp; done) | (simp; omega)) _)))⟩ ?_
  clear HX HM HRr HRa HRb HRc HRd HRe HRf
  rintro w4 ⟨⟨Rr, Ra, Rb, Rc, Rd, Re, Rf⟩, hm, hX⟩
  have HX := Lib.hid hX
  have HM := Lib.hid hm
  have HRr := Lib.hid Rr
  have HRa := Lib.hid Ra
  have HRb := Lib.hid Rb
  have HRc := Lib.hid Rc
  have HRd := Lib.hid Rd
  have HRe := Lib.hid Re
  have HRf := Lib.hid Rf
  have cr := Rr.cell
  have fr := Rr.frozen
  have lr := Rr.lt
  have ca := Ra.cell
  have fa := Ra.frozen
  have la := Ra.lt
  have cb := Rb.cell
  have fb := Rb.frozen
  have lb := Rb.lt
  have cc := Rc.cell
  have fc := Rc.frozen
  have lc := Rc.lt
  have cd := Rd.cell
  have fd := Rd.frozen
  have ld := Rd.lt
  have ce := Re.cell
  have fe := Re.frozen
  have le := Re.lt
  have cf := Rf.cell
  have ff := Rf.frozen
  have lf := Rf.lt
  clear Rr Ra Rb Rc Rd Re Rf hX hm
  refine wp_region_rel 18 [none, none, none, none, some ([], srR wnK [⟨ax, ay, 0, 0, 0, 0, 0⟩, ⟨bx, b_y, 0, 0, 0, 0, 0⟩, ⟨cx, cy, 0, 0, 0, 0, 0⟩, ⟨dx, dy, 0, 0, 0, 0, 0⟩]), none, some ([], srV look22.v), none, some ([4], srO frK w4.heap.size 57 T1), none, none, none, none, some ([], srR wnK [⟨dx, dy, 0, 0, 0, 0, 0⟩, ⟨cx, cy, 0, 0, 0, 0, 0⟩, ⟨ex, ey, 0, 0, 0, 0, 0⟩, ⟨fx, fy, 0, 0, 0, 0, 0⟩]), none, some ([], srV look22.v), none, some ([13], srO frK w4.heap.size 57 T2)] (by kernel_rfl) (by kernel_rfl) ?_
  simp only [List.take_succ_cons, List.take_zero, List.drop_succ_cons, List.drop_zero]
  (repeat (first | (refine rel_none ?_; intro K_ hK_; go_big_quiet_op; go_big_quiet_on) | simp only [Act.put, List.setIfInBounds_toArray, List.set_cons_zero, List.set_cons_succ]))
  refine rel_some rfl (fun w_ hw_ hk_ K_ hK_ => ?_) (fun v4 f4 => ?_)
  · obtain ⟨X_, rfl⟩ := hw_
    go_simp
    exact hK_ _ _ (recs_lit (K := wnK) (by simp) [⟨ax, ay, 0, 0, 0, 0, 0⟩, ⟨bx, b_y, 0, 0, 0, 0, 0⟩, ⟨cx, cy, 0, 0, 0, 0, 0⟩, ⟨dx, dy, 0, 0, 0, 0, 0⟩] _ rfl _ (by simp)) new_X
  obtain ⟨qa4, qc4, rfl⟩ := f4
  (repeat (first | (refine rel_none ?_; intro K_ hK_; go_big_quiet_op; go_big_quiet_on) | simp only [Act.put, List.setIfInBounds_toArray, List.set_cons_zero, List.set_cons_succ]))
  refine rel_some rfl (fun w_ hw_ hk_ K_ hK_ => ?_) (fun v6 f6 => ?_)
  · obtain ⟨X_, rfl⟩ := hw_
    go_simp
    go_at_call 31
    refine (look22_any _).mono ?_
    rintro _ _ ⟨rfl, hX⟩
    exact hK_ _ _ rfl hX
  obtain rfl := f6
  (repeat (first | (refine rel_none ?_; intro K_ hK_; go_big_quiet_op; go_big_quiet_on) | simp only [Act.put, List.setIfInBounds_toArray, List.set_cons_zero, List.set_cons_succ]))
  refine rel_some rfl (fun w_ hw_ hk_ K_ hK_ => ?_) (fun v8 f8 => ?_)
  · obtain ⟨X_, rfl⟩ := hw_
    have h0 : Recs wnK (w4.ext X_) (.slice qa4 4 qc4) [⟨ax, ay, 0, 0, 0, 0, 0⟩, ⟨bx, b_y, 0, 0, 0, 0, 0⟩, ⟨cx, cy, 0, 0, 0, 0, 0⟩, ⟨dx, dy, 0, 0, 0, 0, 0⟩] := (hk_ (4, _) (by repeat (first | exact List.mem_cons_self | refine List.mem_cons_of_mem _ ?_))) (by simp)
    go_simp
    go_at_call 18
    with_reducible refine (D1.out _ _ _ h0 (HM.out.ext _)).mono ?_
    rintro _ _ ⟨v, rfl, h1, h2⟩
    exact hK_ _ _ ⟨h1.1, own_mono h1.2 (by simp)⟩ h2
  obtain ⟨fa8, fc8, rfl⟩ := f8
  (repeat (first | (refine rel_none ?_; intro K_ hK_; go_big_quiet_op; go_big_quiet_on) | simp only [Act.put, List.setIfInBounds_toArray, List.set_cons_zero, List.set_cons_succ]))
  refine rel_some rfl (fun w_ hw_ hk_ K_ hK_ => ?_) (fun v13 f13 => ?_)
  · obtain ⟨X_, rfl⟩ := hw_
    go_simp
    exact hK_ _ _ (recs_lit (K := wnK) (by simp) [⟨dx, dy, 0, 0, 0, 0, 0⟩, ⟨cx, cy, 0, 0, 0, 0, 0⟩, ⟨ex, ey, 0, 0, 0, 0, 0⟩, ⟨fx, fy, 0, 0, 0, 0, 0⟩] _ rfl _ (by simp)) new_X
  obtain ⟨qa13, qc13, rfl⟩ := f13
  (repeat (first | (refine rel_none ?_; intro K_ hK_; go_big_quiet_op; go_big_quiet_on) | simp only [Act.put, List.setIfInBounds_toArray, List.set_cons_zero, List.set_cons_succ]))
  refine rel_some rfl (fun w_ hw_ hk_ K_ hK_ => ?_) (fun v15 f15 => ?_)
  · obtain ⟨X_, rfl⟩ := hw_
    go_simp
    go_at_call 31
    refine (look22_any _).mono ?_
    rintro _ _ ⟨rfl, hX⟩
    exact hK_ _ _ rfl hX
  obtain rfl := f15
  (repeat (first | (refine rel_none ?_; intro K_ hK_; go_big_quiet_op; go_big_quiet_on) | simp only [Act.put, List.setIfInBounds_toArray, List.set_cons_zero, List.set_cons_succ]))
  refine rel_some rfl (fun w_ hw_ hk_ K_ hK_ => ?_) (fun v17 f17 => ?_)
  · obtain ⟨X_, rfl⟩ := hw_
    have h0 : Recs wnK (w4.ext X_) (.slice qa13 4 qc13) [⟨dx, dy, 0, 0, 0, 0, 0⟩, ⟨cx, cy, 0, 0, 0, 0, 0⟩, ⟨ex, ey, 0, 0, 0, 0, 0⟩, ⟨fx, fy, 0, 0, 0, 0, 0⟩] := (hk_ (13, _) (by repeat (first | exact List.mem_cons_self | refine List.mem_cons_of_mem _ ?_))) (by simp)
    go_simp
    go_at_call 18
    with_reducible refine (D2.out _ _ _ h0 (HM.out.ext _)).mono ?_
    rintro _ _ ⟨v, rfl, h1, h2⟩
    exact hK_ _ _ ⟨h1.1, own_mono h1.2 (by simp)⟩ h2
  obtain ⟨fa17, fc17, rfl⟩ := f17
  (repeat (first | (refine rel_none ?_; intro K_ hK_; go_big_quiet_op; go_big_quiet_on) | simp only [Act.put, List.setIfInBounds_toArray, List.set_cons_zero, List.set_cons_succ]))
  refine rel_nil ?_
  intro w_ hw_ kk
  obtain ⟨X, rfl⟩ := hw_
  have g1 : Recs frK (w4.ext X) (.slice fa8 T1.length fc8) T1 ∧ (w4.ext X).ownsRow w4.heap.size 57 frK.k (.slice fa8 T1.length fc8) T1.length (T1.flatMap frK.cells) := (kk (8, _) (by repeat (first | exact List.mem_cons_self | refine List.mem_cons_of_mem _ ?_)))
  have g2 : Recs frK (w4.ext X) (.slice fa17 T2.length fc17) T2 ∧ (w4.ext X).ownsRow w4.heap.size 57 frK.k (.slice fa17 T2.length fc17) T2.length (T2.flatMap frK.cells) := (kk (17, _) (by repeat (first | exact List.mem_cons_self | refine List.mem_cons_of_mem _ ?_)))
  have H0 : Hold frK w4 (w4.ext X) 57 [(w.heap.size + 1, #[.int .i64 x0, .int .i64 y0, .int .i64 x1, .int .i64 y1], 29), (Ba, #[.int .i64 (ax), .int .i64 (ay), .int .i64 0, .int .i64 0, .int .i64 0, .int .i64 0, .int .i64 0], 41), ((Ba + 1), #[.int .i64 (bx), .int .i64 (b_y), .int .i64 0, .int .i64 0, .int .i64 0, .int .i64 0, .int .i64 0], 41), ((Ba + 1 + 1), #[.int .i64 (cx), .int .i64 (cy), .int .i64 0, .int .i64 0, .int .i64 0, .int .i64 0, .int .i64 0], 41), (Bd, #[.int .i64 (dx), .int .i64 (dy), .int .i64 0, .int .i64 0, .int .i64 0, .int .i64 0, .int .i64 0], 41), ((Bd + 1), #[.int .i64 (ex), .int .i64 (ey), .int .i64 0, .int .i64 0, .int .i64 0, .int .i64 0, .int .i64 0], 41), ((Bd + 1 + 1), #[.int .i64 (fx), .int .i64 (fy), .int .i64 0, .int .i64 0, .int .i64 0, .int .i64 0, .int .i64 0], 41)] (.slice fa8 T1.length fc8) T1 := ⟨List.forall_mem_cons.2 ⟨HRr.out.ext X, List.forall_mem_cons.2 ⟨HRa.out.ext X, List.forall_mem_cons.2 ⟨HRb.out.ext X, List.forall_mem_cons.2 ⟨HRc.out.ext X, List.forall_mem_cons.2 ⟨HRd.out.ext X, List.forall_mem_cons.2 ⟨HRe.out.ext X, List.forall_mem_cons.2 ⟨HRf.out.ext X, by simp⟩⟩⟩⟩⟩⟩⟩, by simp, g1.2, ⟨_, rfl⟩⟩
  have HH0 := Lib.hid H0
  have G2 := Lib.hid g2.1
  have LB1 := Lib.hid (show T1.length + T2.length ≤ maxLen by have := HB1.out; have := HB2.out; unfold maxLen; omega)
  have LB2 := Lib.hid (show (T1.length + T2.length) * 64 ≤ 140737488355328 by have := HB1.out; have := HB2.out; omega)
  have LB3 := Lib.hid (show (T1 ++ T2).length ≤ 1099511627776 by have := HB1.out; have := HB2.out; rw [List.length_append]; omega)
  obtain ⟨i0, hii, hz0, hz1, hz2⟩ := info_parts info_fr22
  clear kk g1 g2 H0
  go_upto_region 11 with (first
    | (at_builtin; refine wpList_append_recs (K := frK) rfl _ _ 36 rfl w4.heap.size 57 i0 (.agg #[.int .i64 0, .int .i64 0, .int .i64 0, .int .i64 0, .int .i64 0, .int .i64 0, .int .i64 0, .int .i64 0]) 64 Tryz.underlying36 hii hz0 hz1 hz2 rfl (.slice fa8 T1.length fc8) T1 rfl HH0.out.own (.slice fa17 T2.length fc17) T2 rfl G2.out LB1.out LB2.out (by simp) ?_; intro v' w5 hown hgrow; have h5 := Lib.hid (HH0.out.more hown hgrow); have hq := own_recs hown LB3.out; have HQ := Lib.hid hq; obtain ⟨-, aq, cq, rfl, -, -⟩ := hq; clear hown hgrow))
  have hl2 := LB3.out
  obtain ⟨T, hT⟩ : ∃ T, T1 ++ T2 = T := ⟨_, rfl⟩
  simp only [hT] at h5 HQ HOn HLen hl2
  have hTl : T1.length + T2.length = T.length := by rw [← hT, List.length_append]
  rw [hTl]
  clear hTl
  refine wp_abs (F := fun w6 => (Row w6 (w.heap.size + 1) #[.int .i64 x0, .int .i64 y0, .int .i64 x1, .int .i64 y1] 29 ∧ Row w6 Ba #[.int .i64 (ax), .int .i64 (ay), .int .i64 0, .int .i64 0, .int .i64 0, .int .i64 0, .int .i64 0] 41 ∧ Row w6 (Ba + 1) #[.int .i64 (bx), .int .i64 (b_y), .int .i64 0, .int .i64 0, .int .i64 0, .int .i64 0, .int .i64 0] 41 ∧ Row w6 (Ba + 1 + 1) #[.int .i64 (cx), .int .i64 (cy), .int .i64 0, .int .i64 0, .int .i64 0, .int .i64 0, .int .i64 0] 41 ∧ Row w6 Bd #[.int .i64 (dx), .int .i64 (dy), .int .i64 0, .int .i64 0, .int .i64 0, .int .i64 0, .int .i64 0] 41 ∧ Row w6 (Bd + 1) #[.int .i64 (ex), .int .i64 (ey), .int .i64 0, .int .i64 0, .int .i64 0, .int .i64 0, .int .i64 0] 41 ∧ Row w6 (Bd + 1 + 1) #[.int .i64 (fx), .int .i64 (fy), .int .i64 0, .int .i64 0, .int .i64 0, .int .i64 0, .int .i64 0] 41) ∧ Recs frK w6 (.slice aq T.length cq) T ∧ ∃ X, w6 = w.ext X) ⟨⟨h5.out.rows _ List.mem_cons_self, h5.out.rows _ (List.mem_cons_of_mem _ List.mem_cons_self), h5.out.rows _ (List.mem_cons_of_mem _ (List.mem_cons_of_mem _ List.mem_cons_self)), h5.out.rows _ (List.mem_cons_of_mem _ (List.mem_cons_of_mem _ (List.mem_cons_of_mem _ List.mem_cons_self))), h5.out.rows _ (List.mem_cons_of_mem _ (List.mem_cons_of_mem _ (List.mem_cons_of_mem _ (List.mem_cons_of_mem _ List.mem_cons_self)))), h5.out.rows _ (List.mem_cons_of_mem _ (List.mem_cons_of_mem _ (List.mem_cons_of_mem _ (List.mem_cons_of_mem _ (List.mem_cons_of_mem _ List.mem_cons_self))))), h5.out.rows _ (List.mem_cons_of_mem _ (List.mem_cons_of_mem _ (List.mem_cons_of_mem _ (List.mem_cons_of_mem _ (List.mem_cons_of_mem _ (List.mem_cons_of_mem _ List.mem_cons_self))))))⟩, HQ.out, by obtain ⟨X1, hX1⟩ := h5.out.ext; obtain ⟨X0, hX0⟩ := HX.out; subst hX0; subst hX1; exact RowKit.Below.toExt (by (repeat (first | with_reducible assumption | with_reducible exact Below.refl _ _ | with_reducible refine Below.drew ?_ | with_reducible refine Below.ext ?_ (by first | exact Nat.le_refl _ | omega | (simp; done) | (simp; omega)) _ | with_reducible refine Below.alloc ?_ (by first | exact Nat.le_refl _ | omega | (simp; done) | (simp; omega)) _ | with_reducible refine Below.setCell ?_ (by first | exact Nat.le_refl _ | omega | (simp; done) | (simp; omega)) _)))⟩ ?_
  clear HH0 G2 LB1 LB2 LB3 h5 HQ HX HM hii hz0 hz1 hz2 D1 D2 HB1 HB2 hT HRr HRa HRb HRc HRd HRe HRf cr fr lr ca fa la cb fb lb cc fc lc cd fd ld ce fe le cf ff lf
  rintro w6 ⟨⟨Rr, Ra, Rb, Rc, Rd, Re, Rf⟩, ⟨-, av', cap', hqq, -, hcl⟩, hX⟩
  obtain ⟨rfl, rfl⟩ : aq = av' ∧ cq = cap' := by simpa using hqq
  have HX := Lib.hid hX
  have HCL := Lib.hid hcl
  have cr := Rr.cell
  have fr := Rr.frozen
  have lr := Rr.lt
  have ca := Ra.cell
  have fa := Ra.frozen
  have la := Ra.lt
  have cb := Rb.cell
  have fb := Rb.frozen
  have lb := Rb.lt
  have cc := Rc.cell
  have fc := Rc.frozen
  have lc := Rc.lt
  have ce := Re.cell
  have fe := Re.frozen
  have le := Re.lt
  have cf := Rf.cell
  have ff := Rf.frozen
  have lf := Rf.lt
  clear Rr Ra Rb Rc Rd Re Rf hX hqq hcl
  go_wp2
  go_loopw [13] (fun i wr => ∃ (k : Nat), k ≤ T.length ∧ i = .int .i64 k ∧ ∃ X, wr = w6.ext X)
    (fun i _ => T.length - (intOf i).toNat)
  case atStart => exact ⟨0, by omega, rfl, _, (ext_none' _).symm⟩
  case round =>
    obtain ⟨k, hk, rfl, X, rfl⟩ := hrel
    by_cases hlt : k < T.length
    · have HKL := Lib.hid (show k + 1 ≤ T.length from hlt)
      obtain ⟨f, hf⟩ : ∃ f, T[k]? = some f := ⟨_, List.getElem?_eq_getElem hlt⟩
      rcases HCL.out with e | ⟨lb, lo, rfl, hlb, hcl⟩
      · rw [e] at hlt; simp at hlt
      have g0 : w6.cell? ⟨lb, lo + k * 8, none⟩ = some (.int .i64 f.x) := hcl k _ hf 0 _ rfl
      have g1 : w6.cell? ⟨lb, lo + k * 8 + 1, none⟩ = some (.int .i64 f.y) := hcl k _ hf 1 _ rfl
      have hki : (k : Int) < T.length := by omega
      have HOf := Lib.hid (fun (j : Nat) (g : FrP) (hg : T[j]? = some g) (hjk : j < k) => (by
        obtain ⟨h1, e1⟩ := List.getElem?_eq_some_iff.1 hg
        obtain ⟨h2, e2⟩ := List.getElem?_eq_some_iff.1 hf
        have := List.pairwise_iff_getElem.1 HOn.out j k h1 h2 hjk
        rw [e1, e2] at this
        exact this : offQ g f))
      have HCc := Lib.hid hcl
      clear hf hcl
      obtain ⟨fx, fy, fz, q1', q2', q3', q4', q5'⟩ := f
      simp only at g0 g1 HOf
      go_wp2
      go_loopw [14] (fun i wr => ∃ (j : Nat), j ≤ k ∧ i = .int .i64 j ∧ ∃ X, wr = w6.ext X)
        (fun i _ => k - (intOf i).toNat)
      case atStart => exact ⟨0, by omega, rfl, _, rfl⟩
      case round =>
        obtain ⟨j, hj, rfl, X, rfl⟩ := hrel
        by_cases hjk : j < k
        · have HJK := Lib.hid (show j + 1 ≤ k from hjk)
          obtain ⟨g, hg⟩ : ∃ g, T[j]? = some g := ⟨_, List.getElem?_eq_getElem (show j < T.length by omega)⟩
          have hof := HOf.out j g hg hjk
          have d0 : w6.cell? ⟨lb, lo + j * 8, none⟩ = some (.int .i64 g.x) := HCc.out j _ hg 0 _ rfl
          have d1 : w6.cell? ⟨lb, lo + j * 8 + 1, none⟩ = some (.int .i64 g.y) := HCc.out j _ hg 1 _ rfl
          have hji : (j : Int) < k := by omega
          have hjl : (j : Int) < T.length := by omega
          obtain ⟨gx, gy, gz, p1', p2', p3', p4', p5'⟩ := g
          unfold offQ at hof
          simp only at d0 d1 hof
          clear hg
          by_cases e : fx = gx
          · have z1 : (fx == gx) = true := by simp [e]
            have z2 : (fy == gy) = false := by simp; intro e'; exact hof ⟨e.symm, e'.symm⟩
            clear hof e
            go_wp2
            refine wp_region_ext (by kernel_rfl) (by kernel_rfl) ?_
            repeat (go_big_quiet_step ((fail)))
            refine wpQuiet_nil ?_
            intro _ hw_ext
            obtain ⟨Y, hw_ext⟩ := hw_ext
            subst hw_ext
            go_wp2
            go_roundw
            case rel => exact ⟨j + 1, HJK.out, by go_num, RowKit.Below.toExt (by (repeat (first | with_reducible assumption | with_reducible exact Below.refl _ _ | with_reducible refine Below.drew ?_ | with_reducible refine Below.ext ?_ (by first | exact Nat.le_refl _ | omega | (simp; done) | (simp; omega)) _ | with_reducible refine Below.alloc ?_ (by first | exact Nat.le_refl _ | omega | (simp; done) | (simp; omega)) _ | with_reducible refine Below.setCell ?_ (by first | exact Nat.le_refl _ | omega | (simp; done) | (simp; omega)) _)))⟩
            case measure => have := HJK.out; simp [intOf]; omega
          · have z1 : (fx == gx) = false := by simp [e]
            clear hof e
            go_wp2
            refine wp_region_ext (by kernel_rfl) (by kernel_rfl) ?_
            repeat (go_big_quiet_step ((fail)))
            refine wpQuiet_nil ?_
            intro _ hw_ext
            obtain ⟨Y, hw_ext⟩ := hw_ext
            subst hw_ext
            go_wp2
            go_roundw
            case rel => exact ⟨j + 1, HJK.out, by go_num, RowKit.Below.toExt (by (repeat (first | with_reducible assumption | with_reducible exact Below.refl _ _ | with_reducible refine Below.drew ?_ | with_reducible refine Below.ext ?_ (by first | exact Nat.le_refl _ | omega | (simp; done) | (simp; omega)) _ | with_reducible refine Below.alloc ?_ (by first | exact Nat.le_refl _ | omega | (simp; done) | (simp; omega)) _ | with_reducible refine Below.setCell ?_ (by first | exact Nat.le_refl _ | omega | (simp; done) | (simp; omega)) _)))⟩
            case measure => have := HJK.out; simp [intOf]; omega
        · obtain rfl : j = k := by omega
          go_wp2
          go_roundw
          case rel => exact ⟨j + 1, HKL.out, by go_num, RowKit.Below.toExt (by (repeat (first | with_reducible assumption | with_reducible exact Below.refl _ _ | with_reducible refine Below.drew ?_ | with_reducible refine Below.ext ?_ (by first | exact Nat.le_refl _ | omega | (simp; done) | (simp; omega)) _ | with_reducible refine Below.alloc ?_ (by first | exact Nat.le_refl _ | omega | (simp; done) | (simp; omega)) _ | with_reducible refine Below.setCell ?_ (by first | exact Nat.le_refl _ | omega | (simp; done) | (simp; omega)) _)))⟩
          case measure => have := HKL.out; simp [intOf]; omega
    · obtain rfl : k = T.length := by omega
      clear HOn HCL
      go_wp2
      go_loopw [16, 15] (fun i o wr => ∃ (y : Int) (n : Nat), y0 ≤ y ∧ y ≤ y1 ∧ i = .int .i64 y ∧ o = .int .i64 n ∧ Hid (n = (pxTo J x0 x1 y0 y).length) ∧ n ≤ 70368744177664 ∧ ∃ X, wr = w6.ext X)
        (fun i _ _ => (y1 - intOf i).toNat)
      case atStart => exact ⟨y0, 0, by omega, by omega, rfl, rfl, Lib.hid (pxTo_nil J x0 x1 y0).symm, by omega, _, rfl⟩
      case round =>
        obtain ⟨y, n, hy0, hy1, rfl, rfl, hn, hnb, X, rfl⟩ := hrel
        by_cases hyl : y < y1
        · go_wp2
          go_loopw [17, 15] (fun i o wr => ∃ (x : Int) (m : Nat), x0 ≤ x ∧ x ≤ x1 ∧ i = .int .i64 x ∧ o = .int .i64 m ∧ Hid (m = n + (pxRw J y x0 x).length) ∧ (m : Int) ≤ n + (x - x0) ∧ ∃ X, wr = w6.ext X)
            (fun i _ _ => (x1 - intOf i).toNat)
          case atStart => exact ⟨x0, n, by omega, by omega, rfl, rfl, Lib.hid (by rw [pxRw_nil]; rfl), by omega, _, rfl⟩
          case round =>
            obtain ⟨x, m, hx0, hx1, rfl, rfl, hm, hmb, X, rfl⟩ := hrel
            by_cases hxl : x < x1
            · have nr : Near x y := ⟨by omega, by omega, by omega, by omega⟩
              have S := pxRw_snoc J y x0 x hx0
              have ot := OT.out x y
              have Q1 := J1.out x y nr
              have Q2 := J2.out x y nr
              have Q3 := J3.out x y nr
              clear nr
              generalize decide (triHas ⟨bx, b_y, 0, 0, 0, 0, 0⟩ ⟨cx, cy, 0, 0, 0, 0, 0⟩ ⟨fx, fy, 0, 0, 0, 0, 0⟩ x y) = j1 at *
              generalize decide (triHas ⟨ax, ay, 0, 0, 0, 0, 0⟩ ⟨bx, b_y, 0, 0, 0, 0, 0⟩ ⟨fx, fy, 0, 0, 0, 0, 0⟩ x y) = j2 at *
              generalize decide (triHas ⟨cx, cy, 0, 0, 0, 0, 0⟩ ⟨ex, ey, 0, 0, 0, 0, 0⟩ ⟨fx, fy, 0, 0, 0, 0, 0⟩ x y) = j3 at *
              have Q1 := Lib.hid Q1
              have Q2 := Lib.hid Q2
              have Q3 := Lib.hid Q3
              cases j1
              · cases j2
                · cases j3
                  · have nxt := Lib.hid (show m + 0 = n + (pxRw J y x0 (x + 1)).length by have := hm.out; rw [S, ot]; simp; omega)
                    clear S ot hm
                    go_wp2_with (first | (go_at_call 32; (with_reducible refine (Q1.out _).mono ?_); rintro _ _ ⟨rfl, X_, rfl⟩) | (go_at_call 32; (with_reducible refine (Q2.out _).mono ?_); rintro _ _ ⟨rfl, X_, rfl⟩) | (go_at_call 32; (with_reducible refine (Q3.out _).mono ?_); rintro _ _ ⟨rfl, X_, rfl⟩))
                    go_roundw
                    case rel => exact ⟨x + 1, m + 0, by omega, by omega, by go_num, by go_num, nxt, by omega, RowKit.Below.toExt (by (repeat (first | with_reducible assumption | with_reducible exact Below.refl _ _ | with_reducible refine Below.drew ?_ | with_reducible refine Below.ext ?_ (by first | exact Nat.le_refl _ | omega | (simp; done) | (simp; omega)) _ | with_reducible refine Below.alloc ?_ (by first | exact Nat.le_refl _ | omega | (simp; done) | (simp; omega)) _ | with_reducible refine Below.setCell ?_ (by first | exact Nat.le_refl _ | omega | (simp; done) | (simp; omega)) _)))⟩
                    case measure => simp [intOf]; omega
                  · have nxt := Lib.hid (show m + 1 = n + (pxRw J y x0 (x + 1)).length by have := hm.out; rw [S, ot]; simp; omega)
                    clear S ot hm
                    go_wp2_with (first | (go_at_call 32; (with_reducible refine (Q1.out _).mono ?_); rintro _ _ ⟨rfl, X_, rfl⟩) | (go_at_call 32; (with_reducible refine (Q2.out _).mono ?_); rintro _ _ ⟨rfl, X_, rfl⟩) | (go_at_call 32; (with_reducible refine (Q3.out _).mono ?_); rintro _ _ ⟨rfl, X_, rfl⟩))
                    go_roundw
                    case rel => exact ⟨x + 1, m + 1, by omega, by omega, by go_num, by go_num, nxt, by omega, RowKit.Below.toExt (by (repeat (first | with_reducible assumption | with_reducible exact Below.refl _ _ | with_reducible refine Below.drew ?_ | with_reducible refine Below.ext ?_ (by first | exact Nat.le_refl _ | omega | (simp; done) | (simp; omega)) _ | with_reducible refine Below.alloc ?_ (by first | exact Nat.le_refl _ | omega | (simp; done) | (simp; omega)) _ | with_reducible refine Below.setCell ?_ (by first | exact Nat.le_refl _ | omega | (simp; done) | (simp; omega)) _)))⟩
                    case measure => simp [intOf]; omega
                · have nxt := Lib.hid (show m + 1 = n + (pxRw J y x0 (x + 1)).length by have := hm.out; rw [S, ot]; simp; omega)
                  clear S ot hm
                  go_wp2_with (first | (go_at_call 32; (with_reducible refine (Q1.out _).mono ?_); rintro _ _ ⟨rfl, X_, rfl⟩) | (go_at_call 32; (with_reducible refine (Q2.out _).mono ?_); rintro _ _ ⟨rfl, X_, rfl⟩) | (go_at_call 32; (with_reducible refine (Q3.out _).mono ?_); rintro _ _ ⟨rfl, X_, rfl⟩))
                  go_roundw
                  case rel => exact ⟨x + 1, m + 1, by omega, by omega, by go_num, by go_num, nxt, by omega, RowKit.Below.toExt (by (repeat (first | with_reducible assumption | with_reducible exact Below.refl _ _ | with_reducible refine Below.drew ?_ | with_reducible refine Below.ext ?_ (by first | exact Nat.le_refl _ | omega | (simp; done) | (simp; omega)) _ | with_reducible refine Below.alloc ?_ (by first | exact Nat.le_refl _ | omega | (simp; done) | (simp; omega)) _ | with_reducible refine Below.setCell ?_ (by first | exact Nat.le_refl _ | omega | (simp; done) | (simp; omega)) _)))⟩
                  case measure => simp [intOf]; omega
              · have nxt := Lib.hid (show m + 1 = n + (pxRw J y x0 (x + 1)).length by have := hm.out; rw [S, ot]; simp; omega)
                clear S ot hm
                go_wp2_with (first | (go_at_call 32; (with_reducible refine (Q1.out _).mono ?_); rintro _ _ ⟨rfl, X_, rfl⟩) | (go_at_call 32; (with_reducible refine (Q2.out _).mono ?_); rintro _ _ ⟨rfl, X_, rfl⟩) | (go_at_call 32; (with_reducible refine (Q3.out _).mono ?_); rintro _ _ ⟨rfl, X_, rfl⟩))
                go_roundw
                case rel => exact ⟨x + 1, m + 1, by omega, by omega, by go_num, by go_num, nxt, by omega, RowKit.Below.toExt (by (repeat (first | with_reducible assumption | with_reducible exact Below.refl _ _ | with_reducible refine Below.drew ?_ | with_reducible refine Below.ext ?_ (by first | exact Nat.le_refl _ | omega | (simp; done) | (simp; omega)) _ | with_reducible refine Below.alloc ?_ (by first | exact Nat.le_refl _ | omega | (simp; done) | (simp; omega)) _ | with_reducible refine Below.setCell ?_ (by first | exact Nat.le_refl _ | omega | (simp; done) | (simp; omega)) _)))⟩
                case measure => simp [intOf]; omega
            · obtain rfl : x = x1 := by omega
              have nx := Lib.hid (show m = (pxTo J x0 x y0 (y + 1)).length by rw [pxTo_snoc J x0 x y0 y hy0, hm.out, hn.out])
              have nb := Lib.hid (show m ≤ 70368744177664 by rw [nx.out]; exact pxTo_len J x0 x y0 (y + 1) (by omega) (by omega))
              clear hm
              go_wp2
              go_roundw
              case rel => exact ⟨y + 1, m, by omega, by omega, by go_num, rfl, nx, nb.out, RowKit.Below.toExt (by (repeat (first | with_reducible assumption | with_reducible exact Below.refl _ _ | with_reducible refine Below.drew ?_ | with_reducible refine Below.ext ?_ (by first | exact Nat.le_refl _ | omega | (simp; done) | (simp; omega)) _ | with_reducible refine Below.alloc ?_ (by first | exact Nat.le_refl _ | omega | (simp; done) | (simp; omega)) _ | with_reducible refine Below.setCell ?_ (by first | exact Nat.le_refl _ | omega | (simp; done) | (simp; omega)) _)))⟩
              case measure => simp [intOf]; omega
        · obtain rfl : y = y1 := by omega
          have e : n = T.length := by rw [hn.out]; exact HLen.out.symm
          have he : ((n : Int) == (T.length : Int)) = true := by rw [e]; simp
          clear hn e
          go_wp2_with (first | (go_at_call 14; (with_reducible refine (awake22 _).mono ?_); rintro _ _ ⟨rfl, X_, rfl⟩))
          go_ret
          obtain ⟨X0, hX0⟩ := HX.out
          subst hX0
          exact Ret.of' (by first | rfl | simp) (by (repeat (first | with_reducible assumption | with_reducible exact Below.refl _ _ | with_reducible refine Below.drew ?_ | with_reducible refine Below.ext ?_ (by first | exact Nat.le_refl _ | omega | (simp; done) | (simp; omega)) _ | with_reducible refine Below.alloc ?_ (by first | exact Nat.le_refl _ | omega | (simp; done) | (simp; omega)) _ | with_reducible refine Below.setCell ?_ (by first | exact Nat.le_refl _ | omega | (simp; done) | (simp; omega)) _)))
theorem FaceOnce_all : FaceOnce_stmt := by
  rintro a0 a1 u0 u1 v0 v1 x0 y0 x1 y1 w ⟨h1, h2, h3, h4, h5, h6⟩ -
  by_cases h : ¬ rightP x0 y0 x1 y1 ∨ 200 < areaP x0 y0 x1 y1
  · exact once22_no a0 a1 u0 u1 v0 v1 x0 y0 x1 y1 h w
  · exact once22_in a0 a1 u0 u1 v0 v1 x0 y0 x1 y1 h1 h2 h3 h4 h5 h6 (Classical.byContradiction fun k => h (.inl k)) (by omega) w
theorem FaceOnce_holds : Rows.FaceOnceSaid := FaceOnce_end FaceOnce_all
end Go.Proofs.YtciooaihobnifaaGreat
