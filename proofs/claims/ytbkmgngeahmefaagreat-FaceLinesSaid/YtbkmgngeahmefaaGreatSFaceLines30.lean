/- Parts of the proof of FaceLines, laid together. Conditions: at each. -/
import Derived.Test.YtbkmgngeahmefaaGreatSFaceLines06
import Derived.Test.YtbkmgngeahmefaaGreatSFaceLines24
import Derived.Test.YtbkmgngeahmefaaGreatSFaceLines25
import Derived.Test.YtbkmgngeahmefaaGreatSFaceLines28
import Derived.Test.YtbkmgngeahmefaaGreatSFaceLines29
set_option linter.unusedVariables false
set_option linter.unusedSimpArgs false
section
namespace Go.Proofs.YtbkmgngeahmefaaGreat
open Go.RowKit
theorem side_of {x0 y0 x1 y1 : Int} (hr : rightP x0 y0 x1 y1) (har : areaP x0 y0 x1 y1 ≤ 1048576) : ((x1 - x0).toNat + (y1 - y0).toNat) * 64 ≤ 134217728 := by
  unfold areaP at har
  rw [if_pos hr] at har
  unfold rightP at hr
  have a1 : (x1 - x0) * 1 ≤ (x1 - x0) * (y1 - y0) := Int.mul_le_mul_of_nonneg_left (by omega) (by omega)
  have a2 : 1 * (y1 - y0) ≤ (x1 - x0) * (y1 - y0) := Int.mul_le_mul_of_nonneg_right (by omega) (by omega)
  omega
theorem wline_any (a b : WinP) (n : Int) (dd : Bool) (p r c x0 y0 x1 y1 : Int) (ha : a.wide) (hb : b.wide) (hp : w64 p) (hc : w64 c) (har : areaP x0 y0 x1 y1 ≤ 1048576) (w : World) : Calls Tryz.prog 57 #[a.v, b.v, .int .i64 n, .bool dd, D3 p r c, R4 x0 y0 x1 y1] w (RLine w (wdL a b n dd p r c x0 y0 x1 y1) p r (wdC a b n dd p r c)) := by
  unfold wdL wdC
  by_cases h : lineP a b n p r c
  · by_cases hr : rightP x0 y0 x1 y1
    · rw [if_pos ⟨h, hr⟩, if_pos h]
      cases dd
      · exact wline_in0 a b n p r c x0 y0 x1 y1 ha hb hp hc h hr (side_of hr har) w
      · exact wline_in1 a b n p r c x0 y0 x1 y1 ha hb hp hc h hr (side_of hr har) w
    · rw [if_neg (fun k => hr k.2), if_pos h]
      cases dd
      · exact wline_noR0 a b n p r c x0 y0 x1 y1 ha hb hp hc h hr w
      · exact wline_noR1 a b n p r c x0 y0 x1 y1 ha hb hp hc h hr w
  · rw [if_neg (fun k => h k.1), if_neg h]
    exact wline_no a b n dd p r c x0 y0 x1 y1 ha hb hp hc h w
theorem rwline_any (a b : WinP) (n : Int) (dd : Bool) (p r c x0 y0 x1 y1 : Int) (har : areaP x0 y0 x1 y1 ≤ 1048576) (w : World) : Calls Tryz.prog 59 #[a.v, b.v, .int .i64 n, .bool dd, D3 p r c, R4 x0 y0 x1 y1] w (RLine w (wdL a b n dd p r c x0 y0 x1 y1) p r (wdC a b n dd p r c)) := by
  unfold wdL wdC
  by_cases h : lineP a b n p r c
  · by_cases hr : rightP x0 y0 x1 y1
    · rw [if_pos ⟨h, hr⟩, if_pos h]
      cases dd
      · exact rwline_in0 a b n p r c x0 y0 x1 y1 h hr (side_of hr har) w
      · exact rwline_in1 a b n p r c x0 y0 x1 y1 h hr (side_of hr har) w
    · rw [if_neg (fun k => hr k.2), if_pos h]
      cases dd
      · exact rwline_noR0 a b n p r c x0 y0 x1 y1 h hr w
      · exact rwline_noR1 a b n p r c x0 y0 x1 y1 h hr w
  · rw [if_neg (fun k => h k.1), if_neg h]
    exact rwline_no a b n dd p r c x0 y0 x1 y1 h w
end Go.Proofs.YtbkmgngeahmefaaGreat
end
section
namespace Go.Proofs.YtbkmgngeahmefaaGreat
open Go.RowKit
theorem not_short {w : World} {b : Nat} {c : Array Value} {T : TypeId} {v : Value} {L : List FrP} (hr : Row w b c T) (hc : c.size < 8) (h : Recs frK w v L) : ∀ b', v.ownBlock = some b' → L ≠ [] → b' ≠ b := by
  intro b' hb' hne e
  subst e
  obtain ⟨-, a, cap, rfl, -, h3⟩ := h
  rcases h3 with h3 | ⟨b, off, rfl, -, hcl⟩
  · exact hne h3
  obtain rfl : b = b' := by simpa [Value.ownBlock] using hb'
  obtain ⟨f, L', rfl⟩ := List.exists_cons_of_ne_nil hne
  have q : w.cell? ⟨b, off + 0 * 8 + 7, none⟩ = some (.int .i64 f.cov) := hcl 0 f rfl 7 _ rfl
  rw [hr.cell, Array.getElem?_eq_none (by omega)] at q; cases q
theorem Recs.set1 {α : Type} {K : RecK α} {w : World} {v : Value} {L : List α} {b i : Nat} {u : Value} (h : Recs K w v L) (hb : ∀ b', v.ownBlock = some b' → L ≠ [] → b' ≠ b) : Recs K (w.setCell ⟨b, i, none⟩ u) v L :=
  h.chg (p := fun j => j = b) (Chg.setCell (p := fun j => j = b) Chg.refl (fun _ => rfl) _) (fun b' h1 h2 _ h4 => hb b' h1 h2 h4)
set_option maxRecDepth 100000 in
set_option maxHeartbeats 4000000 in
theorem face_line0 (a b : WinP) (k : LookP) (c x0 y0 x1 y1 : Int) (hs : k.soft = false) (ha : a.wide) (hb : b.wide) (hp : w64 k.p) (hc : w64 c) (har : areaP x0 y0 x1 y1 ≤ 1048576) (w : World) : Calls Tryz.prog 18 #[a.v, b.v, k.v, D3 k.p k.r c, R4 x0 y0 x1 y1] w (RLine w (wdL a b k.width k.dashed k.p k.r c x0 y0 x1 y1) k.p k.r (wdC a b k.width k.dashed k.p k.r c)) := by
  have WI := Lib.hid (fun w => wline_any a b k.width k.dashed k.p k.r c x0 y0 x1 y1 ha hb hp hc har w)
  generalize wdL a b k.width k.dashed k.p k.r c x0 y0 x1 y1 = L at *
  generalize wdC a b k.width k.dashed k.p k.r c = cc at *
  have HS := Lib.hid hs
  clear ha hb hp hc har hs
  go_enter Tryz.func18, Tryz.ntmps18
  go_upto_region 1 with fail
  rw [HS.out]
  refine wp_abs (F := fun w1 => Row w1 w.heap.size #[.int .i64 a.x, .int .i64 a.y, .int .i64 a.z, .int .i64 a.c0, .int .i64 a.c1, .int .i64 a.c2, .int .i64 a.c3] 41 ∧ Row w1 (w.heap.size + 1) #[.int .i64 b.x, .int .i64 b.y, .int .i64 b.z, .int .i64 b.c0, .int .i64 b.c1, .int .i64 b.c2, .int .i64 b.c3] 41 ∧ Row w1 (w.heap.size + 1 + 1) #[.int .i64 k.width, .bool false, .bool k.dashed, .int .i64 k.p, .int .i64 k.r, .int .i64 k.c, .int .i64 k.size, .int .i64 k.kind, .int .i64 k.front, .int .i64 k.back, .bool k.ccw, .int .i64 k.cull, .bool k.off, .int .i64 k.factor, .int .i64 k.units] 27 ∧ Row w1 (w.heap.size + 1 + 1 + 1) #[.int .i64 k.p, .int .i64 k.r, .int .i64 c] 25 ∧ Row w1 (w.heap.size + 1 + 1 + 1 + 1) #[.int .i64 x0, .int .i64 y0, .int .i64 x1, .int .i64 y1] 29 ∧ Row w1 (w.heap.size + 1 + 1 + 1 + 1 + 1) #[.int .i64 0, .int .i64 0, .int .i64 0] 25 ∧ ∃ X, w1 = w.ext X) ⟨by exact rx_, by exact rx_, by exact rx_, by exact rx_, by exact rx_, by exact rx_, RowKit.Below.toExt (by exact bl_)⟩ ?_
  rintro w1 ⟨Ra, Rb, Rk, Rd, Rr, Rz, hX⟩
  have HX := Lib.hid hX
  have HRz := Lib.hid Rz
  have ca := Ra.cell
  have fa := Ra.frozen
  have la := Ra.lt
  have cb := Rb.cell
  have fb := Rb.frozen
  have lb := Rb.lt
  have ck := Rk.cell
  have fk := Rk.frozen
  have lk := Rk.lt
  have cd := Rd.cell
  have fd := Rd.frozen
  have ld := Rd.lt
  have cr := Rr.cell
  have fr := Rr.frozen
  have lr := Rr.lt
  have cz := Rz.cell
  have fz := Rz.frozen
  have lz := Rz.lt
  clear Ra Rb Rk Rd Rr Rz hX
  go_wp2_with (first | (go_at_call 57; (with_reducible refine (WI.out _).mono ?_); rintro _ _ ⟨v1, rfl, hv1, ⟨XF, rfl⟩⟩; have HV1 := Lib.hid hv1; obtain ⟨-, av, cap, rfl, -, -⟩ := hv1))
  have r3 : Row (((w1.setCell ⟨w.heap.size + 1 + 1 + 1 + 1 + 1, 0, none⟩ (.int .i64 k.p)).setCell ⟨w.heap.size + 1 + 1 + 1 + 1 + 1, 1, none⟩ (.int .i64 k.r)).setCell ⟨w.heap.size + 1 + 1 + 1 + 1 + 1, 2, none⟩ (.int .i64 cc)) (w.heap.size + 1 + 1 + 1 + 1 + 1) #[.int .i64 k.p, .int .i64 k.r, .int .i64 cc] 25 := ((HRz.out.set 0 _).set 1 _).set 2 _
  have cE := (r3.ext XF).cell
  refine bodyPost_ret (v := .tuple #[.slice av L.length cap, D3 k.p k.r cc]) (by simp [results, Tryz.results18, go_sem, cE]; try rfl) rfl ?_
  have nl := not_short (HRz.out.ext XF) (by decide) HV1.out
  have P := ((HV1.out.set1 (i := 0) (u := .int .i64 k.p) nl).set1 (i := 1) (u := .int .i64 k.r) nl).set1 (i := 2) (u := .int .i64 cc) nl
  rw [World.setCell_ext lz, World.setCell_ext (by simpa [World.setCell] using lz), World.setCell_ext (by simpa [World.setCell] using lz)] at P
  refine ⟨_, rfl, P, ?_⟩
  obtain ⟨X0, hX0⟩ := HX.out
  subst hX0
  exact RowKit.Below.toExt (by exact br_)
set_option maxRecDepth 100000 in
set_option maxHeartbeats 4000000 in
theorem rface_line0 (a b : WinP) (k : LookP) (c x0 y0 x1 y1 : Int) (hs : k.soft = false) (ha : a.wide) (hb : b.wide) (hp : w64 k.p) (hc : w64 c) (har : areaP x0 y0 x1 y1 ≤ 1048576) (w : World) : Calls Tryz.prog 19 #[a.v, b.v, k.v, D3 k.p k.r c, R4 x0 y0 x1 y1] w (RLine w (wdL a b k.width k.dashed k.p k.r c x0 y0 x1 y1) k.p k.r (wdC a b k.width k.dashed k.p k.r c)) := by
  have WI := Lib.hid (fun w => rwline_any a b k.width k.dashed k.p k.r c x0 y0 x1 y1 har w)
  generalize wdL a b k.width k.dashed k.p k.r c x0 y0 x1 y1 = L at *
  generalize wdC a b k.width k.dashed k.p k.r c = cc at *
  have HS := Lib.hid hs
  clear ha hb hp hc har hs
  go_enter Tryz.func19, Tryz.ntmps19
  go_upto_region 1 with fail
  rw [HS.out]
  refine wp_abs (F := fun w1 => Row w1 w.heap.size #[.int .i64 a.x, .int .i64 a.y, .int .i64 a.z, .int .i64 a.c0, .int .i64 a.c1, .int .i64 a.c2, .int .i64 a.c3] 41 ∧ Row w1 (w.heap.size + 1) #[.int .i64 b.x, .int .i64 b.y, .int .i64 b.z, .int .i64 b.c0, .int .i64 b.c1, .int .i64 b.c2, .int .i64 b.c3] 41 ∧ Row w1 (w.heap.size + 1 + 1) #[.int .i64 k.width, .bool false, .bool k.dashed, .int .i64 k.p, .int .i64 k.r, .int .i64 k.c, .int .i64 k.size, .int .i64 k.kind, .int .i64 k.front, .int .i64 k.back, .bool k.ccw, .int .i64 k.cull, .bool k.off, .int .i64 k.factor, .int .i64 k.units] 27 ∧ Row w1 (w.heap.size + 1 + 1 + 1) #[.int .i64 k.p, .int .i64 k.r, .int .i64 c] 25 ∧ Row w1 (w.heap.size + 1 + 1 + 1 + 1) #[.int .i64 x0, .int .i64 y0, .int .i64 x1, .int .i64 y1] 29 ∧ Row w1 (w.heap.size + 1 + 1 + 1 + 1 + 1) #[.int .i64 0, .int .i64 0, .int .i64 0] 25 ∧ ∃ X, w1 = w.ext X) ⟨by exact rx_, by exact rx_, by exact rx_, by exact rx_, by exact rx_, by exact rx_, RowKit.Below.toExt (by exact bl_)⟩ ?_
  rintro w1 ⟨Ra, Rb, Rk, Rd, Rr, Rz, hX⟩
  have HX := Lib.hid hX
  have HRz := Lib.hid Rz
  have ca := Ra.cell
  have fa := Ra.frozen
  have la := Ra.lt
  have cb := Rb.cell
  have fb := Rb.frozen
  have lb := Rb.lt
  have ck := Rk.cell
  have fk := Rk.frozen
  have lk := Rk.lt
  have cd := Rd.cell
  have fd := Rd.frozen
  have ld := Rd.lt
  have cr := Rr.cell
  have fr := Rr.frozen
  have lr := Rr.lt
  have cz := Rz.cell
  have fz := Rz.frozen
  have lz := Rz.lt
  clear Ra Rb Rk Rd Rr Rz hX
  go_wp2_with (first | (go_at_call 59; (with_reducible refine (WI.out _).mono ?_); rintro _ _ ⟨v1, rfl, hv1, ⟨XF, rfl⟩⟩; have HV1 := Lib.hid hv1; obtain ⟨-, av, cap, rfl, -, -⟩ := hv1))
  have r3 : Row (((w1.setCell ⟨w.heap.size + 1 + 1 + 1 + 1 + 1, 0, none⟩ (.int .i64 k.p)).setCell ⟨w.heap.size + 1 + 1 + 1 + 1 + 1, 1, none⟩ (.int .i64 k.r)).setCell ⟨w.heap.size + 1 + 1 + 1 + 1 + 1, 2, none⟩ (.int .i64 cc)) (w.heap.size + 1 + 1 + 1 + 1 + 1) #[.int .i64 k.p, .int .i64 k.r, .int .i64 cc] 25 := ((HRz.out.set 0 _).set 1 _).set 2 _
  have cE := (r3.ext XF).cell
  refine bodyPost_ret (v := .tuple #[.slice av L.length cap, D3 k.p k.r cc]) (by simp [results, Tryz.results19, go_sem, cE]; try rfl) rfl ?_
  have nl := not_short (HRz.out.ext XF) (by decide) HV1.out
  have P := ((HV1.out.set1 (i := 0) (u := .int .i64 k.p) nl).set1 (i := 1) (u := .int .i64 k.r) nl).set1 (i := 2) (u := .int .i64 cc) nl
  rw [World.setCell_ext lz, World.setCell_ext (by simpa [World.setCell] using lz), World.setCell_ext (by simpa [World.setCell] using lz)] at P
  refine ⟨_, rfl, P, ?_⟩
  obtain ⟨X0, hX0⟩ := HX.out
  subst hX0
  exact RowKit.Below.toExt (by exact br_)
end Go.Proofs.YtbkmgngeahmefaaGreat
end
