/- FaceCulls: whatever the input, the law returns true and leaves its arguments as they read. No condition. -/
import Derived.Test.YtciooaihobnifaaGreatFacI
import Derived.Test.YtciooaihobnifaaGreatEFaceCulls
namespace Go.Proofs.YtciooaihobnifaaGreat
set_option linter.unusedVariables false
set_option linter.unusedSimpArgs false
open Go.RowKit
set_option maxRecDepth 100000 in
set_option maxHeartbeats 4000000 in
theorem culls22_big (av ev : Option Addr) (n cap m ecap : Nat) (k : LookP) (x0 y0 x1 y1 : Int) (w : World) (hn : n ≤ maxLen) (hm : m ≤ maxLen) (h : ¬ (n ≤ 12 ∧ m ≤ 14 ∧ areaP x0 y0 x1 y1 ≤ 80)) : Calls Tryz.prog 7 #[fcV (.slice av n cap) (.slice ev m ecap) k x0 y0 x1 y1] w (Ret (.bool true) w) := by
  have SM := Lib.hid (fun w => decide_eq_false h ▸ small22_any av ev n cap m ecap k x0 y0 x1 y1 w hn hm)
  unfold maxLen at hn hm
  clear h
  go_enter Tryz.func7, Tryz.ntmps7
  go_upto_region 1 with fail
  refine wp_abs (F := fun w1 => Row w1 w.heap.size #[.slice av n cap, .slice ev m ecap, .int .i64 k.width, .bool k.soft, .bool k.dashed, .int .i64 k.p, .int .i64 k.r, .int .i64 k.c, .int .i64 k.size, .int .i64 k.kind, .int .i64 k.front, .int .i64 k.back, .bool k.ccw, .int .i64 k.cull, .bool k.off, .int .i64 k.factor, .int .i64 k.units, .int .i64 x0, .int .i64 y0, .int .i64 x1, .int .i64 y1] 31 ∧ ∃ X, w1 = w.ext X) ⟨by (repeat (first | assumption | with_reducible refine Row.ext ?_ _ | with_reducible refine row_drew ?_ | (with_reducible refine row_last ?_; first | rfl | (simp; done)) | with_reducible refine Row.alloc ?_ _)), RowKit.Below.toExt (by (repeat (first | exact Below.refl _ _ | with_reducible refine Below.drew ?_ | with_reducible refine Below.ext ?_ (by first | exact Nat.le_refl _ | (simp; done) | (simp; omega)) _ | with_reducible refine Below.alloc ?_ (by first | exact Nat.le_refl _ | (simp; done) | (simp; omega)) _ | with_reducible refine Below.setCell ?_ (by first | exact Nat.le_refl _ | (simp; done) | (simp; omega)) _)))⟩ ?_
  rintro w1 ⟨Ra, hX⟩
  have HX := Lib.hid hX
  have ca := Ra.cell
  have fa := Ra.frozen
  have la := Ra.lt
  have da := World.rowD_of Ra
  clear Ra hX
  go_wp2_with (first | (go_at_call 13; (with_reducible refine (SM.out _).mono ?_); rintro _ _ ⟨rfl, X_, rfl⟩) | (go_at_call 14; (with_reducible refine (awake22 _).mono ?_); rintro _ _ ⟨rfl, X_, rfl⟩))
  go_ret
  obtain ⟨X0, hX0⟩ := HX.out
  subst hX0
  exact Ret.of' rfl (by (repeat (first | with_reducible assumption | with_reducible exact Below.refl _ _ | with_reducible refine Below.drew ?_ | with_reducible refine Below.ext ?_ (by first | exact Nat.le_refl _ | omega | (simp; done) | (simp; omega)) _ | with_reducible refine Below.alloc ?_ (by first | exact Nat.le_refl _ | omega | (simp; done) | (simp; omega)) _ | with_reducible refine Below.setCell ?_ (by first | exact Nat.le_refl _ | omega | (simp; done) | (simp; omega)) _)))
theorem not_look {w : World} {b : Nat} {k : LookP} {v : Value} {T : List FrP} (hr : Row w b #[.int .i64 k.width, .bool k.soft, .bool k.dashed, .int .i64 k.p, .int .i64 k.r, .int .i64 k.c, .int .i64 k.size, .int .i64 k.kind, .int .i64 k.front, .int .i64 k.back, .bool k.ccw, .int .i64 k.cull, .bool k.off, .int .i64 k.factor, .int .i64 k.units] 27) (h : Recs frK w v T) : ∀ b', v.ownBlock = some b' → T ≠ [] → b' ≠ b := by
  intro b' hb' hne e
  subst e
  obtain ⟨-, a, cap, rfl, -, h3⟩ := h
  rcases h3 with h3 | ⟨b, off, rfl, -, hcl⟩
  · exact hne h3
  obtain rfl : b = b' := by simpa [Value.ownBlock] using hb'
  obtain ⟨f, T', rfl⟩ := List.exists_cons_of_ne_nil hne
  have q : ∀ j u, (frK.cells f)[j]? = some u → w.cell? ⟨b, off + j, none⟩ = some u := fun j u hj => by simpa using hcl 0 f rfl j u hj
  have c := hr.cell
  have q0 := q 0 _ rfl
  have q7 := q 7 _ rfl
  rw [c] at q7
  by_cases ho : off ≤ 7
  · obtain rfl | rfl | rfl | h3 : off = 0 ∨ off = 1 ∨ off = 2 ∨ 3 ≤ off := by omega
    · have := q 1 _ rfl; rw [c] at this; simp at this
    · have := q 0 _ rfl; rw [c] at this; simp at this
    · have := q 0 _ rfl; rw [c] at this; simp at this
    · obtain rfl | rfl | rfl | rfl | rfl : off = 3 ∨ off = 4 ∨ off = 5 ∨ off = 6 ∨ off = 7 := by omega
      · have := q 7 _ rfl; rw [c] at this; simp at this
      · have := q 6 _ rfl; rw [c] at this; simp at this
      · have := q 5 _ rfl; rw [c] at this; simp at this
      · have := q 4 _ rfl; rw [c] at this; simp at this
      · have := q 3 _ rfl; rw [c] at this; simp at this
  · rw [Array.getElem?_eq_none (by simp; omega)] at q7; cases q7
theorem Recs.put {α : Type} {K : RecK α} {w : World} {v : Value} {L : List α} {b i : Nat} {u : Value} (h : Recs K w v L) (hb : ∀ b', v.ownBlock = some b' → L ≠ [] → b' ≠ b) : Recs K (w.setCell ⟨b, i, none⟩ u) v L :=
  h.chg (p := fun j => j = b) (Chg.setCell (p := fun j => j = b) Chg.refl (fun _ => rfl) _) (fun b' h1 h2 _ h4 => hb b' h1 h2 h4)
theorem culled3 (b : Bool) : culledB b 3 = true := by cases b <;> decide
theorem culled0 (b : Bool) : culledB b 0 = false := by cases b <;> decide
theorem no_show3 (L : List WinP) (B : List Bool) (k : LookP) (x0 y0 x1 y1 : Int) : ¬ showP L B { k with cull := 3 } x0 y0 x1 y1 := fun h => by
  have := h.2.2.2
  rw [culled3] at this; cases this
theorem show0 {L : List WinP} {B B' : List Bool} {k : LookP} {x0 y0 x1 y1 : Int} (h1 : mayP L B) (h2 : k.ok) (h3 : rightP x0 y0 x1 y1) (hB : B'.length = L.length) (f b : Int) (hf : amongP f 0 2) (hb : amongP b 0 2) : showP L B' { k with cull := 0, front := f, back := b } x0 y0 x1 y1 :=
  ⟨⟨h1.1, hB, h1.2.2⟩, ⟨h2.1, h2.2.1, h2.2.2.1, hf, hb, by simp only; unfold amongP; omega, h2.2.2.2.2.2.2.1, h2.2.2.2.2.2.2.2.1, h2.2.2.2.2.2.2.2.2⟩, h3, culled0 _⟩
set_option maxRecDepth 100000 in
set_option maxHeartbeats 4000000 in
theorem culls22_no (av ev : Option Addr) (cap ecap : Nat) (L : List WinP) (B : List Bool) (k : LookP) (x0 y0 x1 y1 : Int) (w : World) (hv : Recs wnK w (.slice av L.length cap) L) (he : Recs boK w (.slice ev B.length ecap) B) (hw : ∀ a ∈ L, a.wide) (hk : k.wide) (hn : L.length ≤ 12) (hm : B.length ≤ 14) (har : areaP x0 y0 x1 y1 ≤ 80) (h : ¬ (mayP L B ∧ k.ok ∧ rightP x0 y0 x1 y1)) : Calls Tryz.prog 7 #[fcV (.slice av L.length cap) (.slice ev B.length ecap) k x0 y0 x1 y1] w (Ret (.bool true) w) := by
  have SM := Lib.hid (fun w => decide_eq_true (And.intro hn (And.intro hm har)) ▸ small22_any av ev L.length cap B.length ecap k x0 y0 x1 y1 w (by unfold maxLen; omega) (by unfold maxLen; omega))
  have MY0 := fun w1 h g => rface_may (.slice av L.length cap) (.slice ev B.length ecap) L B w1 h g
  have RI0 := fun w => rlook_right k w
  have RR0 := fun w => rrect_right x0 y0 x1 y1 w
  have HVw := Lib.hid hv
  have HEw := Lib.hid he
  clear hv he
  obtain ⟨b1, e1⟩ : ∃ b, decide (mayP L B) = b := ⟨_, rfl⟩
  obtain ⟨b2, e2⟩ : ∃ b, decide k.ok = b := ⟨_, rfl⟩
  obtain ⟨b3, e3⟩ : ∃ b, decide (rightP x0 y0 x1 y1) = b := ⟨_, rfl⟩
  have hb : (b1 && b2 && b3) = false := by
    rw [← e1, ← e2, ← e3, ← Bool.decide_and, ← Bool.decide_and]
    exact decide_eq_false fun q => h ⟨q.1.1, q.1.2, q.2⟩
  rw [e1] at MY0
  rw [e2] at RI0
  rw [e3] at RR0
  have MY := Lib.hid MY0
  have RI := Lib.hid RI0
  have RR := Lib.hid RR0
  clear MY0 RI0 RR0 e1 e2 e3 h hw hk har
  cases b1 <;> cases b2 <;> cases b3
  all_goals try (exact absurd hb (by decide))
  all_goals
    clear hb
    go_enter Tryz.func7, Tryz.ntmps7
    go_upto_region 1 with fail
    refine wp_abs (F := fun w1 => Row w1 w.heap.size #[.slice av L.length cap, .slice ev B.length ecap, .int .i64 k.width, .bool k.soft, .bool k.dashed, .int .i64 k.p, .int .i64 k.r, .int .i64 k.c, .int .i64 k.size, .int .i64 k.kind, .int .i64 k.front, .int .i64 k.back, .bool k.ccw, .int .i64 k.cull, .bool k.off, .int .i64 k.factor, .int .i64 k.units, .int .i64 x0, .int .i64 y0, .int .i64 x1, .int .i64 y1] 31 ∧ ∃ X, w1 = w.ext X) ⟨by (repeat (first | assumption | with_reducible refine Row.ext ?_ _ | with_reducible refine row_drew ?_ | (with_reducible refine row_last ?_; first | rfl | (simp; done)) | with_reducible refine Row.alloc ?_ _)), RowKit.Below.toExt (by (repeat (first | exact Below.refl _ _ | with_reducible refine Below.drew ?_ | with_reducible refine Below.ext ?_ (by first | exact Nat.le_refl _ | (simp; done) | (simp; omega)) _ | with_reducible refine Below.alloc ?_ (by first | exact Nat.le_refl _ | (simp; done) | (simp; omega)) _ | with_reducible refine Below.setCell ?_ (by first | exact Nat.le_refl _ | (simp; done) | (simp; omega)) _)))⟩ ?_
    rintro w1 ⟨Ra, hX⟩
    have HX := Lib.hid hX
    obtain ⟨X0, hX0⟩ := hX
    have HV := Lib.hid (by rw [hX0]; exact HVw.out.ext X0 : Recs wnK w1 (.slice av L.length cap) L)
    have HE := Lib.hid (by rw [hX0]; exact HEw.out.ext X0 : Recs boK w1 (.slice ev B.length ecap) B)
    clear hX0
    have HRa := Lib.hid Ra
    have ca := Ra.cell
    have fa := Ra.frozen
    have la := Ra.lt
    have da := World.rowD_of Ra
    clear Ra
    go_wp2_with (first | (go_at_call 13; (with_reducible refine (SM.out _).mono ?_); rintro _ _ ⟨rfl, X_, rfl⟩) | (go_at_call 22; (with_reducible refine (MY.out _ (by repeat (first | with_reducible exact HV.out | with_reducible refine Recs.ext ?_ _ | with_reducible refine Recs.alloc ?_ _ | with_reducible refine Recs.drew ?_)) (by repeat (first | with_reducible exact HE.out | with_reducible refine Recs.ext ?_ _ | with_reducible refine Recs.alloc ?_ _ | with_reducible refine Recs.drew ?_))).mono ?_); rintro _ _ ⟨rfl, X_, rfl⟩) | (go_at_call 16; (with_reducible refine (RI.out _).mono ?_); rintro _ _ ⟨rfl, X_, rfl⟩) | (go_at_call 29; (with_reducible refine (RR.out _).mono ?_); rintro _ _ ⟨rfl, X_, rfl⟩) | (go_at_call 14; (with_reducible refine (awake22 _).mono ?_); rintro _ _ ⟨rfl, X_, rfl⟩))
    go_ret
    obtain ⟨X0, hX0⟩ := HX.out
    subst hX0
    exact Ret.of' rfl (by (repeat (first | with_reducible assumption | with_reducible exact Below.refl _ _ | with_reducible refine Below.drew ?_ | with_reducible refine Below.ext ?_ (by first | exact Nat.le_refl _ | omega | (simp; done) | (simp; omega)) _ | with_reducible refine Below.alloc ?_ (by first | exact Nat.le_refl _ | omega | (simp; done) | (simp; omega)) _ | with_reducible refine Below.setCell ?_ (by first | exact Nat.le_refl _ | omega | (simp; done) | (simp; omega)) _)))
set_option maxRecDepth 100000 in
set_option maxHeartbeats 8000000 in
theorem culls22_in (av ev : Option Addr) (cap ecap : Nat) (L : List WinP) (B : List Bool) (k : LookP) (x0 y0 x1 y1 : Int) (w : World) (hv : Recs wnK w (.slice av L.length cap) L) (he : Recs boK w (.slice ev B.length ecap) B) (hw : ∀ a ∈ L, a.wide) (hk : k.wide) (hn : L.length ≤ 12) (hm : B.length ≤ 14) (har : areaP x0 y0 x1 y1 ≤ 80) (h1 : mayP L B) (h2 : k.ok) (h3 : rightP x0 y0 x1 y1) : Calls Tryz.prog 7 #[fcV (.slice av L.length cap) (.slice ev B.length ecap) k x0 y0 x1 y1] w (Ret (.bool true) w) := by
  have SM := Lib.hid (fun w => decide_eq_true (And.intro hn (And.intro hm har)) ▸ small22_any av ev L.length cap B.length ecap k x0 y0 x1 y1 w (by unfold maxLen; omega) (by unfold maxLen; omega))
  have MY := Lib.hid (fun w1 h g => decide_eq_true h1 ▸ rface_may (.slice av L.length cap) (.slice ev B.length ecap) L B w1 h g)
  have RI := Lib.hid (fun w => decide_eq_true h2 ▸ rlook_right k w)
  have RR := Lib.hid (fun w => decide_eq_true h3 ▸ rrect_right x0 y0 x1 y1 w)
  have hkf : 0 ≤ k.front ∧ k.front ≤ 2 := h2.2.2.2.1
  obtain ⟨kf0, kf1⟩ := hkf
  have hl : (List.replicate L.length false).length = L.length := List.length_replicate
  have k1w : ({ k with cull := 3 } : LookP).wide := ⟨hk.1, hk.2, hk.3, hk.4, hk.5, hk.6, hk.7, hk.8, by simp only; unfold w64; omega, hk.10, hk.11⟩
  have k2w : ({ k with cull := 0, front := 0, back := 0 } : LookP).wide := ⟨hk.1, hk.2, hk.3, hk.4, hk.5, hk.6, by simp only; unfold w64; omega, by simp only; unfold w64; omega, by simp only; unfold w64; omega, hk.10, hk.11⟩
  have k3w : ({ k with cull := 0, front := 1 + k.front / 2, back := 2 } : LookP).wide := ⟨hk.1, hk.2, hk.3, hk.4, hk.5, hk.6, by simp only; unfold w64; omega, by simp only; unfold w64; omega, by simp only; unfold w64; omega, hk.10, hk.11⟩
  have D1 := Lib.hid (fun w1 h g => face_draw_no (.slice av L.length cap) (.slice ev B.length ecap) L B { k with cull := 3 } x0 y0 x1 y1 w1 h g hw k1w (no_show3 L B k x0 y0 x1 y1))
  have am : ∀ z : Int, 0 ≤ z → z ≤ 2 → amongP z 0 2 := fun z a b => ⟨a, b⟩
  have D2 := Lib.hid (fun w1 h g => face_draw_fill (.slice av L.length cap) (.slice ev B.length ecap) L B { k with cull := 0, front := 0, back := 0 } x0 y0 x1 y1 w1 h g hw k2w (show0 h1 h2 h3 h1.2.1 0 0 (am _ (by omega) (by omega)) (am _ (by omega) (by omega))) (by unfold modeK; split <;> rfl) (by omega) (by omega))
  have D3 := Lib.hid (fun u w1 h g => face_draw_fill (.slice av L.length cap) u L (List.replicate L.length false) { k with cull := 0, front := 0, back := 0 } x0 y0 x1 y1 w1 h g hw k2w (show0 h1 h2 h3 hl 0 0 (am _ (by omega) (by omega)) (am _ (by omega) (by omega))) (by unfold modeK; split <;> rfl) (by omega) (by omega))
  have D4 := Lib.hid (fun u w1 h g => face_draw_none (.slice av L.length cap) u L (List.replicate L.length false) { k with cull := 0, front := 1 + k.front / 2, back := 2 } x0 y0 x1 y1 w1 h g hw k3w (show0 h1 h2 h3 hl _ _ (am _ (by omega) (by omega)) (am _ (by omega) (by omega))) (by unfold modeK; simp only; split <;> omega) (fun b hb => (List.mem_replicate.1 hb).2))
  have HI := Lib.hid (fun f (hf : f ∈ faceF L { k with cull := 0, front := 0, back := 0 } x0 y0 x1 y1) => faceF_in hf)
  have hT0 : (faceF L { k with cull := 0, front := 0, back := 0 } x0 y0 x1 y1).length ≤ 134217728 := by
    have := fillF_len L { k with cull := 0, front := 0, back := 0 } x0 y0 x1 y1 (by omega) (L.length - 2)
    unfold faceF; omega
  obtain ⟨T, hT⟩ : ∃ T, faceF L { k with cull := 0, front := 0, back := 0 } x0 y0 x1 y1 = T := ⟨_, rfl⟩
  rw [hT] at D2 D3 HI hT0
  obtain ⟨B0, hB0⟩ : ∃ B, List.replicate L.length false = B := ⟨_, rfl⟩
  rw [hB0] at D3 D4
  have HB0 := Lib.hid hB0
  clear hB0
  have HVw := Lib.hid hv
  have HEw := Lib.hid he
  clear hv he
  clear hT h1 h2 h3 hw hk k1w k2w k3w am har hl hm
  go_enter Tryz.func7, Tryz.ntmps7
  go_upto_region 1 with fail
  refine wp_abs (F := fun w1 => Row w1 w.heap.size #[.slice av L.length cap, .slice ev B.length ecap, .int .i64 k.width, .bool k.soft, .bool k.dashed, .int .i64 k.p, .int .i64 k.r, .int .i64 k.c, .int .i64 k.size, .int .i64 k.kind, .int .i64 k.front, .int .i64 k.back, .bool k.ccw, .int .i64 k.cull, .bool k.off, .int .i64 k.factor, .int .i64 k.units, .int .i64 x0, .int .i64 y0, .int .i64 x1, .int .i64 y1] 31 ∧ ∃ X, w1 = w.ext X) ⟨by (repeat (first | assumption | with_reducible refine Row.ext ?_ _ | with_reducible refine row_drew ?_ | (with_reducible refine row_last ?_; first | rfl | (simp; done)) | with_reducible refine Row.alloc ?_ _)), RowKit.Below.toExt (by (repeat (first | exact Below.refl _ _ | with_reducible refine Below.drew ?_ | with_reducible refine Below.ext ?_ (by first | exact Nat.le_refl _ | (simp; done) | (simp; omega)) _ | with_reducible refine Below.alloc ?_ (by first | exact Nat.le_refl _ | (simp; done) | (simp; omega)) _ | with_reducible refine Below.setCell ?_ (by first | exact Nat.le_refl _ | (simp; done) | (simp; omega)) _)))⟩ ?_
  rintro w1 ⟨Ra, hX⟩
  have HX := Lib.hid hX
  obtain ⟨X0, hX0⟩ := hX
  have HV := Lib.hid (by rw [hX0]; exact HVw.out.ext X0 : Recs wnK w1 (.slice av L.length cap) L)
  have HE := Lib.hid (by rw [hX0]; exact HEw.out.ext X0 : Recs boK w1 (.slice ev B.length ecap) B)
  clear hX0
  have HRa := Lib.hid Ra
  have ca := Ra.cell
  have fa := Ra.frozen
  have la := Ra.lt
  have da := World.rowD_of Ra
  clear Ra
  go_upto_region 3 with (first | (go_at_call 13; (with_reducible refine (SM.out _).mono ?_); rintro _ _ ⟨rfl, X_, rfl⟩) | (go_at_call 22; (with_reducible refine (MY.out _ (by repeat (first | with_reducible exact HV.out | with_reducible refine Recs.ext ?_ _ | with_reducible refine Recs.alloc ?_ _ | with_reducible refine Recs.drew ?_)) (by repeat (first | with_reducible exact HE.out | with_reducible refine Recs.ext ?_ _ | with_reducible refine Recs.alloc ?_ _ | with_reducible refine Recs.drew ?_))).mono ?_); rintro _ _ ⟨rfl, X_, rfl⟩) | (go_at_call 16; (with_reducible refine (RI.out _).mono ?_); rintro _ _ ⟨rfl, X_, rfl⟩) | (go_at_call 29; (with_reducible refine (RR.out _).mono ?_); rintro _ _ ⟨rfl, X_, rfl⟩) | (go_at_call 14; (with_reducible refine (awake22 _).mono ?_); rintro _ _ ⟨rfl, X_, rfl⟩))
  refine wp_abs (F := fun w2 => Row w2 w.heap.size #[.slice av L.length cap, .slice ev B.length ecap, .int .i64 k.width, .bool k.soft, .bool k.dashed, .int .i64 k.p, .int .i64 k.r, .int .i64 k.c, .int .i64 k.size, .int .i64 k.kind, .int .i64 k.front, .int .i64 k.back, .bool k.ccw, .int .i64 k.cull, .bool k.off, .int .i64 k.factor, .int .i64 k.units, .int .i64 x0, .int .i64 y0, .int .i64 x1, .int .i64 y1] 31 ∧ ∃ X, w2 = w.ext X) ⟨by (repeat (first | with_reducible exact HRa.out | with_reducible refine Row.ext ?_ _ | with_reducible refine row_drew ?_ | with_reducible refine Row.alloc ?_ _ | with_reducible refine Row.other ?_ (by assumption) _ _)), by obtain ⟨X0, hX0⟩ := HX.out; subst hX0; exact RowKit.Below.toExt (by (repeat (first | with_reducible assumption | with_reducible exact Below.refl _ _ | with_reducible refine Below.drew ?_ | with_reducible refine Below.ext ?_ (by first | exact Nat.le_refl _ | omega | (simp; done) | (simp; omega)) _ | with_reducible refine Below.alloc ?_ (by first | exact Nat.le_refl _ | omega | (simp; done) | (simp; omega)) _ | with_reducible refine Below.setCell ?_ (by first | exact Nat.le_refl _ | omega | (simp; done) | (simp; omega)) _)))⟩ ?_
  clear ca fa la da HRa HX HV HE
  rintro w2 ⟨Ra, hX⟩
  have HX := Lib.hid hX
  obtain ⟨X0, hX0⟩ := hX
  have HV := Lib.hid (by rw [hX0]; exact HVw.out.ext X0 : Recs wnK w2 (.slice av L.length cap) L)
  have HE := Lib.hid (by rw [hX0]; exact HEw.out.ext X0 : Recs boK w2 (.slice ev B.length ecap) B)
  clear hX0
  have HRa := Lib.hid Ra
  have ca := Ra.cell
  have fa := Ra.frozen
  have la := Ra.lt
  have da := World.rowD_of Ra
  clear Ra
  go_upto_region 5 with fail
  refine wp_abs (F := fun w3 => Row w3 w.heap.size #[.slice av L.length cap, .slice ev B.length ecap, .int .i64 k.width, .bool k.soft, .bool k.dashed, .int .i64 k.p, .int .i64 k.r, .int .i64 k.c, .int .i64 k.size, .int .i64 k.kind, .int .i64 k.front, .int .i64 k.back, .bool k.ccw, .int .i64 k.cull, .bool k.off, .int .i64 k.factor, .int .i64 k.units, .int .i64 x0, .int .i64 y0, .int .i64 x1, .int .i64 y1] 31 ∧ Row w3 w2.heap.size #[.int .i64 k.width, .bool k.soft, .bool k.dashed, .int .i64 k.p, .int .i64 k.r, .int .i64 k.c, .int .i64 k.size, .int .i64 k.kind, .int .i64 k.front, .int .i64 k.back, .bool k.ccw, .int .i64 3, .bool k.off, .int .i64 k.factor, .int .i64 k.units] 27 ∧ ∃ X, w3 = w.ext X) ⟨by (repeat (first | with_reducible exact HRa.out | with_reducible refine Row.ext ?_ _ | with_reducible refine row_drew ?_ | with_reducible refine Row.alloc ?_ _ | with_reducible refine Row.other ?_ (by assumption) _ _)), by (repeat (first | assumption | with_reducible refine Row.ext ?_ _ | with_reducible refine row_drew ?_ | (with_reducible refine row_last ?_; first | rfl | (simp; done)) | with_reducible refine Row.alloc ?_ _)), by obtain ⟨X0, hX0⟩ := HX.out; subst hX0; exact RowKit.Below.toExt (by (repeat (first | with_reducible assumption | with_reducible exact Below.refl _ _ | with_reducible refine Below.drew ?_ | with_reducible refine Below.ext ?_ (by first | exact Nat.le_refl _ | omega | (simp; done) | (simp; omega)) _ | with_reducible refine Below.alloc ?_ (by first | exact Nat.le_refl _ | omega | (simp; done) | (simp; omega)) _ | with_reducible refine Below.setCell ?_ (by first | exact Nat.le_refl _ | omega | (simp; done) | (simp; omega)) _)))⟩ ?_
  obtain ⟨Bk, hBk⟩ : ∃ b, w2.heap.size = b := ⟨_, rfl⟩
  rw [hBk]
  have hb0 : w.heap.size < Bk := by omega
  have nka : w.heap.size ≠ Bk := by omega
  clear hBk ca fa la da HRa HX HV HE
  rintro w3 ⟨Ra, Rk, hX⟩
  have HX := Lib.hid hX
  obtain ⟨X0, hX0⟩ := hX
  have HV := Lib.hid (by rw [hX0]; exact HVw.out.ext X0 : Recs wnK w3 (.slice av L.length cap) L)
  have HE := Lib.hid (by rw [hX0]; exact HEw.out.ext X0 : Recs boK w3 (.slice ev B.length ecap) B)
  clear hX0
  have HRa := Lib.hid Ra
  have HRk := Lib.hid Rk
  have ca := Ra.cell
  have fa := Ra.frozen
  have la := Ra.lt
  have da := World.rowD_of Ra
  have ck := Rk.cell
  have fk := Rk.frozen
  have lk := Rk.lt
  have dk := World.rowD_of Rk
  clear Ra Rk
  go_upto_region 7 with (first | (go_at_call 18; (with_reducible refine (D1.out _ (by repeat (first | with_reducible exact HV.out | with_reducible refine Recs.ext ?_ _ | with_reducible refine Recs.alloc ?_ _ | with_reducible refine Recs.drew ?_)) (by repeat (first | with_reducible exact HE.out | with_reducible refine Recs.ext ?_ _ | with_reducible refine Recs.alloc ?_ _ | with_reducible refine Recs.drew ?_))).mono ?_); rintro _ _ ⟨vq, rfl, hq, ⟨XQ, rfl⟩⟩; obtain ⟨-, aq, cq, rfl, -, -⟩ := hq))
  refine wp_abs (F := fun w4 => Row w4 w.heap.size #[.slice av L.length cap, .slice ev B.length ecap, .int .i64 k.width, .bool k.soft, .bool k.dashed, .int .i64 k.p, .int .i64 k.r, .int .i64 k.c, .int .i64 k.size, .int .i64 k.kind, .int .i64 k.front, .int .i64 k.back, .bool k.ccw, .int .i64 k.cull, .bool k.off, .int .i64 k.factor, .int .i64 k.units, .int .i64 x0, .int .i64 y0, .int .i64 x1, .int .i64 y1] 31 ∧ Row w4 Bk #[.int .i64 k.width, .bool k.soft, .bool k.dashed, .int .i64 k.p, .int .i64 k.r, .int .i64 k.c, .int .i64 k.size, .int .i64 k.kind, .int .i64 k.front, .int .i64 k.back, .bool k.ccw, .int .i64 3, .bool k.off, .int .i64 k.factor, .int .i64 k.units] 27 ∧ ∃ X, w4 = w.ext X) ⟨by (repeat (first | with_reducible exact HRa.out | with_reducible refine Row.ext ?_ _ | with_reducible refine row_drew ?_ | with_reducible refine Row.alloc ?_ _ | with_reducible refine Row.other ?_ (by assumption) _ _)), by (repeat (first | with_reducible exact HRk.out | with_reducible refine Row.ext ?_ _ | with_reducible refine row_drew ?_ | with_reducible refine Row.alloc ?_ _ | with_reducible refine Row.other ?_ (by assumption) _ _)), by obtain ⟨X0, hX0⟩ := HX.out; subst hX0; exact RowKit.Below.toExt (by (repeat (first | with_reducible assumption | with_reducible exact Below.refl _ _ | with_reducible refine Below.drew ?_ | with_reducible refine Below.ext ?_ (by first | exact Nat.le_refl _ | omega | (simp; done) | (simp; omega)) _ | with_reducible refine Below.alloc ?_ (by first | exact Nat.le_refl _ | omega | (simp; done) | (simp; omega)) _ | with_reducible refine Below.setCell ?_ (by first | exact Nat.le_refl _ | omega | (simp; done) | (simp; omega)) _)))⟩ ?_
  clear ca fa la da ck fk lk dk HRa HRk HX HV HE
  rintro w4 ⟨Ra, Rk, hX⟩
  have HX := Lib.hid hX
  have HRa := Lib.hid Ra
  have HRk := Lib.hid Rk
  have ca := Ra.cell
  have fa := Ra.frozen
  have la := Ra.lt
  have da := World.rowD_of Ra
  have ck := Rk.cell
  have fk := Rk.frozen
  have lk := Rk.lt
  have dk := World.rowD_of Rk
  clear Ra Rk hX
  go_upto_region 9 with fail
  have r1 : Row (w4.setCell ⟨Bk, 11, none⟩ (.int .i64 0)) Bk #[.int .i64 k.width, .bool k.soft, .bool k.dashed, .int .i64 k.p, .int .i64 k.r, .int .i64 k.c, .int .i64 k.size, .int .i64 k.kind, .int .i64 k.front, .int .i64 k.back, .bool k.ccw, .int .i64 0, .bool k.off, .int .i64 k.factor, .int .i64 k.units] 27 := HRk.out.set 11 _
  have r2 : Row ((w4.setCell ⟨Bk, 11, none⟩ (.int .i64 0)).setCell ⟨Bk, 8, none⟩ (.int .i64 0)) Bk #[.int .i64 k.width, .bool k.soft, .bool k.dashed, .int .i64 k.p, .int .i64 k.r, .int .i64 k.c, .int .i64 k.size, .int .i64 k.kind, .int .i64 0, .int .i64 k.back, .bool k.ccw, .int .i64 0, .bool k.off, .int .i64 k.factor, .int .i64 k.units] 27 := r1.set 8 _
  have r3 : Row (((w4.setCell ⟨Bk, 11, none⟩ (.int .i64 0)).setCell ⟨Bk, 8, none⟩ (.int .i64 0)).setCell ⟨Bk, 9, none⟩ (.int .i64 0)) Bk #[.int .i64 k.width, .bool k.soft, .bool k.dashed, .int .i64 k.p, .int .i64 k.r, .int .i64 k.c, .int .i64 k.size, .int .i64 k.kind, .int .i64 0, .int .i64 0, .bool k.ccw, .int .i64 0, .bool k.off, .int .i64 k.factor, .int .i64 k.units] 27 := r2.set 9 _
  refine wp_abs (F := fun w5 => Row w5 w.heap.size #[.slice av L.length cap, .slice ev B.length ecap, .int .i64 k.width, .bool k.soft, .bool k.dashed, .int .i64 k.p, .int .i64 k.r, .int .i64 k.c, .int .i64 k.size, .int .i64 k.kind, .int .i64 k.front, .int .i64 k.back, .bool k.ccw, .int .i64 k.cull, .bool k.off, .int .i64 k.factor, .int .i64 k.units, .int .i64 x0, .int .i64 y0, .int .i64 x1, .int .i64 y1] 31 ∧ Row w5 Bk #[.int .i64 k.width, .bool k.soft, .bool k.dashed, .int .i64 k.p, .int .i64 k.r, .int .i64 k.c, .int .i64 k.size, .int .i64 k.kind, .int .i64 0, .int .i64 0, .bool k.ccw, .int .i64 0, .bool k.off, .int .i64 k.factor, .int .i64 k.units] 27 ∧ ∃ X, w5 = w.ext X) ⟨by (repeat (first | with_reducible exact HRa.out | with_reducible refine Row.ext ?_ _ | with_reducible refine row_drew ?_ | with_reducible refine Row.alloc ?_ _ | with_reducible refine Row.other ?_ (by assumption) _ _)), by (repeat (first | with_reducible exact r3 | with_reducible refine Row.ext ?_ _ | with_reducible refine row_drew ?_)), by obtain ⟨X0, hX0⟩ := HX.out; subst hX0; exact RowKit.Below.toExt (by (repeat (first | with_reducible assumption | with_reducible exact Below.refl _ _ | with_reducible refine Below.drew ?_ | with_reducible refine Below.ext ?_ (by first | exact Nat.le_refl _ | omega | (simp; done) | (simp; omega)) _ | with_reducible refine Below.alloc ?_ (by first | exact Nat.le_refl _ | omega | (simp; done) | (simp; omega)) _ | with_reducible refine Below.setCell ?_ (by first | exact Nat.le_refl _ | omega | (simp; done) | (simp; omega)) _)))⟩ ?_
  clear ca fa la da ck fk lk dk HRa HRk HX r1 r2 r3
  rintro w5 ⟨Ra, Rk, hX⟩
  have HX := Lib.hid hX
  obtain ⟨X0, hX0⟩ := hX
  have HV := Lib.hid (by rw [hX0]; exact HVw.out.ext X0 : Recs wnK w5 (.slice av L.length cap) L)
  have HE := Lib.hid (by rw [hX0]; exact HEw.out.ext X0 : Recs boK w5 (.slice ev B.length ecap) B)
  clear hX0
  have HRa := Lib.hid Ra
  have HRk := Lib.hid Rk
  have ca := Ra.cell
  have fa := Ra.frozen
  have la := Ra.lt
  have da := World.rowD_of Ra
  have ck := Rk.cell
  have fk := Rk.frozen
  have lk := Rk.lt
  have dk := World.rowD_of Rk
  clear Ra Rk
  go_upto_region 10 with (first | (go_at_call 18; (with_reducible refine (D2.out _ (by repeat (first | with_reducible exact HV.out | with_reducible refine Recs.ext ?_ _ | with_reducible refine Recs.alloc ?_ _ | with_reducible refine Recs.drew ?_)) (by repeat (first | with_reducible exact HE.out | with_reducible refine Recs.ext ?_ _ | with_reducible refine Recs.alloc ?_ _ | with_reducible refine Recs.drew ?_))).mono ?_); rintro _ _ ⟨vq, rfl, hq, ⟨XQ, rfl⟩⟩; have HQ := Lib.hid hq; obtain ⟨-, aq, cq, rfl, -, -⟩ := hq))
  refine wp_abs (F := fun w6 => Row w6 w.heap.size #[.slice av L.length cap, .slice ev B.length ecap, .int .i64 k.width, .bool k.soft, .bool k.dashed, .int .i64 k.p, .int .i64 k.r, .int .i64 k.c, .int .i64 k.size, .int .i64 k.kind, .int .i64 k.front, .int .i64 k.back, .bool k.ccw, .int .i64 k.cull, .bool k.off, .int .i64 k.factor, .int .i64 k.units, .int .i64 x0, .int .i64 y0, .int .i64 x1, .int .i64 y1] 31 ∧ Row w6 Bk #[.int .i64 k.width, .bool k.soft, .bool k.dashed, .int .i64 k.p, .int .i64 k.r, .int .i64 k.c, .int .i64 k.size, .int .i64 k.kind, .int .i64 0, .int .i64 0, .bool k.ccw, .int .i64 0, .bool k.off, .int .i64 k.factor, .int .i64 k.units] 27 ∧ Recs frK w6 (.slice aq T.length cq) T ∧ ∃ X, w6 = w.ext X) ⟨by (repeat (first | with_reducible exact HRa.out | with_reducible refine Row.ext ?_ _ | with_reducible refine row_drew ?_ | with_reducible refine Row.alloc ?_ _ | with_reducible refine Row.other ?_ (by assumption) _ _)), by (repeat (first | with_reducible exact HRk.out | with_reducible refine Row.ext ?_ _ | with_reducible refine row_drew ?_ | with_reducible refine Row.alloc ?_ _ | with_reducible refine Row.other ?_ (by assumption) _ _)), (by repeat (first | with_reducible exact HQ.out | with_reducible refine Recs.ext ?_ _ | with_reducible refine Recs.alloc ?_ _ | with_reducible refine Recs.drew ?_)), by obtain ⟨X0, hX0⟩ := HX.out; subst hX0; exact RowKit.Below.toExt (by (repeat (first | with_reducible assumption | with_reducible exact Below.refl _ _ | with_reducible refine Below.drew ?_ | with_reducible refine Below.ext ?_ (by first | exact Nat.le_refl _ | omega | (simp; done) | (simp; omega)) _ | with_reducible refine Below.alloc ?_ (by first | exact Nat.le_refl _ | omega | (simp; done) | (simp; omega)) _ | with_reducible refine Below.setCell ?_ (by first | exact Nat.le_refl _ | omega | (simp; done) | (simp; omega)) _)))⟩ ?_
  clear ca fa la da ck fk lk dk HRa HRk HX HV HE HQ
  rintro w6 ⟨Ra, Rk, hq, hX⟩
  have HX := Lib.hid hX
  obtain ⟨X0, hX0⟩ := hX
  have HV := Lib.hid (by rw [hX0]; exact HVw.out.ext X0 : Recs wnK w6 (.slice av L.length cap) L)
  have HE := Lib.hid (by rw [hX0]; exact HEw.out.ext X0 : Recs boK w6 (.slice ev B.length ecap) B)
  clear hX0
  have HRa := Lib.hid Ra
  have HRk := Lib.hid Rk
  have HQ := Lib.hid hq
  have ca := Ra.cell
  have fa := Ra.frozen
  have la := Ra.lt
  have da := World.rowD_of Ra
  have ck := Rk.cell
  have fk := Rk.frozen
  have lk := Rk.lt
  have dk := World.rowD_of Rk
  clear Ra Rk hq
  refine wp_region_rel 10 [none, none, none, none, some ([], srV (.int .i64 (L.length : Int))), some ([], srR boK B0), none, none, none, some ([5], srR frK T)] (by kernel_rfl) (by kernel_rfl) ?_
  simp only [List.take_succ_cons, List.take_zero, List.drop_succ_cons, List.drop_zero]
  (repeat (first | (refine rel_none ?_; intro K_ hK_; go_big_quiet_op; go_big_quiet_on) | simp only [Act.put, List.setIfInBounds_toArray, List.set_cons_zero, List.set_cons_succ]))
  refine rel_some rfl (fun w_ hw_ hk_ K_ hK_ => ?_) (fun v4 f4 => ?_)
  · obtain ⟨X_, rfl⟩ := hw_
    go_simp
    exact hK_ _ _ rfl ⟨⟨#[], _⟩, (ext_none' _).symm⟩
  obtain rfl := f4
  (repeat (first | (refine rel_none ?_; intro K_ hK_; go_big_quiet_op; go_big_quiet_on) | simp only [Act.put, List.setIfInBounds_toArray, List.set_cons_zero, List.set_cons_succ]))
  refine rel_some rfl (fun w_ hw_ hk_ K_ hK_ => ?_) (fun v5 f5 => ?_)
  · obtain ⟨X_, rfl⟩ := hw_
    go_simp
    obtain ⟨w2_, e1_, e2_, e3_⟩ := make_bools L.length L.length rfl (by omega) (w6.ext X_)
    rw [e1_]
    exact hK_ _ _ (by rw [← HB0.out]; exact e2_) e3_
  obtain ⟨baT2, bcT2, rfl⟩ := f5
  (repeat (first | (refine rel_none ?_; intro K_ hK_; go_big_quiet_op; go_big_quiet_on) | simp only [Act.put, List.setIfInBounds_toArray, List.set_cons_zero, List.set_cons_succ]))
  refine rel_some rfl (fun w_ hw_ hk_ K_ hK_ => ?_) (fun v9 f9 => ?_)
  · obtain ⟨X_, rfl⟩ := hw_
    have h5 : Recs boK (w6.ext X_) (.slice baT2 B0.length bcT2) B0 := (hk_ (5, _) (by repeat (first | exact List.mem_cons_self | refine List.mem_cons_of_mem _ ?_))) (by simp)
    go_simp
    go_at_call 18
    with_reducible refine (D3.out _ _ (by repeat (first | with_reducible exact HV.out | with_reducible refine Recs.ext ?_ _ | with_reducible refine Recs.alloc ?_ _ | with_reducible refine Recs.drew ?_)) h5).mono ?_
    rintro _ _ ⟨v, rfl, h1, h2⟩
    exact hK_ _ _ h1 h2
  obtain ⟨faT2, fcT2, rfl⟩ := f9
  (repeat (first | (refine rel_none ?_; intro K_ hK_; go_big_quiet_op; go_big_quiet_on) | simp only [Act.put, List.setIfInBounds_toArray, List.set_cons_zero, List.set_cons_succ]))
  refine rel_nil ?_
  intro w_ hw_ kk
  obtain ⟨XT2, rfl⟩ := hw_
  have h9 : Recs frK (w6.ext XT2) (.slice faT2 T.length fcT2) T := (kk (9, _) (by repeat (first | exact List.mem_cons_self | refine List.mem_cons_of_mem _ ?_)))
  have HT2 := Lib.hid h9
  clear h9 kk
  go_upto_region 11 with fail
  refine wp_abs (F := fun w7 => Row w7 w.heap.size #[.slice av L.length cap, .slice ev B.length ecap, .int .i64 k.width, .bool k.soft, .bool k.dashed, .int .i64 k.p, .int .i64 k.r, .int .i64 k.c, .int .i64 k.size, .int .i64 k.kind, .int .i64 k.front, .int .i64 k.back, .bool k.ccw, .int .i64 k.cull, .bool k.off, .int .i64 k.factor, .int .i64 k.units, .int .i64 x0, .int .i64 y0, .int .i64 x1, .int .i64 y1] 31 ∧ Row w7 Bk #[.int .i64 k.width, .bool k.soft, .bool k.dashed, .int .i64 k.p, .int .i64 k.r, .int .i64 k.c, .int .i64 k.size, .int .i64 k.kind, .int .i64 0, .int .i64 0, .bool k.ccw, .int .i64 0, .bool k.off, .int .i64 k.factor, .int .i64 k.units] 27 ∧ Recs frK w7 (.slice aq T.length cq) T ∧ Recs frK w7 (.slice faT2 T.length fcT2) T ∧ ∃ X, w7 = w.ext X) ⟨by (repeat (first | with_reducible exact HRa.out | with_reducible refine Row.ext ?_ _ | with_reducible refine row_drew ?_ | with_reducible refine Row.alloc ?_ _ | with_reducible refine Row.other ?_ (by assumption) _ _)), by (repeat (first | with_reducible exact HRk.out | with_reducible refine Row.ext ?_ _ | with_reducible refine row_drew ?_ | with_reducible refine Row.alloc ?_ _ | with_reducible refine Row.other ?_ (by assumption) _ _)), (by repeat (first | with_reducible exact HQ.out | with_reducible refine Recs.ext ?_ _ | with_reducible refine Recs.alloc ?_ _ | with_reducible refine Recs.drew ?_)), (by repeat (first | with_reducible exact HT2.out | with_reducible refine Recs.ext ?_ _ | with_reducible refine Recs.alloc ?_ _ | with_reducible refine Recs.drew ?_)), by obtain ⟨X0, hX0⟩ := HX.out; subst hX0; exact RowKit.Below.toExt (by (repeat (first | with_reducible assumption | with_reducible exact Below.refl _ _ | with_reducible refine Below.drew ?_ | with_reducible refine Below.ext ?_ (by first | exact Nat.le_refl _ | omega | (simp; done) | (simp; omega)) _ | with_reducible refine Below.alloc ?_ (by first | exact Nat.le_refl _ | omega | (simp; done) | (simp; omega)) _ | with_reducible refine Below.setCell ?_ (by first | exact Nat.le_refl _ | omega | (simp; done) | (simp; omega)) _)))⟩ ?_
  clear ca fa la da ck fk lk dk HRa HRk HX HV HE HQ HT2
  rintro w7 ⟨Ra, Rk, hq, hq2, hX⟩
  have HX := Lib.hid hX
  have HRa := Lib.hid Ra
  have HRk := Lib.hid Rk
  have HQ := Lib.hid hq
  have HQ2 := Lib.hid hq2
  have ca := Ra.cell
  have fa := Ra.frozen
  have la := Ra.lt
  have da := World.rowD_of Ra
  have ck := Rk.cell
  have fk := Rk.frozen
  have lk := Rk.lt
  have dk := World.rowD_of Rk
  clear Ra Rk hq hq2 hX
  go_upto_region 12 with fail
  have r1 : Row (w7.setCell ⟨Bk, 8, none⟩ (.int .i64 (1 + k.front / 2))) Bk #[.int .i64 k.width, .bool k.soft, .bool k.dashed, .int .i64 k.p, .int .i64 k.r, .int .i64 k.c, .int .i64 k.size, .int .i64 k.kind, .int .i64 (1 + k.front / 2), .int .i64 0, .bool k.ccw, .int .i64 0, .bool k.off, .int .i64 k.factor, .int .i64 k.units] 27 := HRk.out.set 8 _
  have r2 : Row ((w7.setCell ⟨Bk, 8, none⟩ (.int .i64 (1 + k.front / 2))).setCell ⟨Bk, 9, none⟩ (.int .i64 2)) Bk #[.int .i64 k.width, .bool k.soft, .bool k.dashed, .int .i64 k.p, .int .i64 k.r, .int .i64 k.c, .int .i64 k.size, .int .i64 k.kind, .int .i64 (1 + k.front / 2), .int .i64 2, .bool k.ccw, .int .i64 0, .bool k.off, .int .i64 k.factor, .int .i64 k.units] 27 := r1.set 9 _
  have nl1 := not_look (k := { k with cull := 0, front := 0, back := 0 }) HRk.out HQ.out
  have nl2 := not_look (k := { k with cull := 0, front := 0, back := 0 }) HRk.out HQ2.out
  refine wp_abs (F := fun w8 => Row w8 w.heap.size #[.slice av L.length cap, .slice ev B.length ecap, .int .i64 k.width, .bool k.soft, .bool k.dashed, .int .i64 k.p, .int .i64 k.r, .int .i64 k.c, .int .i64 k.size, .int .i64 k.kind, .int .i64 k.front, .int .i64 k.back, .bool k.ccw, .int .i64 k.cull, .bool k.off, .int .i64 k.factor, .int .i64 k.units, .int .i64 x0, .int .i64 y0, .int .i64 x1, .int .i64 y1] 31 ∧ Row w8 Bk #[.int .i64 k.width, .bool k.soft, .bool k.dashed, .int .i64 k.p, .int .i64 k.r, .int .i64 k.c, .int .i64 k.size, .int .i64 k.kind, .int .i64 (1 + k.front / 2), .int .i64 2, .bool k.ccw, .int .i64 0, .bool k.off, .int .i64 k.factor, .int .i64 k.units] 27 ∧ Recs frK w8 (.slice aq T.length cq) T ∧ Recs frK w8 (.slice faT2 T.length fcT2) T ∧ ∃ X, w8 = w.ext X) ⟨by (repeat (first | with_reducible exact HRa.out | with_reducible refine Row.ext ?_ _ | with_reducible refine row_drew ?_ | with_reducible refine Row.alloc ?_ _ | with_reducible refine Row.other ?_ (by assumption) _ _)), by (repeat (first | with_reducible exact r2 | with_reducible refine Row.ext ?_ _ | with_reducible refine row_drew ?_)), by (repeat (first | with_reducible exact HQ.out | with_reducible refine Recs.drew ?_ | with_reducible refine Recs.put ?_ nl1)), by (repeat (first | with_reducible exact HQ2.out | with_reducible refine Recs.drew ?_ | with_reducible refine Recs.put ?_ nl2)), by obtain ⟨X0, hX0⟩ := HX.out; subst hX0; exact RowKit.Below.toExt (by (repeat (first | with_reducible assumption | with_reducible exact Below.refl _ _ | with_reducible refine Below.drew ?_ | with_reducible refine Below.ext ?_ (by first | exact Nat.le_refl _ | omega | (simp; done) | (simp; omega)) _ | with_reducible refine Below.alloc ?_ (by first | exact Nat.le_refl _ | omega | (simp; done) | (simp; omega)) _ | with_reducible refine Below.setCell ?_ (by first | exact Nat.le_refl _ | omega | (simp; done) | (simp; omega)) _)))⟩ ?_
  clear ca fa la da ck fk lk dk HRa HRk HX r1 r2 HQ HQ2 nl1 nl2
  rintro w8 ⟨Ra, Rk, hq, hq2, hX⟩
  have HX := Lib.hid hX
  obtain ⟨X0, hX0⟩ := hX
  have HV := Lib.hid (by rw [hX0]; exact HVw.out.ext X0 : Recs wnK w8 (.slice av L.length cap) L)
  have HE := Lib.hid (by rw [hX0]; exact HEw.out.ext X0 : Recs boK w8 (.slice ev B.length ecap) B)
  clear hX0
  have HRa := Lib.hid Ra
  have HRk := Lib.hid Rk
  have HQ := Lib.hid hq
  have HQ2 := Lib.hid hq2
  have ca := Ra.cell
  have fa := Ra.frozen
  have la := Ra.lt
  have da := World.rowD_of Ra
  have ck := Rk.cell
  have fk := Rk.frozen
  have lk := Rk.lt
  have dk := World.rowD_of Rk
  clear Ra Rk hq hq2
  refine wp_region_rel 10 [none, none, none, none, some ([], srV (.int .i64 (L.length : Int))), some ([], srR boK B0), none, none, none, some ([5], srR frK ([] : List FrP))] (by kernel_rfl) (by kernel_rfl) ?_
  simp only [List.take_succ_cons, List.take_zero, List.drop_succ_cons, List.drop_zero]
  (repeat (first | (refine rel_none ?_; intro K_ hK_; go_big_quiet_op; go_big_quiet_on) | simp only [Act.put, List.setIfInBounds_toArray, List.set_cons_zero, List.set_cons_succ]))
  refine rel_some rfl (fun w_ hw_ hk_ K_ hK_ => ?_) (fun v4 f4 => ?_)
  · obtain ⟨X_, rfl⟩ := hw_
    go_simp
    exact hK_ _ _ rfl ⟨⟨#[], _⟩, (ext_none' _).symm⟩
  obtain rfl := f4
  (repeat (first | (refine rel_none ?_; intro K_ hK_; go_big_quiet_op; go_big_quiet_on) | simp only [Act.put, List.setIfInBounds_toArray, List.set_cons_zero, List.set_cons_succ]))
  refine rel_some rfl (fun w_ hw_ hk_ K_ hK_ => ?_) (fun v5 f5 => ?_)
  · obtain ⟨X_, rfl⟩ := hw_
    go_simp
    obtain ⟨w2_, e1_, e2_, e3_⟩ := make_bools L.length L.length rfl (by omega) (w8.ext X_)
    rw [e1_]
    exact hK_ _ _ (by rw [← HB0.out]; exact e2_) e3_
  obtain ⟨baT3, bcT3, rfl⟩ := f5
  (repeat (first | (refine rel_none ?_; intro K_ hK_; go_big_quiet_op; go_big_quiet_on) | simp only [Act.put, List.setIfInBounds_toArray, List.set_cons_zero, List.set_cons_succ]))
  refine rel_some rfl (fun w_ hw_ hk_ K_ hK_ => ?_) (fun v9 f9 => ?_)
  · obtain ⟨X_, rfl⟩ := hw_
    have h5 : Recs boK (w8.ext X_) (.slice baT3 B0.length bcT3) B0 := (hk_ (5, _) (by repeat (first | exact List.mem_cons_self | refine List.mem_cons_of_mem _ ?_))) (by simp)
    go_simp
    go_at_call 18
    with_reducible refine (D4.out _ _ (by repeat (first | with_reducible exact HV.out | with_reducible refine Recs.ext ?_ _ | with_reducible refine Recs.alloc ?_ _ | with_reducible refine Recs.drew ?_)) h5).mono ?_
    rintro _ _ ⟨v, rfl, h1, h2⟩
    exact hK_ _ _ h1 h2
  obtain ⟨faT3, fcT3, rfl⟩ := f9
  (repeat (first | (refine rel_none ?_; intro K_ hK_; go_big_quiet_op; go_big_quiet_on) | simp only [Act.put, List.setIfInBounds_toArray, List.set_cons_zero, List.set_cons_succ]))
  refine rel_nil ?_
  intro w_ hw_ kk
  obtain ⟨XT3, rfl⟩ := hw_
  have h9 : Recs frK (w8.ext XT3) (.slice faT3 ([] : List FrP).length fcT3) ([] : List FrP) := (kk (9, _) (by repeat (first | exact List.mem_cons_self | refine List.mem_cons_of_mem _ ?_)))
  have HT3 := Lib.hid h9
  clear h9 kk
  go_upto_region 13 with fail
  refine wp_abs (F := fun w9 => Row w9 w.heap.size #[.slice av L.length cap, .slice ev B.length ecap, .int .i64 k.width, .bool k.soft, .bool k.dashed, .int .i64 k.p, .int .i64 k.r, .int .i64 k.c, .int .i64 k.size, .int .i64 k.kind, .int .i64 k.front, .int .i64 k.back, .bool k.ccw, .int .i64 k.cull, .bool k.off, .int .i64 k.factor, .int .i64 k.units, .int .i64 x0, .int .i64 y0, .int .i64 x1, .int .i64 y1] 31 ∧ Recs frK w9 (.slice aq T.length cq) T ∧ Recs frK w9 (.slice faT2 T.length fcT2) T ∧ ∃ X, w9 = w.ext X) ⟨by (repeat (first | with_reducible exact HRa.out | with_reducible refine Row.ext ?_ _ | with_reducible refine row_drew ?_ | with_reducible refine Row.alloc ?_ _ | with_reducible refine Row.other ?_ (by assumption) _ _)), (by repeat (first | with_reducible exact HQ.out | with_reducible refine Recs.ext ?_ _ | with_reducible refine Recs.alloc ?_ _ | with_reducible refine Recs.drew ?_)), (by repeat (first | with_reducible exact HQ2.out | with_reducible refine Recs.ext ?_ _ | with_reducible refine Recs.alloc ?_ _ | with_reducible refine Recs.drew ?_)), by obtain ⟨X0, hX0⟩ := HX.out; subst hX0; exact RowKit.Below.toExt (by (repeat (first | with_reducible assumption | with_reducible exact Below.refl _ _ | with_reducible refine Below.drew ?_ | with_reducible refine Below.ext ?_ (by first | exact Nat.le_refl _ | omega | (simp; done) | (simp; omega)) _ | with_reducible refine Below.alloc ?_ (by first | exact Nat.le_refl _ | omega | (simp; done) | (simp; omega)) _ | with_reducible refine Below.setCell ?_ (by first | exact Nat.le_refl _ | omega | (simp; done) | (simp; omega)) _)))⟩ ?_
  clear ca fa la da ck fk lk dk HRa HRk HX HV HE HQ HQ2 HT3
  rintro w9 ⟨Ra, hq, hq2, hX⟩
  have HX := Lib.hid hX
  have HQ := Lib.hid hq
  have HQ2 := Lib.hid hq2
  have SA := Lib.hid (fun w1 h1 h2 => same_frs (w := w1) (L := T) (a := .slice aq T.length cq) (b := .slice faT2 T.length fcT2) h1 h2)
  have ca := Ra.cell
  have fa := Ra.frozen
  have la := Ra.lt
  have da := World.rowD_of Ra
  clear Ra hq2 hX
  obtain ⟨-, av', cap', hqq, -, hcl⟩ := hq
  obtain ⟨rfl, rfl⟩ : aq = av' ∧ cq = cap' := by simpa using hqq
  have HCL := Lib.hid hcl
  clear hqq hcl
  go_wp2
  go_loopw [7] (fun i wr => ∃ (j : Nat), j ≤ T.length ∧ i = .int .i64 j ∧ ∃ X, wr = w9.ext X)
    (fun i _ => T.length - (intOf i).toNat)
  case atStart => exact ⟨0, by omega, rfl, _, (ext_none' _).symm⟩
  case round =>
    obtain ⟨j, hj, rfl, X, rfl⟩ := hrel
    by_cases hlt : j < T.length
    · have HJ := Lib.hid (show j + 1 ≤ T.length from hlt)
      have hji : (j : Int) < T.length := by omega
      obtain ⟨f, hf⟩ : ∃ f, T[j]? = some f := ⟨_, List.getElem?_eq_getElem hlt⟩
      have hh := fun w => rrect_has x0 y0 x1 y1 f.x f.y w
      rw [decide_eq_true (HI.out f (List.mem_of_getElem? hf))] at hh
      have HH := Lib.hid hh
      rcases HCL.out with e | ⟨lb, lo, rfl, hlb, hcl⟩
      · rw [e] at hlt; simp at hlt
      have g0 : w9.cell? ⟨lb, lo + j * 8, none⟩ = some (.int .i64 f.x) := hcl j _ hf 0 _ rfl
      have g1 : w9.cell? ⟨lb, lo + j * 8 + 1, none⟩ = some (.int .i64 f.y) := hcl j _ hf 1 _ rfl
      obtain ⟨fx, fy, fz, t0, t1, t2, t3, t4⟩ := f
      simp only at g0 g1 HH
      clear hcl hf hh
      go_wp2
      refine wp_region_ext (by kernel_rfl) (by kernel_rfl) ?_
      repeat (go_big_quiet_step ((first | (go_at_call 33; with_reducible exact Calls.quiet_ret (HH.out _)))))
      refine wpQuiet_nil ?_
      intro _ hw_ext
      obtain ⟨Y, hw_ext⟩ := hw_ext
      subst hw_ext
      go_wp2
      go_roundw
      case rel => exact ⟨j + 1, HJ.out, by go_num, RowKit.Below.toExt (by (repeat (first | with_reducible assumption | with_reducible exact Below.refl _ _ | with_reducible refine Below.drew ?_ | with_reducible refine Below.ext ?_ (by first | exact Nat.le_refl _ | omega | (simp; done) | (simp; omega)) _ | with_reducible refine Below.alloc ?_ (by first | exact Nat.le_refl _ | omega | (simp; done) | (simp; omega)) _ | with_reducible refine Below.setCell ?_ (by first | exact Nat.le_refl _ | omega | (simp; done) | (simp; omega)) _)))⟩
      case measure => have := HJ.out; simp [intOf]; omega
    · obtain rfl : j = T.length := by omega
      go_wp2_with (first | (go_at_call 14; (with_reducible refine (awake22 _).mono ?_); rintro _ _ ⟨rfl, X_, rfl⟩) | (go_at_call 17; (with_reducible refine (SA.out _ (by repeat (first | with_reducible exact HQ.out | with_reducible refine Recs.ext ?_ _ | with_reducible refine Recs.alloc ?_ _ | with_reducible refine Recs.drew ?_)) (by repeat (first | with_reducible exact HQ2.out | with_reducible refine Recs.ext ?_ _ | with_reducible refine Recs.alloc ?_ _ | with_reducible refine Recs.drew ?_))).mono ?_); rintro _ _ ⟨rfl, X_, rfl⟩))
      go_ret
      obtain ⟨X0, hX0⟩ := HX.out
      subst hX0
      exact Ret.of' (by first | rfl | simp) (by (repeat (first | with_reducible assumption | with_reducible exact Below.refl _ _ | with_reducible refine Below.drew ?_ | with_reducible refine Below.ext ?_ (by first | exact Nat.le_refl _ | omega | (simp; done) | (simp; omega)) _ | with_reducible refine Below.alloc ?_ (by first | exact Nat.le_refl _ | omega | (simp; done) | (simp; omega)) _ | with_reducible refine Below.setCell ?_ (by first | exact Nat.le_refl _ | omega | (simp; done) | (simp; omega)) _)))
theorem FaceCulls_all : FaceCulls_stmt := by
  rintro v ev kw ks kd kp kr kc kz kk kf kb kcw kcu ko kfa ku x0 y0 x1 y1 w ⟨⟨zL, hL⟩, ⟨zE, hE⟩, q1, q2, q3, q4, q5, q6, q7, q8, q9, q10, q11, -⟩
  have hL : Sls w 7 winR v zL := hL
  have hE : Sls w 1 boolR ev zE := hE
  obtain ⟨av, cap, ev1, mL⟩ := sls_form hL
  obtain ⟨eva, ecap, ev2, mE⟩ := sls_form hE
  subst ev1
  subst ev2
  by_cases hs : zL.length ≤ 12 ∧ zE.length ≤ 14 ∧ areaP x0 y0 x1 y1 ≤ 80
  · obtain ⟨s1, s2, s3⟩ := hs
    obtain ⟨L, e1, hv, hw⟩ := sls_win hL (by omega)
    obtain ⟨B, e2, he⟩ := sls_bool hE (by omega)
    rw [← e1] at hv s1 ⊢
    rw [← e2] at he s2 ⊢
    by_cases h : mayP L B ∧ (⟨kw, ks, kd, kp, kr, kc, kz, kk, kf, kb, kcw, kcu, ko, kfa, ku⟩ : LookP).ok ∧ rightP x0 y0 x1 y1
    · exact culls22_in av eva cap ecap L B ⟨kw, ks, kd, kp, kr, kc, kz, kk, kf, kb, kcw, kcu, ko, kfa, ku⟩ x0 y0 x1 y1 w hv he hw ⟨q1, q2, q3, q4, q5, q6, q7, q8, q9, q10, q11⟩ s1 s2 s3 h.1 h.2.1 h.2.2
    · exact culls22_no av eva cap ecap L B ⟨kw, ks, kd, kp, kr, kc, kz, kk, kf, kb, kcw, kcu, ko, kfa, ku⟩ x0 y0 x1 y1 w hv he hw ⟨q1, q2, q3, q4, q5, q6, q7, q8, q9, q10, q11⟩ s1 s2 s3 h
  · exact culls22_big av eva zL.length cap zE.length ecap ⟨kw, ks, kd, kp, kr, kc, kz, kk, kf, kb, kcw, kcu, ko, kfa, ku⟩ x0 y0 x1 y1 w mL mE hs
theorem FaceCulls_holds : Rows.FaceCullsSaid := FaceCulls_end FaceCulls_all
end Go.Proofs.YtciooaihobnifaaGreat
