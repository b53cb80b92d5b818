/- The walk of the reference of layer 20: a triangle's spans. Conditions: bounds of places. -/
import Derived.Test.YtamfjfnceeagiaaSpanB
import Derived.Test.YtamfjfnceeagiaaSlopeI
namespace Go.Proofs.Ytamfjfnceeagiaa
set_option linter.unusedVariables false
set_option linter.unusedSimpArgs false
open Go.RowKit
/-- What the reference has of a row ahead of a column. -/
def SpS (F T x0 x n s0 s1 : Int) : Prop := (n = 0 ∧ s0 = 0 ∧ s1 = 0 ∧ (x ≤ F ∨ T ≤ F)) ∨ (0 < n ∧ n ≤ x - x0 ∧ s0 = F ∧ s1 = min x T ∧ F < x ∧ F < T)
theorem SpS.no {F T x0 x n s0 s1 : Int} (h : SpS F T x0 x n s0 s1) (hn : ¬ (F ≤ x ∧ x < T)) : SpS F T x0 (x + 1) n s0 s1 := by unfold SpS at *; omega
theorem SpS.first {F T x0 x n s0 s1 : Int} (h : SpS F T x0 x n s0 s1) (hn : F ≤ x ∧ x < T) (h0 : x0 ≤ x) (hz : n = 0) : SpS F T x0 (x + 1) (n + 1) x (x + 1) := by unfold SpS at *; omega
theorem SpS.more {F T x0 x n s0 s1 : Int} (h : SpS F T x0 x n s0 s1) (hn : F ≤ x ∧ x < T) (h0 : x0 ≤ x) (hz : ¬ n = 0) : SpS F T x0 (x + 1) (n + 1) s0 (x + 1) := by unfold SpS at *; omega
/-- What a loop over a triangle's pixels has in memory. -/
abbrev BxH {α : Type} (K : RecK α) (E : TypeId) (w : World) (a b c : WinP) (x0 y0 x1 y1 : Int) (v : Value) (L : List α) (wr : World) : Prop := Hold K w wr E [(w.heap.size, #[.int .i64 a.x, .int .i64 a.y, .int .i64 a.z, .int .i64 a.c0, .int .i64 a.c1, .int .i64 a.c2, .int .i64 a.c3], 25), (w.heap.size + 1, #[.int .i64 b.x, .int .i64 b.y, .int .i64 b.z, .int .i64 b.c0, .int .i64 b.c1, .int .i64 b.c2, .int .i64 b.c3], 25), (w.heap.size + 1 + 1, #[.int .i64 c.x, .int .i64 c.y, .int .i64 c.z, .int .i64 c.c0, .int .i64 c.c1, .int .i64 c.c2, .int .i64 c.c3], 25), (w.heap.size + 1 + 1 + 1, #[.int .i64 x0, .int .i64 y0, .int .i64 x1, .int .i64 y1], 39)] v L
theorem rspans_no (a b c : WinP) (x0 y0 x1 y1 : Int) (hr : ¬ rightP x0 y0 x1 y1) (w : World) : Calls Try.prog 41 #[a.v, b.v, c.v, R4 x0 y0 x1 y1] w (RLists spK w (spansL a b c x0 y0 x1 y1)) := by
  have e : spansL a b c x0 y0 x1 y1 = [] := if_pos (.inr hr)
  rw [e]
  have HR := Lib.hid (fun w => decide_eq_false hr ▸ rrect_right x0 y0 x1 y1 w)
  clear hr e
  go_enter Try.func41, Try.ntmps41
  go_wp2_with (first | (go_at_call 35; (with_reducible refine (HR.out _).mono ?_); rintro _ _ ⟨rfl, X_, rfl⟩))
  go_ret
  exact ⟨_, rfl, recs_nil _, RowKit.Below.toExt (by (repeat (first | exact Below.refl _ _ | with_reducible refine Below.drew ?_ | with_reducible refine Below.ext ?_ (by first | exact Nat.le_refl _ | (simp; done) | (simp; omega)) _ | with_reducible refine Below.alloc ?_ (by first | exact Nat.le_refl _ | (simp; done) | (simp; omega)) _ | with_reducible refine Below.setCell ?_ (by first | exact Nat.le_refl _ | (simp; done) | (simp; omega)) _)))⟩
theorem spansL_any (a b c : WinP) (x0 y0 x1 y1 : Int) (hr : rightP x0 y0 x1 y1) : spansL a b c x0 y0 x1 y1 = (if ar a b c = 0 then [] else spansTo a b c x0 x1 y0 y1) := by
  unfold spansL
  by_cases h : ar a b c = 0
  · rw [if_pos (.inl h), if_pos h]
  · rw [if_neg (fun k => k.elim h (fun k => k hr)), if_neg h]
/-- The spans up to a row, also of no area. -/
def spTo (a b c : WinP) (x0 x1 y0 y : Int) : List SpP := if ar a b c = 0 then [] else spansTo a b c x0 x1 y0 y
def rowAt (a b c : WinP) (x0 x1 y : Int) : Int × Int := if ar a b c = 0 then (0, 0) else (spF a b c x0 y, spT a b c x0 x1 y)
theorem spTo_snoc (a b c : WinP) (x0 x1 y0 y : Int) (h : y0 ≤ y) : spTo a b c x0 x1 y0 (y + 1) = spTo a b c x0 x1 y0 y ++ (if (rowAt a b c x0 x1 y).1 < (rowAt a b c x0 x1 y).2 then [⟨y, (rowAt a b c x0 x1 y).1, (rowAt a b c x0 x1 y).2⟩] else []) := by
  unfold spTo rowAt
  by_cases h0 : ar a b c = 0
  · simp [h0]
  · simp only [if_neg h0]; rw [spansTo_snoc _ _ _ _ _ _ _ h]; rfl
theorem spTo_start (a b c : WinP) (x0 x1 y0 : Int) : spTo a b c x0 x1 y0 y0 = [] := by
  unfold spTo spansTo; rw [rng_nil (Int.le_refl _)]; simp
theorem spTo_len (a b c : WinP) (x0 x1 y0 y : Int) : (spTo a b c x0 x1 y0 y).length ≤ (y - y0).toNat := by
  unfold spTo; split
  · simp
  · exact spansTo_len a b c x0 x1 y0 y
theorem rowAt_iff (a b c : WinP) {x0 x1 y x : Int} (h0 : x0 ≤ x) (h1 : x < x1) : triHas a b c x y ↔ ((rowAt a b c x0 x1 y).1 ≤ x ∧ x < (rowAt a b c x0 x1 y).2) := by
  unfold rowAt
  by_cases h : ar a b c = 0
  · rw [if_pos h]; exact ⟨fun k => absurd h k.1, fun k => by simp only at k; omega⟩
  · rw [if_neg h]; exact has_row h h0 h1
theorem rowAt_in (a b c : WinP) (x0 x1 y : Int) (hl : (rowAt a b c x0 x1 y).1 < (rowAt a b c x0 x1 y).2) : x0 ≤ (rowAt a b c x0 x1 y).1 ∧ (rowAt a b c x0 x1 y).2 ≤ x1 := by
  unfold rowAt at *
  by_cases h : ar a b c = 0
  · rw [if_pos h] at hl; simp at hl
  · rw [if_neg h] at hl ⊢
    simp only at *
    have k1 := (span_iff h x0 x1 (spF a b c x0 y) y).1 ⟨Int.le_refl _, hl⟩
    have k2 := (span_iff h x0 x1 (spT a b c x0 x1 y - 1) y).1 ⟨by omega, by omega⟩
    omega
set_option maxRecDepth 100000 in
set_option maxHeartbeats 8000000 in
theorem rspans_in (a b c : WinP) (x0 y0 x1 y1 : Int) (ha : a.fits) (hb : b.fits) (hc : c.fits) (hr : rightP x0 y0 x1 y1) (w : World) : Calls Try.prog 41 #[a.v, b.v, c.v, R4 x0 y0 x1 y1] w (RLists spK w (spansL a b c x0 y0 x1 y1)) := by
  have e : spansL a b c x0 y0 x1 y1 = spTo a b c x0 x1 y0 y1 := spansL_any a b c x0 y0 x1 y1 hr
  rw [e]
  clear e
  have HR := Lib.hid (fun w => decide_eq_true hr ▸ rrect_right x0 y0 x1 y1 w)
  obtain ⟨⟨r0, r1⟩, ⟨r2, r3⟩, ⟨r4, r5⟩, ⟨r6, r7⟩, rx, ry⟩ := hr
  have HA := Lib.hid (fun x y (hx : Near x y) w => rhas20_any a b c x y ha hb hc hx w)
  have HI := Lib.hid (fun x y h0 h1 => rowAt_iff a b c (x0 := x0) (x1 := x1) (x := x) (y := y) h0 h1)
  have HIN := Lib.hid (fun y hl => rowAt_in a b c x0 x1 y hl)
  have HSN := Lib.hid (fun y h => spTo_snoc a b c x0 x1 y0 y h)
  have HST := Lib.hid (spTo_start a b c x0 x1 y0)
  have HSL := Lib.hid (fun y => spTo_len a b c x0 x1 y0 y)
  obtain ⟨T, hT⟩ : ∃ T, T = spTo a b c x0 x1 y0 := ⟨_, rfl⟩
  obtain ⟨D, hD⟩ : ∃ D, D = rowAt a b c x0 x1 := ⟨_, rfl⟩
  simp only [← hT, ← hD] at *
  clear hT hD ha hb hc
  go_enter Try.func41, Try.ntmps41
  go_upto_region 3 with (first | (go_at_call 35; (with_reducible refine (HR.out _).mono ?_); rintro _ _ ⟨rfl, X_, rfl⟩))
  refine wp_abs (F := BxH spK 69 w a b c x0 y0 x1 y1 (.slice none 0 0) []) (Hold.start (List.forall_mem_cons.2 ⟨by (repeat (first | assumption | with_reducible refine Row.ext ?_ _ | with_reducible refine row_drew ?_ | (with_reducible refine row_last ?_; first | rfl | (simp; done)) | with_reducible refine Row.alloc ?_ _)), List.forall_mem_cons.2 ⟨by (repeat (first | assumption | with_reducible refine Row.ext ?_ _ | with_reducible refine row_drew ?_ | (with_reducible refine row_last ?_; first | rfl | (simp; done)) | with_reducible refine Row.alloc ?_ _)), List.forall_mem_cons.2 ⟨by (repeat (first | assumption | with_reducible refine Row.ext ?_ _ | with_reducible refine row_drew ?_ | (with_reducible refine row_last ?_; first | rfl | (simp; done)) | with_reducible refine Row.alloc ?_ _)), List.forall_mem_cons.2 ⟨by (repeat (first | assumption | with_reducible refine Row.ext ?_ _ | with_reducible refine row_drew ?_ | (with_reducible refine row_last ?_; first | rfl | (simp; done)) | with_reducible refine Row.alloc ?_ _)), by simp⟩⟩⟩⟩) (by simp) (RowKit.Below.toExt (by (repeat (first | exact Below.refl _ _ | with_reducible refine Below.drew ?_ | with_reducible refine Below.ext ?_ (by first | exact Nat.le_refl _ | (simp; done) | (simp; omega)) _ | with_reducible refine Below.alloc ?_ (by first | exact Nat.le_refl _ | (simp; done) | (simp; omega)) _ | with_reducible refine Below.setCell ?_ (by first | exact Nat.le_refl _ | (simp; done) | (simp; omega)) _))))) ?_
  intro w1 h1
  have H1 := Lib.hid h1
  clear h1
  obtain ⟨i0, hii, hz0, hz1, hz2⟩ := info_parts info_span
  have d0 := H1.out.rows _ (List.mem_cons_of_mem _ (List.mem_cons_of_mem _ (List.mem_cons_of_mem _ (List.mem_cons_self ..))))
  simp only at d0
  have d1 := d0.cell
  have d2 := d0.frozen
  have d3 := d0.lt
  clear d0
  go_wp2
  clear d1 d2 d3
  go_loopw [10, 9] (fun i o wr => ∃ (y : Int) (v : Value) (L : List SpP), y0 ≤ y ∧ y ≤ y1 ∧ i = .int .i64 y ∧ o = v ∧ Hid (L = T y) ∧ Hid (BxH spK 69 w a b c x0 y0 x1 y1 v L wr))
    (fun i _ _ => (y1 - intOf i).toNat)
  case atStart => exact ⟨y0, _, [], by omega, by omega, rfl, rfl, Lib.hid HST.out.symm, H1⟩
  case round =>
    clear H1
    obtain ⟨y, v, L, hy0, hy1, rfl, hv, hL, hR⟩ := hrel
    have hv := hv.symm
    subst hv
    have d0 := hR.out.rows _ (List.mem_cons_of_mem _ (List.mem_cons_of_mem _ (List.mem_cons_of_mem _ (List.mem_cons_self ..))))
    simp only at d0
    have d1 := d0.cell
    have d2 := d0.frozen
    have d3 := d0.lt
    clear d0
    by_cases hlt : y < y1
    · go_wp2
      have HOV := Lib.hid (fun g (h : v.ownBlock = some g) => (hR.out.own.lt g h).2)
      have HBS := Lib.hid d3
      refine wp_abs (F := fun w2 => ∃ B, B = wr.heap.size ∧ Row w2 B #[.int .i64 y, .int .i64 0, .int .i64 0] 69 ∧ BxH spK 69 w a b c x0 y0 x1 y1 v L w2) ⟨_, rfl, by (repeat (first | assumption | with_reducible refine Row.ext ?_ _ | with_reducible refine row_drew ?_ | (with_reducible refine row_last ?_; first | rfl | (simp; done)) | with_reducible refine Row.alloc ?_ _)), hR.out.grown (by (repeat (first | exact Below.refl _ _ | with_reducible refine Below.drew ?_ | with_reducible refine Below.ext ?_ (by first | exact Nat.le_refl _ | (simp; done) | (simp; omega)) _ | with_reducible refine Below.alloc ?_ (by first | exact Nat.le_refl _ | (simp; done) | (simp; omega)) _ | with_reducible refine Below.setCell ?_ (by first | exact Nat.le_refl _ | (simp; done) | (simp; omega)) _)))⟩ ?_
      rintro w2 ⟨B, hB, hs, h2⟩
      rw [← hB]
      rw [← hB] at HOV HBS
      have HS2 := Lib.hid hs
      have HR2 := Lib.hid h2
      have SQ := Lib.hid (HSN.out y (by omega))
      have DI := Lib.hid (HIN.out y)
      obtain ⟨F, hF⟩ : ∃ F, (D y).1 = F := ⟨_, rfl⟩
      obtain ⟨G, hG⟩ : ∃ F, (D y).2 = F := ⟨_, rfl⟩
      simp only [hF, hG] at SQ DI
      have FI := Lib.hid (fun x h0 h1 => HI.out x y h0 h1)
      simp only [hF, hG] at FI
      clear hF hG hs h2 hB d1 d2 d3 hR
      go_loopw [12, 13] (fun n x wr => ∃ (nn xx s0 s1 : Int), Hid (SpS F G x0 xx nn s0 s1) ∧ x0 ≤ xx ∧ xx ≤ x1 ∧ n = .int .i64 nn ∧ x = .int .i64 xx ∧ Hid (Row wr B #[.int .i64 y, .int .i64 s0, .int .i64 s1] 69) ∧ Hid (BxH spK 69 w a b c x0 y0 x1 y1 v L wr))
        (fun _ x _ => (x1 - intOf x).toNat)
      case atStart => exact ⟨0, x0, 0, 0, Lib.hid (by unfold SpS; by_cases h : F < G; (have := DI.out h; omega); omega), by omega, by omega, rfl, rfl, HS2, HR2⟩
      case round =>
        clear HS2 HR2
        obtain ⟨nn, xx, s0, s1, hP, hx0, hx1, rfl, rfl, hS, hR⟩ := hrel
        have nb : 0 ≤ nn ∧ nn ≤ 8388608 := by have := hP.out; unfold SpS at this; omega
        obtain ⟨n0, n1⟩ := nb
        have a0 := hR.out.rows _ (List.mem_cons_self ..)
        simp only at a0
        have a1 := a0.cell
        have a2 := a0.frozen
        have a3 := a0.lt
        clear a0
        have b0 := hR.out.rows _ (List.mem_cons_of_mem _ (List.mem_cons_self ..))
        simp only at b0
        have b1 := b0.cell
        have b2 := b0.frozen
        have b3 := b0.lt
        clear b0
        have c0 := hR.out.rows _ (List.mem_cons_of_mem _ (List.mem_cons_of_mem _ (List.mem_cons_self ..)))
        simp only at c0
        have c1 := c0.cell
        have c2 := c0.frozen
        have c3 := c0.lt
        clear c0
        have d0 := hR.out.rows _ (List.mem_cons_of_mem _ (List.mem_cons_of_mem _ (List.mem_cons_of_mem _ (List.mem_cons_self ..))))
        simp only at d0
        have d1 := d0.cell
        have d2 := d0.frozen
        have d3 := d0.lt
        clear d0
        have e1 := hS.out.cell
        have e2 := hS.out.frozen
        have e3 := hS.out.lt
        by_cases hl2 : xx < x1
        · obtain ⟨t, ht⟩ : ∃ t, decide (triHas a b c xx y) = t := ⟨_, rfl⟩
          have HA1 := Lib.hid (fun w => ht ▸ HA.out xx y ⟨by omega, by omega, by omega, by omega⟩ w)
          have fi := FI.out xx (by omega) hl2
          have HFI := Lib.hid fi
          have HT := Lib.hid ht
          clear fi ht
          cases t
          · have P2 := Lib.hid (hP.out.no (fun k => of_decide_eq_false HT.out (HFI.out.2 k)))
            go_wp2_with (first | (go_at_call 73; (with_reducible refine (HA1.out _).mono ?_); rintro _ _ ⟨rfl, X_, rfl⟩))
            go_roundw
            case rel => exact ⟨nn, xx + 1, s0, s1, P2, by omega, by omega, rfl, rfl, Lib.hid (hS.out.ext _), Lib.hid (hR.out.grow _)⟩
            case measure => simp [intOf]; omega
          · have hk := HFI.out.1 (of_decide_eq_true HT.out)
            by_cases hz : nn = 0
            · have P2 := Lib.hid (hP.out.first hk (by omega) hz)
              have nz : (nn == 0) = true := by simpa using hz
              clear hk hz
              go_wp2_with (first | (go_at_call 73; (with_reducible refine (HA1.out _).mono ?_); rintro _ _ ⟨rfl, X_, rfl⟩))
              go_roundw
              case rel =>
                have hne : some B ≠ v.ownBlock := fun e => by have := HOV.out B e.symm; omega
                have hbs := HBS.out
                have hrw : ∀ r ∈ ([(w.heap.size, #[.int .i64 a.x, .int .i64 a.y, .int .i64 a.z, .int .i64 a.c0, .int .i64 a.c1, .int .i64 a.c2, .int .i64 a.c3], 25), (w.heap.size + 1, #[.int .i64 b.x, .int .i64 b.y, .int .i64 b.z, .int .i64 b.c0, .int .i64 b.c1, .int .i64 b.c2, .int .i64 b.c3], 25), (w.heap.size + 1 + 1, #[.int .i64 c.x, .int .i64 c.y, .int .i64 c.z, .int .i64 c.c0, .int .i64 c.c1, .int .i64 c.c2, .int .i64 c.c3], 25), (w.heap.size + 1 + 1 + 1, #[.int .i64 x0, .int .i64 y0, .int .i64 x1, .int .i64 y1], 39)] : List (Nat × Array Value × TypeId)), r.1 ≠ B := by simp; omega
                exact ⟨nn + 1, xx + 1, xx, xx + 1, P2, by omega, by omega, rfl, rfl, Lib.hid (Row.ext (by have := (hS.out.set 1 (.int .i64 xx)).set 2 (.int .i64 (xx + 1)); simpa using this) _), Lib.hid (Hold.grow (Hold.put1 (Hold.put1 hR.out hne (by omega) hrw) hne (by omega) hrw) _)⟩
              case measure => simp [intOf]; omega
            · have P2 := Lib.hid (hP.out.more hk (by omega) hz)
              have nz : (nn == 0) = false := by simpa using hz
              clear hk hz
              go_wp2_with (first | (go_at_call 73; (with_reducible refine (HA1.out _).mono ?_); rintro _ _ ⟨rfl, X_, rfl⟩))
              go_roundw
              case rel =>
                have hne : some B ≠ v.ownBlock := fun e => by have := HOV.out B e.symm; omega
                have hbs := HBS.out
                have hrw : ∀ r ∈ ([(w.heap.size, #[.int .i64 a.x, .int .i64 a.y, .int .i64 a.z, .int .i64 a.c0, .int .i64 a.c1, .int .i64 a.c2, .int .i64 a.c3], 25), (w.heap.size + 1, #[.int .i64 b.x, .int .i64 b.y, .int .i64 b.z, .int .i64 b.c0, .int .i64 b.c1, .int .i64 b.c2, .int .i64 b.c3], 25), (w.heap.size + 1 + 1, #[.int .i64 c.x, .int .i64 c.y, .int .i64 c.z, .int .i64 c.c0, .int .i64 c.c1, .int .i64 c.c2, .int .i64 c.c3], 25), (w.heap.size + 1 + 1 + 1, #[.int .i64 x0, .int .i64 y0, .int .i64 x1, .int .i64 y1], 39)] : List (Nat × Array Value × TypeId)), r.1 ≠ B := by simp; omega
                exact ⟨nn + 1, xx + 1, s0, xx + 1, P2, by omega, by omega, rfl, rfl, Lib.hid (Row.ext (by have := hS.out.set 2 (.int .i64 (xx + 1)); simpa using this) _), Lib.hid (Hold.grow (Hold.put1 hR.out hne (by omega) hrw) _)⟩
              case measure => simp [intOf]; omega
        · have hsz := hR.out.size
          obtain ⟨w5, rfl⟩ : ∃ w5, w5 = wr := ⟨_, rfl⟩
          by_cases hn : 0 < nn
          · have hq : s0 = F ∧ s1 = G ∧ F < G := by have := hP.out; unfold SpS at this; have := DI.out (by omega); omega
            obtain ⟨q0, q1, q2⟩ := hq
            have e1 : T (y + 1) = L ++ [⟨y, s0, s1⟩] := by rw [SQ.out, if_pos q2, ← hL.out, q0, q1]
            have E1 := Lib.hid e1
            have hlb : L.length ≤ 8388608 := by rw [hL.out]; have := HSL.out y; omega
            have LB1 := Lib.hid (show L.length + 1 ≤ maxLen by unfold maxLen; omega)
            have LB2 := Lib.hid (show (L.length + 1) * 24 ≤ 140737488355328 by omega)
            clear q0 q1 q2 hlb
            go_wp2_with (first
              | (at_builtin; refine wpList_append_own _ rfl _ _ 66 rfl w.heap.size 69 i0 (.agg #[.int .i64 0, .int .i64 0, .int .i64 0]) 3 24 Try.underlying66 hii hz0 hz1 hz2 rfl (by decide) v L.length (L.flatMap SpP.cells) rfl (hR.out.own.alloc _) ⟨w5.heap.size, 0, none⟩ 1 1 (SpP.cells ⟨y, s0, s1⟩) rfl rfl (cells_newR rfl _ _) (spK.one ⟨y, s0, s1⟩) LB1.out LB2.out (by simp; omega) ?_; intro v' w6 hown hgrow _; have h5 := hR.out.snoc (s := ⟨y, s0, s1⟩) hown hgrow; have H5 := Lib.hid h5; clear hown hgrow h5))
            go_roundw
            case rel => exact ⟨y + 1, _, L ++ [⟨y, s0, s1⟩], by omega, by omega, rfl, rfl, Lib.hid E1.out.symm, H5⟩
            case measure => simp [intOf]; omega
          · have hq : ¬ F < G := by intro hfg; have := hP.out; unfold SpS at this; have := DI.out hfg; omega
            have e1 : T (y + 1) = L := by rw [SQ.out, if_neg hq, List.append_nil, ← hL.out]
            have E1 := Lib.hid e1
            clear e1 hq
            go_wp2
            go_roundw
            case rel => exact ⟨y + 1, _, L, by omega, by omega, rfl, rfl, Lib.hid E1.out.symm, hR⟩
            case measure => simp [intOf]; omega
    · obtain rfl : y = y1 := by omega
      go_wp2
      go_ret
      refine ⟨_, rfl, ?_, hR.out.ext⟩
      rw [← hL.out]
      exact own_recs hR.out.own (by rw [hL.out]; have := HSL.out y; omega)
end Go.Proofs.Ytamfjfnceeagiaa
