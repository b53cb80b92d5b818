/- The contracts of layer 21's fragments; the same fragments (layer 17). Conditions: bounds of places; the rectangle is small. -/
import Derived.Test.YtamfjfnceeagiaaSpanF
namespace Go.Proofs.Ytamfjfnceeagiaa
set_option linter.unusedVariables false
set_option linter.unusedSimpArgs false
open Go.RowKit
theorem area_nat {x0 y0 x1 y1 : Int} {n : Nat} (hr : rightP x0 y0 x1 y1) (h : areaP x0 y0 x1 y1 ≤ n) : (x1 - x0).toNat * (y1 - y0).toNat ≤ n := by
  unfold areaP at h
  rw [if_pos hr] at h
  unfold rightP at hr
  have e : (((x1 - x0).toNat * (y1 - y0).toNat : Nat) : Int) = (x1 - x0) * (y1 - y0) := by
    rw [Int.natCast_mul, Int.toNat_of_nonneg (by omega), Int.toNat_of_nonneg (by omega)]
  omega
theorem value21_at {a b c : WinP} (x y : Int) (v : WinP → Int) (ha : a.fits) (hb : b.fits) (hc : c.fits) (hx : Near x y) (h : triHas a b c x y) (va : sml25 (v a)) (vb : sml25 (v b)) (vc : sml25 (v c)) (w : World) :
    Calls Try.prog 76 #[(plOf a (triB a b c) (triC a b c) (triN a b c) (v a) (v (triB a b c)) (v (triC a b c))).v, I2 ((plOf a (triB a b c) (triC a b c) (triN a b c) (v a) (v (triB a b c)) (v (triC a b c))).sum x y)] w (Ret (.int .i64 (atV a b c x y v)) w) := by
  obtain ⟨n1, n2⟩ := tri_pos ha hb hc h.1
  obtain ⟨fb, fc⟩ := triB_fits (a := a) hb hc
  have vB : sml25 (v (triB a b c)) ∧ sml25 (v (triC a b c)) := by rcases tri_or a b c with ⟨e1, e2⟩ | ⟨e1, e2⟩ <;> rw [e1, e2] <;> exact ⟨by assumption, by assumption⟩
  have ok := plOf_ok ha fb fc va vB.1 vB.2 n1 n2
  obtain ⟨x0, x1, y0, y1⟩ := hx
  have V := value21_any (plOf a (triB a b c) (triC a b c) (triN a b c) (v a) (v (triB a b c)) (v (triC a b c))) ((plOf a (triB a b c) (triC a b c) (triN a b c) (v a) (v (triB a b c)) (v (triC a b c))).sum x y) (PlP.sum_in ok (by omega) (by omega) (by omega) (by omega)) ok.area.1 ok.area.2 w
  have e : smlV ((plOf a (triB a b c) (triC a b c) (triN a b c) (v a) (v (triB a b c)) (v (triC a b c))).sum x y / (plOf a (triB a b c) (triC a b c) (triN a b c) (v a) (v (triB a b c)) (v (triC a b c))).area) = atV a b c x y v := by
    rw [plOf_sum, ← among_sml h v va vb vc, atV_face a b c x y v h.1]; rfl
  rw [e] at V
  exact V
theorem both21_at (p : PlP) (x y : Int) (h : p.ok) (hx : Near x y) (w : World) : Calls Try.prog 60 #[I2 (p.sum x y), I2 p.right] w (Ret (I2 (p.sum (x + 1) y)) w) := by
  obtain ⟨x0, x1, y0, y1⟩ := hx
  have s1 := PlP.sum_in h (x := x) (y := y) (by omega) (by omega) (by omega) (by omega)
  have s2 := PlP.sum_in h (x := x + 1) (y := y) (by omega) (by omega) (by omega) (by omega)
  rw [← plOf_next] at s2 ⊢
  exact both21_any _ _ s1 (by have := h.right; unfold b90 at this; unfold inR; omega) s2 w
theorem fill_any (a b c : WinP) (o x0 y0 x1 y1 : Int) (ha : a.fits) (hb : b.fits) (hc : c.fits) (o0 : -33554432 ≤ o) (o1 : o ≤ 33554432) (har : areaP x0 y0 x1 y1 ≤ 1048576) (w : World) : Calls Try.prog 39 #[a.v, b.v, c.v, .int .i64 o, R4 x0 y0 x1 y1] w (RLists frK w (fillL a b c o x0 y0 x1 y1)) := by
  by_cases h : spansL a b c x0 y0 x1 y1 = []
  · exact fill_none a b c o x0 y0 x1 y1 ha hb hc h w
  obtain ⟨s0, hs0⟩ := List.exists_mem_of_ne_nil _ h
  obtain ⟨-, hr, h0, -⟩ := spans_mem hs0
  have har2 : (x1 - x0).toNat * (y1 - y0).toNat ≤ 1048576 := area_nat hr har
  obtain ⟨n1, n2⟩ := tri_pos ha hb hc h0
  obtain ⟨fb, fc⟩ := triB_fits (a := a) hb hc
  obtain ⟨a0, a1, a2, a3⟩ := fits_c ha
  obtain ⟨b0, b1, b2, b3⟩ := fits_c fb
  obtain ⟨c0, c1, c2, c3⟩ := fits_c fc
  obtain ⟨d0, d1, d2, d3⟩ := fits_c hb
  obtain ⟨e0, e1, e2, e3⟩ := fits_c hc
  have kz := plOf_ok ha fb fc (fits_z ha) (fits_z fb) (fits_z fc) n1 n2
  have k0 := plOf_ok ha fb fc a0 b0 c0 n1 n2
  have k1 := plOf_ok ha fb fc a1 b1 c1 n1 n2
  have k2 := plOf_ok ha fb fc a2 b2 c2 n1 n2
  have k3 := plOf_ok ha fb fc a3 b3 c3 n1 n2
  have rr := hr
  obtain ⟨⟨r0, r1⟩, ⟨r2, r3⟩, ⟨r4, r5⟩, ⟨r6, r7⟩, rx, ry⟩ := rr
  have NR : ∀ s ∈ spansL a b c x0 y0 x1 y1, ∀ x, s.x0 ≤ x → x < s.x1 → Near x s.y := fun s hs x h1 h2 => by
    obtain ⟨⟨q1, q2, q3, q4, q5⟩, -⟩ := spans_mem hs
    exact ⟨by omega, by omega, by omega, by omega⟩
  have HT : ∀ s ∈ spansL a b c x0 y0 x1 y1, ∀ x, s.x0 ≤ x → x < s.x1 → triHas a b c x s.y := fun s hs x h1 h2 => (spans_mem hs).2.2.2 x h1 h2
  refine fill_walk a b c o x0 y0 x1 y1 (plOf a (triB a b c) (triC a b c) (triN a b c) a.z (triB a b c).z (triC a b c).z) (plOf a (triB a b c) (triC a b c) (triN a b c) a.c0 (triB a b c).c0 (triC a b c).c0) (plOf a (triB a b c) (triC a b c) (triN a b c) a.c1 (triB a b c).c1 (triC a b c).c1) (plOf a (triB a b c) (triC a b c) (triN a b c) a.c2 (triB a b c).c2 (triC a b c).c2) (plOf a (triB a b c) (triC a b c) (triN a b c) a.c3 (triB a b c).c3 (triC a b c).c3)
    (faceV a (triB a b c) (triC a b c) (triN a b c)) (spansL a b c x0 y0 x1 y1) (fun x y => atV a b c x y (·.z)) (fun x y => atV a b c x y (·.c0)) (fun x y => atV a b c x y (·.c1)) (fun x y => atV a b c x y (·.c2)) (fun x y => atV a b c x y (·.c3)) o0 o1 h
    (Lib.hid fun s hs => ?_) (Lib.hid ?_) (Lib.hid ?_) (Lib.hid fun x y => rfl) (Lib.hid fun s hs x h1 h2 => atV_z ha hb hc (HT s hs x h1 h2)) (Lib.hid fun w => spans_any a b c x0 y0 x1 y1 ha hb hc w) (Lib.hid fun w => newFace_any a b c (nigh3 ha hb hc) w) (Lib.hid fun w => planes_any a (triB a b c) (triC a b c) (triN a b c) ha fb fc w)
    (Lib.hid fun x y hx w => sum21_any _ x y kz (by have := hx.x0; omega) (by have := hx.x1; omega) (by have := hx.y0; omega) (by have := hx.y1; omega) w) (Lib.hid fun s hs x h1 h2 w => value21_at x s.y (·.z) ha hb hc (NR s hs x h1 h2) (HT s hs x h1 h2) (fits_z ha) (fits_z hb) (fits_z hc) w) (Lib.hid fun x y hx w => both21_at _ x y kz hx w)
    (Lib.hid fun x y hx w => sum21_any _ x y k0 (by have := hx.x0; omega) (by have := hx.x1; omega) (by have := hx.y0; omega) (by have := hx.y1; omega) w) (Lib.hid fun s hs x h1 h2 w => value21_at x s.y (·.c0) ha hb hc (NR s hs x h1 h2) (HT s hs x h1 h2) a0 d0 e0 w) (Lib.hid fun x y hx w => both21_at _ x y k0 hx w)
    (Lib.hid fun x y hx w => sum21_any _ x y k1 (by have := hx.x0; omega) (by have := hx.x1; omega) (by have := hx.y0; omega) (by have := hx.y1; omega) w) (Lib.hid fun s hs x h1 h2 w => value21_at x s.y (·.c1) ha hb hc (NR s hs x h1 h2) (HT s hs x h1 h2) a1 d1 e1 w) (Lib.hid fun x y hx w => both21_at _ x y k1 hx w)
    (Lib.hid fun x y hx w => sum21_any _ x y k2 (by have := hx.x0; omega) (by have := hx.x1; omega) (by have := hx.y0; omega) (by have := hx.y1; omega) w) (Lib.hid fun s hs x h1 h2 w => value21_at x s.y (·.c2) ha hb hc (NR s hs x h1 h2) (HT s hs x h1 h2) a2 d2 e2 w) (Lib.hid fun x y hx w => both21_at _ x y k2 hx w)
    (Lib.hid fun x y hx w => sum21_any _ x y k3 (by have := hx.x0; omega) (by have := hx.x1; omega) (by have := hx.y0; omega) (by have := hx.y1; omega) w) (Lib.hid fun s hs x h1 h2 w => value21_at x s.y (·.c3) ha hb hc (NR s hs x h1 h2) (HT s hs x h1 h2) a3 d3 e3 w) (Lib.hid fun x y hx w => both21_at _ x y k3 hx w) w
  · obtain ⟨⟨q1, q2, q3, q4, q5⟩, -⟩ := spans_mem hs
    omega
  · have := fillL_any a b c o x0 y0 x1 y1 hr
    unfold fillL at this
    rw [this]
    exact Nat.le_trans (fiTo_len a b c o x0 x1 y0 y1 (by omega)) har2
  · rw [spansL_any a b c x0 y0 x1 y1 hr, if_neg h0]
    have := spansTo_len a b c x0 x1 y0 y1
    omega
theorem rfill_any (a b c : WinP) (o x0 y0 x1 y1 : Int) (ha : a.fits) (hb : b.fits) (hc : c.fits) (o0 : -33554432 ≤ o) (o1 : o ≤ 33554432) (har : areaP x0 y0 x1 y1 ≤ 1048576) (w : World) : Calls Try.prog 40 #[a.v, b.v, c.v, .int .i64 o, R4 x0 y0 x1 y1] w (RLists frK w (fillL a b c o x0 y0 x1 y1)) := by
  by_cases hr : rightP x0 y0 x1 y1
  · exact rfill_in a b c o x0 y0 x1 y1 ha hb hc o0 o1 hr (area_nat hr har) w
  · exact rfill_no a b c o x0 y0 x1 y1 hr w
set_option maxHeartbeats 4000000 in
theorem same_frs {w : World} {a b : Value} {L : List FrP} (ha : Recs frK w a L) (hb : Recs frK w b L) : Calls Try.prog 30 #[a, b] w (Ret (.bool true) w) := by
  obtain ⟨hl, a1, cap1, rfl, hcap1, h1⟩ := ha
  obtain ⟨-, a2, cap2, rfl, hcap2, h2⟩ := hb
  go_enter Try.func30, Try.ntmps30
  go_wp2
  go_loopw [5] (fun i wr => ∃ (k : Nat) (X : Xt), k ≤ L.length ∧ i = .int .i64 k ∧ wr = w.ext X)
    (fun i _ => L.length - (intOf i).toNat)
  case atStart => exact ⟨0, ⟨#[], w.drawn⟩, by omega, rfl, (ext_none' _).symm⟩
  case round =>
    obtain ⟨k, X, hk, rfl, rfl⟩ := hrel
    by_cases hlt : k < L.length
    · rcases h1 with rfl | ⟨b1, off1, rfl, hb1, hc1⟩
      · simp at hlt
      rcases h2 with rfl | ⟨b2, off2, rfl, hb2, hc2⟩
      · simp at hlt
      have hf : L[k]? = some L[k] := by simp [hlt]
      have d0 : w.cell? ⟨b1, off1 + k * 8, none⟩ = _ := hc1 k L[k] hf 0 _ rfl
      have d1 : w.cell? ⟨b1, off1 + k * 8 + 1, none⟩ = _ := hc1 k L[k] hf 1 _ rfl
      have d2 : w.cell? ⟨b1, off1 + k * 8 + 2, none⟩ = _ := hc1 k L[k] hf 2 _ rfl
      have d3 : w.cell? ⟨b1, off1 + k * 8 + 3, none⟩ = _ := hc1 k L[k] hf 3 _ rfl
      have d4 : w.cell? ⟨b1, off1 + k * 8 + 4, none⟩ = _ := hc1 k L[k] hf 4 _ rfl
      have d5 : w.cell? ⟨b1, off1 + k * 8 + 5, none⟩ = _ := hc1 k L[k] hf 5 _ rfl
      have d6 : w.cell? ⟨b1, off1 + k * 8 + 6, none⟩ = _ := hc1 k L[k] hf 6 _ rfl
      have d7 : w.cell? ⟨b1, off1 + k * 8 + 7, none⟩ = _ := hc1 k L[k] hf 7 _ rfl
      have e0 : w.cell? ⟨b2, off2 + k * 8, none⟩ = _ := hc2 k L[k] hf 0 _ rfl
      have e1 : w.cell? ⟨b2, off2 + k * 8 + 1, none⟩ = _ := hc2 k L[k] hf 1 _ rfl
      have e2 : w.cell? ⟨b2, off2 + k * 8 + 2, none⟩ = _ := hc2 k L[k] hf 2 _ rfl
      have e3 : w.cell? ⟨b2, off2 + k * 8 + 3, none⟩ = _ := hc2 k L[k] hf 3 _ rfl
      have e4 : w.cell? ⟨b2, off2 + k * 8 + 4, none⟩ = _ := hc2 k L[k] hf 4 _ rfl
      have e5 : w.cell? ⟨b2, off2 + k * 8 + 5, none⟩ = _ := hc2 k L[k] hf 5 _ rfl
      have e6 : w.cell? ⟨b2, off2 + k * 8 + 6, none⟩ = _ := hc2 k L[k] hf 6 _ rfl
      have e7 : w.cell? ⟨b2, off2 + k * 8 + 7, none⟩ = _ := hc2 k L[k] hf 7 _ rfl
      generalize L[k] = s at *
      clear hc1 hc2 hf
      go_wp2
      refine wp_region_ext (by kernel_rfl) (by kernel_rfl) ?_
      repeat (go_big_quiet_step ((fail)))
      refine wpQuiet_nil ?_
      intro _ hw_ext
      obtain ⟨Y, hw_ext⟩ := hw_ext
      subst hw_ext
      go_wp2
      go_roundw
      case rel => exact ⟨k + 1, _, by omega, by go_num, World.ext_ext⟩
      case measure => simp [intOf]; omega
    · go_wp2
      go_ret
      exact Ret.of (by (repeat (first | exact Below.refl _ _ | with_reducible refine Below.drew ?_ | with_reducible refine Below.ext ?_ (by first | exact Nat.le_refl _ | (simp; done) | (simp; omega)) _ | with_reducible refine Below.alloc ?_ (by first | exact Nat.le_refl _ | (simp; done) | (simp; omega)) _ | with_reducible refine Below.setCell ?_ (by first | exact Nat.le_refl _ | (simp; done) | (simp; omega)) _)))
/-- A slice that reads these records, in whatever block. -/
def srR {α : Type} (K : RecK α) (L : List α) : SR Grows := ⟨fun v w => Recs K w v L, fun v w w' h ⟨X, e⟩ => by subst e; exact h.ext X, fun v => ∃ a cap, v = .slice a L.length cap, .slice none L.length 0, ⟨_, _, rfl⟩, fun v w ⟨_, a, cap, h, _⟩ => ⟨a, cap, h⟩⟩
end Go.Proofs.Ytamfjfnceeagiaa
