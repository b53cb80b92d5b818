/- The contracts of layer 21's fragments; the same fragments (layer 17). Conditions: bounds of places; the rectangle is small. -/
import Derived.Test.YtciooaihobnifaaGreatSpanF
import Derived.Test.YtciooaihobnifaaGreatSame
namespace Go.Proofs.YtciooaihobnifaaGreat
set_option linter.unusedVariables false
set_option linter.unusedSimpArgs false
open Go.RowKit
theorem area_nat {x0 y0 x1 y1 : Int} {n : Nat} (hr : rightP x0 y0 x1 y1) (h : areaP x0 y0 x1 y1 ≤ n) : (x1 - x0).toNat * (y1 - y0).toNat ≤ n := by
  unfold areaP at h
  rw [if_pos hr] at h
  unfold rightP at hr
  have e : (((x1 - x0).toNat * (y1 - y0).toNat : Nat) : Int) = (x1 - x0) * (y1 - y0) := by
    rw [Int.natCast_mul, Int.toNat_of_nonneg (by omega), Int.toNat_of_nonneg (by omega)]
  omega
theorem value21_at {a b c : WinP} (x y : Int) (v : WinP → Int) (ha : a.fits) (hb : b.fits) (hc : c.fits) (hx : Near x y) (h : triHas a b c x y) (va : sml25 (v a)) (vb : sml25 (v b)) (vc : sml25 (v c)) (w : World) :
    Calls Tryz.prog 157 #[(plOf a (triB a b c) (triC a b c) (triN a b c) (v a) (v (triB a b c)) (v (triC a b c))).v, I2 ((plOf a (triB a b c) (triC a b c) (triN a b c) (v a) (v (triB a b c)) (v (triC a b c))).sum x y)] w (Ret (.int .i64 (atV a b c x y v)) w) := by
  obtain ⟨n1, n2⟩ := tri_pos ha hb hc h.1
  obtain ⟨fb, fc⟩ := triB_fits (a := a) hb hc
  have vB : sml25 (v (triB a b c)) ∧ sml25 (v (triC a b c)) := by rcases tri_or a b c with ⟨e1, e2⟩ | ⟨e1, e2⟩ <;> rw [e1, e2] <;> exact ⟨by assumption, by assumption⟩
  have ok := plOf_ok ha fb fc va vB.1 vB.2 n1 n2
  obtain ⟨x0, x1, y0, y1⟩ := hx
  have V := value21_any (plOf a (triB a b c) (triC a b c) (triN a b c) (v a) (v (triB a b c)) (v (triC a b c))) ((plOf a (triB a b c) (triC a b c) (triN a b c) (v a) (v (triB a b c)) (v (triC a b c))).sum x y) (PlP.sum_in ok (by omega) (by omega) (by omega) (by omega)) ok.area.1 ok.area.2 w
  have e : smlV ((plOf a (triB a b c) (triC a b c) (triN a b c) (v a) (v (triB a b c)) (v (triC a b c))).sum x y / (plOf a (triB a b c) (triC a b c) (triN a b c) (v a) (v (triB a b c)) (v (triC a b c))).area) = atV a b c x y v := by
    rw [plOf_sum, ← among_sml h v va vb vc, atV_face a b c x y v h.1]; rfl
  rw [e] at V
  exact V
theorem both21_at (p : PlP) (x y : Int) (h : p.ok) (hx : Near x y) (w : World) : Calls Tryz.prog 150 #[I2 (p.sum x y), I2 p.right] w (Ret (I2 (p.sum (x + 1) y)) w) := by
  obtain ⟨x0, x1, y0, y1⟩ := hx
  have s1 := PlP.sum_in h (x := x) (y := y) (by omega) (by omega) (by omega) (by omega)
  have s2 := PlP.sum_in h (x := x + 1) (y := y) (by omega) (by omega) (by omega) (by omega)
  rw [← plOf_next] at s2 ⊢
  exact both21_any _ _ s1 (by have := h.right; unfold b90 at this; unfold inR; omega) s2 w
theorem fill_any (a b c : WinP) (o x0 y0 x1 y1 : Int) (ha : a.fits) (hb : b.fits) (hc : c.fits) (o0 : -33554432 ≤ o) (o1 : o ≤ 33554432) (har : areaP x0 y0 x1 y1 ≤ 1048576) (w : World) : Calls Tryz.prog 93 #[a.v, b.v, c.v, .int .i64 o, R4 x0 y0 x1 y1] w (RLists frK w (fillL a b c o x0 y0 x1 y1)) := by
  by_cases h : spansL a b c x0 y0 x1 y1 = []
  · exact fill_none a b c o x0 y0 x1 y1 ha hb hc h w
  obtain ⟨s0, hs0⟩ := List.exists_mem_of_ne_nil _ h
  obtain ⟨-, hr, h0, -⟩ := spans_mem hs0
  have har2 : (x1 - x0).toNat * (y1 - y0).toNat ≤ 1048576 := area_nat hr har
  obtain ⟨n1, n2⟩ := tri_pos ha hb hc h0
  obtain ⟨fb, fc⟩ := triB_fits (a := a) hb hc
  obtain ⟨a0, a1, a2, a3⟩ := fits_c ha
  obtain ⟨b0, b1, b2, b3⟩ := fits_c fb
  obtain ⟨c0, c1, c2, c3⟩ := fits_c fc
  obtain ⟨d0, d1, d2, d3⟩ := fits_c hb
  obtain ⟨e0, e1, e2, e3⟩ := fits_c hc
  have kz := plOf_ok ha fb fc (fits_z ha) (fits_z fb) (fits_z fc) n1 n2
  have k0 := plOf_ok ha fb fc a0 b0 c0 n1 n2
  have k1 := plOf_ok ha fb fc a1 b1 c1 n1 n2
  have k2 := plOf_ok ha fb fc a2 b2 c2 n1 n2
  have k3 := plOf_ok ha fb fc a3 b3 c3 n1 n2
  have rr := hr
  obtain ⟨⟨r0, r1⟩, ⟨r2, r3⟩, ⟨r4, r5⟩, ⟨r6, r7⟩, rx, ry⟩ := rr
  have NR : ∀ s ∈ spansL a b c x0 y0 x1 y1, ∀ x, s.x0 ≤ x → x < s.x1 → Near x s.y := fun s hs x h1 h2 => by
    obtain ⟨⟨q1, q2, q3, q4, q5⟩, -⟩ := spans_mem hs
    exact ⟨by omega, by omega, by omega, by omega⟩
  have HT : ∀ s ∈ spansL a b c x0 y0 x1 y1, ∀ x, s.x0 ≤ x → x < s.x1 → triHas a b c x s.y := fun s hs x h1 h2 => (spans_mem hs).2.2.2 x h1 h2
  refine fill_walk a b c o x0 y0 x1 y1 (plOf a (triB a b c) (triC a b c) (triN a b c) a.z (triB a b c).z (triC a b c).z) (plOf a (triB a b c) (triC a b c) (triN a b c) a.c0 (triB a b c).c0 (triC a b c).c0) (plOf a (triB a b c) (triC a b c) (triN a b c) a.c1 (triB a b c).c1 (triC a b c).c1) (plOf a (triB a b c) (triC a b c) (triN a b c) a.c2 (triB a b c).c2 (triC a b c).c2) (plOf a (triB a b c) (triC a b c) (triN a b c) a.c3 (triB a b c).c3 (triC a b c).c3)
    (faceV a (triB a b c) (triC a b c) (triN a b c)) (spansL a b c x0 y0 x1 y1) (fun x y => atV a b c x y (·.z)) (fun x y => atV a b c x y (·.c0)) (fun x y => atV a b c x y (·.c1)) (fun x y => atV a b c x y (·.c2)) (fun x y => atV a b c x y (·.c3)) o0 o1 h
    (Lib.hid fun s hs => ?_) (Lib.hid ?_) (Lib.hid ?_) (Lib.hid fun x y => rfl) (Lib.hid fun s hs x h1 h2 => atV_z ha hb hc (HT s hs x h1 h2)) (Lib.hid fun w => spans_any a b c x0 y0 x1 y1 ha hb hc w) (Lib.hid fun w => newFace_any a b c (nigh3 ha hb hc) w) (Lib.hid fun w => planes_any a (triB a b c) (triC a b c) (triN a b c) ha fb fc w)
    (Lib.hid fun x y hx w => sum21_any _ x y kz (by have := hx.x0; omega) (by have := hx.x1; omega) (by have := hx.y0; omega) (by have := hx.y1; omega) w) (Lib.hid fun s hs x h1 h2 w => value21_at x s.y (·.z) ha hb hc (NR s hs x h1 h2) (HT s hs x h1 h2) (fits_z ha) (fits_z hb) (fits_z hc) w) (Lib.hid fun x y hx w => both21_at _ x y kz hx w)
    (Lib.hid fun x y hx w => sum21_any _ x y k0 (by have := hx.x0; omega) (by have := hx.x1; omega) (by have := hx.y0; omega) (by have := hx.y1; omega) w) (Lib.hid fun s hs x h1 h2 w => value21_at x s.y (·.c0) ha hb hc (NR s hs x h1 h2) (HT s hs x h1 h2) a0 d0 e0 w) (Lib.hid fun x y hx w => both21_at _ x y k0 hx w)
    (Lib.hid fun x y hx w => sum21_any _ x y k1 (by have := hx.x0; omega) (by have := hx.x1; omega) (by have := hx.y0; omega) (by have := hx.y1; omega) w) (Lib.hid fun s hs x h1 h2 w => value21_at x s.y (·.c1) ha hb hc (NR s hs x h1 h2) (HT s hs x h1 h2) a1 d1 e1 w) (Lib.hid fun x y hx w => both21_at _ x y k1 hx w)
    (Lib.hid fun x y hx w => sum21_any _ x y k2 (by have := hx.x0; omega) (by have := hx.x1; omega) (by have := hx.y0; omega) (by have := hx.y1; omega) w) (Lib.hid fun s hs x h1 h2 w => value21_at x s.y (·.c2) ha hb hc (NR s hs x h1 h2) (HT s hs x h1 h2) a2 d2 e2 w) (Lib.hid fun x y hx w => both21_at _ x y k2 hx w)
    (Lib.hid fun x y hx w => sum21_any _ x y k3 (by have := hx.x0; omega) (by have := hx.x1; omega) (by have := hx.y0; omega) (by have := hx.y1; omega) w) (Lib.hid fun s hs x h1 h2 w => value21_at x s.y (·.c3) ha hb hc (NR s hs x h1 h2) (HT s hs x h1 h2) a3 d3 e3 w) (Lib.hid fun x y hx w => both21_at _ x y k3 hx w) w
  · obtain ⟨⟨q1, q2, q3, q4, q5⟩, -⟩ := spans_mem hs
    omega
  · have := fillL_any a b c o x0 y0 x1 y1 hr
    unfold fillL at this
    rw [this]
    exact Nat.le_trans (fiTo_len a b c o x0 x1 y0 y1 (by omega)) har2
  · rw [spansL_any a b c x0 y0 x1 y1 hr, if_neg h0]
    have := spansTo_len a b c x0 x1 y0 y1
    omega
theorem rfill_any (a b c : WinP) (o x0 y0 x1 y1 : Int) (ha : a.fits) (hb : b.fits) (hc : c.fits) (o0 : -33554432 ≤ o) (o1 : o ≤ 33554432) (har : areaP x0 y0 x1 y1 ≤ 1048576) (w : World) : Calls Tryz.prog 58 #[a.v, b.v, c.v, .int .i64 o, R4 x0 y0 x1 y1] w (RLists frK w (fillL a b c o x0 y0 x1 y1)) := by
  by_cases hr : rightP x0 y0 x1 y1
  · exact rfill_in a b c o x0 y0 x1 y1 ha hb hc o0 o1 hr (area_nat hr har) w
  · exact rfill_no a b c o x0 y0 x1 y1 hr w
end Go.Proofs.YtciooaihobnifaaGreat
