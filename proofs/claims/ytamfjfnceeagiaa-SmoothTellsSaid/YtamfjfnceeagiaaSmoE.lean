/- The walks of layer 18 (smooth): the cover of a pixel. Conditions: bounds of places. -/
import Derived.Test.YtamfjfnceeagiaaSmoD
import Derived.Test.YtamfjfnceeagiaaSmoA
namespace Go.Proofs.Ytamfjfnceeagiaa
set_option linter.unusedVariables false
set_option linter.unusedSimpArgs false
open Go.RowKit
theorem fitsP_f {a b : WinP} {n : Int} (h : smoP a b n) : (a.fits ∧ b.fits) ∧ widthP n := ⟨⟨h.1.f, h.2.1.f⟩, h.2.2⟩
/-- What the law's cover is. -/
def cover (a b : WinP) (n x y : Int) : Int := if smoP a b n then (covN a b n x y : Int) else 0
theorem smK_pos {a b : WinP} {n : Int} (hn : widthP n) (h : ¬ (a.x = b.x ∧ a.y = b.y)) : 1 ≤ smK a b n := by
  have p1 := smq_nn (b.x - a.x)
  have p2 := smq_nn (b.y - a.y)
  have hl : 1 ≤ smL a b := by
    unfold smL
    by_cases hx : a.x = b.x
    · have hy : ¬ a.y = b.y := fun k => h ⟨hx, k⟩
      have : 0 < (b.y - a.y) * (b.y - a.y) := by
        rcases Int.lt_or_gt_of_ne (show b.y - a.y ≠ 0 by omega) with k | k
        · exact Int.mul_pos_of_neg_of_neg k k
        · exact Int.mul_pos k k
      omega
    · have : 0 < (b.x - a.x) * (b.x - a.x) := by
        rcases Int.lt_or_gt_of_ne (show b.x - a.x ≠ 0 by omega) with k | k
        · exact Int.mul_pos_of_neg_of_neg k k
        · exact Int.mul_pos k k
      omega
  obtain ⟨n0, n1⟩ := hn
  unfold smK
  have e : 128 * n * 128 * n = 16384 * (n * n) := by grind
  rw [e]
  have q := Int.mul_pos (show 0 < n by omega) (show 0 < n by omega)
  have := Int.mul_le_mul hl (show 1 ≤ 16384 * (n * n) by omega) (by omega) (by omega)
  omega
theorem cover_no (a b : WinP) (n x y : Int) (ha : a.wide) (hb : b.wide) (h : ¬ smoP a b n) (w : World) : Calls Try.prog 33 #[a.v, b.v, .int .i64 n, .int .i64 x, .int .i64 y] w (Ret (.int .i64 (cover a b n x y)) w) := by
  have R := Lib.hid (fun w => decide_eq_false h ▸ smooth_right a b n ha hb w)
  rw [show cover a b n x y = 0 from if_neg h]
  clear h ha hb
  go_enter Try.func33, Try.ntmps33
  go_wp2_with (first | (go_at_call 28; (with_reducible refine (R.out _).mono ?_); rintro _ _ ⟨rfl, X_, rfl⟩))
  go_ret
  exact Ret.of (by (repeat (first | exact Below.refl _ _ | with_reducible refine Below.drew ?_ | with_reducible refine Below.ext ?_ (by first | exact Nat.le_refl _ | (simp; done) | (simp; omega)) _ | with_reducible refine Below.alloc ?_ (by first | exact Nat.le_refl _ | (simp; done) | (simp; omega)) _ | with_reducible refine Below.setCell ?_ (by first | exact Nat.le_refl _ | (simp; done) | (simp; omega)) _)))
theorem cover_alike (a b : WinP) (n x y : Int) (ha : a.wide) (hb : b.wide) (h : smoP a b n) (hx : a.x = b.x) (hy : a.y = b.y) (w : World) : Calls Try.prog 33 #[a.v, b.v, .int .i64 n, .int .i64 x, .int .i64 y] w (Ret (.int .i64 (cover a b n x y)) w) := by
  have R := Lib.hid (fun w => decide_eq_true h ▸ smooth_right a b n ha hb w)
  rw [show cover a b n x y = 0 by unfold cover; rw [if_pos h, covN_alike hx hy]; rfl]
  have ex : (a.x == b.x) = true := by simpa using hx
  have ey : (a.y == b.y) = true := by simpa using hy
  clear h ha hb hx hy
  go_enter Try.func33, Try.ntmps33
  go_wp2_with (first | (go_at_call 28; (with_reducible refine (R.out _).mono ?_); rintro _ _ ⟨rfl, X_, rfl⟩))
  go_ret
  exact Ret.of (by (repeat (first | exact Below.refl _ _ | with_reducible refine Below.drew ?_ | with_reducible refine Below.ext ?_ (by first | exact Nat.le_refl _ | (simp; done) | (simp; omega)) _ | with_reducible refine Below.alloc ?_ (by first | exact Nat.le_refl _ | (simp; done) | (simp; omega)) _ | with_reducible refine Below.setCell ?_ (by first | exact Nat.le_refl _ | (simp; done) | (simp; omega)) _)))
theorem made_cnt (n : Nat) : madeCells #[.int .i64 0] n = cntL (fun _ => 0) n := by
  apply Array.ext_getElem?
  intro k
  simp only [madeCells, cntL, Array.getElem?_map, List.getElem?_toArray, List.getElem?_map, Array.getElem?_range, List.getElem?_range']
  by_cases h : k < n <;> simp [h, Nat.mod_one]
theorem info_i64 : (Try.prog.info? 3).map (fun i => (i.zero, i.size, i.bytes)) = some (some (.int .i64 0), 1, 8) := by kernel_rfl
theorem alike_no {a b : WinP} (h : ¬ (a.x = b.x ∧ a.y = b.y)) : (a.x == b.x) = false ∨ ((a.x == b.x) = true ∧ (a.y == b.y) = false) := by
  by_cases hx : a.x = b.x
  · exact .inr ⟨by simpa using hx, by have : ¬ a.y = b.y := fun k => h ⟨hx, k⟩; simpa using this⟩
  · exact .inl (by simpa using hx)
set_option maxRecDepth 100000 in
set_option maxHeartbeats 4000000 in
theorem cover_in (a b : WinP) (n x y : Int) (ha : a.wide) (hb : b.wide) (h : smoP a b n) (hne : ¬ (a.x = b.x ∧ a.y = b.y)) (x0 : -4194304 ≤ x) (x1 : x ≤ 4194304) (y0 : -4194304 ≤ y) (y1 : y ≤ 4194304) (w : World) : Calls Try.prog 33 #[a.v, b.v, .int .i64 n, .int .i64 x, .int .i64 y] w (Ret (.int .i64 (cover a b n x y)) w) := by
  have R := Lib.hid (fun w => decide_eq_true h ▸ smooth_right a b n ha hb w)
  rw [show cover a b n x y = (covN a b n x y : Int) from if_pos h]
  obtain ⟨⟨fa, fb⟩, hn⟩ := fitsP_f h
  obtain ⟨r, s, hA, hr⟩ := across_ex fa fb hn
  have NS := Lib.hid (fun w => newStrip_any a b n r s fa fb hn hA hr w)
  have CT := Lib.hid (fun g w hg => count_any a b n r s x y 1 g fa fb hn hA (smK_pos hn hne) hr x0 x1 y0 y1 (by decide) (by decide) w hg)
  have hcv := covN_le a b n x y
  have hz := alike_no hne
  clear h ha hb hne fa fb hn hA hr
  have hmk : ∀ w, (Instr.makeSlice 131 (.int .i64 1) (.int .i64 1)).run Try.prog w = .ok (.slice (some ⟨w.heap.size, 0, none⟩) 1 1) (w.alloc (.cells (madeCells #[.int .i64 0] 1) 3)) := run_make_row' (P := Try.prog) 131 3 (.int .i64 0) 8 Try.underlying131 info_i64 rfl .i64 .i64 1 (by decide) (by decide)
  simp only [made_cnt] at hmk
  rcases hz with e1 | ⟨e1, e2⟩
  all_goals
    go_enter Try.func33, Try.ntmps33
    go_upto_region 4 with (first | (go_at_call 28; (with_reducible refine (R.out _).mono ?_); rintro _ _ ⟨rfl, XR, rfl⟩))
    obtain ⟨g, hg⟩ : ∃ g, w.heap.size + 1 + 1 + XR.sz = g := ⟨_, rfl⟩
    refine wp_abs (F := fun w1 => Row w1 g (cntL (fun _ => 0) 1) 3 ∧ Row w1 w.heap.size #[.int .i64 a.x, .int .i64 a.y, .int .i64 a.z, .int .i64 a.c0, .int .i64 a.c1, .int .i64 a.c2, .int .i64 a.c3] 25 ∧ Row w1 (w.heap.size + 1) #[.int .i64 b.x, .int .i64 b.y, .int .i64 b.z, .int .i64 b.c0, .int .i64 b.c1, .int .i64 b.c2, .int .i64 b.c3] 25 ∧ ∃ X, w1 = w.ext X) ⟨by rw [← hg]; (repeat (first | assumption | with_reducible refine Row.ext ?_ _ | with_reducible refine row_drew ?_ | (with_reducible refine row_last ?_; first | rfl | (simp; done)) | with_reducible refine Row.alloc ?_ _)), by (repeat (first | assumption | with_reducible refine Row.ext ?_ _ | with_reducible refine row_drew ?_ | (with_reducible refine row_last ?_; first | rfl | (simp; done)) | with_reducible refine Row.alloc ?_ _)), by (repeat (first | assumption | with_reducible refine Row.ext ?_ _ | with_reducible refine row_drew ?_ | (with_reducible refine row_last ?_; first | rfl | (simp; done)) | with_reducible refine Row.alloc ?_ _)), RowKit.Below.toExt (by (repeat (first | exact Below.refl _ _ | with_reducible refine Below.drew ?_ | with_reducible refine Below.ext ?_ (by first | exact Nat.le_refl _ | (simp; done) | (simp; omega)) _ | with_reducible refine Below.alloc ?_ (by first | exact Nat.le_refl _ | (simp; done) | (simp; omega)) _ | with_reducible refine Below.setCell ?_ (by first | exact Nat.le_refl _ | (simp; done) | (simp; omega)) _)))⟩ ?_
    rintro w1 ⟨h1, h2, h3, hX⟩
    have hgw : w.heap.size ≤ g := by omega
    rw [hg]
    have HG := Lib.hid h1
    have HX := Lib.hid hX
    have c1 := h2.cell
    have c2 := h2.frozen
    have c3 := h2.lt
    have d1 := h3.cell
    have d2 := h3.frozen
    have d3 := h3.lt
    clear h1 h2 h3 hX hg hmk
    go_wp2_with (first
      | (go_at_call 80; (with_reducible refine (NS.out _).mono ?_); rintro _ _ ⟨rfl, XN, rfl⟩)
      | (go_at_call 82; (with_reducible refine (CT.out g _ (HG.out.ext _)).mono ?_); rintro _ w2 ⟨rfl, hrow, hchg⟩; have k1 := hrow.cell 0; rw [cntL_get _ _ _ (by decide)] at k1; have HC := Lib.hid hchg; clear hchg; simp only [Int.natCast_zero, Int.add_zero] at k1))
    go_ret
    obtain ⟨X0, hX0⟩ := HX.out
    have hch := HC.out
    rw [hX0] at hch
    refine Ret.of ?_
    exact Below.trans (show Below w.heap.size w ((w.ext X0).ext XN) by (repeat (first | exact Below.refl _ _ | with_reducible refine Below.drew ?_ | with_reducible refine Below.ext ?_ (by first | exact Nat.le_refl _ | (simp; done) | (simp; omega)) _ | with_reducible refine Below.alloc ?_ (by first | exact Nat.le_refl _ | (simp; done) | (simp; omega)) _ | with_reducible refine Below.setCell ?_ (by first | exact Nat.le_refl _ | (simp; done) | (simp; omega)) _))) (hch.below (B := w.heap.size) (fun k hk e => by omega) (by simp; omega))
theorem scover_any (a b : WinP) (n x y : Int) (ha : a.wide) (hb : b.wide) (x0 : -4194304 ≤ x) (x1 : x ≤ 4194304) (y0 : -4194304 ≤ y) (y1 : y ≤ 4194304) (w : World) : Calls Try.prog 33 #[a.v, b.v, .int .i64 n, .int .i64 x, .int .i64 y] w (Ret (.int .i64 (cover a b n x y)) w) := by
  by_cases h : smoP a b n
  · by_cases hne : a.x = b.x ∧ a.y = b.y
    · exact cover_alike a b n x y ha hb h hne.1 hne.2 w
    · exact cover_in a b n x y ha hb h hne x0 x1 y0 y1 w
  · exact cover_no a b n x y ha hb h w
end Go.Proofs.Ytamfjfnceeagiaa
