/- SmoothParts: whatever the input, the law returns true and leaves its arguments as they read. No condition. -/
import Derived.Test.YtamfjfnceeagiaaSmoK
import Derived.Test.YtamfjfnceeagiaaESmoothParts
namespace Go.Proofs.Ytamfjfnceeagiaa
set_option linter.unusedVariables false
set_option linter.unusedSimpArgs false
open Go.RowKit
theorem mul_sm {m d : Int} (m0 : 0 ≤ m) (m1 : m ≤ 31) (h0 : -128 ≤ d) (h1 : d ≤ 127) : -3968 ≤ m * d ∧ m * d ≤ 3937 := by
  have a := Int.mul_le_mul_of_nonneg_left h0 m0
  have b := Int.mul_le_mul_of_nonneg_left h1 m0
  omega
theorem smoP_lit {x y u v n : Int} (hx : -268435456 ≤ x ∧ x ≤ 268435456) (hy : -268435456 ≤ y ∧ y ≤ 268435456) (hu : -268435456 ≤ u ∧ u ≤ 268435456) (hv : -268435456 ≤ v ∧ v ≤ 268435456) (hn : 1 ≤ n ∧ n ≤ 64) : smoP ⟨x, y, 0, 0, 0, 0, 0⟩ ⟨u, v, 0, 0, 0, 0, 0⟩ n := by
  unfold smoP WinP.fitsP widthP
  simp only
  omega
theorem cover_parts (a0 a1 d0 d1 m k n x y : Int) (a00 : -32768 ≤ a0 ∧ a0 ≤ 32767) (a10 : -32768 ≤ a1 ∧ a1 ≤ 32767) (m0 : 0 ≤ m) (k0 : 0 ≤ k) (b0 : -3968 ≤ m * d0 ∧ m * d0 ≤ 3937) (b1 : -3968 ≤ m * d1 ∧ m * d1 ≤ 3937) (b2 : -3968 ≤ k * d0 ∧ k * d0 ≤ 3937) (b3 : -3968 ≤ k * d1 ∧ k * d1 ≤ 3937) (hn : 1 ≤ n ∧ n ≤ 64) :
    ∃ p q : Int, (0 ≤ p ∧ p ≤ 64) ∧ (0 ≤ q ∧ q ≤ 64) ∧ cover ⟨a0, a1, 0, 0, 0, 0, 0⟩ ⟨a0 + m * d0 + k * d0, a1 + m * d1 + k * d1, 0, 0, 0, 0, 0⟩ n x y = p + q ∧ cover ⟨a0, a1, 0, 0, 0, 0, 0⟩ ⟨a0 + m * d0, a1 + m * d1, 0, 0, 0, 0, 0⟩ n x y = p ∧ cover ⟨a0 + m * d0, a1 + m * d1, 0, 0, 0, 0, 0⟩ ⟨a0 + m * d0 + k * d0, a1 + m * d1 + k * d1, 0, 0, 0, 0, 0⟩ n x y = q := by
  have c1 := covN_le ⟨a0, a1, 0, 0, 0, 0, 0⟩ ⟨a0 + m * d0, a1 + m * d1, 0, 0, 0, 0, 0⟩ n x y
  have c2 := covN_le ⟨a0 + m * d0, a1 + m * d1, 0, 0, 0, 0, 0⟩ ⟨a0 + m * d0 + k * d0, a1 + m * d1 + k * d1, 0, 0, 0, 0, 0⟩ n x y
  have c3 := covN_parts (a := ⟨a0, a1, 0, 0, 0, 0, 0⟩) (c := ⟨a0 + m * d0, a1 + m * d1, 0, 0, 0, 0, 0⟩) (b := ⟨a0 + m * d0 + k * d0, a1 + m * d1 + k * d1, 0, 0, 0, 0, 0⟩) (n := n) (dx := d0) (dy := d1) m0 k0 rfl rfl rfl rfl x y
  unfold cover
  rw [if_pos (smoP_lit (by omega) (by omega) (by omega) (by omega) hn), if_pos (smoP_lit (by omega) (by omega) (by omega) (by omega) hn), if_pos (smoP_lit (by omega) (by omega) (by omega) (by omega) hn)]
  exact ⟨_, _, ⟨by omega, by omega⟩, ⟨by omega, by omega⟩, by rw [c3]; omega, rfl, rfl⟩
set_option maxRecDepth 100000 in
set_option maxHeartbeats 8000000 in
theorem parts18_any (a0 a1 d0 d1 n0 n1 wi t0 t1 : Int) (ha0 : -32768 ≤ a0 ∧ a0 ≤ 32767) (ha1 : -32768 ≤ a1 ∧ a1 ≤ 32767) (hd0 : -128 ≤ d0 ∧ d0 ≤ 127) (hd1 : -128 ≤ d1 ∧ d1 ≤ 127) (hn0 : 0 ≤ n0 ∧ n0 ≤ 255) (hn1 : 0 ≤ n1 ∧ n1 ≤ 255) (hwi : 0 ≤ wi ∧ wi ≤ 255) (ht0 : -128 ≤ t0 ∧ t0 ≤ 127) (ht1 : -128 ≤ t1 ∧ t1 ≤ 127) (w : World) :
    Calls Try.prog 9 #[.agg #[.int .i16 a0, .int .i16 a1, .int .i8 d0, .int .i8 d1, .int .u8 n0, .int .u8 n1, .int .u8 wi, .int .i8 t0, .int .i8 t1]] w (Ret (.bool true) w) := by
  obtain ⟨⟨a00, a01⟩, ⟨a10, a11⟩⟩ := And.intro ha0 ha1
  obtain ⟨⟨d00, d01⟩, ⟨d10, d11⟩⟩ := And.intro hd0 hd1
  obtain ⟨⟨n00, n01⟩, ⟨n10, n11⟩⟩ := And.intro hn0 hn1
  obtain ⟨w0, w1⟩ := hwi
  obtain ⟨⟨t00, t01⟩, ⟨t10, t11⟩⟩ := And.intro ht0 ht1
  clear ha0 ha1 hd0 hd1 hn0 hn1 ht0 ht1
  obtain ⟨p0, p1⟩ := mul_sm (m := n0 % 32) (d := d0) (by omega) (by omega) d00 d01
  obtain ⟨p2, p3⟩ := mul_sm (m := n0 % 32) (d := d1) (by omega) (by omega) d10 d11
  obtain ⟨p4, p5⟩ := mul_sm (m := n1 % 32) (d := d0) (by omega) (by omega) d00 d01
  obtain ⟨p6, p7⟩ := mul_sm (m := n1 % 32) (d := d1) (by omega) (by omega) d10 d11
  obtain ⟨p, q, ⟨v0, v1⟩, ⟨v2, v3⟩, hc1, hc2, hc3⟩ := cover_parts a0 a1 d0 d1 (n0 % 32) (n1 % 32) (1 + wi % 64) t0 t1 ⟨a00, a01⟩ ⟨a10, a11⟩ (by omega) (by omega) ⟨p0, p1⟩ ⟨p2, p3⟩ ⟨p4, p5⟩ ⟨p6, p7⟩ (by omega)
  have wd : ∀ {x y : Int}, (-268435456 ≤ x ∧ x ≤ 268435456) → (-268435456 ≤ y ∧ y ≤ 268435456) → (⟨x, y, 0, 0, 0, 0, 0⟩ : WinP).wide := fun hx hy => wide_lit (by unfold w64; omega) (by unfold w64; omega)
  have C1 := Lib.hid (fun w => hc1 ▸ scover_any ⟨a0, a1, 0, 0, 0, 0, 0⟩ ⟨a0 + n0 % 32 * d0 + n1 % 32 * d0, a1 + n0 % 32 * d1 + n1 % 32 * d1, 0, 0, 0, 0, 0⟩ (1 + wi % 64) t0 t1 (wd (by omega) (by omega)) (wd (by omega) (by omega)) (by omega) (by omega) (by omega) (by omega) w)
  have C2 := Lib.hid (fun w => hc2 ▸ scover_any ⟨a0, a1, 0, 0, 0, 0, 0⟩ ⟨a0 + n0 % 32 * d0, a1 + n0 % 32 * d1, 0, 0, 0, 0, 0⟩ (1 + wi % 64) t0 t1 (wd (by omega) (by omega)) (wd (by omega) (by omega)) (by omega) (by omega) (by omega) (by omega) w)
  have C3 := Lib.hid (fun w => hc3 ▸ scover_any ⟨a0 + n0 % 32 * d0, a1 + n0 % 32 * d1, 0, 0, 0, 0, 0⟩ ⟨a0 + n0 % 32 * d0 + n1 % 32 * d0, a1 + n0 % 32 * d1 + n1 % 32 * d1, 0, 0, 0, 0, 0⟩ (1 + wi % 64) t0 t1 (wd (by omega) (by omega)) (wd (by omega) (by omega)) (by omega) (by omega) (by omega) (by omega) w)
  clear hc1 hc2 hc3 wd
  go_enter Try.func9, Try.ntmps9
  go_upto_region 1 with fail
  refine wp_region_ext (by kernel_rfl) (by kernel_rfl) ?_
  repeat (go_big_quiet_step ((fail)))
  refine wpQuiet_nil ?_
  intro _ hw_ext
  obtain ⟨X1, hw_ext⟩ := hw_ext
  subst hw_ext
  go_upto_region 5 with fail
  refine wp_region_ext (by kernel_rfl) (by kernel_rfl) ?_
  repeat (go_big_quiet_step ((fail)))
  refine wpQuiet_nil ?_
  intro _ hw_ext
  obtain ⟨X5, hw_ext⟩ := hw_ext
  subst hw_ext
  go_upto_region 6 with fail
  refine wp_abs (F := fun w2 => Row w2 (w.heap.size + 1 + X1.sz) #[.int .i64 a0, .int .i64 a1, .int .i64 0, .int .i64 0, .int .i64 0, .int .i64 0, .int .i64 0] 25 ∧ Row w2 (w.heap.size + 1 + X1.sz + 1) #[.int .i64 (a0 + n0 % 32 * d0), .int .i64 (a1 + n0 % 32 * d1), .int .i64 0, .int .i64 0, .int .i64 0, .int .i64 0, .int .i64 0] 25 ∧ Row w2 (w.heap.size + 1 + X1.sz + 1 + 1) #[.int .i64 (a0 + n0 % 32 * d0 + n1 % 32 * d0), .int .i64 (a1 + n0 % 32 * d1 + n1 % 32 * d1), .int .i64 0, .int .i64 0, .int .i64 0, .int .i64 0, .int .i64 0] 25 ∧ ∃ X, w2 = w.ext X) ⟨by (repeat (first | assumption | with_reducible refine Row.ext ?_ _ | with_reducible refine row_drew ?_ | (with_reducible refine row_last ?_; first | rfl | (simp; done)) | with_reducible refine Row.alloc ?_ _)), by (repeat (first | assumption | with_reducible refine Row.ext ?_ _ | with_reducible refine row_drew ?_ | (with_reducible refine row_last ?_; first | rfl | (simp; done)) | with_reducible refine Row.alloc ?_ _)), by (repeat (first | assumption | with_reducible refine Row.ext ?_ _ | with_reducible refine row_drew ?_ | (with_reducible refine row_last ?_; first | rfl | (simp; done)) | with_reducible refine Row.alloc ?_ _)), RowKit.Below.toExt (by (repeat (first | exact Below.refl _ _ | with_reducible refine Below.drew ?_ | with_reducible refine Below.ext ?_ (by first | exact Nat.le_refl _ | (simp; done) | (simp; omega)) _ | with_reducible refine Below.alloc ?_ (by first | exact Nat.le_refl _ | (simp; done) | (simp; omega)) _ | with_reducible refine Below.setCell ?_ (by first | exact Nat.le_refl _ | (simp; done) | (simp; omega)) _)))⟩ ?_
  rintro w2 ⟨Ra, Rc, Rb, hX⟩
  have HX := Lib.hid hX
  have la := Ra.lt
  have lc := Rc.lt
  have lb := Rb.lt
  have ca := Ra.cell
  have cc := Rc.cell
  have cb := Rb.cell
  have fa := Ra.frozen
  have fc := Rc.frozen
  have fb := Rb.frozen
  clear Ra Rc Rb hX
  refine wp_region_ext (by kernel_rfl) (by kernel_rfl) ?_
  repeat (go_big_quiet_step ((first | (go_at_call 27; with_reducible exact Calls.quiet_ret (awake18 _)) | (go_at_call 33; (first | with_reducible exact Calls.quiet_ret (C1.out _) | with_reducible exact Calls.quiet_ret (C2.out _) | with_reducible exact Calls.quiet_ret (C3.out _))))))
  refine wpQuiet_nil ?_
  intro _ hw_ext
  obtain ⟨X6, hw_ext⟩ := hw_ext
  subst hw_ext
  go_wp2
  go_ret
  obtain ⟨X0, hX0⟩ := HX.out
  subst hX0
  exact Ret.of' (by simp) (by (repeat (first | with_reducible assumption | with_reducible exact Below.refl _ _ | with_reducible refine Below.drew ?_ | with_reducible refine Below.ext ?_ (by first | exact Nat.le_refl _ | omega | (simp; done) | (simp; omega)) _ | with_reducible refine Below.alloc ?_ (by first | exact Nat.le_refl _ | omega | (simp; done) | (simp; omega)) _ | with_reducible refine Below.setCell ?_ (by first | exact Nat.le_refl _ | omega | (simp; done) | (simp; omega)) _)))
theorem SmoothParts_all : SmoothParts_stmt := by
  rintro a0 a1 d0 d1 n0 n1 wi t0 t1 w ⟨h1, h2, h3, h4, h5, h6, h7, h8, h9⟩
  exact parts18_any a0 a1 d0 d1 n0 n1 wi t0 t1 h1 h2 h3 h4 h5 h6 h7 h8 h9 w
theorem SmoothParts_holds : Rows.SmoothPartsSaid := SmoothParts_end SmoothParts_all
end Go.Proofs.Ytamfjfnceeagiaa
