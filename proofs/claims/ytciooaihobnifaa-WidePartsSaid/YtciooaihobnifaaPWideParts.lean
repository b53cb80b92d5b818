/- WideParts: whatever the input, the law returns true and leaves its arguments as they read. No condition. -/
import Derived.Test.YtciooaihobnifaaWidP
import Derived.Test.YtciooaihobnifaaWidQ
import Derived.Test.YtciooaihobnifaaEWideParts
namespace Go.Proofs.Ytciooaihobnifaa
set_option linter.unusedVariables false
set_option linter.unusedSimpArgs false
open Go.RowKit
def eq2 (a b a' b' : Int) : Bool := a == a' && b == b'
theorem list_range2 : List.range 2 = [0, 1] := rfl
theorem cells_int8 : Try.prog.cellsOf 47 = 1 := by kernel_rfl
set_option maxRecDepth 100000 in
@[go_sem] theorem equalIn2 (n : Nat) (a b a' b' : Int) (w : World) : (Op.equalIn (n + 2) 48 (.agg #[.int .i8 a, .int .i8 b]) (.agg #[.int .i8 a', .int .i8 b'])).run Try.prog w = .ok (eq2 a b a' b') w := by
  obtain ⟨i, hi⟩ : ∃ i, Try.prog.info? 47 = some i := ⟨_, rfl⟩
  rw [run_equalIn_array w (n + 1) _ _ Try.underlying48 hi, list_range2]
  simp only [Op.eqItems, cells_int8]
  unfold eq2
  simp [go_sem]
  by_cases h1 : a = a' <;> by_cases h2 : b = b' <;> simp [h1, h2]
theorem mul_wd {m d : Int} (m0 : 0 ≤ m) (m1 : m ≤ 31) (h0 : -128 ≤ d) (h1 : d ≤ 127) : -3968 ≤ m * d ∧ m * d ≤ 3937 := by
  have a := Int.mul_le_mul_of_nonneg_left h0 m0
  have b := Int.mul_le_mul_of_nonneg_left h1 m0
  omega
set_option maxRecDepth 100000 in
set_option maxHeartbeats 4000000 in
theorem parts17_no (a0 a1 d0 d1 n0 n1 wi p r q : Int) (dd : Bool) (h : ¬ dashP p r q) (w : World) :
    Calls Try.prog 4 #[.agg #[.int .i16 a0, .int .i16 a1, .int .i8 d0, .int .i8 d1, .int .u8 n0, .int .u8 n1, .int .u8 wi, .int .i64 p, .int .i64 r, .int .i64 q, .bool dd]] w (Ret (.bool true) w) := by
  have R := fun w => rdash_right p r q w
  simp only [h, decide_false] at R
  have HR := Lib.hid R
  clear R h
  go_enter Try.func4, Try.ntmps4
  go_wp2_with (first | (go_at_call 19; (with_reducible refine (HR.out _).mono ?_); rintro _ _ ⟨rfl, X_, rfl⟩) | (go_at_call 20; (with_reducible refine (awake17 _).mono ?_); rintro _ _ ⟨rfl, X_, rfl⟩))
  go_ret
  exact Ret.of' rfl (by (repeat (first | exact Below.refl _ _ | with_reducible refine Below.drew ?_ | with_reducible refine Below.ext ?_ (by first | exact Nat.le_refl _ | (simp; done) | (simp; omega)) _ | with_reducible refine Below.alloc ?_ (by first | exact Nat.le_refl _ | (simp; done) | (simp; omega)) _ | with_reducible refine Below.setCell ?_ (by first | exact Nat.le_refl _ | (simp; done) | (simp; omega)) _)))
/-- What stands in memory: the argument, the ends, the rectangle. -/
structure PtR (a0 a1 d0 d1 n0 n1 wi p r q : Int) (dd : Bool) (Bl Ba : Nat) (wx : World) : Prop where
  rl : Row wx Bl #[.int .i16 a0, .int .i16 a1, .int .i8 d0, .int .i8 d1, .int .u8 n0, .int .u8 n1, .int .u8 wi, .int .i64 p, .int .i64 r, .int .i64 q, .bool dd] 53
  ra : Row wx Ba #[.int .i64 a0, .int .i64 a1, .int .i64 0, .int .i64 0, .int .i64 0, .int .i64 0, .int .i64 0] 56
  rc : Row wx (Ba + 1) #[.int .i64 (a0 + n0 % 32 * d0), .int .i64 (a1 + n0 % 32 * d1), .int .i64 0, .int .i64 0, .int .i64 0, .int .i64 0, .int .i64 0] 56
  rb : Row wx (Ba + 1 + 1) #[.int .i64 (a0 + n0 % 32 * d0 + n1 % 32 * d0), .int .i64 (a1 + n0 % 32 * d1 + n1 % 32 * d1), .int .i64 0, .int .i64 0, .int .i64 0, .int .i64 0, .int .i64 0] 56
  rr : Row wx (Ba + 1 + 1 + 1) #[.int .i64 (-400), .int .i64 (-400), .int .i64 400, .int .i64 400] 26
theorem PtR.ext {a0 a1 d0 d1 n0 n1 wi p r q : Int} {dd : Bool} {Bl Ba : Nat} {wx : World} (h : PtR a0 a1 d0 d1 n0 n1 wi p r q dd Bl Ba wx) (X : Xt) : PtR a0 a1 d0 d1 n0 n1 wi p r q dd Bl Ba (wx.ext X) :=
  ⟨h.rl.ext X, h.ra.ext X, h.rc.ext X, h.rb.ext X, h.rr.ext X⟩
theorem PtR.alloc {a0 a1 d0 d1 n0 n1 wi p r q : Int} {dd : Bool} {Bl Ba : Nat} {wx : World} (h : PtR a0 a1 d0 d1 n0 n1 wi p r q dd Bl Ba wx) (o : Obj) : PtR a0 a1 d0 d1 n0 n1 wi p r q dd Bl Ba (wx.alloc o) :=
  ⟨h.rl.alloc o, h.ra.alloc o, h.rc.alloc o, h.rb.alloc o, h.rr.alloc o⟩
set_option maxRecDepth 100000 in
set_option maxHeartbeats 8000000 in
theorem parts17_in (a0 a1 d0 d1 n0 n1 wi p r q : Int) (dd : Bool) (ha0 : -32768 ≤ a0 ∧ a0 ≤ 32767) (ha1 : -32768 ≤ a1 ∧ a1 ≤ 32767) (hd0 : -128 ≤ d0 ∧ d0 ≤ 127) (hd1 : -128 ≤ d1 ∧ d1 ≤ 127) (hn0 : 0 ≤ n0 ∧ n0 ≤ 255) (hn1 : 0 ≤ n1 ∧ n1 ≤ 255) (hwi : 0 ≤ wi ∧ wi ≤ 255) (hd : dashP p r q) (w : World) :
    Calls Try.prog 4 #[.agg #[.int .i16 a0, .int .i16 a1, .int .i8 d0, .int .i8 d1, .int .u8 n0, .int .u8 n1, .int .u8 wi, .int .i64 p, .int .i64 r, .int .i64 q, .bool dd]] w (Ret (.bool true) w) := by
  obtain ⟨⟨a00, a01⟩, ⟨a10, a11⟩⟩ := And.intro ha0 ha1
  obtain ⟨⟨d00, d01⟩, ⟨d10, d11⟩⟩ := And.intro hd0 hd1
  obtain ⟨⟨n00, n01⟩, ⟨n10, n11⟩⟩ := And.intro hn0 hn1
  obtain ⟨w0, w1⟩ := hwi
  clear ha0 ha1 hd0 hd1 hn0 hn1
  obtain ⟨p0, p1⟩ := mul_wd (m := n0 % 32) (d := d0) (by omega) (by omega) d00 d01
  obtain ⟨p2, p3⟩ := mul_wd (m := n0 % 32) (d := d1) (by omega) (by omega) d10 d11
  obtain ⟨p4, p5⟩ := mul_wd (m := n1 % 32) (d := d0) (by omega) (by omega) d00 d01
  obtain ⟨p6, p7⟩ := mul_wd (m := n1 % 32) (d := d1) (by omega) (by omega) d10 d11
  obtain ⟨X, Y, Z, ce, cd, hX, hcd, hY, hce, hZ, hcf, hlen, hmax, hdd, hde, hpx⟩ := parts17_plain a0 a1 d0 d1 (n0 % 32) (n1 % 32) (1 + wi % 8) p r q dd ⟨a00, a01⟩ ⟨a10, a11⟩ (by omega) (by omega) ⟨p0, p1⟩ ⟨p2, p3⟩ ⟨p4, p5⟩ ⟨p6, p7⟩ (by omega) hd
  have wd : ∀ {x y : Int}, (-268435456 ≤ x ∧ x ≤ 268435456) → (-268435456 ≤ y ∧ y ≤ 268435456) → (⟨x, y, 0, 0, 0, 0, 0⟩ : WinP).wide := fun hx hy => wide_lit17 (by unfold w64; omega) (by unfold w64; omega)
  have hd' := hd
  unfold dashP at hd' hde
  have wp : w64 p := by unfold w64; omega
  have wq : w64 q := by unfold w64; omega
  have we : w64 ce := by unfold w64; omega
  have C1 := fun w => wline_any ⟨a0, a1, 0, 0, 0, 0, 0⟩ ⟨a0 + n0 % 32 * d0 + n1 % 32 * d0, a1 + n0 % 32 * d1 + n1 % 32 * d1, 0, 0, 0, 0, 0⟩ (1 + wi % 8) dd p r q (-400) (-400) 400 400 (wd (by omega) (by omega)) (wd (by omega) (by omega)) wp wq (by unfold areaP; rw [if_pos right400]; decide) w
  have C2 := fun w => wline_any ⟨a0, a1, 0, 0, 0, 0, 0⟩ ⟨a0 + n0 % 32 * d0, a1 + n0 % 32 * d1, 0, 0, 0, 0, 0⟩ (1 + wi % 8) dd p r q (-400) (-400) 400 400 (wd (by omega) (by omega)) (wd (by omega) (by omega)) wp wq (by unfold areaP; rw [if_pos right400]; decide) w
  have C3 := fun w => wline_any ⟨a0 + n0 % 32 * d0, a1 + n0 % 32 * d1, 0, 0, 0, 0, 0⟩ ⟨a0 + n0 % 32 * d0 + n1 % 32 * d0, a1 + n0 % 32 * d1 + n1 % 32 * d1, 0, 0, 0, 0, 0⟩ (1 + wi % 8) dd p r ce (-400) (-400) 400 400 (wd (by omega) (by omega)) (wd (by omega) (by omega)) wp we (by unfold areaP; rw [if_pos right400]; decide) w
  simp only [hX, show wdC ⟨a0, a1, 0, 0, 0, 0, 0⟩ ⟨a0 + n0 % 32 * d0 + n1 % 32 * d0, a1 + n0 % 32 * d1 + n1 % 32 * d1, 0, 0, 0, 0, 0⟩ (1 + wi % 8) dd p r q = cd from hcd] at C1
  simp only [hY, show wdC ⟨a0, a1, 0, 0, 0, 0, 0⟩ ⟨a0 + n0 % 32 * d0, a1 + n0 % 32 * d1, 0, 0, 0, 0, 0⟩ (1 + wi % 8) dd p r q = ce from hce] at C2
  simp only [hZ, show wdC ⟨a0 + n0 % 32 * d0, a1 + n0 % 32 * d1, 0, 0, 0, 0, 0⟩ ⟨a0 + n0 % 32 * d0 + n1 % 32 * d0, a1 + n0 % 32 * d1 + n1 % 32 * d1, 0, 0, 0, 0, 0⟩ (1 + wi % 8) dd p r ce = cd from hcf] at C3
  have H1 := Lib.hid C1
  have H2 := Lib.hid C2
  have H3 := Lib.hid C3
  have R := fun w => rdash_right p r q w
  simp only [hd, decide_true] at R
  have HR := Lib.hid R
  have HPx := Lib.hid hpx
  have HDD := Lib.hid hdd
  have HLen := Lib.hid hlen
  clear C1 C2 C3 R hX hcd hY hce hZ hcf hpx hdd hde hd hd' wd wp wq we hlen
  go_enter Try.func4, Try.ntmps4
  go_upto_region 3 with (first | (go_at_call 19; (with_reducible refine (HR.out _).mono ?_); rintro _ _ ⟨rfl, X_, rfl⟩))
  refine wp_region_ext (by kernel_rfl) (by kernel_rfl) ?_
  repeat (go_big_quiet_step ((fail)))
  refine wpQuiet_nil ?_
  intro _ hw_ext
  obtain ⟨X3, hw_ext⟩ := hw_ext
  subst hw_ext
  go_upto_region 4 with fail
  refine wp_abs (F := fun w2 => Row w2 w.heap.size #[.int .i16 a0, .int .i16 a1, .int .i8 d0, .int .i8 d1, .int .u8 n0, .int .u8 n1, .int .u8 wi, .int .i64 p, .int .i64 r, .int .i64 q, .bool dd] 53 ∧ ∃ X, w2 = w.ext X) ⟨by (repeat (first | assumption | with_reducible refine Row.ext ?_ _ | with_reducible refine row_drew ?_ | (with_reducible refine row_last ?_; first | rfl | (simp; done)) | with_reducible refine Row.alloc ?_ _)), RowKit.Below.toExt (by (repeat (first | exact Below.refl _ _ | with_reducible refine Below.drew ?_ | with_reducible refine Below.ext ?_ (by first | exact Nat.le_refl _ | (simp; done) | (simp; omega)) _ | with_reducible refine Below.alloc ?_ (by first | exact Nat.le_refl _ | (simp; done) | (simp; omega)) _ | with_reducible refine Below.setCell ?_ (by first | exact Nat.le_refl _ | (simp; done) | (simp; omega)) _)))⟩ ?_
  rintro w2 ⟨Rl, hX⟩
  have HX2 := Lib.hid hX
  have HRl := Lib.hid Rl
  have cl := Rl.cell
  have fl := Rl.frozen
  have ll := Rl.lt
  clear Rl hX
  go_upto_region 8 with fail
  obtain ⟨Ba, hBa⟩ : ∃ B, w2.heap.size = B := ⟨_, rfl⟩
  refine wp_abs (F := fun w3 => PtR a0 a1 d0 d1 n0 n1 wi p r q dd w.heap.size Ba w3 ∧ ∃ X, w3 = w.ext X) ⟨by rw [← hBa]; exact ⟨by (repeat (first | with_reducible exact HRl.out | with_reducible refine Row.ext ?_ _ | with_reducible refine row_drew ?_ | with_reducible refine Row.alloc ?_ _)), by (repeat (first | assumption | with_reducible refine Row.ext ?_ _ | with_reducible refine row_drew ?_ | (with_reducible refine row_last ?_; first | rfl | (simp; done)) | with_reducible refine Row.alloc ?_ _)), by (repeat (first | assumption | with_reducible refine Row.ext ?_ _ | with_reducible refine row_drew ?_ | (with_reducible refine row_last ?_; first | rfl | (simp; done)) | with_reducible refine Row.alloc ?_ _)), by (repeat (first | assumption | with_reducible refine Row.ext ?_ _ | with_reducible refine row_drew ?_ | (with_reducible refine row_last ?_; first | rfl | (simp; done)) | with_reducible refine Row.alloc ?_ _)), by (repeat (first | assumption | with_reducible refine Row.ext ?_ _ | with_reducible refine row_drew ?_ | (with_reducible refine row_last ?_; first | rfl | (simp; done)) | with_reducible refine Row.alloc ?_ _))⟩, by obtain ⟨X0, hX0⟩ := HX2.out; subst hX0; exact RowKit.Below.toExt (by (repeat (first | with_reducible assumption | with_reducible exact Below.refl _ _ | with_reducible refine Below.drew ?_ | with_reducible refine Below.ext ?_ (by first | exact Nat.le_refl _ | omega | (simp; done) | (simp; omega)) _ | with_reducible refine Below.alloc ?_ (by first | exact Nat.le_refl _ | omega | (simp; done) | (simp; omega)) _ | with_reducible refine Below.setCell ?_ (by first | exact Nat.le_refl _ | omega | (simp; done) | (simp; omega)) _)))⟩ ?_
  rw [hBa]
  have hb0 : w.heap.size < Ba := by omega
  clear hBa cl fl ll HRl HX2
  rintro w3 ⟨PR, hX⟩
  have HX := Lib.hid hX
  have HP := Lib.hid PR
  obtain ⟨Rl, Ra, Rc, Rb, Rr⟩ := PR
  have cl := Rl.cell
  have fl := Rl.frozen
  have ll := Rl.lt
  have ca := Ra.cell
  have fa := Ra.frozen
  have la := Ra.lt
  have cc := Rc.cell
  have fc := Rc.frozen
  have lc := Rc.lt
  have cb := Rb.cell
  have fb := Rb.frozen
  have lb := Rb.lt
  have cr := Rr.cell
  have fr := Rr.frozen
  have lr := Rr.lt
  clear Rl Ra Rc Rb Rr hX
  go_upto_region 9 with (first
    | (go_at_call 21; (with_reducible refine (H1.out _).mono ?_); rintro _ _ ⟨v1, rfl, hv1, ⟨XF, rfl⟩⟩; have HV1 := Lib.hid hv1; obtain ⟨-, ax, kx, rfl, -, -⟩ := hv1))
  refine wp_abs (F := fun w4 => PtR a0 a1 d0 d1 n0 n1 wi p r q dd w.heap.size Ba w4 ∧ Row w4 (w3.heap.size + XF.sz) #[.int .i64 p, .int .i64 r, .int .i64 cd] 51 ∧ Recs frK w4 (.slice ax X.length kx) X ∧ ∃ X, w4 = w.ext X) ⟨(HP.out.ext _).alloc _, by (repeat (first | assumption | with_reducible refine Row.ext ?_ _ | with_reducible refine row_drew ?_ | (with_reducible refine row_last ?_; first | rfl | (simp; done)) | with_reducible refine Row.alloc ?_ _)), HV1.out.alloc _, by obtain ⟨X0, hX0⟩ := HX.out; subst hX0; exact RowKit.Below.toExt (by (repeat (first | with_reducible assumption | with_reducible exact Below.refl _ _ | with_reducible refine Below.drew ?_ | with_reducible refine Below.ext ?_ (by first | exact Nat.le_refl _ | omega | (simp; done) | (simp; omega)) _ | with_reducible refine Below.alloc ?_ (by first | exact Nat.le_refl _ | omega | (simp; done) | (simp; omega)) _ | with_reducible refine Below.setCell ?_ (by first | exact Nat.le_refl _ | omega | (simp; done) | (simp; omega)) _)))⟩ ?_
  obtain ⟨B1, hB1⟩ : ∃ B, w3.heap.size + XF.sz = B := ⟨_, rfl⟩
  rw [hB1]
  have hb1 : w.heap.size < B1 := by omega
  clear hB1 cl fl ll ca fa la cc fc lc cb fb lb cr fr lr HX HV1 HP H1
  rintro w4 ⟨PR, Rd, hv1, hX⟩
  have HX := Lib.hid hX
  have HP := Lib.hid PR
  have HRd := Lib.hid Rd
  have HV1 := Lib.hid hv1
  obtain ⟨Rl, Ra, Rc, Rb, Rr⟩ := PR
  have cl := Rl.cell
  have fl := Rl.frozen
  have ll := Rl.lt
  have ca := Ra.cell
  have fa := Ra.frozen
  have la := Ra.lt
  have cc := Rc.cell
  have fc := Rc.frozen
  have lc := Rc.lt
  have cr := Rr.cell
  have fr := Rr.frozen
  have lr := Rr.lt
  clear Rl Ra Rc Rb Rr hX hv1 Rd
  go_upto_region 10 with (first
    | (go_at_call 21; (with_reducible refine (H2.out _).mono ?_); rintro _ _ ⟨v2, rfl, hv2, ⟨XG, rfl⟩⟩; have HV2 := Lib.hid hv2; obtain ⟨-, ay, ky, rfl, -, -⟩ := hv2))
  refine wp_abs (F := fun w5 => PtR a0 a1 d0 d1 n0 n1 wi p r q dd w.heap.size Ba w5 ∧ Row w5 B1 #[.int .i64 p, .int .i64 r, .int .i64 cd] 51 ∧ Row w5 (w4.heap.size + XG.sz) #[.int .i64 p, .int .i64 r, .int .i64 ce] 51 ∧ Recs frK w5 (.slice ax X.length kx) X ∧ Recs frK w5 (.slice ay Y.length ky) Y ∧ ∃ X, w5 = w.ext X) ⟨(HP.out.ext _).alloc _, (HRd.out.ext _).alloc _, by (repeat (first | assumption | with_reducible refine Row.ext ?_ _ | with_reducible refine row_drew ?_ | (with_reducible refine row_last ?_; first | rfl | (simp; done)) | with_reducible refine Row.alloc ?_ _)), (HV1.out.ext _).alloc _, HV2.out.alloc _, by obtain ⟨X0, hX0⟩ := HX.out; subst hX0; exact RowKit.Below.toExt (by (repeat (first | with_reducible assumption | with_reducible exact Below.refl _ _ | with_reducible refine Below.drew ?_ | with_reducible refine Below.ext ?_ (by first | exact Nat.le_refl _ | omega | (simp; done) | (simp; omega)) _ | with_reducible refine Below.alloc ?_ (by first | exact Nat.le_refl _ | omega | (simp; done) | (simp; omega)) _ | with_reducible refine Below.setCell ?_ (by first | exact Nat.le_refl _ | omega | (simp; done) | (simp; omega)) _)))⟩ ?_
  obtain ⟨B2, hB2⟩ : ∃ B, w4.heap.size + XG.sz = B := ⟨_, rfl⟩
  rw [hB2]
  have hb2 : w.heap.size < B2 := by omega
  clear hB2 cl fl ll ca fa la cc fc lc cr fr lr HX HV1 HV2 HRd HP H2
  rintro w5 ⟨PR, Rd, Re, hv1, hv2, hX⟩
  have HX := Lib.hid hX
  have HP := Lib.hid PR
  have HRd := Lib.hid Rd
  have HRe := Lib.hid Re
  have HV1 := Lib.hid hv1
  have HV2 := Lib.hid hv2
  obtain ⟨Rl, Ra, Rc, Rb, Rr⟩ := PR
  have cl := Rl.cell
  have fl := Rl.frozen
  have ll := Rl.lt
  have cb := Rb.cell
  have fb := Rb.frozen
  have lb := Rb.lt
  have cc := Rc.cell
  have fc := Rc.frozen
  have lc := Rc.lt
  have cr := Rr.cell
  have fr := Rr.frozen
  have lr := Rr.lt
  have ce' := Re.cell
  have fe := Re.frozen
  have le := Re.lt
  clear Rl Ra Rc Rb Rr hX hv1 hv2 Rd Re
  go_upto_region 11 with (first
    | (go_at_call 21; (with_reducible refine (H3.out _).mono ?_); rintro _ _ ⟨v3, rfl, hv3, ⟨XH, rfl⟩⟩; have HV3 := Lib.hid hv3; obtain ⟨-, az, kz, rfl, -, -⟩ := hv3))
  refine wp_abs (F := fun w6 => PtR a0 a1 d0 d1 n0 n1 wi p r q dd w.heap.size Ba w6 ∧ Row w6 B1 #[.int .i64 p, .int .i64 r, .int .i64 cd] 51 ∧ Row w6 B2 #[.int .i64 p, .int .i64 r, .int .i64 ce] 51 ∧ Row w6 (w5.heap.size + XH.sz) #[.int .i64 p, .int .i64 r, .int .i64 cd] 51 ∧ Recs frK w6 (.slice ax X.length kx) X ∧ Recs frK w6 (.slice ay Y.length ky) Y ∧ Recs frK w6 (.slice az Z.length kz) Z ∧ ∃ X, w6 = w.ext X) ⟨(HP.out.ext _).alloc _, (HRd.out.ext _).alloc _, (HRe.out.ext _).alloc _, by (repeat (first | assumption | with_reducible refine Row.ext ?_ _ | with_reducible refine row_drew ?_ | (with_reducible refine row_last ?_; first | rfl | (simp; done)) | with_reducible refine Row.alloc ?_ _)), (HV1.out.ext _).alloc _, (HV2.out.ext _).alloc _, HV3.out.alloc _, by obtain ⟨X0, hX0⟩ := HX.out; subst hX0; exact RowKit.Below.toExt (by (repeat (first | with_reducible assumption | with_reducible exact Below.refl _ _ | with_reducible refine Below.drew ?_ | with_reducible refine Below.ext ?_ (by first | exact Nat.le_refl _ | omega | (simp; done) | (simp; omega)) _ | with_reducible refine Below.alloc ?_ (by first | exact Nat.le_refl _ | omega | (simp; done) | (simp; omega)) _ | with_reducible refine Below.setCell ?_ (by first | exact Nat.le_refl _ | omega | (simp; done) | (simp; omega)) _)))⟩ ?_
  obtain ⟨B3, hB3⟩ : ∃ B, w5.heap.size + XH.sz = B := ⟨_, rfl⟩
  rw [hB3]
  have hb3 : w.heap.size < B3 := by omega
  clear hB3 cl fl ll cb fb lb cc fc lc cr fr lr ce' fe le HX HV1 HV2 HV3 HRd HRe HP H3
  rintro w6 ⟨PR, Rd, Re, Rf, ⟨-, av', cap', hq, -, hcl⟩, ⟨-, av2, cap2, hq2, -, hcl2⟩, ⟨-, av3, cap3, hq3, -, hcl3⟩, hX⟩
  obtain ⟨rfl, rfl⟩ : ax = av' ∧ kx = cap' := by simpa using hq
  obtain ⟨rfl, rfl⟩ : ay = av2 ∧ ky = cap2 := by simpa using hq2
  obtain ⟨rfl, rfl⟩ : az = av3 ∧ kz = cap3 := by simpa using hq3
  have HX := Lib.hid hX
  have HL1 := Lib.hid hcl
  have HL2 := Lib.hid hcl2
  have HL3 := Lib.hid hcl3
  obtain ⟨Rl, -, -, -, -⟩ := PR
  have cl := Rl.cell
  have fl := Rl.frozen
  have ll := Rl.lt
  have cd' := Rd.cell
  have fd := Rd.frozen
  have ld := Rd.lt
  have ce' := Re.cell
  have fe := Re.frozen
  have le := Re.lt
  have cf := Rf.cell
  have ff := Rf.frozen
  have lf := Rf.lt
  clear Rl Rd Re Rf hX hq hq2 hq3 hcl hcl2 hcl3
  have hl1 : ((X.length : Int) == (Y.length : Int) + (Z.length : Int)) = true := by have := HLen.out; simp; omega
  have hl2 : ((X.length : Int) != (Y.length : Int) + (Z.length : Int)) = false := by have := HLen.out; simp; omega
  have hly : Y.length ≤ 102400 := by have := HLen.out; omega
  have hlz : Z.length ≤ 102400 := by have := HLen.out; omega
  by_cases z1 : n0 % 32 = 0
  · clear HPx HDD HLen HL1 HL2 HL3
    go_wp2_with (first | (go_at_call 20; (with_reducible refine (awake17 _).mono ?_); rintro _ _ ⟨rfl, X_, rfl⟩))
    go_ret
    obtain ⟨X0, hX0⟩ := HX.out
    subst hX0
    exact Ret.of' rfl (by (repeat (first | with_reducible assumption | with_reducible exact Below.refl _ _ | with_reducible refine Below.drew ?_ | with_reducible refine Below.ext ?_ (by first | exact Nat.le_refl _ | omega | (simp; done) | (simp; omega)) _ | with_reducible refine Below.alloc ?_ (by first | exact Nat.le_refl _ | omega | (simp; done) | (simp; omega)) _ | with_reducible refine Below.setCell ?_ (by first | exact Nat.le_refl _ | omega | (simp; done) | (simp; omega)) _)))
  have z1b : (n0 % 32 == 0) = false := by simpa using z1
  by_cases z2 : n1 % 32 = 0
  · clear HPx HDD HLen HL1 HL2 HL3
    go_wp2_with (first | (go_at_call 20; (with_reducible refine (awake17 _).mono ?_); rintro _ _ ⟨rfl, X_, rfl⟩))
    go_ret
    obtain ⟨X0, hX0⟩ := HX.out
    subst hX0
    exact Ret.of' rfl (by (repeat (first | with_reducible assumption | with_reducible exact Below.refl _ _ | with_reducible refine Below.drew ?_ | with_reducible refine Below.ext ?_ (by first | exact Nat.le_refl _ | omega | (simp; done) | (simp; omega)) _ | with_reducible refine Below.alloc ?_ (by first | exact Nat.le_refl _ | omega | (simp; done) | (simp; omega)) _ | with_reducible refine Below.setCell ?_ (by first | exact Nat.le_refl _ | omega | (simp; done) | (simp; omega)) _)))
  have z2b : (n1 % 32 == 0) = false := by simpa using z2
  by_cases z3 : eq2 d0 d1 0 0 = true
  · clear HPx HDD HLen HL1 HL2 HL3
    go_wp2_with (first | (go_at_call 20; (with_reducible refine (awake17 _).mono ?_); rintro _ _ ⟨rfl, X_, rfl⟩))
    go_ret
    obtain ⟨X0, hX0⟩ := HX.out
    subst hX0
    exact Ret.of' rfl (by (repeat (first | with_reducible assumption | with_reducible exact Below.refl _ _ | with_reducible refine Below.drew ?_ | with_reducible refine Below.ext ?_ (by first | exact Nat.le_refl _ | omega | (simp; done) | (simp; omega)) _ | with_reducible refine Below.alloc ?_ (by first | exact Nat.le_refl _ | omega | (simp; done) | (simp; omega)) _ | with_reducible refine Below.setCell ?_ (by first | exact Nat.le_refl _ | omega | (simp; done) | (simp; omega)) _)))
  have z3 : eq2 d0 d1 0 0 = false := by simpa using z3
  cases dd
  all_goals
    try (have hq := HDD.out rfl; obtain ⟨rfl, rfl⟩ := hq)
    clear HDD
    go_wp2_with (first | (go_at_call 20; (with_reducible refine (awake17 _).mono ?_); rintro _ _ ⟨rfl, X_, rfl⟩))
    go_loopw [16] (fun i wr => ∃ (k : Nat), k ≤ X.length ∧ i = .int .i64 k ∧ ∃ X, wr = w6.ext X)
      (fun i _ => X.length - (intOf i).toNat)
    case atStart => exact ⟨0, by omega, rfl, _, ext_self _⟩
    case round =>
      obtain ⟨k, hk, rfl, XR, rfl⟩ := hrel
      by_cases hlt : k < X.length
      · have HKL := Lib.hid (show k + 1 ≤ X.length from hlt)
        obtain ⟨f, hf⟩ : ∃ f, X[k]? = some f := ⟨_, List.getElem?_eq_getElem hlt⟩
        have hki : (k : Int) < X.length := by omega
        obtain ⟨lb, lo, rfl, hlb, hcl⟩ := (HL1.out).resolve_left (fun e => by rw [e] at hlt; simp at hlt)
        have g0 : w6.cell? ⟨lb, lo + k * 8, none⟩ = some (.int .i64 f.x) := hcl k _ hf 0 _ rfl
        have g1 : w6.cell? ⟨lb, lo + k * 8 + 1, none⟩ = some (.int .i64 f.y) := hcl k _ hf 1 _ rfl
        clear hcl
        by_cases hy : k < Y.length
        · obtain ⟨g, hg⟩ : ∃ g, Y[k]? = some g := ⟨_, List.getElem?_eq_getElem hy⟩
          obtain ⟨e1, e2⟩ := (HPx.out k f hf).1 g hg
          obtain ⟨yb, yo, rfl, hyb, hcy⟩ := (HL2.out).resolve_left (fun e => by rw [e] at hy; simp at hy)
          have d0' : w6.cell? ⟨yb, yo + k * 8, none⟩ = some (.int .i64 g.x) := hcy k _ hg 0 _ rfl
          have d1' : w6.cell? ⟨yb, yo + k * 8 + 1, none⟩ = some (.int .i64 g.y) := hcy k _ hg 1 _ rfl
          have d2' : w6.cell? ⟨yb, yo + k * 8 + 2, none⟩ = some (.int .i64 g.z) := hcy k _ hg 2 _ rfl
          have d3' : w6.cell? ⟨yb, yo + k * 8 + 3, none⟩ = some (.int .i64 g.c0) := hcy k _ hg 3 _ rfl
          have d4' : w6.cell? ⟨yb, yo + k * 8 + 4, none⟩ = some (.int .i64 g.c1) := hcy k _ hg 4 _ rfl
          have d5' : w6.cell? ⟨yb, yo + k * 8 + 5, none⟩ = some (.int .i64 g.c2) := hcy k _ hg 5 _ rfl
          have d6' : w6.cell? ⟨yb, yo + k * 8 + 6, none⟩ = some (.int .i64 g.c3) := hcy k _ hg 6 _ rfl
          have d7' : w6.cell? ⟨yb, yo + k * 8 + 7, none⟩ = some (.int .i64 g.cov) := hcy k _ hg 7 _ rfl
          have hyi : (k : Int) < Y.length := by omega
          clear hcy hf hg HPx
          obtain ⟨fx, fy, fz, q1', q2', q3', q4', q5'⟩ := f
          obtain ⟨gx, gy, gz, r1', r2', r3', r4', r5'⟩ := g
          simp only at g0 g1 d0' d1' d2' d3' d4' d5' d6' d7' e1 e2
          subst e1 e2
          go_wp2
          refine wp_region_ext (by kernel_rfl) (by kernel_rfl) ?_
          repeat (go_big_quiet_step ((fail)))
          refine wpQuiet_nil ?_
          intro _ hw_ext
          obtain ⟨V, hw_ext⟩ := hw_ext
          subst hw_ext
          go_wp2
          go_roundw
          case rel => exact ⟨k + 1, HKL.out, by go_num, RowKit.Below.toExt (by (repeat (first | with_reducible assumption | with_reducible exact Below.refl _ _ | with_reducible refine Below.drew ?_ | with_reducible refine Below.ext ?_ (by first | exact Nat.le_refl _ | omega | (simp; done) | (simp; omega)) _ | with_reducible refine Below.alloc ?_ (by first | exact Nat.le_refl _ | omega | (simp; done) | (simp; omega)) _ | with_reducible refine Below.setCell ?_ (by first | exact Nat.le_refl _ | omega | (simp; done) | (simp; omega)) _)))⟩
          case measure => have := HKL.out; simp [intOf]; omega
        · have hyi : ¬ ((k : Int) < Y.length) := by omega
          have hkz : k - Y.length < Z.length := by have := HLen.out; omega
          obtain ⟨g, hg⟩ : ∃ g, Z[k - Y.length]? = some g := ⟨_, List.getElem?_eq_getElem hkz⟩
          obtain ⟨e1, e2⟩ := (HPx.out k f hf).2 g (by omega) hg
          obtain ⟨yb, yo, rfl, hyb, hcy⟩ := (HL3.out).resolve_left (fun e => by rw [e] at hkz; simp at hkz)
          obtain ⟨j, hj⟩ : ∃ j, k - Y.length = j := ⟨_, rfl⟩
          rw [hj] at hg hkz
          obtain rfl : k = Y.length + j := by omega
          have d0' : w6.cell? ⟨yb, yo + j * 8, none⟩ = some (.int .i64 g.x) := hcy j _ hg 0 _ rfl
          have d1' : w6.cell? ⟨yb, yo + j * 8 + 1, none⟩ = some (.int .i64 g.y) := hcy j _ hg 1 _ rfl
          have d2' : w6.cell? ⟨yb, yo + j * 8 + 2, none⟩ = some (.int .i64 g.z) := hcy j _ hg 2 _ rfl
          have d3' : w6.cell? ⟨yb, yo + j * 8 + 3, none⟩ = some (.int .i64 g.c0) := hcy j _ hg 3 _ rfl
          have d4' : w6.cell? ⟨yb, yo + j * 8 + 4, none⟩ = some (.int .i64 g.c1) := hcy j _ hg 4 _ rfl
          have d5' : w6.cell? ⟨yb, yo + j * 8 + 5, none⟩ = some (.int .i64 g.c2) := hcy j _ hg 5 _ rfl
          have d6' : w6.cell? ⟨yb, yo + j * 8 + 6, none⟩ = some (.int .i64 g.c3) := hcy j _ hg 6 _ rfl
          have d7' : w6.cell? ⟨yb, yo + j * 8 + 7, none⟩ = some (.int .i64 g.cov) := hcy j _ hg 7 _ rfl
          have hzi : (j : Int) < Z.length := by omega
          have hjj : ((Y.length + j : Nat) : Int) - (Y.length : Int) = j := by omega
          clear hcy hf hg HPx hj
          obtain ⟨fx, fy, fz, q1', q2', q3', q4', q5'⟩ := f
          obtain ⟨gx, gy, gz, r1', r2', r3', r4', r5'⟩ := g
          simp only at g0 g1 d0' d1' d2' d3' d4' d5' d6' d7' e1 e2
          subst e1 e2
          go_wp2
          refine wp_region_ext (by kernel_rfl) (by kernel_rfl) ?_
          repeat (go_big_quiet_step ((fail)))
          refine wpQuiet_nil ?_
          intro _ hw_ext
          obtain ⟨V, hw_ext⟩ := hw_ext
          subst hw_ext
          go_wp2
          go_roundw
          case rel => exact ⟨Y.length + j + 1, HKL.out, by go_num, RowKit.Below.toExt (by (repeat (first | with_reducible assumption | with_reducible exact Below.refl _ _ | with_reducible refine Below.drew ?_ | with_reducible refine Below.ext ?_ (by first | exact Nat.le_refl _ | omega | (simp; done) | (simp; omega)) _ | with_reducible refine Below.alloc ?_ (by first | exact Nat.le_refl _ | omega | (simp; done) | (simp; omega)) _ | with_reducible refine Below.setCell ?_ (by first | exact Nat.le_refl _ | omega | (simp; done) | (simp; omega)) _)))⟩
          case measure => have := HKL.out; simp [intOf]; omega
      · obtain rfl : k = X.length := by omega
        go_wp2_with (first | (go_at_call 20; (with_reducible refine (awake17 _).mono ?_); rintro _ _ ⟨rfl, X_, rfl⟩))
        go_ret
        obtain ⟨X0, hX0⟩ := HX.out
        subst hX0
        exact Ret.of' (by simp) (by (repeat (first | with_reducible assumption | with_reducible exact Below.refl _ _ | with_reducible refine Below.drew ?_ | with_reducible refine Below.ext ?_ (by first | exact Nat.le_refl _ | omega | (simp; done) | (simp; omega)) _ | with_reducible refine Below.alloc ?_ (by first | exact Nat.le_refl _ | omega | (simp; done) | (simp; omega)) _ | with_reducible refine Below.setCell ?_ (by first | exact Nat.le_refl _ | omega | (simp; done) | (simp; omega)) _)))
theorem WideParts_all : WideParts_stmt := by
  rintro a0 a1 d0 d1 n0 n1 wi p r q dd w ⟨h1, h2, h3, h4, h5, h6, h7, -, -, -⟩
  by_cases h : dashP p r q
  · exact parts17_in a0 a1 d0 d1 n0 n1 wi p r q dd h1 h2 h3 h4 h5 h6 h7 h w
  · exact parts17_no a0 a1 d0 d1 n0 n1 wi p r q dd h w
theorem WideParts_holds : Rows.WidePartsSaid := WideParts_end WideParts_all
end Go.Proofs.Ytciooaihobnifaa
