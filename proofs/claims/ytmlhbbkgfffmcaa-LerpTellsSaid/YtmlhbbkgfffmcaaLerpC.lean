/- The walks of layer 16 (lerp): along a line, and across. Conditions: such vertices and pixels as are promised anything. -/
import Derived.Test.YtmlhbbkgfffmcaaLerpB
import Derived.Deep.DrawnRows
namespace Go.Proofs.Ytmlhbbkgfffmcaa
set_option linter.unusedVariables false
set_option linter.unusedSimpArgs false
open Go.RowKit
attribute [local go_sem ↓] Go.wp_at_zero Go.wp_at_succ
structure WinP.fits (a : WinP) : Prop where
  x0 : -268435456 ≤ a.x
  x1 : a.x ≤ 268435456
  y0 : -268435456 ≤ a.y
  y1 : a.y ≤ 268435456
  z0 : 0 ≤ a.z
  z1 : a.z ≤ 16777215
  m : May a.c0 a.c1 a.c2 a.c3
structure Near (x y : Int) : Prop where
  x0 : -4194304 ≤ x
  x1 : x ≤ 4194304
  y0 : -4194304 ≤ y
  y1 : y ≤ 4194304
theorem WinP.fits.t {a : WinP} (h : a.fits) : a.tame := by
  obtain ⟨-, -, -, -, z0, z1, a0, a1, b0, b1, c0, c1, d0, d1⟩ := h
  constructor <;> unfold Ytmlhbbkgfffmcaa.tame <;> omega
/-- How far, and of how much, by the longer way. -/
def alN (a b : WinP) (x y : Int) : Int := if max (b.x - a.x) (-(b.x - a.x)) < max (b.y - a.y) (-(b.y - a.y)) then (if b.y - a.y < 0 then -(y * 256 + 128 - a.y) else y * 256 + 128 - a.y) else (if b.x - a.x < 0 then -(x * 256 + 128 - a.x) else x * 256 + 128 - a.x)
def alD (a b : WinP) : Int := if max (b.x - a.x) (-(b.x - a.x)) < max (b.y - a.y) (-(b.y - a.y)) then (if b.y - a.y < 0 then -(b.y - a.y) else b.y - a.y) else (if b.x - a.x < 0 then -(b.x - a.x) else b.x - a.x)
/-- How far, and of how much, across. -/
def acN (a b : WinP) (x y : Int) : Int := (x * 256 + 128 - a.x) * (b.x - a.x) + (y * 256 + 128 - a.y) * (b.y - a.y)
def acD (a b : WinP) : Int := (b.x - a.x) * (b.x - a.x) + (b.y - a.y) * (b.y - a.y)
set_option maxHeartbeats 4000000 in
theorem along_any (a b : WinP) (x y : Int) (ha : a.fits) (hb : b.fits) (hx : Near x y) (w : World) : Calls Try.prog 58 #[a.v, b.v, .int .i64 x, .int .i64 y] w (Ret (mixed a b (alN a b x y) (alD a b)) w) := by
  obtain ⟨x0, x1, y0, y1⟩ := hx
  have B := Lib.hid (fun n d hn hd bn bd w h1 h2 => both_any a b n d ha.t hb.t hn hd bn bd w h1 h2)
  obtain ⟨ax0, ax1, ay0, ay1, -, -, -⟩ := ha
  obtain ⟨bx0, bx1, by0, by1, -, -, -⟩ := hb
  have hN : alN a b x y = if max (b.x - a.x) (-(b.x - a.x)) < max (b.y - a.y) (-(b.y - a.y)) then (if b.y - a.y < 0 then -(y * 256 + 128 - a.y) else y * 256 + 128 - a.y) else (if b.x - a.x < 0 then -(x * 256 + 128 - a.x) else x * 256 + 128 - a.x) := rfl
  have hD : alD a b = if max (b.x - a.x) (-(b.x - a.x)) < max (b.y - a.y) (-(b.y - a.y)) then (if b.y - a.y < 0 then -(b.y - a.y) else b.y - a.y) else (if b.x - a.x < 0 then -(b.x - a.x) else b.x - a.x) := rfl
  generalize alN a b x y = n at *
  generalize alD a b = d at *
  have HN := Lib.hid hN
  have HD := Lib.hid hD
  have sn : sml n := by unfold sml; rw [hN]; repeat (split <;> try omega)
  have sd : sml d := by unfold sml; rw [hD]; repeat (split <;> try omega)
  clear hN hD
  go_enter Try.func58, Try.ntmps58
  go_wp2
  refine wp_region_ext (by kernel_rfl) (by kernel_rfl) ?_
  repeat (go_big_quiet_step ((fail)))
  refine wpQuiet_nil ?_
  intro _ hw_ext
  obtain ⟨X, hw_ext⟩ := hw_ext
  subst hw_ext
  go_wp2
  all_goals
    have e1 := HN.out
    have e2 := HD.out
    repeat (first | rw [if_pos (by assumption)] at e1 | rw [if_neg (by omega)] at e1)
    repeat (first | rw [if_pos (by assumption)] at e2 | rw [if_neg (by omega)] at e2)
    subst e1 e2
    clear HN HD
    go_region_held3 (fun w' => w'.cell? ⟨w.heap.size, 0, none⟩ = some (.int .i64 a.x) ∧ w'.cell? ⟨w.heap.size, 1, none⟩ = some (.int .i64 a.y) ∧ w'.cell? ⟨w.heap.size, 2, none⟩ = some (.int .i64 a.z) ∧ w'.cell? ⟨w.heap.size, 3, none⟩ = some (.int .i64 a.c0) ∧ w'.cell? ⟨w.heap.size, 4, none⟩ = some (.int .i64 a.c1) ∧ w'.cell? ⟨w.heap.size, 5, none⟩ = some (.int .i64 a.c2) ∧ w'.cell? ⟨w.heap.size, 6, none⟩ = some (.int .i64 a.c3) ∧ w'.cell? ⟨w.heap.size + 1, 0, none⟩ = some (.int .i64 b.x) ∧ w'.cell? ⟨w.heap.size + 1, 1, none⟩ = some (.int .i64 b.y) ∧ w'.cell? ⟨w.heap.size + 1, 2, none⟩ = some (.int .i64 b.z) ∧ w'.cell? ⟨w.heap.size + 1, 3, none⟩ = some (.int .i64 b.c0) ∧ w'.cell? ⟨w.heap.size + 1, 4, none⟩ = some (.int .i64 b.c1) ∧ w'.cell? ⟨w.heap.size + 1, 5, none⟩ = some (.int .i64 b.c2) ∧ w'.cell? ⟨w.heap.size + 1, 6, none⟩ = some (.int .i64 b.c3)) (go_simp)
      (first
        | (go_at_call 117; (with_reducible refine (mixer_any _ _ _).mono ?_); rintro _ _ ⟨rfl, rfl⟩)
        | (go_at_call 116; (with_reducible refine (B.out _ _ sn sd _ _ _ ?_ ?_).mono ?_); (refine Row.alloc (row_last ?_) _; simp); (refine row_last ?_; simp); rintro _ _ ⟨rfl, X_, rfl⟩))
    go_wp2
    refine bodyPost_ret (v := mixed a b _ _) (by simp [results, Try.results58, go_sem]) rfl (Ret.of (by (repeat (first | exact Below.refl _ _ | with_reducible refine Below.drew ?_ | with_reducible refine Below.ext ?_ (by first | exact Nat.le_refl _ | (simp; done) | (simp; omega)) _ | with_reducible refine Below.alloc ?_ (by first | exact Nat.le_refl _ | (simp; done) | (simp; omega)) _ | with_reducible refine Below.setCell ?_ (by first | exact Nat.le_refl _ | (simp; done) | (simp; omega)) _))))
theorem mul_bds {u v U V : Int} (hU : 0 ≤ U) (hV : 0 ≤ V) (u0 : -U ≤ u) (u1 : u ≤ U) (v0 : -V ≤ v) (v1 : v ≤ V) : -(U * V) ≤ u * v ∧ u * v ≤ U * V := by
  have h1 := Int.mul_nonneg (show 0 ≤ U - u by omega) (show 0 ≤ V - v by omega)
  have h2 := Int.mul_nonneg (show 0 ≤ U + u by omega) (show 0 ≤ V + v by omega)
  have h3 := Int.mul_nonneg (show 0 ≤ U - u by omega) (show 0 ≤ V + v by omega)
  have h4 := Int.mul_nonneg (show 0 ≤ U + u by omega) (show 0 ≤ V - v by omega)
  have e1 : (U - u) * (V - v) = U * V - U * v - u * V + u * v := by grind
  have e2 : (U + u) * (V + v) = U * V + U * v + u * V + u * v := by grind
  have e3 : (U - u) * (V + v) = U * V + U * v - u * V - u * v := by grind
  have e4 : (U + u) * (V - v) = U * V - U * v + u * V - u * v := by grind
  constructor <;> omega
set_option maxHeartbeats 4000000 in
theorem across_any (a b : WinP) (x y : Int) (ha : a.fits) (hb : b.fits) (hx : Near x y) (w : World) : Calls Try.prog 60 #[a.v, b.v, .int .i64 x, .int .i64 y] w (Ret (mixed a b (acN a b x y) (acD a b)) w) := by
  obtain ⟨x0, x1, y0, y1⟩ := hx
  have B := Lib.hid (fun n d hn hd bn bd w h1 h2 => both_any a b n d ha.t hb.t hn hd bn bd w h1 h2)
  obtain ⟨ax0, ax1, ay0, ay1, -, -, -⟩ := ha
  obtain ⟨bx0, bx1, by0, by1, -, -, -⟩ := hb
  obtain ⟨W, hW⟩ : ∃ W, b.x - a.x = W := ⟨_, rfl⟩
  obtain ⟨H, hH⟩ : ∃ H, b.y - a.y = H := ⟨_, rfl⟩
  obtain ⟨U, hU⟩ : ∃ U, x * 256 + 128 - a.x = U := ⟨_, rfl⟩
  obtain ⟨V, hV⟩ : ∃ V, y * 256 + 128 - a.y = V := ⟨_, rfl⟩
  have e1 : acN a b x y = U * W + V * H := by unfold acN; rw [hW, hH, hU, hV]
  have e2 : acD a b = W * W + H * H := by unfold acD; rw [hW, hH]
  rw [e1, e2]
  have m1 := mul_bds (u := U) (v := W) (U := 1342177408) (V := 536870912) (by omega) (by omega) (by omega) (by omega) (by omega) (by omega)
  have m2 := mul_bds (u := V) (v := H) (U := 1342177408) (V := 536870912) (by omega) (by omega) (by omega) (by omega) (by omega) (by omega)
  have m3 := mul_bds (u := W) (v := W) (U := 536870912) (V := 536870912) (by omega) (by omega) (by omega) (by omega) (by omega) (by omega)
  have m4 := mul_bds (u := H) (v := H) (U := 536870912) (V := 536870912) (by omega) (by omega) (by omega) (by omega) (by omega) (by omega)
  have sn : sml (U * W + V * H) := by unfold sml; omega
  have sd : sml (W * W + H * H) := by unfold sml; omega
  have k1 : IntKind.i64.wrap (x * 256) = x * 256 := IntWalk.i64_in _ (by omega)
  have k2 : IntKind.i64.wrap (x * 256 + 128) = x * 256 + 128 := IntWalk.i64_in _ (by omega)
  have k3 : IntKind.i64.wrap (x * 256 + 128 - a.x) = U := by rw [hU]; exact IntWalk.i64_in _ (by omega)
  have k4 : IntKind.i64.wrap (y * 256) = y * 256 := IntWalk.i64_in _ (by omega)
  have k5 : IntKind.i64.wrap (y * 256 + 128) = y * 256 + 128 := IntWalk.i64_in _ (by omega)
  have k6 : IntKind.i64.wrap (y * 256 + 128 - a.y) = V := by rw [hV]; exact IntWalk.i64_in _ (by omega)
  have k7 : IntKind.i64.wrap (U * W) = U * W := IntWalk.i64_in _ (by omega)
  have k8 : IntKind.i64.wrap (V * H) = V * H := IntWalk.i64_in _ (by omega)
  have k9 : IntKind.i64.wrap (U * W + V * H) = U * W + V * H := IntWalk.i64_in _ (by omega)
  have l1 : IntKind.i64.wrap (W * W) = W * W := IntWalk.i64_in _ (by omega)
  have l2 : IntKind.i64.wrap (H * H) = H * H := IntWalk.i64_in _ (by omega)
  have l3 : IntKind.i64.wrap (W * W + H * H) = W * W + H * H := IntWalk.i64_in _ (by omega)
  have j1 : IntKind.i64.wrap (b.x - a.x) = W := by rw [hW]; exact IntWalk.i64_in _ (by omega)
  have j2 : IntKind.i64.wrap (b.y - a.y) = H := by rw [hH]; exact IntWalk.i64_in _ (by omega)
  clear m1 m2 m3 m4 e1 e2 hW hH hU hV
  go_enter Try.func60, Try.ntmps60
  go_wp2
  refine wp_region_ext (by kernel_rfl) (by kernel_rfl) ?_
  repeat (go_big_quiet_step ((fail)))
  refine wpQuiet_nil ?_
  intro _ hw_ext
  obtain ⟨X, hw_ext⟩ := hw_ext
  subst hw_ext
  go_wp2
  go_region_held3 (fun w' => w'.cell? ⟨w.heap.size, 0, none⟩ = some (.int .i64 a.x) ∧ w'.cell? ⟨w.heap.size, 1, none⟩ = some (.int .i64 a.y) ∧ w'.cell? ⟨w.heap.size, 2, none⟩ = some (.int .i64 a.z) ∧ w'.cell? ⟨w.heap.size, 3, none⟩ = some (.int .i64 a.c0) ∧ w'.cell? ⟨w.heap.size, 4, none⟩ = some (.int .i64 a.c1) ∧ w'.cell? ⟨w.heap.size, 5, none⟩ = some (.int .i64 a.c2) ∧ w'.cell? ⟨w.heap.size, 6, none⟩ = some (.int .i64 a.c3) ∧ w'.cell? ⟨w.heap.size + 1, 0, none⟩ = some (.int .i64 b.x) ∧ w'.cell? ⟨w.heap.size + 1, 1, none⟩ = some (.int .i64 b.y) ∧ w'.cell? ⟨w.heap.size + 1, 2, none⟩ = some (.int .i64 b.z) ∧ w'.cell? ⟨w.heap.size + 1, 3, none⟩ = some (.int .i64 b.c0) ∧ w'.cell? ⟨w.heap.size + 1, 4, none⟩ = some (.int .i64 b.c1) ∧ w'.cell? ⟨w.heap.size + 1, 5, none⟩ = some (.int .i64 b.c2) ∧ w'.cell? ⟨w.heap.size + 1, 6, none⟩ = some (.int .i64 b.c3)) (go_simp)
    (first
      | (go_at_call 117; (with_reducible refine (mixer_any _ _ _).mono ?_); rintro _ _ ⟨rfl, rfl⟩)
      | (go_at_call 116; (with_reducible refine (B.out _ _ sn sd _ _ _ ?_ ?_).mono ?_); (refine Row.alloc (row_last ?_) _; simp); (refine row_last ?_; simp); rintro _ _ ⟨rfl, X_, rfl⟩))
  go_wp2
  refine bodyPost_ret (v := mixed a b _ _) (by simp [results, Try.results60, go_sem]) rfl (Ret.of (by (repeat (first | exact Below.refl _ _ | with_reducible refine Below.drew ?_ | with_reducible refine Below.ext ?_ (by first | exact Nat.le_refl _ | (simp; done) | (simp; omega)) _ | with_reducible refine Below.alloc ?_ (by first | exact Nat.le_refl _ | (simp; done) | (simp; omega)) _ | with_reducible refine Below.setCell ?_ (by first | exact Nat.le_refl _ | (simp; done) | (simp; omega)) _))))
end Go.Proofs.Ytmlhbbkgfffmcaa
