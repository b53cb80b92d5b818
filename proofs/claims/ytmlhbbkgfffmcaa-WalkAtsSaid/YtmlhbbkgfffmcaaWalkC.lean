/- The walks of layer 14 (walk): the way's methods that only read. Conditions: the way's bounds. -/
import Derived.Test.YtmlhbbkgfffmcaaRect
import Derived.Test.YtmlhbbkgfffmcaaMix
import Derived.Test.YtmlhbbkgfffmcaaXintA
namespace Go.Proofs.Ytmlhbbkgfffmcaa
set_option linter.unusedVariables false
set_option linter.unusedSimpArgs false
open Go.RowKit
/-- A line along its longer way. -/
structure Way where
  au : Int
  av : Int
  bu : Int
  bv : Int
  turned : Bool
  back : Int
  first : Int
  last : Int
  extra : Bool
  opn : Bool
  u : Int
  v : Int
abbrev Way.cells (W : Way) : Array Value := #[.int .i64 W.au, .int .i64 W.av, .int .i64 W.bu, .int .i64 W.bv, .bool W.turned, .int .i64 W.back, .int .i64 W.first, .int .i64 W.last, .bool W.extra, .bool W.opn, .int .i64 W.u, .int .i64 W.v]
/-- The way lies in this block. -/
abbrev WayAt (w : World) (p : Nat) (W : Way) : Prop := Row w p W.cells 121
structure Way.Ok (W : Way) : Prop where
  au0 : -536870912 ≤ W.au
  au1 : W.au ≤ 536870912
  av0 : -536870912 ≤ W.av
  av1 : W.av ≤ 536870912
  bu0 : -536870912 ≤ W.bu
  bu1 : W.bu ≤ 536870912
  bv0 : -536870912 ≤ W.bv
  bv1 : W.bv ≤ 536870912
  k0 : 0 ≤ W.back
  k1 : W.back ≤ 1
  f0 : -2097153 ≤ W.first
  f1 : W.first ≤ 2097153
  l0 : -2097153 ≤ W.last
  l1 : W.last ≤ 2097153
def Way.size (W : Way) : Int := max (W.last - W.first) (W.first - W.last)
def Way.step (W : Way) : Int := if W.last < W.first then -1 else 1
def Way.du (W : Way) : Int := if W.bu - W.au < 0 then -(W.bu - W.au) else W.bu - W.au
def Way.dv (W : Way) : Int := if W.bu - W.au < 0 then -(W.bv - W.av) else W.bv - W.av
def Way.num (W : Way) (u : Int) : Int := W.av * W.du + W.dv * (256 * u + 128 - W.au) - W.back
def Way.den (W : Way) : Int := 256 * W.du
def Way.across (W : Way) (u : Int) : Int := W.num u / W.den
def Way.px (W : Way) (u v : Int) : Int := if W.turned then v else u
def Way.py (W : Way) (u v : Int) : Int := if W.turned then u else v
def Way.count (W : Way) : Int := (W.size - if W.opn then 1 else 0) + if W.extra then 1 else 0
section
variable {W : Way} {w : World} {p : Nat}
theorem way_size (ok : W.Ok) (h : WayAt w p W) : Calls Try.prog 94 #[ptr p] w (Ret (.int .i64 W.size) w) := by
  obtain ⟨_, _, _, _, _, _, _, _, _, _, f0, f1, l0, l1⟩ := ok
  have hc := h.cell
  simp only [Way.cells] at hc
  have hf := h.frozen
  have hl := h.lt
  unfold Way.size
  clear h
  simp only [ptr]
  go_enter Try.func94, Try.ntmps94
  go_wp2
  refine wp_region_ext (by kernel_rfl) (by kernel_rfl) ?_
  repeat (go_big_quiet_step ((fail)))
  refine wpQuiet_nil ?_
  intro _ hw_ext
  obtain ⟨X, hw_ext⟩ := hw_ext
  subst hw_ext
  go_wp2
  go_ret
  exact Ret.of' (by simp) (by (repeat (first | exact Below.refl _ _ | with_reducible refine Below.drew ?_ | with_reducible refine Below.ext ?_ (by first | exact Nat.le_refl _ | (simp; done) | (simp; omega)) _ | with_reducible refine Below.alloc ?_ (by first | exact Nat.le_refl _ | (simp; done) | (simp; omega)) _ | with_reducible refine Below.setCell ?_ (by first | exact Nat.le_refl _ | (simp; done) | (simp; omega)) _)))
theorem way_step (h : WayAt w p W) (ok : W.Ok) : Calls Try.prog 95 #[ptr p] w (Ret (.int .i64 W.step) w) := by
  obtain ⟨_, _, _, _, _, _, _, _, _, _, f0, f1, l0, l1⟩ := ok
  have hc := h.cell
  simp only [Way.cells] at hc
  have hf := h.frozen
  have hl := h.lt
  clear h
  simp only [ptr]
  go_enter Try.func95, Try.ntmps95
  go_wp2
  refine wp_region_ext (by kernel_rfl) (by kernel_rfl) ?_
  repeat (go_big_quiet_step ((fail)))
  refine wpQuiet_nil ?_
  intro _ hw_ext
  obtain ⟨X, hw_ext⟩ := hw_ext
  subst hw_ext
  go_wp2
  all_goals go_ret
  all_goals refine Ret.of' ?_ (by (repeat (first | exact Below.refl _ _ | with_reducible refine Below.drew ?_ | with_reducible refine Below.ext ?_ (by first | exact Nat.le_refl _ | (simp; done) | (simp; omega)) _ | with_reducible refine Below.alloc ?_ (by first | exact Nat.le_refl _ | (simp; done) | (simp; omega)) _ | with_reducible refine Below.setCell ?_ (by first | exact Nat.le_refl _ | (simp; done) | (simp; omega)) _)))
  all_goals (unfold Way.step; first | (rw [if_pos (by omega)]; rfl) | (rw [if_neg (by omega)]; rfl))
theorem way_pixel (h : WayAt w p W) (u v : Int) : Calls Try.prog 92 #[ptr p, .int .i64 u, .int .i64 v] w (Ret (.tuple #[.int .i64 (W.px u v), .int .i64 (W.py u v)]) w) := by
  have hc := h.cell
  simp only [Way.cells] at hc
  have hf := h.frozen
  have hl := h.lt
  clear h
  simp only [ptr]
  cases ht : W.turned
  all_goals
    simp only [ht] at hc
    go_enter Try.func92, Try.ntmps92
    go_wp2
    go_ret2
    exact Ret.of' (by unfold Way.px Way.py; rw [ht]; rfl) (by (repeat (first | exact Below.refl _ _ | with_reducible refine Below.drew ?_ | with_reducible refine Below.ext ?_ (by first | exact Nat.le_refl _ | (simp; done) | (simp; omega)) _ | with_reducible refine Below.alloc ?_ (by first | exact Nat.le_refl _ | (simp; done) | (simp; omega)) _ | with_reducible refine Below.setCell ?_ (by first | exact Nat.le_refl _ | (simp; done) | (simp; omega)) _)))
theorem way_count (ok : W.Ok) (h : WayAt w p W) : Calls Try.prog 100 #[ptr p] w (Ret (.int .i64 W.count) w) := by
  have hS : ∀ X, Calls Try.prog 94 #[.pointer (some ⟨p, 0, none⟩)] (w.ext X) (Ret (.int .i64 W.size) (w.ext X)) := fun X => way_size ok (h.ext X)
  have hb : 0 ≤ W.size ∧ W.size ≤ 8388608 := by
    obtain ⟨_, _, _, _, _, _, _, _, _, _, f0, f1, l0, l1⟩ := ok
    unfold Way.size; omega
  obtain ⟨s, hs⟩ : ∃ s, W.size = s := ⟨_, rfl⟩
  have hS0 : Calls Try.prog 94 #[.pointer (some ⟨p, 0, none⟩)] w (Ret (.int .i64 W.size) w) := way_size ok h
  rw [hs] at hS0 hb
  obtain ⟨b0, b1⟩ := hb
  have hc := h.cell
  simp only [Way.cells] at hc
  have hf := h.frozen
  have hl := h.lt
  unfold Way.count
  rw [hs]
  clear h hs hS
  simp only [ptr]
  have HS := Lib.hid hS0
  clear hS0
  cases ho : W.opn
  all_goals cases he : W.extra
  all_goals
    simp only [ho, he] at hc
    go_enter Try.func100, Try.ntmps100
    go_wp2_with (first | (go_at_call 94; (with_reducible refine (HS.out).mono ?_); rintro _ _ ⟨rfl, X_, rfl⟩))
    go_ret
    exact Ret.of' (by simp) (by (repeat (first | exact Below.refl _ _ | with_reducible refine Below.drew ?_ | with_reducible refine Below.ext ?_ (by first | exact Nat.le_refl _ | (simp; done) | (simp; omega)) _ | with_reducible refine Below.alloc ?_ (by first | exact Nat.le_refl _ | (simp; done) | (simp; omega)) _ | with_reducible refine Below.setCell ?_ (by first | exact Nat.le_refl _ | (simp; done) | (simp; omega)) _)))
def floorDiv (n d : Int) : Int := n / d
theorem tdiv_floor (n d : Int) (hd : 0 < d) : (n.tmod d < 0 → n.tdiv d - 1 = n / d) ∧ (¬ n.tmod d < 0 → n.tdiv d = n / d) := by
  have h1 := Int.tdiv_mul_add_tmod n d
  have h2 := Int.ediv_mul_add_emod n d
  have h3 := Int.emod_nonneg n (by omega : d ≠ 0)
  have h4 := Int.emod_lt_of_pos n hd
  have h5 : -d < n.tmod d := by
    have := Int.tmod_lt_of_pos (-n) hd
    rw [Int.neg_tmod] at this; omega
  have h6 : n.tmod d < d := Int.tmod_lt_of_pos n hd
  have key : ∀ q r : Int, q * d + r = n → 0 ≤ r → r < d → q = n / d := fun q r e r0 r1 => by
    have e2 : (q - n / d) * d = n % d - r := by rw [Int.sub_mul]; omega
    have a1 : (q - n / d) * d < 1 * d := by omega
    have a2 : (-1) * d < (q - n / d) * d := by omega
    have b1 := Int.lt_of_mul_lt_mul_right a1 (by omega)
    have b2 := Int.lt_of_mul_lt_mul_right a2 (by omega)
    omega
  constructor
  · intro h
    exact key _ (n.tmod d + d) (by rw [Int.sub_mul]; omega) (by omega) (by omega)
  · intro h
    exact key _ (n.tmod d) h1 (by omega) (by omega)
end
end Go.Proofs.Ytmlhbbkgfffmcaa
