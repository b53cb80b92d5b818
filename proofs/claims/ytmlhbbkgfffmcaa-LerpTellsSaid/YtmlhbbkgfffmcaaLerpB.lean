/- The walks of layer 16 (lerp): depth and color of a line. Conditions: the numbers are small. -/
import Derived.Test.YtmlhbbkgfffmcaaLerpA
namespace Go.Proofs.Ytmlhbbkgfffmcaa
set_option linter.unusedVariables false
set_option linter.unusedSimpArgs false
open Go.RowKit
/-- A vertex in the window. -/
structure WinP where
  x : Int
  y : Int
  z : Int
  c0 : Int
  c1 : Int
  c2 : Int
  c3 : Int
abbrev WinP.v (a : WinP) : Value := .agg #[.int .i64 a.x, .int .i64 a.y, .int .i64 a.z, .int .i64 a.c0, .int .i64 a.c1, .int .i64 a.c2, .int .i64 a.c3]
/-- Its depth and color are small. -/
structure WinP.tame (a : WinP) : Prop where
  z : Ytmlhbbkgfffmcaa.tame a.z
  c0 : Ytmlhbbkgfffmcaa.tame a.c0
  c1 : Ytmlhbbkgfffmcaa.tame a.c1
  c2 : Ytmlhbbkgfffmcaa.tame a.c2
  c3 : Ytmlhbbkgfffmcaa.tame a.c3
/-- What stands between two: depth and color. -/
abbrev mixed (a b : WinP) (n d : Int) : Value := .tuple #[.int .i64 (mid a.z b.z n d), C4 (mid a.c0 b.c0 n d) (mid a.c1 b.c1 n d) (mid a.c2 b.c2 n d) (mid a.c3 b.c3 n d)]
set_option maxHeartbeats 4000000 in
theorem both_any (a b : WinP) (n d : Int) (ha : a.tame) (hb : b.tame) (hn : sml n) (hd : sml d) (bn bd : Nat) (w : World) (h1 : Row w bn #[.int .i64 n] 3) (h2 : Row w bd #[.int .i64 d] 3) :
    Calls Try.prog 116 #[a.v, b.v, mixV bn bd] w (Ret (mixed a b n d) w) := by
  have M := Lib.hid (fun p q hp hq w h1 h2 => mixfn_any p q n d hp hq hn hd bn bd w h1 h2)
  obtain ⟨az, a0, a1, a2, a3⟩ := ha
  obtain ⟨bz, b0, b1, b2, b3⟩ := hb
  have H1 := Lib.hid h1
  have H2 := Lib.hid h2
  clear h1 h2
  go_enter Try.func116, Try.ntmps116
  go_wp2
  refine wp_loop_rounds 5 ?_
  iterate 4
    rw [rounds_succ]
    go_wp2
    refine wp_region_ext_tail 12 (by kernel_rfl) (by kernel_rfl) ?_
    simp only [List.take_succ_cons, List.take_zero, List.drop_succ_cons, List.drop_zero]
    repeat (go_big_quiet_step ((go_at_call 142; (with_reducible refine Calls.quiet_ret (M.out _ _ ?_ ?_ _ ?_ ?_)); assumption; assumption; ((repeat (first | with_reducible refine Row.ext ?_ _ | with_reducible refine Row.alloc ?_ _)); exact H1.out); ((repeat (first | with_reducible refine Row.ext ?_ _ | with_reducible refine Row.alloc ?_ _)); exact H2.out))))
    refine wpQuiet_nil ?_
    intro _ hw_ext
    obtain ⟨X, hw_ext⟩ := hw_ext
    subst hw_ext
    go_wp2_with fail
  rw [rounds_succ]
  go_wp2
  refine wp_region_ext_tail 8 (by kernel_rfl) (by kernel_rfl) ?_
  simp only [List.take_succ_cons, List.take_zero, List.drop_succ_cons, List.drop_zero]
  repeat (go_big_quiet_step ((go_at_call 142; (with_reducible refine Calls.quiet_ret (M.out _ _ ?_ ?_ _ ?_ ?_)); assumption; assumption; ((repeat (first | with_reducible refine Row.ext ?_ _ | with_reducible refine Row.alloc ?_ _)); exact H1.out); ((repeat (first | with_reducible refine Row.ext ?_ _ | with_reducible refine Row.alloc ?_ _)); exact H2.out))))
  refine wpQuiet_nil ?_
  intro _ hw_ext
  obtain ⟨X, hw_ext⟩ := hw_ext
  subst hw_ext
  go_wp2
  refine bodyPost_ret (v := mixed a b n d) ?_ rfl (Ret.of ?_)
  · simp [results, Try.results116, go_sem]
  · (repeat (first | exact Below.refl _ _ | with_reducible refine Below.drew ?_ | with_reducible refine Below.ext ?_ (by first | exact Nat.le_refl _ | (simp; done) | (simp; omega)) _ | with_reducible refine Below.alloc ?_ (by first | exact Nat.le_refl _ | (simp; done) | (simp; omega)) _ | with_reducible refine Below.setCell ?_ (by first | exact Nat.le_refl _ | (simp; done) | (simp; omega)) _))
end Go.Proofs.Ytmlhbbkgfffmcaa
