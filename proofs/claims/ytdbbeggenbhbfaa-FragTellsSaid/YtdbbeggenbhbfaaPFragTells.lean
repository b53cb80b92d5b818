/- FragTells: whatever the input, the law returns true and leaves its arguments as they read. No condition. -/
import Derived.Test.YtdbbeggenbhbfaaFragD
import Derived.Test.YtdbbeggenbhbfaaEFragTells
namespace Go.Proofs.Ytdbbeggenbhbfaa
set_option linter.unusedVariables false
set_option linter.unusedSimpArgs false
open Go.RowKit
set_option maxRecDepth 100000 in
set_option maxHeartbeats 4000000 in
theorem ftells_any (o : OpsP) (f : FrP) (p0 p1 p2 : Int) (ho : o.ok) (hf : f.ok) (b0 : -9223372036854775808 ≤ p0) (b1 : p0 ≤ 9223372036854775807) (w : World) :
    Calls Try.prog 12 #[o.v, f.v, .agg #[.int .i64 p0, .int .i64 p1, .int .i64 p2]] w (Ret (.bool true) w) := by
  have R1 := Lib.hid (fun w => ops_right o ho w)
  have R2 := Lib.hid (fun w => rops_right o w)
  have F1 := Lib.hid (fun w => fr_fits f hf w)
  have F2 := Lib.hid (fun w => rfr_fits f w)
  have P1 := Lib.hid (fun w => pass_any p0 p1 p2 b0 b1 w)
  have P2 := Lib.hid (fun w => rpass_any p0 p1 p2 w)
  generalize decide o.right = x1 at R1 R2
  generalize decide f.fits = x2 at F1 F2
  generalize decide (passP p0 p1 p2) = x3 at P1 P2
  go_enter Try.func12, Try.ntmps12
  go_wp2
  refine wp_region_ext (by kernel_rfl) (by kernel_rfl) ?_
  repeat (go_big_quiet_step ((first | (go_at_call 49; with_reducible exact Calls.quiet_ret (awake25 _)) | (go_at_call 50; with_reducible exact Calls.quiet_ret (R1.out _)) | (go_at_call 51; with_reducible exact Calls.quiet_ret (R2.out _)) | (go_at_call 52; with_reducible exact Calls.quiet_ret (F1.out _)) | (go_at_call 53; with_reducible exact Calls.quiet_ret (F2.out _)) | (go_at_call 54; with_reducible exact Calls.quiet_ret (P1.out _)) | (go_at_call 55; with_reducible exact Calls.quiet_ret (P2.out _)))))
  refine wpQuiet_nil ?_
  intro _ hw_ext
  obtain ⟨X, hw_ext⟩ := hw_ext
  subst hw_ext
  go_wp2
  go_ret
  exact Ret.of' (by simp) (by (repeat (first | exact Below.refl _ _ | with_reducible refine Below.drew ?_ | with_reducible refine Below.ext ?_ (by first | exact Nat.le_refl _ | (simp; done) | (simp; omega)) _ | with_reducible refine Below.alloc ?_ (by first | exact Nat.le_refl _ | (simp; done) | (simp; omega)) _ | with_reducible refine Below.setCell ?_ (by first | exact Nat.le_refl _ | (simp; done) | (simp; omega)) _)))
theorem FragTells_all : FragTells_stmt := by
  intro a0 a1 a2 a3 a4 a5 a6 a7 a8 a9 a10 a11 a12 a13 a14 b0 b1 b2 b3 b4 b5 b6 b7 c0 c1 c2 w ho hf hp
  exact ftells_any ⟨a0, a1, a2, a3, a4, a5, a6, a7, a8, a9, a10, a11, a12, a13, a14⟩ ⟨b0, b1, b2, b3, b4, b5, b6, b7⟩ c0 c1 c2 (by obtain ⟨h1, h2, h3, h4, h5, h6, h7⟩ := ho; exact ⟨h1, h2, h3, h4, h5, h6, h7⟩) (by obtain ⟨h1, h2, h3, h4, h5, h6, h7, h8⟩ := hf; exact ⟨h1, h2, h3, h4, h5, h6, h7, h8⟩) hp.1.1 hp.1.2 w
theorem FragTells_holds : Rows.FragTellsSaid := FragTells_end FragTells_all
end Go.Proofs.Ytdbbeggenbhbfaa
