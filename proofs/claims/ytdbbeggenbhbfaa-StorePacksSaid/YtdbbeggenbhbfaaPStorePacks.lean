/- StorePacks: whatever the input, the law returns true and leaves its arguments as they read. No condition. -/
import Derived.Test.YtdbbeggenbhbfaaStoreG
import Derived.Test.YtdbbeggenbhbfaaEStorePacks
namespace Go.Proofs.Ytdbbeggenbhbfaa
set_option linter.unusedVariables false
set_option linter.unusedSimpArgs false
open Go.RowKit
theorem may_up {n : Int} (h0 : 0 ≤ n) (h1 : n ≤ 4294967295) : May (up0 n) (up1 n) (up2 n) (up3 n) := by
  constructor <;> simp only [up0, up1, up2, up3] <;> omega
theorem pack_up (n : Int) (h0 : 0 ≤ n) (h1 : n ≤ 4294967295) (w : World) : Calls Try.prog 28 #[U4 n] w (Ret (.int .i64 n) w) := by
  have := pack_any _ _ _ _ (may_up h0 h1) w
  rwa [pk_up h0 h1] at this
theorem unpack_pk (a b c d : Int) (h : May a b c d) (w : World) : Calls Try.prog 25 #[.int .i64 (pk a b c d)] w (Ret (C4 a b c d) w) := by
  have := unpack_any (pk a b c d) (by obtain ⟨a0, a1, b0, b1, c0, c1, e0, e1⟩ := h; simp only [pk]; omega) (by obtain ⟨a0, a1, b0, b1, c0, c1, e0, e1⟩ := h; simp only [pk]; omega) w
  have e : U4 (pk a b c d) = C4 a b c d := by show C4 _ _ _ _ = _; rw [up_pk0 h, up_pk1 h, up_pk2 h, up_pk3 h]
  rwa [e] at this
set_option maxHeartbeats 2000000 in
theorem packs_yes (a b c d n : Int) (h : May a b c d) (h0 : 0 ≤ n) (h1 : n ≤ 4294967295) (w : World) :
    Calls Try.prog 7 #[C4 a b c d, .int .u32 n] w (Ret (.bool true) w) := by
  go_enter Try.func7, Try.ntmps7
  go_wp2_with (first | (go_at_call 25; (with_reducible refine (unpack_any n h0 h1 _).mono ?_); rintro _ _ ⟨rfl, X_, rfl⟩))
  refine wp_region_ext (by kernel_rfl) (by kernel_rfl) ?_
  repeat (go_big_quiet_step ((first | (go_at_call 26; with_reducible exact Calls.quiet_ret (awake23 _)) | (go_at_call 27; with_reducible exact Calls.quiet_ret (runpack_any n h0 h1 _)) | (go_at_call 28; with_reducible exact Calls.quiet_ret (pack_up n h0 h1 _)) | (go_at_call 29; with_reducible exact Calls.quiet_ret (may23_yes _ _ _ _ h _)) | (go_at_call 28; with_reducible exact Calls.quiet_ret (pack_any _ _ _ _ h _)) | (go_at_call 30; with_reducible exact Calls.quiet_ret (rpack_any _ _ _ _ h _)) | (go_at_call 25; with_reducible exact Calls.quiet_ret (unpack_pk _ _ _ _ h _)))))
  refine wpQuiet_nil ?_
  intro _ hw_ext
  obtain ⟨X, hw_ext⟩ := hw_ext
  subst hw_ext
  go_wp2
  go_ret
  exact Ret.of' (by simp) (by (repeat (first | exact Below.refl _ _ | with_reducible refine Below.drew ?_ | with_reducible refine Below.ext ?_ (by first | exact Nat.le_refl _ | (simp; done) | (simp; omega)) _ | with_reducible refine Below.alloc ?_ (by first | exact Nat.le_refl _ | (simp; done) | (simp; omega)) _ | with_reducible refine Below.setCell ?_ (by first | exact Nat.le_refl _ | (simp; done) | (simp; omega)) _)))
set_option maxHeartbeats 2000000 in
theorem packs_no (a b c d n : Int) (h : ¬ May a b c d) (h0 : 0 ≤ n) (h1 : n ≤ 4294967295) (w : World) :
    Calls Try.prog 7 #[C4 a b c d, .int .u32 n] w (Ret (.bool true) w) := by
  go_enter Try.func7, Try.ntmps7
  go_wp2_with (first | (go_at_call 25; (with_reducible refine (unpack_any n h0 h1 _).mono ?_); rintro _ _ ⟨rfl, X_, rfl⟩))
  refine wp_region_ext (by kernel_rfl) (by kernel_rfl) ?_
  repeat (go_big_quiet_step ((first | (go_at_call 26; with_reducible exact Calls.quiet_ret (awake23 _)) | (go_at_call 27; with_reducible exact Calls.quiet_ret (runpack_any n h0 h1 _)) | (go_at_call 28; with_reducible exact Calls.quiet_ret (pack_up n h0 h1 _)) | (go_at_call 29; with_reducible exact Calls.quiet_ret (may23_no _ _ _ _ h _)))))
  refine wpQuiet_nil ?_
  intro _ hw_ext
  obtain ⟨X, hw_ext⟩ := hw_ext
  subst hw_ext
  go_wp2
  go_ret
  exact Ret.of' (by simp) (by (repeat (first | exact Below.refl _ _ | with_reducible refine Below.drew ?_ | with_reducible refine Below.ext ?_ (by first | exact Nat.le_refl _ | (simp; done) | (simp; omega)) _ | with_reducible refine Below.alloc ?_ (by first | exact Nat.le_refl _ | (simp; done) | (simp; omega)) _ | with_reducible refine Below.setCell ?_ (by first | exact Nat.le_refl _ | (simp; done) | (simp; omega)) _)))
theorem StorePacks_all : StorePacks_stmt := by
  intro a0 a1 a2 a3 b w _ hb
  by_cases hs : May a0 a1 a2 a3
  · exact packs_yes _ _ _ _ _ hs hb.1 hb.2 w
  · exact packs_no _ _ _ _ _ hs hb.1 hb.2 w
theorem StorePacks_holds : Rows.StorePacksSaid := StorePacks_end StorePacks_all
end Go.Proofs.Ytdbbeggenbhbfaa
