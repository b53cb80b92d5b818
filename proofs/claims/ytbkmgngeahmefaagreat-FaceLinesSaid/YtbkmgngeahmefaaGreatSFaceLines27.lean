/- Parts of the proof of FaceLines, laid together. Conditions: at each. -/
import Derived.Test.YtbkmgngeahmefaaGreatSFaceLines18
import Derived.Test.YtbkmgngeahmefaaGreatSFaceLines19
import Derived.Test.YtbkmgngeahmefaaGreatSFaceLines23
import Derived.Test.YtbkmgngeahmefaaGreatSFaceLines26
set_option linter.unusedVariables false
set_option linter.unusedSimpArgs false
namespace Go.Proofs.YtbkmgngeahmefaaGreat
open Go.RowKit
theorem own_marks {w : World} {base : Nat} {T : TypeId} {a : Option Addr} {cap : Nat} {L : List MkP} (h : w.ownsRow base T 10 (.slice a L.length cap) L.length (L.flatMap MkP.cells)) (j : Nat) (s : MkP) (hs : L[j]? = some s) :
    ∃ b, a = some ⟨b, 0, none⟩ ∧ b < w.heap.size ∧ (w.cell? ⟨b, j * 10 + 2, none⟩ = some (.int .i64 s.f.x) ∧ w.cell? ⟨b, j * 10 + 3, none⟩ = some (.int .i64 s.f.y) ∧ w.cell? ⟨b, j * 10 + 4, none⟩ = some (.int .i64 s.f.z) ∧ w.cell? ⟨b, j * 10 + 5, none⟩ = some (.int .i64 s.f.c0) ∧ w.cell? ⟨b, j * 10 + 6, none⟩ = some (.int .i64 s.f.c1) ∧ w.cell? ⟨b, j * 10 + 7, none⟩ = some (.int .i64 s.f.c2) ∧ w.cell? ⟨b, j * 10 + 8, none⟩ = some (.int .i64 s.f.c3) ∧ w.cell? ⟨b, j * 10 + 9, none⟩ = some (.int .i64 s.f.cov)) := by
  rcases h.2 with ⟨e, e'⟩ | ⟨g, cap', cur, e, hb, hg, -⟩
  · have : L = [] := List.length_eq_zero_iff.1 e'
    subst this; simp at hs
  · injection e with e1 _ e2
    subst e1 e2
    have k : ∀ i u, (MkP.cells s)[i]? = some u → w.cell? ⟨g, j * 10 + i, none⟩ = some u := fun i u hu => by
      have := h.cells (g := g) rfl (j * 10 + i) u (mkK.flat_at L j s i u hs hu)
      rw [addr_addR, Nat.zero_add] at this
      exact this
    exact ⟨g, rfl, (Array.getElem?_eq_some_iff.1 hg).1, k 2 _ rfl, k 3 _ rfl, k 4 _ rfl, k 5 _ rfl, k 6 _ rfl, k 7 _ rfl, k 8 _ rfl, k 9 _ rfl⟩
theorem rwline_no (a b : WinP) (n : Int) (dd : Bool) (p r c x0 y0 x1 y1 : Int) (h : ¬ lineP a b n p r c) (w : World) : Calls Tryz.prog 59 #[a.v, b.v, .int .i64 n, .bool dd, D3 p r c, R4 x0 y0 x1 y1] w (RLine w [] p r c) := by
  have R := Lib.hid (fun w => decide_eq_false h ▸ rline_right a b n p r c w)
  clear h
  go_enter Tryz.func59, Tryz.ntmps59
  go_upto_region 2 with (first | (go_at_call 120; (with_reducible refine (R.out _).mono ?_); rintro _ _ ⟨rfl, X_, rfl⟩))
  refine wp_region_ext_tail 2 (by kernel_rfl) (by kernel_rfl) ?_
  simp only [List.take_succ_cons, List.take_zero, List.drop_succ_cons, List.drop_zero]
  repeat (go_big_quiet_step ((fail)))
  refine wpQuiet_nil ?_
  intro _ hw_ext
  obtain ⟨X, hw_ext⟩ := hw_ext
  subst hw_ext
  go_wp2
  refine bodyPost_ret (v := .tuple #[.slice none 0 0, D3 p r c]) (by simp [results, Tryz.results59, go_sem]; try rfl) rfl ?_
  exact ⟨_, rfl, recs_nil _, RowKit.Below.toExt (by exact bl_)⟩
set_option maxHeartbeats 4000000 in
theorem rwline_noR0 (a b : WinP) (n : Int) (p r c x0 y0 x1 y1 : Int) (h : lineP a b n p r c) (hr : ¬ rightP x0 y0 x1 y1) (w : World) : Calls Tryz.prog 59 #[a.v, b.v, .int .i64 n, .bool false, D3 p r c, R4 x0 y0 x1 y1] w (RLine w [] p r c) := by
  have R := Lib.hid (fun w => decide_eq_true h ▸ rline_right a b n p r c w)
  have RR := Lib.hid (fun w => decide_eq_false hr ▸ rrect_right x0 y0 x1 y1 w)
  have CO := Lib.hid (fun w => rcore_any a b n h.1.f h.2.1.f h.2.2.1 w)
  clear h hr
  go_enter Tryz.func59, Tryz.ntmps59
  go_upto_region 8 with (first | (go_at_call 120; (with_reducible refine (R.out _).mono ?_); rintro _ _ ⟨rfl, X_, rfl⟩) | (go_at_call 121; (with_reducible refine (CO.out _).mono ?_); rintro _ _ ⟨rfl, X_, rfl⟩) | (go_at_call 41; (with_reducible refine (RR.out _).mono ?_); rintro _ _ ⟨rfl, X_, rfl⟩))
  refine wp_region_ext_tail 2 (by kernel_rfl) (by kernel_rfl) ?_
  simp only [List.take_succ_cons, List.take_zero, List.drop_succ_cons, List.drop_zero]
  repeat (go_big_quiet_step ((fail)))
  refine wpQuiet_nil ?_
  intro _ hw_ext
  obtain ⟨X, hw_ext⟩ := hw_ext
  subst hw_ext
  go_wp2
  refine bodyPost_ret (v := .tuple #[.slice none 0 0, D3 p r c]) (by simp [results, Tryz.results59, go_sem]; try rfl) rfl ?_
  exact ⟨_, rfl, recs_nil _, RowKit.Below.toExt (by exact bl_)⟩
set_option maxHeartbeats 4000000 in
theorem rwline_noR1 (a b : WinP) (n : Int) (p r c x0 y0 x1 y1 : Int) (h : lineP a b n p r c) (hr : ¬ rightP x0 y0 x1 y1) (w : World) : Calls Tryz.prog 59 #[a.v, b.v, .int .i64 n, .bool true, D3 p r c, R4 x0 y0 x1 y1] w (RLine w [] p r ((c + (coreL a b n).length) % (r * 16))) := by
  have R := Lib.hid (fun w => decide_eq_true h ▸ rline_right a b n p r c w)
  have RR := Lib.hid (fun w => decide_eq_false hr ▸ rrect_right x0 y0 x1 y1 w)
  have CO := Lib.hid (fun w => rcore_any a b n h.1.f h.2.1.f h.2.2.1 w)
  obtain ⟨m1, m2⟩ := core_may h.1 h.2.1 h.2.2.1
  have hcl := core_len h.1 h.2.1 h.2.2.1
  obtain ⟨m, hm⟩ : ∃ m : Nat, (coreL a b n).length = m := ⟨_, rfl⟩
  have cn : ∀ w, Calls Tryz.prog 123 #[P2 (corX a b n a.x) (corY a b n a.y), P2 (corX a b n b.x) (corY a b n b.y)] w (Ret (.int .i64 (m : Int)) w) := fun w => by
    rw [← hm]; exact rcount_any (corX a b n a.x) (corY a b n a.y) (corX a b n b.x) (corY a b n b.y) m1 m2 w
  rw [hm] at hcl ⊢
  have CN := Lib.hid cn
  have NX := Lib.hid (fun w => rnext_any p r c (m : Int) h.2.2.2 (by omega) (by omega) w)
  clear h hr m1 m2 cn hm hcl
  go_enter Tryz.func59, Tryz.ntmps59
  go_upto_region 6 with (first | (go_at_call 120; (with_reducible refine (R.out _).mono ?_); rintro _ _ ⟨rfl, X_, rfl⟩) | (go_at_call 121; (with_reducible refine (CO.out _).mono ?_); rintro _ _ ⟨rfl, X_, rfl⟩))
  refine wp_region_ext_tail 5 (by kernel_rfl) (by kernel_rfl) ?_
  simp only [List.take_succ_cons, List.take_zero, List.drop_succ_cons, List.drop_zero]
  repeat (go_big_quiet_step ((first | (go_at_call 123; with_reducible exact Calls.quiet_ret (CN.out _)) | (go_at_call 122; with_reducible exact Calls.quiet_ret (NX.out _)))))
  refine wpQuiet_nil ?_
  intro _ hw_ext
  obtain ⟨X6, hw_ext⟩ := hw_ext
  subst hw_ext
  go_upto_region 8 with (first | (go_at_call 41; (with_reducible refine (RR.out _).mono ?_); rintro _ _ ⟨rfl, X_, rfl⟩))
  refine wp_region_ext_tail 2 (by kernel_rfl) (by kernel_rfl) ?_
  simp only [List.take_succ_cons, List.take_zero, List.drop_succ_cons, List.drop_zero]
  repeat (go_big_quiet_step ((fail)))
  refine wpQuiet_nil ?_
  intro _ hw_ext
  obtain ⟨X, hw_ext⟩ := hw_ext
  subst hw_ext
  go_wp2
  refine bodyPost_ret (v := .tuple #[.slice none 0 0, D3 p r ((c + m) % (r * 16))]) (by simp [results, Tryz.results59, go_sem]; try rfl) rfl ?_
  exact ⟨_, rfl, recs_nil _, RowKit.Below.toExt (by exact bl_)⟩
end Go.Proofs.YtbkmgngeahmefaaGreat
