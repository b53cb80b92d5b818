/- The walks of layer 23 (store): the reference's new image; no image. Conditions: the sides' bounds. -/
import Derived.Test.YtdbbeggenbhbfaaStoreI
namespace Go.Proofs.Ytdbbeggenbhbfaa
set_option linter.unusedVariables false
set_option linter.unusedSimpArgs false
open Go.RowKit
theorem cell_one_at {w : World} {n : Nat} (h : w.heap.size = n) (x : Value) (t : TypeId) : ∀ j u, [x][j]? = some u → (w.alloc (.cells #[x] t)).cell? ((⟨n, 0, none⟩ : Addr).add j) = some u := by
  subst h; exact cell_one_new _ _ _
set_option maxHeartbeats 4000000 in
theorem rnew_ok (W H : Int) (n : Nat) (w : World) (w0 : 1 ≤ W) (w1 : W ≤ 1024) (h0 : 1 ≤ H) (h1 : H ≤ 1024) (hn : W * H = n) :
    Calls Try.prog 33 #[.int .i64 W, .int .i64 H] w (Makes W H (List.replicate n 0) (List.replicate n 16777215) (fun m => .tuple #[m, .int .i64 0]) w) := by
  obtain ⟨a0, a1⟩ := area_01 w0 w1 h0 h1
  have n0 : 1 ≤ n := by omega
  have n1 : n ≤ 1048576 := by omega
  obtain ⟨i0, hi, hz0, hz1, hz2⟩ := info_parts info_int
  have d1 : decide (W < 1) = false := by simp; omega
  have d2 : decide (1024 < W) = false := by simp; omega
  have d3 : decide (H < 1) = false := by simp; omega
  have d4 : decide (1024 < H) = false := by simp; omega
  go_enter Try.func33, Try.ntmps33
  go_wp2
  go_loopw [7] (fun i wr => ∃ (k : Nat) (vc vz : Value), k ≤ n ∧ i = .int .i64 k ∧ Grow (w.alloc (.cells #[.int .i64 0, .int .i64 0, .slice none 0 0, .slice none 0 0] 39)) wr (w.heap.size + 1) W H vc vz k k)
    (fun i _ => n - (intOf i).toNat)
  case atStart =>
    refine ⟨0, _, _, by omega, rfl, ⟨by (repeat (first | exact Below.refl _ _ | with_reducible refine Below.drew ?_ | with_reducible refine Below.ext ?_ (by first | exact Nat.le_refl _ | (simp; done) | (simp; omega)) _ | with_reducible refine Below.alloc ?_ (by first | exact Nat.le_refl _ | (simp; done) | (simp; omega)) _ | with_reducible refine Below.setCell ?_ (by first | exact Nat.le_refl _ | (simp; done) | (simp; omega)) _)), by simp, ?_, World.ownsRow_nil _ _ _ _, World.ownsRow_nil _ _ _ _, by simp [Value.ownBlock]⟩⟩
    unfold Row
    simp only [World.hp_alloc, World.hp_drew, Array.getElem?_push, Array.size_push]
    simp
  case round =>
    obtain ⟨k, vc, vz, hk, rfl, G⟩ := hrel
    have c2 := G.row.cell 2
    have c3 := G.row.cell 3
    simp at c2 c3
    have hsz := G.bel.size
    by_cases hlt : k < n
    · go_upto_region 8 with (first
        | (at_builtin; refine wpList_append_lies _ rfl _ _ 37 rfl (w.heap.size + 1 + 1) 3 i0 (.int .i64 0) 1 8 Try.underlying37 hi hz0 hz1 hz2 rfl (by decide) _ _ _ rfl (G.oc.alloc _) ⟨wr.heap.size, 0, none⟩ 1 1 [.int .i64 0] rfl rfl (cell_one_new _ _ _) (fun x hx => by simp at hx; subst hx; rfl) (by omega) (by unfold maxLen; omega) (by omega) (by simp; simp at hsz; omega) (wr.heap.size + 1) (by simp) ?_; intro g cap w3 hown hgrow hat hlt3; obtain ⟨r3, G3⟩ := G.c hown hgrow hat; have e2 := r3.cell 2; have e3 := r3.cell 3; have f2 := r3.frozen 2; have f3 := r3.frozen 3; have t3 := G3.row.cell 3; have hsz3 := G3.bel.size; simp at e2 e3 t3; clear c2 c3 r3))
      have hsw : ∀ v, (w3.setCell ⟨w.heap.size + 1, 2, none⟩ v).heap.size = w3.heap.size := fun v => by simp [World.setCell]
      go_wp2_with (first
        | (at_builtin; refine wpList_append_lies _ rfl _ _ 37 rfl (w.heap.size + 1 + 1) 3 i0 (.int .i64 0) 1 8 Try.underlying37 hi hz0 hz1 hz2 rfl (by decide) _ _ _ rfl (G3.oz.alloc _) ⟨w3.heap.size, 0, none⟩ 1 1 [.int .i64 16777215] rfl rfl (cell_one_at (hsw _) _ _) (fun x hx => by simp at hx; subst hx; rfl) (by omega) (by unfold maxLen; omega) (by omega) (by simp; simp at hsz3; omega) (w3.heap.size + 1) (by simp) ?_; intro g4 cap4 w4 hown4 hgrow4 hat4 hlt4; obtain ⟨r4, G4⟩ := G3.z hown4 hgrow4 (by rw [hsw]; exact hat4); have e4 := r4.cell 3; have f4 := r4.frozen 3; simp at e4; clear e2 e3 t3 r4))
      go_roundw
      case rel => exact ⟨k + 1, _, _, by omega, by go_num, G4⟩
      case measure => simp [intOf]; omega
    · obtain rfl : k = n := by omega
      have c0 := G.row.cell 0
      have c1 := G.row.cell 1
      simp at c0 c1
      obtain ⟨gc, capc, rfl, -, -⟩ := G.oc.form (by omega)
      obtain ⟨gz, capz, rfl, -, -⟩ := G.oz.form (by omega)
      have oc := G.oc
      have oz := G.oz
      obtain ⟨X, rfl⟩ := G.bel.toExt
      have sw := grown_swap (w := w) (o := .cells #[.int .i64 0, .int .i64 0, .slice none 0 0, .slice none 0 0] 39) (o' := .cells #[.int .i64 W, .int .i64 H, .slice (some ⟨gc, 0, none⟩) k capc, .slice (some ⟨gz, 0, none⟩) k capz] 39) (X := X)
      have oc' := oc.kept sw (.inr fun e => by have := (oc.lt _ e).1; omega)
      have oz' := oz.kept sw (.inr fun e => by have := (oz.lt _ e).1; omega)
      clear G oc oz sw
      go_wp2
      refine bodyPost_ret (v := .tuple #[Im W H (.slice (some ⟨gc, 0, none⟩) k capc) (.slice (some ⟨gz, 0, none⟩) k capz), .int .i64 0]) (by simp [results, Try.results33, go_sem]) rfl ?_
      refine ⟨_, _, rfl, RowKit.Below.toExt (by (repeat (first | exact Below.refl _ _ | with_reducible refine Below.drew ?_ | with_reducible refine Below.ext ?_ (by first | exact Nat.le_refl _ | (simp; done) | (simp; omega)) _ | with_reducible refine Below.alloc ?_ (by first | exact Nat.le_refl _ | (simp; done) | (simp; omega)) _ | with_reducible refine Below.setCell ?_ (by first | exact Nat.le_refl _ | (simp; done) | (simp; omega)) _))), rd_own (l := List.replicate k 0) (by simpa using oc') ?_, rd_own (l := List.replicate k 16777215) (by simpa using oz') ?_⟩
      · intro z hz; rw [List.eq_of_mem_replicate hz]; decide
      · intro z hz; rw [List.eq_of_mem_replicate hz]; decide
theorem new_makes (W H : Int) (n : Nat) (w : World) (w0 : 1 ≤ W) (w1 : W ≤ 1024) (h0 : 1 ≤ H) (h1 : H ≤ 1024) (hn : W * H = n) :
    Calls Try.prog 32 #[.int .i64 W, .int .i64 H] w (Makes W H (List.replicate n 0) (List.replicate n 16777215) (fun m => .tuple #[m, .int .i64 0]) w) := by
  obtain ⟨a0, a1⟩ := area_01 w0 w1 h0 h1
  refine (new_ok W H n w w0 w1 h0 h1 hn).mono ?_
  rintro _ _ ⟨pc, pz, rfl, hx, -, -, -, r1, r2⟩
  refine ⟨_, _, rfl, hx, rd_row r1 (by simp) (by omega) ?_, rd_row r2 (by simp) (by omega) ?_⟩
  · intro z hz; rw [List.eq_of_mem_replicate hz]; decide
  · intro z hz; rw [List.eq_of_mem_replicate hz]; decide
set_option maxHeartbeats 4000000 in
theorem new_no (W H : Int) (w : World) (h : ¬ (1 ≤ W ∧ W ≤ 1024 ∧ 1 ≤ H ∧ H ≤ 1024)) :
    Calls Try.prog 32 #[.int .i64 W, .int .i64 H] w (Ret (.tuple #[Im 0 0 (.slice none 0 0) (.slice none 0 0), .int .i64 10]) w) := by
  by_cases w0 : 1 ≤ W
  · have d1 : decide (W < 1) = false := by simp; omega
    by_cases w1 : W ≤ 1024
    · have d2 : decide (1024 < W) = false := by simp; omega
      by_cases h0 : 1 ≤ H
      · have d3 : decide (H < 1) = false := by simp; omega
        have d4 : decide (1024 < H) = true := by simp; omega
        clear h w0 w1 h0
        go_enter Try.func32, Try.ntmps32
        go_wp2
        exact bodyPost_ret (v := .tuple #[Im 0 0 (.slice none 0 0) (.slice none 0 0), .int .i64 10]) (by simp [results, Try.results32, go_sem]) rfl (Ret.of (by (repeat (first | exact Below.refl _ _ | with_reducible refine Below.drew ?_ | with_reducible refine Below.ext ?_ (by first | exact Nat.le_refl _ | (simp; done) | (simp; omega)) _ | with_reducible refine Below.alloc ?_ (by first | exact Nat.le_refl _ | (simp; done) | (simp; omega)) _ | with_reducible refine Below.setCell ?_ (by first | exact Nat.le_refl _ | (simp; done) | (simp; omega)) _))))
      · have d3 : decide (H < 1) = true := by simp; omega
        clear h w0 w1 h0
        go_enter Try.func32, Try.ntmps32
        go_wp2
        exact bodyPost_ret (v := .tuple #[Im 0 0 (.slice none 0 0) (.slice none 0 0), .int .i64 10]) (by simp [results, Try.results32, go_sem]) rfl (Ret.of (by (repeat (first | exact Below.refl _ _ | with_reducible refine Below.drew ?_ | with_reducible refine Below.ext ?_ (by first | exact Nat.le_refl _ | (simp; done) | (simp; omega)) _ | with_reducible refine Below.alloc ?_ (by first | exact Nat.le_refl _ | (simp; done) | (simp; omega)) _ | with_reducible refine Below.setCell ?_ (by first | exact Nat.le_refl _ | (simp; done) | (simp; omega)) _))))
    · have d2 : decide (1024 < W) = true := by simp; omega
      clear h w0 w1
      go_enter Try.func32, Try.ntmps32
      go_wp2
      exact bodyPost_ret (v := .tuple #[Im 0 0 (.slice none 0 0) (.slice none 0 0), .int .i64 10]) (by simp [results, Try.results32, go_sem]) rfl (Ret.of (by (repeat (first | exact Below.refl _ _ | with_reducible refine Below.drew ?_ | with_reducible refine Below.ext ?_ (by first | exact Nat.le_refl _ | (simp; done) | (simp; omega)) _ | with_reducible refine Below.alloc ?_ (by first | exact Nat.le_refl _ | (simp; done) | (simp; omega)) _ | with_reducible refine Below.setCell ?_ (by first | exact Nat.le_refl _ | (simp; done) | (simp; omega)) _))))
  · have d1 : decide (W < 1) = true := by simp; omega
    clear h w0
    go_enter Try.func32, Try.ntmps32
    go_wp2
    exact bodyPost_ret (v := .tuple #[Im 0 0 (.slice none 0 0) (.slice none 0 0), .int .i64 10]) (by simp [results, Try.results32, go_sem]) rfl (Ret.of (by (repeat (first | exact Below.refl _ _ | with_reducible refine Below.drew ?_ | with_reducible refine Below.ext ?_ (by first | exact Nat.le_refl _ | (simp; done) | (simp; omega)) _ | with_reducible refine Below.alloc ?_ (by first | exact Nat.le_refl _ | (simp; done) | (simp; omega)) _ | with_reducible refine Below.setCell ?_ (by first | exact Nat.le_refl _ | (simp; done) | (simp; omega)) _))))
set_option maxHeartbeats 4000000 in
theorem rnew_no (W H : Int) (w : World) (h : ¬ (1 ≤ W ∧ W ≤ 1024 ∧ 1 ≤ H ∧ H ≤ 1024)) :
    Calls Try.prog 33 #[.int .i64 W, .int .i64 H] w (Ret (.tuple #[Im 0 0 (.slice none 0 0) (.slice none 0 0), .int .i64 10]) w) := by
  by_cases w0 : 1 ≤ W
  · have d1 : decide (W < 1) = false := by simp; omega
    by_cases w1 : W ≤ 1024
    · have d2 : decide (1024 < W) = false := by simp; omega
      by_cases h0 : 1 ≤ H
      · have d3 : decide (H < 1) = false := by simp; omega
        have d4 : decide (1024 < H) = true := by simp; omega
        clear h w0 w1 h0
        go_enter Try.func33, Try.ntmps33
        go_wp2
        exact bodyPost_ret (v := .tuple #[Im 0 0 (.slice none 0 0) (.slice none 0 0), .int .i64 10]) (by simp [results, Try.results33, go_sem]) rfl (Ret.of (by (repeat (first | exact Below.refl _ _ | with_reducible refine Below.drew ?_ | with_reducible refine Below.ext ?_ (by first | exact Nat.le_refl _ | (simp; done) | (simp; omega)) _ | with_reducible refine Below.alloc ?_ (by first | exact Nat.le_refl _ | (simp; done) | (simp; omega)) _ | with_reducible refine Below.setCell ?_ (by first | exact Nat.le_refl _ | (simp; done) | (simp; omega)) _))))
      · have d3 : decide (H < 1) = true := by simp; omega
        clear h w0 w1 h0
        go_enter Try.func33, Try.ntmps33
        go_wp2
        exact bodyPost_ret (v := .tuple #[Im 0 0 (.slice none 0 0) (.slice none 0 0), .int .i64 10]) (by simp [results, Try.results33, go_sem]) rfl (Ret.of (by (repeat (first | exact Below.refl _ _ | with_reducible refine Below.drew ?_ | with_reducible refine Below.ext ?_ (by first | exact Nat.le_refl _ | (simp; done) | (simp; omega)) _ | with_reducible refine Below.alloc ?_ (by first | exact Nat.le_refl _ | (simp; done) | (simp; omega)) _ | with_reducible refine Below.setCell ?_ (by first | exact Nat.le_refl _ | (simp; done) | (simp; omega)) _))))
    · have d2 : decide (1024 < W) = true := by simp; omega
      clear h w0 w1
      go_enter Try.func33, Try.ntmps33
      go_wp2
      exact bodyPost_ret (v := .tuple #[Im 0 0 (.slice none 0 0) (.slice none 0 0), .int .i64 10]) (by simp [results, Try.results33, go_sem]) rfl (Ret.of (by (repeat (first | exact Below.refl _ _ | with_reducible refine Below.drew ?_ | with_reducible refine Below.ext ?_ (by first | exact Nat.le_refl _ | (simp; done) | (simp; omega)) _ | with_reducible refine Below.alloc ?_ (by first | exact Nat.le_refl _ | (simp; done) | (simp; omega)) _ | with_reducible refine Below.setCell ?_ (by first | exact Nat.le_refl _ | (simp; done) | (simp; omega)) _))))
  · have d1 : decide (W < 1) = true := by simp; omega
    clear h w0
    go_enter Try.func33, Try.ntmps33
    go_wp2
    exact bodyPost_ret (v := .tuple #[Im 0 0 (.slice none 0 0) (.slice none 0 0), .int .i64 10]) (by simp [results, Try.results33, go_sem]) rfl (Ret.of (by (repeat (first | exact Below.refl _ _ | with_reducible refine Below.drew ?_ | with_reducible refine Below.ext ?_ (by first | exact Nat.le_refl _ | (simp; done) | (simp; omega)) _ | with_reducible refine Below.alloc ?_ (by first | exact Nat.le_refl _ | (simp; done) | (simp; omega)) _ | with_reducible refine Below.setCell ?_ (by first | exact Nat.le_refl _ | (simp; done) | (simp; omega)) _))))
end Go.Proofs.Ytdbbeggenbhbfaa
