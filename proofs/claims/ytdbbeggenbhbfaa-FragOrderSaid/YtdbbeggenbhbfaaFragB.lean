/- The walks of layer 25 (frag): is a fragment refused. Conditions: the image may be; 64 bits. -/
import Derived.Test.YtdbbeggenbhbfaaFragP
import Derived.Test.YtdbbeggenbhbfaaGet
import Derived.Test.YtdbbeggenbhbfaaTwo
namespace Go.Proofs.Ytdbbeggenbhbfaa
set_option linter.unusedVariables false
set_option linter.unusedSimpArgs false
open Go.RowKit
/-- Is a fragment refused that may be? -/
def refB (cut hb ib deep pb : Bool) : Bool := (cut && !hb) || !ib || (deep && !pb)
abbrev OpsP.has (o : OpsP) (f : FrP) : Bool := decide (hasP o.x0 o.y0 o.x1 o.y1 f.x f.y)
abbrev OpsP.pass (o : OpsP) (f : FrP) (W H : Int) (Z : List Int) : Bool := decide (passP o.fn f.z (gotC id W H Z f.x f.y))
set_option maxRecDepth 100000 in
set_option maxHeartbeats 8000000 in
theorem refused_any {w : World} {bm g1 k1 g2 k2 : Nat} {W H : Int} {C Z : List Int} (h : Img w bm g1 k1 g2 k2 W H C Z) (o : OpsP) (f : FrP) (ho : o.ok) (hf : f.ok) :
    Calls Try.prog 75 #[.pointer (some ⟨bm, 0, none⟩), o.v, f.v] w (Ret (.bool (refB o.cut (o.has f) (decide (inB W H f.x f.y)) o.deep (o.pass f W H Z))) w) := by
  obtain ⟨x0, x1⟩ := hf.x
  obtain ⟨y0, y1⟩ := hf.y
  obtain ⟨n0, n1⟩ := ho.fn
  have HA := Lib.hid (fun w => rect_has o.x0 o.y0 o.x1 o.y1 f.x f.y w)
  have PA := Lib.hid (fun w => pass_any o.fn f.z (gotC id W H Z f.x f.y) n0 n1 w)
  have GA := Lib.hid (fun (w' : World) (h1 : Rd w' (sl g1 C.length k1) C) (h2 : Rd w' (sl g2 C.length k2) Z) => get_is W H _ _ C Z f.x f.y w' h1 h2 h.ok x0 x1 y0 y1)
  unfold OpsP.has OpsP.pass
  generalize (decide (hasP o.x0 o.y0 o.x1 o.y1 f.x f.y)) = hb at HA ⊢
  generalize (decide (passP o.fn f.z (gotC id W H Z f.x f.y))) = pb at PA ⊢
  unfold gotV at GA
  generalize (decide (inB W H f.x f.y)) = ib at GA ⊢
  obtain ⟨RC, RZ⟩ := h.rds
  have lm := h.row.lt
  have lm' : bm ≤ w.heap.size := by omega
  have c0 := h.row.cell 0
  have c1 := h.row.cell 1
  have c2 := h.row.cell 2
  have c3 := h.row.cell 3
  simp at c0 c1 c2 c3
  by_cases hgo : o.cut = true ∧ hb = false
  · obtain ⟨hcut, rfl⟩ := hgo
    go_enter Try.func75, Try.ntmps75
    go_wp2_with (first | (go_at_call 78; (with_reducible refine (HA.out _).mono ?_); rintro _ _ ⟨rfl, X_, rfl⟩))
    go_ret
    exact Ret.of' (by simp [refB, hcut]) (by (repeat (first | exact Below.refl _ _ | with_reducible refine Below.drew ?_ | with_reducible refine Below.ext ?_ (by first | exact Nat.le_refl _ | (simp; done) | (simp; omega)) _ | with_reducible refine Below.alloc ?_ (by first | exact Nat.le_refl _ | (simp; done) | (simp; omega)) _ | with_reducible refine Below.setCell ?_ (by first | exact Nat.le_refl _ | (simp; done) | (simp; omega)) _)))
  · have hgo' : (o.cut = false ∧ refB o.cut hb ib o.deep pb = (!ib || (o.deep && !pb))) ∨ (o.cut = true ∧ hb = true ∧ refB o.cut hb ib o.deep pb = (!ib || (o.deep && !pb))) := by
      cases h1 : o.cut <;> cases h2 : hb <;> simp_all [refB]
    clear hgo
    rcases hgo' with ⟨hcut, hre⟩ | ⟨hcut, rfl, hre⟩
    all_goals
      rw [hre]
      clear hre
      go_enter Try.func75, Try.ntmps75
      go_wp2_with (first | (go_at_call 78; (with_reducible refine (HA.out _).mono ?_); rintro _ _ ⟨rfl, X_, rfl⟩))
      refine wp_region_mix (by kernel_rfl) ?_
      repeat (first | (refine mix_skip rfl ?_; simp only [List.nil_append, List.cons_append]) | (refine mix_ncheck rfl rfl rfl ?_; simp only [Act.put, List.setIfInBounds_toArray, List.set_cons_zero, List.set_cons_succ, List.nil_append, List.cons_append]) | (refine mix_calm rfl rfl ?_; intro K_ hK_; go_big_quiet_op; go_big_quiet_on; simp only [List.nil_append, List.cons_append]) | (apply mix_call rfl; (intro X_; go_simp; go_at_call 37; with_reducible refine Calls.calm_ret (GA.out _ ?_ ?_); (repeat (first | assumption | with_reducible refine Rd.ext ?_ _ | with_reducible refine Rd.alloc ?_ _ | with_reducible refine Rd.drew ?_)); (repeat (first | assumption | with_reducible refine Rd.ext ?_ _ | with_reducible refine Rd.alloc ?_ _ | with_reducible refine Rd.drew ?_))); simp only [Act.put, List.setIfInBounds_toArray, List.set_cons_zero, List.set_cons_succ, List.nil_append, List.cons_append]) | (refine mix_alloc rfl rfl Try.zeroValue23 ?_; simp only [List.nil_append, List.cons_append]) | (refine mix_fill 12 rfl rfl rfl rfl (by simp [Value.oneCell']) (by kernel_rfl) (by simp) rfl rfl rfl rfl ?_; simp only [List.nil_append, List.cons_append]))
      refine mix_nil (mix_end1 12 13 ⟨by kernel_rfl, by kernel_rfl⟩ rfl rfl rfl rfl rfl (by kernel_rfl) ?_)
      intro X p q
      have c_q := q.cell
      have f_q := q.frozen
      have g_q := q.gap
      have b_q := Lib.hid q.block
      simp only [World.size_ext, World.size_alloc, World.size_drew, World.size_setCell] at g_q
      clear q
      simp only [Act.put, List.setIfInBounds_toArray, List.set_cons_zero, List.set_cons_succ, ptr]
      cases hdeep : o.deep
      all_goals
        go_wp2_with (first | (go_at_call 54; (with_reducible refine (PA.out _).mono ?_); rintro _ _ ⟨rfl, X_, rfl⟩))
        all_goals go_ret
        all_goals refine Ret.of' ?_ (by (repeat (first | exact Below.refl _ _ | with_reducible refine Below.drew ?_ | with_reducible refine Below.ext ?_ (by first | exact Nat.le_refl _ | (simp; done) | (simp; omega)) _ | with_reducible refine Below.alloc ?_ (by first | exact Nat.le_refl _ | (simp; done) | (simp; omega)) _ | with_reducible refine Below.setCell ?_ (by first | exact Nat.le_refl _ | (simp; done) | (simp; omega)) _)))
        all_goals simp_all
end Go.Proofs.Ytdbbeggenbhbfaa
