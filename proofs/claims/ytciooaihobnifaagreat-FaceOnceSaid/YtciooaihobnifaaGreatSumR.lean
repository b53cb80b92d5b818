/- The region `q, _ := Floor(n, From(Of(d)))` of the reference of layer 21, whatever its order: what it leaves. Conditions: the numbers' bits. -/
import Derived.Test.YtciooaihobnifaaGreatPRel
import Derived.Test.YtciooaihobnifaaGreatPNumC
namespace Go.Proofs.YtciooaihobnifaaGreat
set_option linter.unusedVariables false
set_option linter.unusedSimpArgs false
open Go.RowKit
def sgS : Nat → Tmp
  | 0 => 31
  | 1 => 32
  | 2 => 33
  | 3 => 34
  | 4 => 35
  | 5 => 30
  | 6 => 36
  | 7 => 37
  | 8 => 9
  | _ => 10
structure SumI (w : World) (V0 : Value) (dd Z R : Int) (nz nr : Nat) (val : Nat → Value) (d : Nat → Bool) (w' : World) : Prop where
  ext : ∃ X, w' = w.ext X
  c5 : d 5 = true → d 4 = true
  f0 : d 0 = true → val 0 = V0
  f1 : d 1 = true → val 1 = .int .i64 dd
  f2 : d 2 = true → val 2 = I2 dd
  f3 : d 3 = true → RN w' (val 3) dd 129
  f4 : d 4 = true → ∃ q r, val 4 = .tuple #[q, r] ∧ RN w' q Z nz ∧ RN w' r R nr
  f5 : d 5 = true → val 5 = val 4
  f6 : d 6 = true → ∃ q r, val 4 = .tuple #[q, r] ∧ val 6 = q
  f7 : d 7 = true → ∃ q r, val 4 = .tuple #[q, r] ∧ val 7 = r
  f8 : d 8 = true → ∃ p, val 8 = .pointer (some ⟨p, 0, none⟩) ∧ w.heap.size ≤ p ∧ p < w'.heap.size ∧ Hh p w' ∧ (d 10 = true → Dd p Z nz w')
  f9 : d 9 = true → ∃ p, val 9 = .pointer (some ⟨p, 0, none⟩) ∧ w.heap.size ≤ p ∧ p < w'.heap.size ∧ Hh p w'
  ne : d 8 = true → d 9 = true → val 8 ≠ val 9
section
variable {w w' : World} {V0 : Value} {dd Z R : Int} {nz nr : Nat} {val : Nat → Value} {d : Nat → Bool}
theorem Dd.ext {p : Nat} {z : Int} {n : Nat} {w : World} (h : Dd p z n w) (X : Xt) : Dd p z n (w.ext X) := by
  obtain ⟨m, s, r, g⟩ := h; exact ⟨m, s, r.ext X, g.ext X⟩
theorem SumI.grow (h : SumI w V0 dd Z R nz nr val d w') (X : Xt) : SumI w V0 dd Z R nz nr val d (w'.ext X) := by
  obtain ⟨X0, hX0⟩ := h.ext
  refine ⟨⟨_, by rw [hX0, World.ext_ext]⟩, h.c5, h.f0, h.f1, h.f2, fun k => (h.f3 k).ext X, fun k => ?_, h.f5, h.f6, h.f7, fun k => ?_, fun k => ?_, h.ne⟩
  · obtain ⟨q, r, e, g1, g2⟩ := h.f4 k; exact ⟨q, r, e, g1.ext X, g2.ext X⟩
  · obtain ⟨p, e, l, l2, g, g2⟩ := h.f8 k; exact ⟨p, e, l, by simp; omega, g.ext X, fun k => (g2 k).ext X⟩
  · obtain ⟨p, e, l, l2, g⟩ := h.f9 k; exact ⟨p, e, l, by simp; omega, g.ext X⟩
theorem SumI.grown {w2 : World} (h : SumI w V0 dd Z R nz nr val d w') (hb : ∃ X, w2 = w'.ext X) : SumI w V0 dd Z R nz nr val d w2 := by
  obtain ⟨X, rfl⟩ := hb; exact h.grow X
/-- One more operation of the first eight. -/
theorem SumI.more (h : SumI w V0 dd Z R nz nr val d w') (i : Nat) (hi : i < 8) (v : Value) (hd : d i = false)
    (h0 : i = 0 → v = V0) (h1 : i = 1 → v = .int .i64 dd) (h2 : i = 2 → v = I2 dd) (h3 : i = 3 → RN w' v dd 129) (h4 : i = 4 → (d 5 = false ∧ d 6 = false ∧ d 7 = false) ∧ ∃ q r, v = .tuple #[q, r] ∧ RN w' q Z nz ∧ RN w' r R nr)
    (h5 : i = 5 → d 4 = true ∧ v = val 4) (h6 : i = 6 → ∃ q r, val 4 = .tuple #[q, r] ∧ v = q) (h7 : i = 7 → ∃ q r, val 4 = .tuple #[q, r] ∧ v = r) : SumI w V0 dd Z R nz nr (vset val i v) (upd d i) w' := by
  have u : ∀ j, upd d i j = true → j ≠ i → d j = true := fun j h hj => by rwa [upd_other _ hj] at h
  have g : ∀ j, 8 ≤ j → upd d i j = d j := fun j hj => upd_other _ (by omega)
  have k : ∀ j, 8 ≤ j → vset val i v j = val j := fun j hj => vset_ne _ _ (by omega)
  refine ⟨h.ext, fun q => ?_, fun q => ?_, fun q => ?_, fun q => ?_, fun q => ?_, fun q => ?_, fun q => ?_, fun q => ?_, fun q => ?_, fun q => ?_, fun q => ?_, fun q1 q2 => ?_⟩
  · by_cases e : 5 = i
    · by_cases e4 : 4 = i
      · omega
      · rw [upd_other _ e4]; exact (h5 e.symm).1
    · by_cases e4 : 4 = i
      · subst e4; exact upd_self _ _
      · rw [upd_other _ e4]; exact h.c5 (u 5 q e)
  · by_cases e : 0 = i
    · subst e; rw [vset_at]; exact h0 rfl
    · rw [vset_ne _ _ e]; exact h.f0 (u _ q e)
  · by_cases e : 1 = i
    · subst e; rw [vset_at]; exact h1 rfl
    · rw [vset_ne _ _ e]; exact h.f1 (u _ q e)
  · by_cases e : 2 = i
    · subst e; rw [vset_at]; exact h2 rfl
    · rw [vset_ne _ _ e]; exact h.f2 (u _ q e)
  · by_cases e : 3 = i
    · subst e; rw [vset_at]; exact h3 rfl
    · rw [vset_ne _ _ e]; exact h.f3 (u _ q e)
  · by_cases e : 4 = i
    · subst e; rw [vset_at]; exact (h4 rfl).2
    · rw [vset_ne _ _ e]; exact h.f4 (u _ q e)
  · by_cases e : 5 = i
    · subst e; rw [vset_at, vset_ne _ _ (by decide)]; exact (h5 rfl).2
    · have d5 := u _ q e
      by_cases e4 : 4 = i
      · have := (h4 e4.symm).1.1; rw [this] at d5; cases d5
      · rw [vset_ne _ _ e, vset_ne _ _ e4]; exact h.f5 d5
  · by_cases e : 6 = i
    · subst e; rw [vset_at, vset_ne _ _ (by decide)]; exact h6 rfl
    · have d5 := u _ q e
      by_cases e4 : 4 = i
      · have := (h4 e4.symm).1.2.1; rw [this] at d5; cases d5
      · rw [vset_ne _ _ e, vset_ne _ _ e4]; exact h.f6 d5
  · by_cases e : 7 = i
    · subst e; rw [vset_at, vset_ne _ _ (by decide)]; exact h7 rfl
    · have d5 := u _ q e
      by_cases e4 : 4 = i
      · have := (h4 e4.symm).1.2.2; rw [this] at d5; cases d5
      · rw [vset_ne _ _ e, vset_ne _ _ e4]; exact h.f7 d5
  · rw [g 8 (by decide)] at q; rw [k 8 (by decide), g 10 (by decide)]; exact h.f8 q
  · rw [g 9 (by decide)] at q; rw [k 9 (by decide)]; exact h.f9 q
  · rw [g 8 (by decide)] at q1; rw [g 9 (by decide)] at q2; rw [k 8 (by decide), k 9 (by decide)]; exact h.ne q1 q2
/-- A new place. -/
theorem SumI.place (h : SumI w V0 dd Z R nz nr val d w') (i : Nat) (hi : i = 8 ∨ i = 9) (hd : d i = false) (h10 : d 10 = false) :
    SumI w V0 dd Z R nz nr (vset val i (.pointer (some ⟨w'.heap.size, 0, none⟩))) (upd d i) (w'.alloc (.cells #[.bool false, .slice none 0 0] 111)) := by
  have hg := h.grown (w2 := w'.alloc (.cells #[.bool false, .slice none 0 0] 111)) (RowKit.Below.toExt (by (repeat (first | exact Below.refl _ _ | with_reducible refine Below.drew ?_ | with_reducible refine Below.ext ?_ (by first | exact Nat.le_refl _ | (simp; done) | (simp; omega)) _ | with_reducible refine Below.alloc ?_ (by first | exact Nat.le_refl _ | (simp; done) | (simp; omega)) _ | with_reducible refine Below.setCell ?_ (by first | exact Nat.le_refl _ | (simp; done) | (simp; omega)) _))))
  obtain ⟨X0, hX0⟩ := h.ext
  have hs : w.heap.size ≤ w'.heap.size := by rw [hX0]; simp
  have k : ∀ j, j < 8 → vset val i (.pointer (some ⟨w'.heap.size, 0, none⟩)) j = val j := fun j hj => vset_ne _ _ (by omega)
  have g : ∀ j, j < 8 → upd d i j = d j := fun j hj => upd_other _ (by omega)
  have hh : Hh w'.heap.size (w'.alloc (.cells #[.bool false, .slice none 0 0] 111)) := ⟨_, _, row_last rfl, ⟨_, _, _, rfl⟩⟩
  have hl : w'.heap.size < (w'.alloc (.cells #[.bool false, .slice none 0 0] 111)).heap.size := by rw [World.hp_alloc, Array.size_push]; omega
  refine ⟨hg.ext, ?_, ?_, ?_, ?_, ?_, ?_, ?_, ?_, ?_, fun q => ?_, fun q => ?_, fun q1 q2 => ?_⟩
  · rw [g 5 (by decide), g 4 (by decide)]; exact hg.c5
  · rw [g 0 (by decide), k 0 (by decide)]; exact hg.f0
  · rw [g 1 (by decide), k 1 (by decide)]; exact hg.f1
  · rw [g 2 (by decide), k 2 (by decide)]; exact hg.f2
  · rw [g 3 (by decide), k 3 (by decide)]; exact hg.f3
  · rw [g 4 (by decide), k 4 (by decide)]; exact hg.f4
  · rw [g 5 (by decide), k 5 (by decide), k 4 (by decide)]; exact hg.f5
  · rw [g 6 (by decide), k 6 (by decide), k 4 (by decide)]; exact hg.f6
  · rw [g 7 (by decide), k 7 (by decide), k 4 (by decide)]; exact hg.f7
  · by_cases e : 8 = i
    · subst e
      refine ⟨_, vset_at _ _ _, hs, hl, hh, fun q => ?_⟩
      rw [upd_other _ (by decide), h10] at q; cases q
    · rw [vset_ne _ _ e]; rw [upd_other _ e] at q
      rw [show upd d i 10 = d 10 from upd_other _ (by omega)]
      exact hg.f8 q
  · by_cases e : 9 = i
    · subst e; exact ⟨_, vset_at _ _ _, hs, hl, hh⟩
    · rw [vset_ne _ _ e]; rw [upd_other _ e] at q
      exact hg.f9 q
  · rcases hi with rfl | rfl
    · rw [upd_other _ (by decide)] at q2
      rw [vset_at, vset_ne _ _ (by decide)]
      obtain ⟨p, e, l1, l2, -⟩ := h.f9 q2
      rw [e]; intro e2; injection e2 with e2; injection e2 with e2; injection e2 with e2; omega
    · rw [upd_other _ (by decide)] at q1
      rw [vset_at, vset_ne _ _ (by decide)]
      obtain ⟨p, e, l1, l2, -⟩ := h.f8 q1
      rw [e]; intro e2; injection e2 with e2; injection e2 with e2; injection e2 with e2; omega
/-- The quotient is put into its place. -/
theorem SumI.put1 (h : SumI w V0 dd Z R nz nr val d w') (d4 : d 4 = true) (d8 : d 8 = true) (d9 : d 9 = true) {p : Nat} {m : Bool} {s r : Value} (e8 : val 8 = .pointer (some ⟨p, 0, none⟩)) (e4 : val 4 = .tuple #[.agg #[.bool m, s], r]) :
    SumI w V0 dd Z R nz nr val (upd d 10) ((w'.setCell ⟨p, 0, none⟩ (.bool m)).setCell ⟨p, 1, none⟩ s) := by
  obtain ⟨X0, hX0⟩ := h.ext
  obtain ⟨p', e, l1, l2, g, -⟩ := h.f8 d8
  obtain rfl : p = p' := by rw [e8] at e; injection e with e; injection e with e; injection e
  obtain ⟨p2, e2, k1, k2, g2⟩ := h.f9 d9
  have hne : p2 ≠ p := fun q => h.ne d8 d9 (by rw [e8, e2, q])
  obtain ⟨q', r', e', n1, n2⟩ := h.f4 d4
  rw [e4] at e'
  injection e' with e'
  injection e' with e'
  simp only [List.cons.injEq, and_true] at e'
  obtain ⟨rfl, rfl⟩ := e'
  have C : Chg (fun j => j = p) w' ((w'.setCell ⟨p, 0, none⟩ (.bool m)).setCell ⟨p, 1, none⟩ s) := chg_two
  have hp : ∀ b, b = p → Hh b w' := fun b e => by subst e; exact g
  have u : ∀ j, j ≠ 10 → upd d 10 j = d j := fun j hj => upd_other _ hj
  have hsl := n1.sl
  have D : Dd p Z nz ((w'.setCell ⟨p, 0, none⟩ (.bool m)).setCell ⟨p, 1, none⟩ s) := by
    obtain ⟨m0, s0, r0, -⟩ := g
    have hr := (r0.set 0 (.bool m)).set 1 s
    exact ⟨m, s, by simpa using hr, n1.chgs C hp⟩
  have hs2 : ∀ {b : Nat}, b < w'.heap.size → b < ((w'.setCell ⟨p, 0, none⟩ (.bool m)).setCell ⟨p, 1, none⟩ s).heap.size := fun hb => Nat.lt_of_lt_of_le hb C.size
  have hX : ∃ X, (w'.setCell ⟨p, 0, none⟩ (.bool m)).setCell ⟨p, 1, none⟩ s = w.ext X := World.setCell_new (World.setCell_new ⟨X0, hX0⟩ l1) l1
  refine ⟨hX, ?_, ?_, ?_, ?_, ?_, ?_, ?_, ?_, ?_, fun _ => ?_, fun _ => ?_, ?_⟩
  · rw [u 5 (by decide), u 4 (by decide)]; exact h.c5
  · rw [u 0 (by decide)]; exact h.f0
  · rw [u 1 (by decide)]; exact h.f1
  · rw [u 2 (by decide)]; exact h.f2
  · rw [u 3 (by decide)]; exact fun q => (h.f3 q).chgs C hp
  · rw [u 4 (by decide)]; exact fun _ => ⟨_, _, e4, n1.chgs C hp, n2.chgs C hp⟩
  · rw [u 5 (by decide)]; exact h.f5
  · rw [u 6 (by decide)]; exact h.f6
  · rw [u 7 (by decide)]; exact h.f7
  · obtain ⟨m1, s1, r1, f1⟩ := D
    exact ⟨p, e8, l1, hs2 l2, ⟨m1, s1, r1, f1.sl⟩, fun _ => ⟨m1, s1, r1, f1⟩⟩
  · obtain ⟨m1, s1, r1, f1⟩ := g2
    exact ⟨p2, e2, k1, hs2 k2, ⟨m1, s1, C.row r1 hne, f1⟩⟩
  · rw [u 8 (by decide), u 9 (by decide)]; exact h.ne
/-- What is left is put into its place. -/
theorem SumI.put2 (h : SumI w V0 dd Z R nz nr val d w') (d4 : d 4 = true) (d8 : d 8 = true) (d9 : d 9 = true) (d10 : d 10 = true) {p : Nat} {m : Bool} {s q : Value} (e9 : val 9 = .pointer (some ⟨p, 0, none⟩)) (e4 : val 4 = .tuple #[q, .agg #[.bool m, s]]) :
    SumI w V0 dd Z R nz nr val (upd d 11) ((w'.setCell ⟨p, 0, none⟩ (.bool m)).setCell ⟨p, 1, none⟩ s) := by
  obtain ⟨X0, hX0⟩ := h.ext
  obtain ⟨p', e, l1, l2, g⟩ := h.f9 d9
  obtain rfl : p = p' := by rw [e9] at e; injection e with e; injection e with e; injection e
  obtain ⟨p1, e2, k1, k2, g2, g3⟩ := h.f8 d8
  have hne : p1 ≠ p := fun q => h.ne d8 d9 (by rw [e9, e2, q])
  obtain ⟨q', r', e', n1, n2⟩ := h.f4 d4
  rw [e4] at e'
  injection e' with e'
  injection e' with e'
  simp only [List.cons.injEq, and_true] at e'
  obtain ⟨rfl, rfl⟩ := e'
  have C : Chg (fun j => j = p) w' ((w'.setCell ⟨p, 0, none⟩ (.bool m)).setCell ⟨p, 1, none⟩ s) := chg_two
  have hp : ∀ b, b = p → Hh b w' := fun b e => by subst e; exact g
  have u : ∀ j, j ≠ 11 → upd d 11 j = d j := fun j hj => upd_other _ hj
  have hsl := n2.sl
  have hs2 : ∀ {b : Nat}, b < w'.heap.size → b < ((w'.setCell ⟨p, 0, none⟩ (.bool m)).setCell ⟨p, 1, none⟩ s).heap.size := fun hb => Nat.lt_of_lt_of_le hb C.size
  have hX : ∃ X, (w'.setCell ⟨p, 0, none⟩ (.bool m)).setCell ⟨p, 1, none⟩ s = w.ext X := World.setCell_new (World.setCell_new ⟨X0, hX0⟩ l1) l1
  refine ⟨hX, ?_, ?_, ?_, ?_, ?_, ?_, ?_, ?_, ?_, fun _ => ?_, fun _ => ?_, ?_⟩
  · rw [u 5 (by decide), u 4 (by decide)]; exact h.c5
  · rw [u 0 (by decide)]; exact h.f0
  · rw [u 1 (by decide)]; exact h.f1
  · rw [u 2 (by decide)]; exact h.f2
  · rw [u 3 (by decide)]; exact fun q => (h.f3 q).chgs C hp
  · rw [u 4 (by decide)]; exact fun _ => ⟨_, _, e4, n1.chgs C hp, n2.chgs C hp⟩
  · rw [u 5 (by decide)]; exact h.f5
  · rw [u 6 (by decide)]; exact h.f6
  · rw [u 7 (by decide)]; exact h.f7
  · obtain ⟨m1, s1, r1, f1⟩ := g3 d10
    exact ⟨p1, e2, k1, hs2 k2, ⟨m1, s1, C.row r1 hne, f1.sl⟩, fun _ => ⟨m1, s1, C.row r1 hne, f1.chgs C hp⟩⟩
  · obtain ⟨m0, s0, r0, -⟩ := g
    have hr := (r0.set 0 (.bool m)).set 1 s
    exact ⟨p, e9, l1, hs2 l2, ⟨m, s, by simpa using hr, hsl⟩⟩
  · rw [u 8 (by decide), u 9 (by decide)]; exact h.ne
end
theorem sgS_inj : ∀ i j, i < 10 → j < 10 → sgS i = sgS j → i = j := by
  have h : ∀ i, i < 10 → ∀ j, j < 10 → sgS i = sgS j → i = j := by decide
  exact fun i j hi hj => h i hi j hj
/-- The region, by its operations. -/
theorem sum_region {id : Nat} {Q : Exit → Act → World → Prop} {a : Act} {w : World} {ops : Array Oper} (V0 : Value) (dd Z R : Int) (nz nr : Nat) (hm : Tryz.prog.follows .mixedOrders = true) (hl : lowB ops = true) (h12 : ops.size = 12) (hsz : a.tmps.size = 49)
    (hstep : ∀ i o, ops[i]? = some o → ∀ val d a' w', Fr a sgS 10 val d a' → SumI w V0 dd Z R nz nr val d w' → d i = false → (∀ e ∈ o.after, Region.binds .any e = true → d e.on = true) → (∀ j oj, ops[j]? = some oj → d j = true → ∀ e ∈ oj.after, Region.binds .any e = true → d e.on = true) → (∀ i, i < 10 → sgS i < a.tmps.size) →
      o.wp Tryz.prog a' w' (fun a2 w2 => ∃ val, Fr a sgS 10 val (upd d i) a2 ∧ SumI w V0 dd Z R nz nr val (upd d i) w2) Q)
    (hend : ∀ val d w2, SumI w V0 dd Z R nz nr val d w2 → (∀ i, i < 12 → d i = true) → Q .normal (putsTo sgS val a 10) w2) : (Code.region id ops true).wp Tryz.prog Q a w := by
  have hlt : ∀ i, i < 10 → sgS i < a.tmps.size := by
    rw [hsz]; decide
  refine wp_region_inv (fun d a' w' => (∃ val, Fr a sgS 10 val d a' ∧ SumI w V0 dd Z R nz nr val d w') ∧ ∀ j oj, ops[j]? = some oj → d j = true → ∀ e ∈ oj.after, Region.binds .any e = true → d e.on = true) hm hl ?_ ?_ ?_
  · refine ⟨⟨fun _ => undef, Fr.start, ⟨⟨⟨#[], w.drawn + 1⟩, by simp [World.ext]⟩, ?_, ?_, ?_, ?_, ?_, ?_, ?_, ?_, ?_, ?_, ?_, ?_⟩⟩, fun _ _ _ h => by cases h⟩ <;> (intro h; cases h)
  · rintro i o ho d a' w' ⟨⟨val, F, S⟩, hcl⟩ hd hw
    refine Oper.wp_mono (fun a2 w2 h => ⟨h, ?_⟩) (hstep i o ho val d a' w' F S hd hw hcl hlt)
    intro j oj hj hdj e he hb
    by_cases e1 : j = i
    · subst e1
      rw [ho] at hj; injection hj with hj; subst hj
      have := hw e he hb
      by_cases e2 : e.on = j
      · rw [e2]; exact upd_self _ _
      · rw [upd_other _ e2]; exact this
    · rw [upd_other _ e1] at hdj
      have := hcl j oj hj hdj e he hb
      by_cases e2 : e.on = i
      · rw [e2]; exact upd_self _ _
      · rw [upd_other _ e2]; exact this
  · rintro d a' w' ⟨⟨val, F, S⟩, -⟩ hall
    have e := F.done sgS_inj hlt (fun i hi => hall i (by omega))
    rw [e]
    exact hend val d w' S (fun i hi => hall i (by omega))
/-- A whole place is stored. -/
theorem num_setRow {w : World} {p : Nat} {x y u v : Value} {T : TypeId} (h : Row w p #[x, y] T) : w.setRow p #[u, v] = (w.setCell ⟨p, 0, none⟩ u).setCell ⟨p, 1, none⟩ v := by
  rw [setCell_eq_setRow w p 0 _ T (0, 0) u h, setCell_eq_setRow _ p 1 _ T (0, 0) v (setRow_heap w p _ _ T (0, 0) h), setRow_setRow]
  rfl
end Go.Proofs.YtciooaihobnifaaGreat
