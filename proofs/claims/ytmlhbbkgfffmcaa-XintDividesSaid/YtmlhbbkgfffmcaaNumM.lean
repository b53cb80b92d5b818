/- Two numbers returned: what a region that draws its order may do with their places. No condition. -/
import Derived.Test.YtmlhbbkgfffmcaaNumJ
namespace Go.Proofs.Ytmlhbbkgfffmcaa
set_option linter.unusedVariables false
set_option linter.unusedSimpArgs false
open Go.RowKit
/-- A place for a number. -/
def Hh (p : Nat) (w : World) : Prop := ∃ m s, Row w p #[.bool m, s] 138 ∧ isSl s
/-- It holds this one. -/
def Dd (p : Nat) (z : Int) (n : Nat) (w : World) : Prop := ∃ m s, Row w p #[.bool m, s] 138 ∧ RN w (.agg #[.bool m, s]) z n
structure LL (p1 p2 : Nat) (z1 z2 : Int) (n1 n2 : Nat) (w w' : World) : Prop where
  chg : Chg (fun j => j = p1 ∨ j = p2) w w'
  h1 : Hh p1 w → Hh p1 w'
  h2 : Hh p2 w → Hh p2 w'
  d1 : Hh p1 w → Hh p2 w → Dd p1 z1 n1 w → Dd p1 z1 n1 w'
  d2 : Hh p1 w → Hh p2 w → Dd p2 z2 n2 w → Dd p2 z2 n2 w'
theorem isSl.noByte {s : Value} (h : isSl s) : ∀ d, s ≠ .int .u8 d := by
  obtain ⟨a, k, c, rfl⟩ := h
  exact fun d => by simp
theorem Rb.chgs {w w1 : World} {v : Value} {l : List Int} {P : Nat → Prop} (h : Rb w v l) (C : Chg P w w1) (hp : ∀ p, P p → Hh p w) : Rb w1 v l := by
  obtain ⟨h0, h1, a, cap, rfl, h2, h3, h4⟩ := h
  refine ⟨h0, h1, a, cap, rfl, h2, h3, ?_⟩
  rcases h4 with h4 | ⟨b, off, rfl, hlt, hc⟩
  · exact .inl h4
  · by_cases hl : l = []
    · exact .inl hl
    · have hpos : 0 < l.length := List.length_pos_iff.2 hl
      have hne : ¬ P b := fun e => by
        obtain ⟨m, s, hr, hs⟩ := hp b e
        have c0 := hc 0 hpos
        rw [Nat.add_zero, hr.cell off] at c0
        rcases off with _ | _ | off
        · simp at c0
        · simp at c0; exact hs.noByte _ c0
        · simp at c0
      refine .inr ⟨b, off, rfl, Nat.lt_of_lt_of_le hlt C.size, fun i hi => ?_⟩
      rw [C.cell hlt hne]; exact hc i hi
theorem RN.chgs {w w1 : World} {v : Value} {z : Int} {n : Nat} {P : Nat → Prop} (h : RN w v z n) (C : Chg P w w1) (hp : ∀ p, P p → Hh p w) : RN w1 v z n := by
  obtain ⟨m, sv, l, h1, h2, h3⟩ := h
  exact ⟨m, sv, l, h1, h2.chgs C hp, h3⟩
section
variable {p1 p2 : Nat} {z1 z2 : Int} {n1 n2 : Nat} {w w' : World}
theorem preLL : Pre (LL p1 p2 z1 z2 n1 n2) :=
  ⟨fun w => ⟨Chg.refl, fun h => h, fun h => h, fun _ _ h => h, fun _ _ h => h⟩,
   fun h k => ⟨h.chg.trans k.chg, fun g => k.h1 (h.h1 g), fun g => k.h2 (h.h2 g), fun a b g => k.d1 (h.h1 a) (h.h2 b) (h.d1 a b g), fun a b g => k.d2 (h.h1 a) (h.h2 b) (h.d2 a b g)⟩,
   fun w => ⟨Chg.drew Chg.refl, fun h => h, fun h => h, fun _ _ ⟨m, s, r, h⟩ => ⟨m, s, r, h.drew⟩, fun _ _ ⟨m, s, r, h⟩ => ⟨m, s, r, h.drew⟩⟩⟩
theorem Hh.ext {p : Nat} (h : Hh p w) (X : Xt) : Hh p (w.ext X) := by
  obtain ⟨m, s, r, g⟩ := h; exact ⟨m, s, r.ext X, g⟩
theorem LL.ext (w : World) (X : Xt) : LL p1 p2 z1 z2 n1 n2 w (w.ext X) :=
  ⟨Chg.of_ext X, fun h => h.ext X, fun h => h.ext X, fun _ _ ⟨m, s, r, h⟩ => ⟨m, s, r.ext X, h.ext X⟩, fun _ _ ⟨m, s, r, h⟩ => ⟨m, s, r.ext X, h.ext X⟩⟩
theorem LL.of (h : ∃ X, w' = w.ext X) : LL p1 p2 z1 z2 n1 n2 w w' := by
  obtain ⟨X, rfl⟩ := h; exact LL.ext w X
theorem both_hh (g1 : Hh p1 w) (g2 : Hh p2 w) : ∀ p, (p = p1 ∨ p = p2) → Hh p w := fun p h => by
  rcases h with rfl | rfl <;> assumption
theorem RN.ll {v : Value} {z : Int} {n : Nat} (h : RN w v z n) (hL : LL p1 p2 z1 z2 n1 n2 w w') (g1 : Hh p1 w) (g2 : Hh p2 w) : RN w' v z n := h.chgs hL.chg (both_hh g1 g2)
theorem RN.sl {m : Bool} {s : Value} {z : Int} {n : Nat} (h : RN w (.agg #[.bool m, s]) z n) : isSl s := by
  obtain ⟨m', sv, l, e, h2, -⟩ := h
  cases e
  exact h2.isSl
theorem LL.set1 {m : Bool} {s : Value} (g1 : Hh p1 w) (g2 : Hh p2 w) (hne : p2 ≠ p1) (h : RN w (.agg #[.bool m, s]) z1 n1) :
    LL p1 p2 z1 z2 n1 n2 w ((w.setCell ⟨p1, 0, none⟩ (.bool m)).setCell ⟨p1, 1, none⟩ s) ∧ Dd p1 z1 n1 ((w.setCell ⟨p1, 0, none⟩ (.bool m)).setCell ⟨p1, 1, none⟩ s) := by
  have C : Chg (fun j => j = p1) w ((w.setCell ⟨p1, 0, none⟩ (.bool m)).setCell ⟨p1, 1, none⟩ s) := chg_two
  have hp : ∀ p, p = p1 → Hh p w := fun p e => by subst e; exact g1
  have hr : Row ((w.setCell ⟨p1, 0, none⟩ (.bool m)).setCell ⟨p1, 1, none⟩ s) p1 #[.bool m, s] 138 := by
    obtain ⟨m0, s0, r, -⟩ := g1
    have := (r.set 0 (.bool m)).set 1 s
    simpa using this
  have hD : Dd p1 z1 n1 ((w.setCell ⟨p1, 0, none⟩ (.bool m)).setCell ⟨p1, 1, none⟩ s) := ⟨m, s, hr, h.chgs C hp⟩
  refine ⟨⟨C.mono fun k _ e => .inl e, fun _ => ⟨m, s, hr, h.sl⟩, fun ⟨m', s', r, g⟩ => ⟨m', s', C.row r hne, g⟩, fun _ _ _ => hD, fun _ _ ⟨m', s', r, g⟩ => ⟨m', s', C.row r hne, g.chgs C hp⟩⟩, hD⟩
theorem LL.set2 {m : Bool} {s : Value} (g1 : Hh p1 w) (g2 : Hh p2 w) (hne : p1 ≠ p2) (h : RN w (.agg #[.bool m, s]) z2 n2) :
    LL p1 p2 z1 z2 n1 n2 w ((w.setCell ⟨p2, 0, none⟩ (.bool m)).setCell ⟨p2, 1, none⟩ s) ∧ Dd p2 z2 n2 ((w.setCell ⟨p2, 0, none⟩ (.bool m)).setCell ⟨p2, 1, none⟩ s) := by
  have C : Chg (fun j => j = p2) w ((w.setCell ⟨p2, 0, none⟩ (.bool m)).setCell ⟨p2, 1, none⟩ s) := chg_two
  have hp : ∀ p, p = p2 → Hh p w := fun p e => by subst e; exact g2
  have hr : Row ((w.setCell ⟨p2, 0, none⟩ (.bool m)).setCell ⟨p2, 1, none⟩ s) p2 #[.bool m, s] 138 := by
    obtain ⟨m0, s0, r, -⟩ := g2
    have := (r.set 0 (.bool m)).set 1 s
    simpa using this
  have hD : Dd p2 z2 n2 ((w.setCell ⟨p2, 0, none⟩ (.bool m)).setCell ⟨p2, 1, none⟩ s) := ⟨m, s, hr, h.chgs C hp⟩
  refine ⟨⟨C.mono fun k _ e => .inr e, fun ⟨m', s', r, g⟩ => ⟨m', s', C.row r hne, g⟩, fun _ => ⟨m, s, hr, h.sl⟩, fun _ _ ⟨m', s', r, g⟩ => ⟨m', s', C.row r hne, g.chgs C hp⟩, fun _ _ _ => hD⟩, hD⟩
end
/-- A number, whatever is done with the two places. -/
def srNL (p1 p2 : Nat) (z1 z2 : Int) (n1 n2 : Nat) (z : Int) (n : Nat) : SR (LL p1 p2 z1 z2 n1 n2) := ⟨fun v w => Hh p1 w ∧ Hh p2 w ∧ RN w v z n, fun v w w' ⟨g1, g2, h⟩ hL => ⟨hL.h1 g1, hL.h2 g2, h.ll hL g1 g2⟩, isNm, .agg #[.bool false, .slice none 0 0], ⟨_, _, _, _, rfl⟩, fun v w h => h.2.2.form⟩
def srFL (p1 p2 : Nat) (z1 z2 : Int) (n1 n2 : Nat) (l : List Int) : SR (LL p1 p2 z1 z2 n1 n2) := ⟨fun v w => Hh p1 w ∧ Hh p2 w ∧ (∃ g, v = .slice (some ⟨g, 0, none⟩) l.length l.length) ∧ Rb w v l, fun v w w' ⟨g1, g2, h1, h2⟩ hL => ⟨hL.h1 g1, hL.h2 g2, h1, h2.chgs hL.chg (both_hh g1 g2)⟩, fun v => ∃ g, v = .slice (some ⟨g, 0, none⟩) l.length l.length, .slice (some ⟨0, 0, none⟩) l.length l.length, ⟨0, rfl⟩, fun v w h => h.2.2.1⟩
def srD1 (p1 p2 : Nat) (z1 z2 : Int) (n1 n2 : Nat) : SR (LL p1 p2 z1 z2 n1 n2) := ⟨fun v w => Hh p1 w ∧ Hh p2 w ∧ Dd p1 z1 n1 w, fun v w w' ⟨g1, g2, h⟩ hL => ⟨hL.h1 g1, hL.h2 g2, hL.d1 g1 g2 h⟩, fun _ => True, undef, trivial, fun _ _ _ => trivial⟩
def srD2 (p1 p2 : Nat) (z1 z2 : Int) (n1 n2 : Nat) : SR (LL p1 p2 z1 z2 n1 n2) := ⟨fun v w => Hh p1 w ∧ Hh p2 w ∧ Dd p2 z2 n2 w, fun v w w' ⟨g1, g2, h⟩ hL => ⟨hL.h1 g1, hL.h2 g2, hL.d2 g1 g2 h⟩, fun _ => True, undef, trivial, fun _ _ _ => trivial⟩
/-- Both are returned. -/
theorem two_fin {w w5 w7 : World} {p1 p2 : Nat} {z1 z2 : Int} {n1 n2 : Nat} {m1 m2 : Bool} {s1 s2 : Value} (hb : Below w.heap.size w w5) (hs : w.heap.size ≤ w5.heap.size) (h1 : w.heap.size ≤ p1) (h2 : w.heap.size ≤ p2) (hL : LL p1 p2 z1 z2 n1 n2 w5 w7) (N1 : RN w7 (.agg #[.bool m1, s1]) z1 n1) (N2 : RN w7 (.agg #[.bool m2, s2]) z2 n2) :
    RetR (fun v w => ∃ q r, v = .tuple #[q, r] ∧ RN w q z1 n1 ∧ RN w r z2 n2) w (.returned (.tuple #[.agg #[.bool m1, s1], .agg #[.bool m2, s2]])) w7 :=
  ⟨_, rfl, ⟨_, _, rfl, N1, N2⟩, (hb.trans (hL.chg.below (fun k hk hp => by rcases hp with rfl | rfl <;> omega) hs)).toExt⟩
theorem relL_none {L : World → World → Prop} {P : Program} {w : World} {K : Act → List (Nat × (World → Prop)) → Prop} {k : Nat} {o : Oper} {os : List Oper} {T : List (Option (List Nat × SR L))} {a : Act} {kn : List (Nat × (World → Prop))}
    (h : ∀ K' : Act → Prop, (∀ a', relWalk P L w K (k + 1) os T a' kn → K' a') → o.quiet P a (fun w' => L w w') K') : relWalk P L w K k (o :: os) (none :: T) a kn := h _ fun _ h => h
end Go.Proofs.Ytmlhbbkgfffmcaa
