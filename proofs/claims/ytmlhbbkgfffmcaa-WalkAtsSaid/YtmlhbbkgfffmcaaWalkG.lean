/- The walks of layer 14 (walk): Count, At. Conditions: the points' bounds. -/
import Derived.Test.YtmlhbbkgfffmcaaWalkF
import Derived.Test.YtmlhbbkgfffmcaaLineD
namespace Go.Proofs.Ytmlhbbkgfffmcaa
set_option linter.unusedVariables false
set_option linter.unusedSimpArgs false
open Go.RowKit
theorem ne_bools {ax ay bx y2 : Int} (c : ¬ (ax = bx ∧ ay = y2)) : (ax == bx) = false ∨ (ax == bx) = true ∧ (ay == y2) = false := by
  by_cases h : ax = bx
  · right; exact ⟨by simp [h], by simp; exact fun q => c ⟨h, q⟩⟩
  · left; simp [h]
set_option maxHeartbeats 4000000 in
theorem walk_count (ax ay bx y2 : Int) (ha : MayP ax ay) (hb : MayP bx y2) (w : World) : Calls Try.prog 42 #[P2 ax ay, P2 bx y2] w (Ret (.int .i64 (((lineL ax ay bx y2).length : Nat) : Int)) w) := by
  by_cases c : ax = bx ∧ ay = y2
  · obtain ⟨rfl, rfl⟩ := c
    rw [lineL_self]
    have hz1 : (ax == ax) = true := by simp
    have hz2 : (ay == ay) = true := by simp
    go_enter Try.func42, Try.ntmps42
    go_wp2
    go_ret
    exact Ret.of' (by simp) (by (repeat (first | exact Below.refl _ _ | with_reducible refine Below.drew ?_ | with_reducible refine Below.ext ?_ (by first | exact Nat.le_refl _ | (simp; done) | (simp; omega)) _ | with_reducible refine Below.alloc ?_ (by first | exact Nat.le_refl _ | (simp; done) | (simp; omega)) _ | with_reducible refine Below.setCell ?_ (by first | exact Nat.le_refl _ | (simp; done) | (simp; omega)) _)))
  · have hn := mkWay_count ax ay bx y2 c
    rw [← hn]
    obtain ⟨W, hW⟩ : ∃ W, W = mkWay ax ay bx y2 := ⟨_, rfl⟩
    have ok : W.Ok := hW ▸ mkWay_ok ax ay bx y2 ha hb
    rw [← hW]
    have HN := Lib.hid (fun w => show Calls Try.prog 91 #[P2 ax ay, P2 bx y2] w (Comes w W) from hW ▸ way_new ax ay bx y2 ha hb c w)
    have hz := ne_bools c
    have OK := Lib.hid ok
    have HC := Lib.hid (fun w p (h : WayAt w p W) => way_count ok h)
    simp only [ptr] at HC
    clear hn hW c ok ha hb
    rcases hz with hz1 | ⟨hz1, hz2⟩
    all_goals
      go_enter Try.func42, Try.ntmps42
      go_wp2_with (first | (go_at_call 91; (with_reducible refine (HN.out _).mono ?_); rintro _ w3 ⟨p, rfl, h3, hp, X3, rfl⟩; have H3 := Lib.hid h3; clear h3) | (go_at_call 100; (with_reducible refine (HC.out _ _ H3.out).mono ?_); rintro _ _ ⟨rfl, X_, rfl⟩))
      go_ret
      exact Ret.of' (by simp) (by (repeat (first | exact Below.refl _ _ | with_reducible refine Below.drew ?_ | with_reducible refine Below.ext ?_ (by first | exact Nat.le_refl _ | (simp; done) | (simp; omega)) _ | with_reducible refine Below.alloc ?_ (by first | exact Nat.le_refl _ | (simp; done) | (simp; omega)) _ | with_reducible refine Below.setCell ?_ (by first | exact Nat.le_refl _ | (simp; done) | (simp; omega)) _)))
abbrev St.w (s : St) : Value := .agg #[.int .i64 s.K, .int .i64 s.X, .int .i64 s.Y]
/-- The k-th pixel. -/
def atL (ax ay bx y2 k : Int) : Option St := if k < 0 then none else (lineL ax ay bx y2)[k.toNat]?
def atV (o : Option St) : Value := .tuple #[(o.getD ⟨0, 0, 0⟩).w, .bool o.isSome]
theorem atV_none : atV none = .tuple #[.agg #[.int .i64 0, .int .i64 0, .int .i64 0], .bool false] := rfl
set_option maxHeartbeats 4000000 in
theorem walk_at_same (ax ay : Int) (k : Int) (w : World) : Calls Try.prog 52 #[P2 ax ay, P2 ax ay, .int .i64 k] w (Ret (atV (atL ax ay ax ay k)) w) := by
  have e : atL ax ay ax ay k = none := by unfold atL; rw [lineL_self]; split <;> rfl
  rw [e, atV_none]
  have hz1 : (ax == ax) = true := by simp
  have hz2 : (ay == ay) = true := by simp
  go_enter Try.func52, Try.ntmps52
  go_wp2
  refine bodyPost_ret (by simp [results, Try.results52, go_sem]; try rfl) rfl (Ret.of (by (repeat (first | exact Below.refl _ _ | with_reducible refine Below.drew ?_ | with_reducible refine Below.ext ?_ (by first | exact Nat.le_refl _ | (simp; done) | (simp; omega)) _ | with_reducible refine Below.alloc ?_ (by first | exact Nat.le_refl _ | (simp; done) | (simp; omega)) _ | with_reducible refine Below.setCell ?_ (by first | exact Nat.le_refl _ | (simp; done) | (simp; omega)) _))))
set_option maxHeartbeats 4000000 in
theorem walk_at_below (ax ay bx y2 k : Int) (c : ¬ (ax = bx ∧ ay = y2)) (hk : k < 0) (w : World) : Calls Try.prog 52 #[P2 ax ay, P2 bx y2, .int .i64 k] w (Ret (atV (atL ax ay bx y2 k)) w) := by
  have e : atL ax ay bx y2 k = none := by unfold atL; rw [if_pos hk]
  rw [e, atV_none]
  clear e
  rcases ne_bools c with hz1 | ⟨hz1, hz2⟩
  all_goals
    clear c
    go_enter Try.func52, Try.ntmps52
    go_wp2
    refine bodyPost_ret (by simp [results, Try.results52, go_sem]; try rfl) rfl (Ret.of (by (repeat (first | exact Below.refl _ _ | with_reducible refine Below.drew ?_ | with_reducible refine Below.ext ?_ (by first | exact Nat.le_refl _ | (simp; done) | (simp; omega)) _ | with_reducible refine Below.alloc ?_ (by first | exact Nat.le_refl _ | (simp; done) | (simp; omega)) _ | with_reducible refine Below.setCell ?_ (by first | exact Nat.le_refl _ | (simp; done) | (simp; omega)) _))))
set_option maxHeartbeats 4000000 in
theorem walk_at_over (ax ay bx y2 k : Int) (ha : MayP ax ay) (hb : MayP bx y2) (c : ¬ (ax = bx ∧ ay = y2)) (hk' : ((lineL ax ay bx y2).length : Nat) ≤ k) (w : World) : Calls Try.prog 52 #[P2 ax ay, P2 bx y2, .int .i64 k] w (Ret (atV (atL ax ay bx y2 k)) w) := by
  have k0 : 0 ≤ k := by omega
  have e : atL ax ay bx y2 k = none := by unfold atL; rw [if_neg (by omega)]; exact List.getElem?_eq_none (by omega)
  rw [e, atV_none]
  have hn := mkWay_count ax ay bx y2 c
  obtain ⟨W, hW⟩ : ∃ W, W = mkWay ax ay bx y2 := ⟨_, rfl⟩
  have ok : W.Ok := hW ▸ mkWay_ok ax ay bx y2 ha hb
  rw [← hW] at hn
  obtain ⟨n, hcn⟩ : ∃ n, W.count = n := ⟨_, rfl⟩
  have OK := Lib.hid ok
  have HN := Lib.hid (fun w => show Calls Try.prog 91 #[P2 ax ay, P2 bx y2] w (Comes w W) from hW ▸ way_new ax ay bx y2 ha hb c w)
  have HC := Lib.hid (fun w p (h : WayAt w p W) => hcn ▸ way_count ok h)
  have hk : n ≤ k := by omega
  clear hn hW ok ha hb hcn e
  have hz := ne_bools c
  clear c hk'
  simp only [ptr] at HC
  rcases hz with hz1 | ⟨hz1, hz2⟩
  all_goals
    go_enter Try.func52, Try.ntmps52
    go_wp2_with (first | (go_at_call 91; (with_reducible refine (HN.out _).mono ?_); rintro _ w3 ⟨p, rfl, h3, hp, X3, rfl⟩; have H3 := Lib.hid h3; clear h3) | (go_at_call 100; (with_reducible refine (HC.out _ _ H3.out).mono ?_); rintro _ _ ⟨rfl, X_, rfl⟩))
    refine bodyPost_ret (by simp [results, Try.results52, go_sem]; try rfl) rfl (Ret.of (by (repeat (first | exact Below.refl _ _ | with_reducible refine Below.drew ?_ | with_reducible refine Below.ext ?_ (by first | exact Nat.le_refl _ | (simp; done) | (simp; omega)) _ | with_reducible refine Below.alloc ?_ (by first | exact Nat.le_refl _ | (simp; done) | (simp; omega)) _ | with_reducible refine Below.setCell ?_ (by first | exact Nat.le_refl _ | (simp; done) | (simp; omega)) _))))
end Go.Proofs.Ytmlhbbkgfffmcaa
