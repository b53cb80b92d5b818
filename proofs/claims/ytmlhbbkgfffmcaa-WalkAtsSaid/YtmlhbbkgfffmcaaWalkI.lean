/- The walks of layer 14 (walk): from, and the function that it hands back: each pixel reckoned from the one ahead. Conditions: the way's bounds; the caller's invariant abides what the function does. -/
import Derived.RangeFuncNested
import Derived.RangeFuncBound
import Derived.RangeFuncCalls
import Derived.RangeFuncLeaves
import Derived.Shelf.Abstract
import Derived.Shelf.RegionOpen
import Derived.OwnWalkIn
import Derived.TacticsInMore
import Derived.LoopNIn
import Derived.LoopIn
import Derived.Test.YtmlhbbkgfffmcaaWalkE
import Derived.Test.YtmlhbbkgfffmcaaLineD
namespace Go.Proofs.Ytmlhbbkgfffmcaa
set_option linter.unusedVariables false
set_option linter.unusedSimpArgs false
open Go.RowKit
theorem across_rest (W : Way) (u : Int) (h : 0 < W.den) : 0 ≤ W.num u - W.across u * W.den ∧ W.num u - W.across u * W.den < W.den := by
  unfold Way.across
  have h2 := Int.ediv_mul_add_emod (W.num u) W.den
  have h3 := Int.emod_nonneg (W.num u) (by omega : W.den ≠ 0)
  have h4 := Int.emod_lt_of_pos (W.num u) h
  omega
theorem across_of (W : Way) (u v : Int) (h : 0 < W.den) (h0 : 0 ≤ W.num u - v * W.den) (h1 : W.num u - v * W.den < W.den) : W.across u = v := by
  unfold Way.across
  rw [div_iff _ _ _ h, Int.add_mul]; omega
theorem num_step (W : Way) (hs : W.dv * W.step = W.bv - W.av) (u : Int) : W.num (u + W.step) = W.num u + 256 * (W.bv - W.av) := by
  unfold Way.num; rw [← hs]; grind
/-- The next middle's place across. -/
theorem across_next (W : Way) (hd : 0 < W.den) (hs : W.dv * W.step = W.bv - W.av) (u : Int) :
    (W.den ≤ (W.num u - W.across u * W.den) + (256 * (W.bv - W.av)).tmod W.den → W.across (u + W.step) = W.across u + (256 * (W.bv - W.av)).tdiv W.den + 1) ∧
    ((W.num u - W.across u * W.den) + (256 * (W.bv - W.av)).tmod W.den < 0 → W.across (u + W.step) = W.across u + (256 * (W.bv - W.av)).tdiv W.den - 1) ∧
    ((W.num u - W.across u * W.den) + (256 * (W.bv - W.av)).tmod W.den < W.den → 0 ≤ (W.num u - W.across u * W.den) + (256 * (W.bv - W.av)).tmod W.den → W.across (u + W.step) = W.across u + (256 * (W.bv - W.av)).tdiv W.den) := by
  obtain ⟨r0, r1⟩ := across_rest W u hd
  have e := num_step W hs u
  have h1 := Int.tdiv_mul_add_tmod (256 * (W.bv - W.av)) W.den
  have h5 : -W.den < (256 * (W.bv - W.av)).tmod W.den := by
    have := Int.tmod_lt_of_pos (-(256 * (W.bv - W.av))) hd
    rw [Int.neg_tmod] at this; omega
  have h6 : (256 * (W.bv - W.av)).tmod W.den < W.den := Int.tmod_lt_of_pos _ hd
  obtain ⟨q, hq⟩ : ∃ q, (256 * (W.bv - W.av)).tdiv W.den = q := ⟨_, rfl⟩
  obtain ⟨r, hr⟩ : ∃ q, (256 * (W.bv - W.av)).tmod W.den = q := ⟨_, rfl⟩
  obtain ⟨v, hv⟩ : ∃ q, W.across u = q := ⟨_, rfl⟩
  rw [hq, hr] at h1
  rw [hr] at h5 h6
  rw [hq, hr, hv]
  rw [hv] at r0 r1
  refine ⟨fun c => across_of W _ _ hd ?_ ?_, fun c => across_of W _ _ hd ?_ ?_, fun c c' => across_of W _ _ hd ?_ ?_⟩
  all_goals rw [e]
  all_goals simp only [Int.add_mul, Int.sub_mul, Int.one_mul]
  all_goals omega
theorem way_from (w : World) (p : Nat) (u m : Int) : Calls Try.prog 96 #[.pointer (some ⟨p, 0, none⟩), .int .i64 u, .int .i64 m] w (fun e w' => e = .returned (.func (.func 130) #[] #[.pointer (some ⟨w.heap.size, 0, none⟩), .pointer (some ⟨w.heap.size + 1, 0, none⟩), .pointer (some ⟨w.heap.size + 1 + 1, 0, none⟩)]) ∧
    w' = ((w.alloc (.cells #[.pointer (some ⟨p, 0, none⟩)] 118)).alloc (.cells #[.int .i64 u] 3)).alloc (.cells #[.int .i64 m] 3)) := by
  go_enter Try.func96, Try.ntmps96
  go_wp2
  go_ret
  exact ⟨rfl, rfl⟩
end Go.Proofs.Ytmlhbbkgfffmcaa
