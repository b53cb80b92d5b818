/- Fragments out of 'the argument reads as data'; the laws of layer 25 over fragments where nothing is asked. No condition. -/
import Derived.Test.YtdbbeggenbhbfaaFragS
import Derived.Test.YtdbbeggenbhbfaaOpen
namespace Go.Proofs.Ytdbbeggenbhbfaa
set_option linter.unusedVariables false
set_option linter.unusedSimpArgs false
open Go.RowKit
theorem list_back {α β : Type} (g : β → α) (p : β → Prop) : ∀ l : List α, (∀ x ∈ l, ∃ y, x = g y ∧ p y) → ∃ m : List β, l = m.map g ∧ ∀ y ∈ m, p y
  | [], _ => ⟨[], rfl, fun _ h => by cases h⟩
  | x :: l, h => by
    obtain ⟨y, rfl, hy⟩ := h x (by simp)
    obtain ⟨m, rfl, hm⟩ := list_back g p l fun z hz => h z (by simp [hz])
    exact ⟨y :: m, rfl, fun z hz => by
      rcases List.mem_cons.1 hz with rfl | hz
      · exact hy
      · exact hm z hz⟩
theorem frs_of {w : World} {v : Value} {zl : List (List Value)} (h : Sls w 8 (fun r => ∃ (ecX : Int) (ecY : Int) (ecZ : Int) (ecC0 : Int) (ecC1 : Int) (ecC2 : Int) (ecC3 : Int) (ecCov : Int), r = [.int .i64 ecX, .int .i64 ecY, .int .i64 ecZ, .int .i64 ecC0, .int .i64 ecC1, .int .i64 ecC2, .int .i64 ecC3, .int .i64 ecCov] ∧ (-9223372036854775808 ≤ ecX ∧ ecX ≤ 9223372036854775807) ∧ (-9223372036854775808 ≤ ecY ∧ ecY ≤ 9223372036854775807) ∧ (-9223372036854775808 ≤ ecZ ∧ ecZ ≤ 9223372036854775807) ∧ (-9223372036854775808 ≤ ecC0 ∧ ecC0 ≤ 9223372036854775807) ∧ (-9223372036854775808 ≤ ecC1 ∧ ecC1 ≤ 9223372036854775807) ∧ (-9223372036854775808 ≤ ecC2 ∧ ecC2 ≤ 9223372036854775807) ∧ (-9223372036854775808 ≤ ecC3 ∧ ecC3 ≤ 9223372036854775807) ∧ (-9223372036854775808 ≤ ecCov ∧ ecCov ≤ 9223372036854775807)) v zl) :
    ∃ (L : List FrP) (a : Option Addr) (cap : Nat), v = .slice a L.length cap ∧ L.length ≤ 9223372036854775807 ∧ (L.length ≤ 1048576 → Frs w v L) := by
  obtain ⟨h0, h1, a, cap, rfl, h2, h3, h4⟩ := h
  obtain ⟨L, rfl, hL⟩ := list_back FrP.cells FrP.ok zl fun r hr => by
    obtain ⟨-, x, y, z, c0, c1, c2, c3, cov, rfl, b0, b1, b2, b3, b4, b5, b6, b7⟩ := h0 r hr
    exact ⟨⟨x, y, z, c0, c1, c2, c3, cov⟩, rfl, ⟨b0, b1, b2, b3, b4, b5, b6, b7⟩⟩
  rw [List.length_map] at *
  refine ⟨L, a, cap, rfl, by simp only [maxLen] at h1; omega, fun hl => ⟨hL, hl, a, cap, rfl, h2, ?_⟩⟩
  rcases h4 with h4 | ⟨b, off, rfl, hb, hc⟩
  · left; simpa using h4
  · right
    exact ⟨b, off, rfl, hb, fun i f hi j u hj => hc i f.cells (by rw [List.getElem?_map, hi]; rfl) j u hj⟩
theorem Below.toChg {B : Nat} {w w1 : World} (h : Below B w w1) : Chg (fun k => B ≤ k) w w1 := ⟨h.os, h.tape, h.output, h.size, fun k _ hp => h.block k (by omega)⟩
end Go.Proofs.Ytdbbeggenbhbfaa
