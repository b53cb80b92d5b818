/- Arguments that are lists of corners, of flags; a filled face's fragments are in the rectangle. No condition. -/
import Derived.Test.YtciooaihobnifaaGreatFacH
import Derived.Test.YtciooaihobnifaaGreatOpenZ
namespace Go.Proofs.YtciooaihobnifaaGreat
set_option linter.unusedVariables false
set_option linter.unusedSimpArgs false
open Go.RowKit
def winR (r : List Value) : Prop := ∃ (x y z c0 c1 c2 c3 : Int), r = [.int .i64 x, .int .i64 y, .int .i64 z, .int .i64 c0, .int .i64 c1, .int .i64 c2, .int .i64 c3] ∧ (-9223372036854775808 ≤ x ∧ x ≤ 9223372036854775807) ∧ (-9223372036854775808 ≤ y ∧ y ≤ 9223372036854775807) ∧ (-9223372036854775808 ≤ z ∧ z ≤ 9223372036854775807) ∧ (-9223372036854775808 ≤ c0 ∧ c0 ≤ 9223372036854775807) ∧ (-9223372036854775808 ≤ c1 ∧ c1 ≤ 9223372036854775807) ∧ (-9223372036854775808 ≤ c2 ∧ c2 ≤ 9223372036854775807) ∧ (-9223372036854775808 ≤ c3 ∧ c3 ≤ 9223372036854775807)
theorem sls_form {w : World} {k : Nat} {R : List Value → Prop} {v : Value} {zs : List (List Value)} (h : Sls w k R v zs) : ∃ a cap, v = .slice a zs.length cap ∧ zs.length ≤ maxLen := by
  obtain ⟨-, h1, a, cap, h2, -⟩ := h
  exact ⟨a, cap, h2, h1⟩
theorem sls_win {w : World} {v : Value} {zs : List (List Value)} (h : Sls w 7 winR v zs) (hn : zs.length ≤ 1099511627776) : ∃ L : List WinP, L.length = zs.length ∧ Recs wnK w v L ∧ ∀ a ∈ L, a.wide := by
  obtain ⟨hr, -, a, cap, rfl, hc, -, h3⟩ := h
  obtain ⟨L, hL, hrow⟩ := list_build zs.length (fun i (a : WinP) => ∃ r, zs[i]? = some r ∧ r = a.cells ∧ a.wide) (fun i hi => by
    obtain ⟨-, x, y, z, c0, c1, c2, c3, e, b1, b2, b3, b4, b5, b6, b7⟩ := hr _ (List.getElem_mem hi)
    exact ⟨⟨x, y, z, c0, c1, c2, c3⟩, _, List.getElem?_eq_getElem hi, e, ⟨b1, b2, b3, b4, b5, b6, b7⟩⟩)
  refine ⟨L, hL, ⟨by omega, a, cap, by rw [hL], by omega, ?_⟩, fun f hf => ?_⟩
  · rcases h3 with h3 | ⟨b, off, rfl, hb, hcl⟩
    · exact .inl (List.eq_nil_of_length_eq_zero (by rw [hL, h3]; rfl))
    · refine .inr ⟨b, off, rfl, hb, fun i f hi j u hj => ?_⟩
      obtain ⟨r, h4, h5, -⟩ := hrow i f hi
      exact hcl i r h4 j u (by rw [h5]; exact hj)
  · obtain ⟨i, hi, rfl⟩ := List.mem_iff_getElem.1 hf
    obtain ⟨r, -, -, h6⟩ := hrow i _ (List.getElem?_eq_getElem hi)
    exact h6
def boolR (r : List Value) : Prop := ∃ (b : Bool), r = [.bool b] ∧ True
theorem sls_bool {w : World} {v : Value} {zs : List (List Value)} (h : Sls w 1 boolR v zs) (hn : zs.length ≤ 1099511627776) : ∃ B : List Bool, B.length = zs.length ∧ Recs boK w v B := by
  obtain ⟨hr, -, a, cap, rfl, hc, -, h3⟩ := h
  obtain ⟨L, hL, hrow⟩ := list_build zs.length (fun i (b : Bool) => ∃ r, zs[i]? = some r ∧ r = boK.cells b) (fun i hi => by
    obtain ⟨-, b, e, -⟩ := hr _ (List.getElem_mem hi)
    exact ⟨b, _, List.getElem?_eq_getElem hi, e⟩)
  refine ⟨L, hL, ⟨by omega, a, cap, by rw [hL], by omega, ?_⟩⟩
  rcases h3 with h3 | ⟨b, off, rfl, hb, hcl⟩
  · exact .inl (List.eq_nil_of_length_eq_zero (by rw [hL, h3]; rfl))
  · refine .inr ⟨b, off, rfl, hb, fun i f hi j u hj => ?_⟩
    obtain ⟨r, h4, h5⟩ := hrow i f hi
    exact hcl i r h4 j u (by rw [h5]; exact hj)
theorem fillL_in {a b c : WinP} {o x0 y0 x1 y1 : Int} {f : FrP} (h : f ∈ fillL a b c o x0 y0 x1 y1) : hasP x0 y0 x1 y1 f.x f.y ∧ triHas a b c f.x f.y := by
  unfold fillL fillTo at h
  obtain ⟨s, hs, hf⟩ := List.mem_flatMap.1 h
  obtain ⟨⟨h1, h2, h3, h4, h5⟩, hr, -, h6⟩ := spans_mem hs
  unfold fillRow at hf
  obtain ⟨x, hx, rfl⟩ := List.mem_map.1 hf
  obtain ⟨h7, h8⟩ := rng_mem.1 hx
  exact ⟨⟨hr, by simp only [frAt]; omega⟩, h6 x h7 h8⟩
theorem fillF_in {L : List WinP} {k : LookP} {x0 y0 x1 y1 : Int} {f : FrP} : ∀ j, f ∈ fillF L k x0 y0 x1 y1 j → hasP x0 y0 x1 y1 f.x f.y
  | 0, h => by cases h
  | j + 1, h => by
    rcases List.mem_append.1 h with h | h
    · exact fillF_in j h
    · exact (fillL_in h).1
theorem faceF_in {L : List WinP} {k : LookP} {x0 y0 x1 y1 : Int} {f : FrP} (h : f ∈ faceF L k x0 y0 x1 y1) : hasP x0 y0 x1 y1 f.x f.y := fillF_in _ h
end Go.Proofs.YtciooaihobnifaaGreat
