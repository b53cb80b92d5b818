/- Parts of the proof of FaceLines, laid together. Conditions: at each. -/
import Derived.Test.YtbkmgngeahmefaaGreatSFaceLines05
import Derived.Test.YtbkmgngeahmefaaGreatSFaceLines13
set_option linter.unusedVariables false
set_option linter.unusedSimpArgs false
namespace Go.Proofs.YtbkmgngeahmefaaGreat
open Go.RowKit
theorem info_fr : (Tryz.prog.info? 76).map (fun i => (i.zero, i.size, i.bytes)) = some (some (.agg #[.int .i64 0, .int .i64 0, .int .i64 0, .int .i64 0, .int .i64 0, .int .i64 0, .int .i64 0, .int .i64 0]), 8, 64) := by kernel_rfl
set_option maxHeartbeats 4000000 in
theorem same_frs {w : World} {a b : Value} {L : List FrP} (ha : Recs frK w a L) (hb : Recs frK w b L) : Calls Tryz.prog 15 #[a, b] w (Ret (.bool true) w) := by
  obtain ⟨hl, a1, cap1, rfl, hcap1, h1⟩ := ha
  obtain ⟨-, a2, cap2, rfl, hcap2, h2⟩ := hb
  go_enter Tryz.func15, Tryz.ntmps15
  go_wp2
  go_loopw [5] (fun i wr => ∃ (k : Nat) (X : Xt), k ≤ L.length ∧ i = .int .i64 k ∧ wr = w.ext X)
    (fun i _ => L.length - (intOf i).toNat)
  case atStart => exact ⟨0, ⟨#[], w.drawn⟩, by omega, rfl, (show w = w.ext ⟨#[], w.drawn⟩ by simp [World.ext])⟩
  case round =>
    obtain ⟨k, X, hk, rfl, rfl⟩ := hrel
    by_cases hlt : k < L.length
    · rcases h1 with rfl | ⟨b1, off1, rfl, hb1, hc1⟩
      · simp at hlt
      rcases h2 with rfl | ⟨b2, off2, rfl, hb2, hc2⟩
      · simp at hlt
      have hf : L[k]? = some L[k] := by simp [hlt]
      have d0 : w.cell? ⟨b1, off1 + k * 8, none⟩ = _ := hc1 k L[k] hf 0 _ rfl
      have d1 : w.cell? ⟨b1, off1 + k * 8 + 1, none⟩ = _ := hc1 k L[k] hf 1 _ rfl
      have d2 : w.cell? ⟨b1, off1 + k * 8 + 2, none⟩ = _ := hc1 k L[k] hf 2 _ rfl
      have d3 : w.cell? ⟨b1, off1 + k * 8 + 3, none⟩ = _ := hc1 k L[k] hf 3 _ rfl
      have d4 : w.cell? ⟨b1, off1 + k * 8 + 4, none⟩ = _ := hc1 k L[k] hf 4 _ rfl
      have d5 : w.cell? ⟨b1, off1 + k * 8 + 5, none⟩ = _ := hc1 k L[k] hf 5 _ rfl
      have d6 : w.cell? ⟨b1, off1 + k * 8 + 6, none⟩ = _ := hc1 k L[k] hf 6 _ rfl
      have d7 : w.cell? ⟨b1, off1 + k * 8 + 7, none⟩ = _ := hc1 k L[k] hf 7 _ rfl
      have e0 : w.cell? ⟨b2, off2 + k * 8, none⟩ = _ := hc2 k L[k] hf 0 _ rfl
      have e1 : w.cell? ⟨b2, off2 + k * 8 + 1, none⟩ = _ := hc2 k L[k] hf 1 _ rfl
      have e2 : w.cell? ⟨b2, off2 + k * 8 + 2, none⟩ = _ := hc2 k L[k] hf 2 _ rfl
      have e3 : w.cell? ⟨b2, off2 + k * 8 + 3, none⟩ = _ := hc2 k L[k] hf 3 _ rfl
      have e4 : w.cell? ⟨b2, off2 + k * 8 + 4, none⟩ = _ := hc2 k L[k] hf 4 _ rfl
      have e5 : w.cell? ⟨b2, off2 + k * 8 + 5, none⟩ = _ := hc2 k L[k] hf 5 _ rfl
      have e6 : w.cell? ⟨b2, off2 + k * 8 + 6, none⟩ = _ := hc2 k L[k] hf 6 _ rfl
      have e7 : w.cell? ⟨b2, off2 + k * 8 + 7, none⟩ = _ := hc2 k L[k] hf 7 _ rfl
      generalize L[k] = s at *
      clear hc1 hc2 hf
      go_wp2
      refine wp_region_ext (by kernel_rfl) (by kernel_rfl) ?_
      repeat (go_big_quiet_step ((fail)))
      refine wpQuiet_nil ?_
      intro _ hw_ext
      obtain ⟨Y, hw_ext⟩ := hw_ext
      subst hw_ext
      go_wp2
      go_roundw
      case rel => exact ⟨k + 1, _, by omega, by go_num, World.ext_ext⟩
      case measure => simp [intOf]; omega
    · go_wp2
      go_ret
      exact Ret.of (by exact bl_)
def srR {α : Type} (K : RecK α) (L : List α) : SR Grows := ⟨fun v w => Recs K w v L, fun v w w' h ⟨X, e⟩ => by subst e; exact h.ext X, fun v => ∃ a cap, v = .slice a L.length cap, .slice none L.length 0, ⟨_, _, rfl⟩, fun v w ⟨_, a, cap, h, _⟩ => ⟨a, cap, h⟩⟩
end Go.Proofs.YtbkmgngeahmefaaGreat
