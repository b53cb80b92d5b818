/- The ends of the laws: from the plain statement of each ('.. returns true, over typed values') to its given row; written by a program of mine (gen_law.py). No condition. -/
import Derived.Test.YtamfjfnceeagiaaOpen
namespace Go.Proofs.Ytamfjfnceeagiaa
set_option linter.unusedVariables false
set_option linter.unusedSimpArgs false
set_option maxRecDepth 100000
open Go.RowKit Go.ChangeShapes Go.WideShapes
def SlopeDeeper_stmt : Prop := ∀ (aAX : Int) (aAY : Int) (aAZ : Int) (aAC0 : Int) (aAC1 : Int) (aAC2 : Int) (aAC3 : Int) (aBX : Int) (aBY : Int) (aBZ : Int) (aBC0 : Int) (aBC1 : Int) (aBC2 : Int) (aBC3 : Int) (aCX : Int) (aCY : Int) (aCZ : Int) (aCC0 : Int) (aCC1 : Int) (aCC2 : Int) (aCC3 : Int) (aFactor : Int) (aUnits : Int) (b0 : Int) (b1 : Int) (c : Int) (w : World), ((-9223372036854775808 ≤ aAX ∧ aAX ≤ 9223372036854775807) ∧ (-9223372036854775808 ≤ aAY ∧ aAY ≤ 9223372036854775807) ∧ (-9223372036854775808 ≤ aAZ ∧ aAZ ≤ 9223372036854775807) ∧ (-9223372036854775808 ≤ aAC0 ∧ aAC0 ≤ 9223372036854775807) ∧ (-9223372036854775808 ≤ aAC1 ∧ aAC1 ≤ 9223372036854775807) ∧ (-9223372036854775808 ≤ aAC2 ∧ aAC2 ≤ 9223372036854775807) ∧ (-9223372036854775808 ≤ aAC3 ∧ aAC3 ≤ 9223372036854775807) ∧ (-9223372036854775808 ≤ aBX ∧ aBX ≤ 9223372036854775807) ∧ (-9223372036854775808 ≤ aBY ∧ aBY ≤ 9223372036854775807) ∧ (-9223372036854775808 ≤ aBZ ∧ aBZ ≤ 9223372036854775807) ∧ (-9223372036854775808 ≤ aBC0 ∧ aBC0 ≤ 9223372036854775807) ∧ (-9223372036854775808 ≤ aBC1 ∧ aBC1 ≤ 9223372036854775807) ∧ (-9223372036854775808 ≤ aBC2 ∧ aBC2 ≤ 9223372036854775807) ∧ (-9223372036854775808 ≤ aBC3 ∧ aBC3 ≤ 9223372036854775807) ∧ (-9223372036854775808 ≤ aCX ∧ aCX ≤ 9223372036854775807) ∧ (-9223372036854775808 ≤ aCY ∧ aCY ≤ 9223372036854775807) ∧ (-9223372036854775808 ≤ aCZ ∧ aCZ ≤ 9223372036854775807) ∧ (-9223372036854775808 ≤ aCC0 ∧ aCC0 ≤ 9223372036854775807) ∧ (-9223372036854775808 ≤ aCC1 ∧ aCC1 ≤ 9223372036854775807) ∧ (-9223372036854775808 ≤ aCC2 ∧ aCC2 ≤ 9223372036854775807) ∧ (-9223372036854775808 ≤ aCC3 ∧ aCC3 ≤ 9223372036854775807) ∧ (-9223372036854775808 ≤ aFactor ∧ aFactor ≤ 9223372036854775807) ∧ (-9223372036854775808 ≤ aUnits ∧ aUnits ≤ 9223372036854775807)) → ((-9223372036854775808 ≤ b0 ∧ b0 ≤ 9223372036854775807) ∧ (-9223372036854775808 ≤ b1 ∧ b1 ≤ 9223372036854775807)) → ((0 ≤ c ∧ c ≤ 65535)) → Calls Try.prog 5 #[.agg #[.int .i64 aAX, .int .i64 aAY, .int .i64 aAZ, .int .i64 aAC0, .int .i64 aAC1, .int .i64 aAC2, .int .i64 aAC3, .int .i64 aBX, .int .i64 aBY, .int .i64 aBZ, .int .i64 aBC0, .int .i64 aBC1, .int .i64 aBC2, .int .i64 aBC3, .int .i64 aCX, .int .i64 aCY, .int .i64 aCZ, .int .i64 aCC0, .int .i64 aCC1, .int .i64 aCC2, .int .i64 aCC3, .int .i64 aFactor, .int .i64 aUnits], .agg #[.int .i64 b0, .int .i64 b1], .int .u16 c] w (Ret (.bool true) w)
set_option maxRecDepth 100000 in
set_option maxHeartbeats 1000000 in
theorem SlopeDeeper_end (hw : SlopeDeeper_stmt) : Rows.SlopeDeeperSaid :=
  OpenClaim.holds_of_wide 5 Try.f5 rfl rfl rfl rfl rfl rfl rfl ⟨rfl, rfl, rfl, rfl, rfl⟩ rfl rfl rfl rfl rfl (by kernel_rfl) Try.func5 (by kernel_rfl) (of_decide_eq_true (by kernel_rfl))
    (by unfold Func.isWrapper; rw [if_neg (of_decide_eq_false (by kernel_rfl))]; exact ⟨rfl, rfl⟩)
    (fun os started H enc _ => law_lifted Rows.slopeDeeperSpec 5 Try.f5 (by kernel_rfl) Try.func5 rfl rfl
      (fun H ds hl => by
        rw [Try.params5] at hl
        obtain ⟨d0, d1, d2, rfl⟩ := list_3 ds hl
        exact ⟨rfl, rfl, rfl⟩) (by kernel_rfl)
      (fun W args h => by
        obtain ⟨H, enc, ds, ps, base, hA, hval, hlt, hfz⟩ := h
        rw [Try.params5] at hA hval
        obtain ⟨v0, vs0, d0, ds0, p0, q0, e0, -, -, h0, r0⟩ := trodAll_cons hA
        obtain ⟨v1, vs1, d1, ds1, p1, q1, e1, -, -, h1, r1⟩ := trodAll_cons r0
        obtain ⟨v2, vs2, d2, ds2, p2, q2, e2, -, -, h2, r2⟩ := trodAll_cons r1
        obtain ⟨e3, -, -⟩ := trodAll_nil r2
        obtain rfl : args = #[v0, v1, v2] := by rw [← Array.toArray_toList (xs := args), e0, e1, e2, e3]
        obtain ⟨aAX, aAY, aAZ, aAC0, aAC1, aAC2, aAC3, aBX, aBY, aBZ, aBC0, aBC1, aBC2, aBC3, aCX, aCY, aCZ, aCC0, aCC1, aCC2, aCC3, aFactor, aUnits, rfl, f0⟩ := arg_rastrumlaw21_Face (hval 0 _ v0 rfl rfl) h0
        obtain ⟨b0, b1, rfl, f1⟩ := arg_A2_int (hval 1 _ v1 rfl rfl) h1
        obtain ⟨c, rfl, f2⟩ := arg_uint16 (hval 2 _ v2 rfl rfl) h2
        exact hw aAX aAY aAZ aAC0 aAC1 aAC2 aAC3 aBX aBY aBZ aBC0 aBC1 aBC2 aBC3 aCX aCY aCZ aCC0 aCC1 aCC2 aCC3 aFactor aUnits b0 b1 c W f0 f1 f2)
      os started H enc (ChangeSpec.witness6 (enc := enc) (C := Try.checked) false ⟨#[], #[.agg #[.int .i64 0, .int .i64 0, .int .i64 0, .int .i64 0, .int .i64 0, .int .i64 0, .int .i64 0, .int .i64 0, .int .i64 0, .int .i64 0, .int .i64 0, .int .i64 0, .int .i64 0, .int .i64 0, .int .i64 0, .int .i64 0, .int .i64 0, .int .i64 0, .int .i64 0, .int .i64 0, .int .i64 0, .int .i64 0, .int .i64 0], .agg #[.int .i64 0, .int .i64 0], .int .u16 0], []⟩ 8 (by kernel_rfl) (by kernel_rfl) (by kernel_rfl) (by kernel_rfl)))
end Go.Proofs.Ytamfjfnceeagiaa
