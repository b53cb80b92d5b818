/- The ends of the laws: from the plain statement of each ('.. returns true, over typed values') to its given row; written by a program of mine (gen_law.py). No condition. -/
import Derived.Test.YtciooaihobnifaaGreatOpenZ
namespace Go.Proofs.YtciooaihobnifaaGreat
set_option linter.unusedVariables false
set_option linter.unusedSimpArgs false
set_option maxRecDepth 100000
open Go.RowKit Go.ChangeShapes Go.WideShapes
def FaceCulls_stmt : Prop := ∀ (aL : Value) (aE : Value) (aKWidth : Int) (aKSoft : Bool) (aKDashed : Bool) (aKDashPattern : Int) (aKDashRepeat : Int) (aKDashCount : Int) (aKSize : Int) (aKKind : Int) (aKFront : Int) (aKBack : Int) (aKCcw : Bool) (aKCull : Int) (aKOffset : Bool) (aKFactor : Int) (aKUnits : Int) (aRX0 : Int) (aRY0 : Int) (aRX1 : Int) (aRY1 : Int) (w : World), ((∃ zaL, Sls w 7 (fun r => ∃ (eaLX : Int) (eaLY : Int) (eaLZ : Int) (eaLC0 : Int) (eaLC1 : Int) (eaLC2 : Int) (eaLC3 : Int), r = [.int .i64 eaLX, .int .i64 eaLY, .int .i64 eaLZ, .int .i64 eaLC0, .int .i64 eaLC1, .int .i64 eaLC2, .int .i64 eaLC3] ∧ (-9223372036854775808 ≤ eaLX ∧ eaLX ≤ 9223372036854775807) ∧ (-9223372036854775808 ≤ eaLY ∧ eaLY ≤ 9223372036854775807) ∧ (-9223372036854775808 ≤ eaLZ ∧ eaLZ ≤ 9223372036854775807) ∧ (-9223372036854775808 ≤ eaLC0 ∧ eaLC0 ≤ 9223372036854775807) ∧ (-9223372036854775808 ≤ eaLC1 ∧ eaLC1 ≤ 9223372036854775807) ∧ (-9223372036854775808 ≤ eaLC2 ∧ eaLC2 ≤ 9223372036854775807) ∧ (-9223372036854775808 ≤ eaLC3 ∧ eaLC3 ≤ 9223372036854775807)) aL zaL) ∧ (∃ zaE, Sls w 1 (fun r => ∃ (eaE : Bool), r = [.bool eaE] ∧ True) aE zaE) ∧ (-9223372036854775808 ≤ aKWidth ∧ aKWidth ≤ 9223372036854775807) ∧ (-9223372036854775808 ≤ aKDashPattern ∧ aKDashPattern ≤ 9223372036854775807) ∧ (-9223372036854775808 ≤ aKDashRepeat ∧ aKDashRepeat ≤ 9223372036854775807) ∧ (-9223372036854775808 ≤ aKDashCount ∧ aKDashCount ≤ 9223372036854775807) ∧ (-9223372036854775808 ≤ aKSize ∧ aKSize ≤ 9223372036854775807) ∧ (-9223372036854775808 ≤ aKKind ∧ aKKind ≤ 9223372036854775807) ∧ (-9223372036854775808 ≤ aKFront ∧ aKFront ≤ 9223372036854775807) ∧ (-9223372036854775808 ≤ aKBack ∧ aKBack ≤ 9223372036854775807) ∧ (-9223372036854775808 ≤ aKCull ∧ aKCull ≤ 9223372036854775807) ∧ (-9223372036854775808 ≤ aKFactor ∧ aKFactor ≤ 9223372036854775807) ∧ (-9223372036854775808 ≤ aKUnits ∧ aKUnits ≤ 9223372036854775807) ∧ (-9223372036854775808 ≤ aRX0 ∧ aRX0 ≤ 9223372036854775807) ∧ (-9223372036854775808 ≤ aRY0 ∧ aRY0 ≤ 9223372036854775807) ∧ (-9223372036854775808 ≤ aRX1 ∧ aRX1 ≤ 9223372036854775807) ∧ (-9223372036854775808 ≤ aRY1 ∧ aRY1 ≤ 9223372036854775807)) → Calls Tryz.prog 7 #[.agg #[aL, aE, .int .i64 aKWidth, .bool aKSoft, .bool aKDashed, .int .i64 aKDashPattern, .int .i64 aKDashRepeat, .int .i64 aKDashCount, .int .i64 aKSize, .int .i64 aKKind, .int .i64 aKFront, .int .i64 aKBack, .bool aKCcw, .int .i64 aKCull, .bool aKOffset, .int .i64 aKFactor, .int .i64 aKUnits, .int .i64 aRX0, .int .i64 aRY0, .int .i64 aRX1, .int .i64 aRY1]] w (Ret (.bool true) w)
set_option maxRecDepth 100000 in
set_option maxHeartbeats 1000000 in
theorem FaceCulls_end (hw : FaceCulls_stmt) : Rows.FaceCullsSaid :=
  OpenClaim.holds_of_wide 7 Tryz.f7 rfl rfl rfl rfl rfl rfl rfl ⟨rfl, rfl, rfl, rfl, rfl⟩ rfl rfl rfl rfl rfl (by kernel_rfl) Tryz.func7 (by kernel_rfl) (of_decide_eq_true (by kernel_rfl))
    (by unfold Func.isWrapper; rw [if_neg (of_decide_eq_false (by kernel_rfl))]; exact ⟨rfl, rfl⟩)
    (fun os started H enc _ => law_lifted Rows.faceCullsSpec 7 Tryz.f7 (by kernel_rfl) Tryz.func7 rfl rfl
      (fun H ds hl => by
        rw [Tryz.params7] at hl
        obtain ⟨d0, rfl⟩ := list_1 ds hl
        exact ⟨rfl, rfl, rfl⟩) (by kernel_rfl)
      (fun W args h => by
        obtain ⟨H, enc, ds, ps, base, hA, hval, hlt, hfz⟩ := h
        rw [Tryz.params7] at hA hval
        obtain ⟨v0, vs0, d0, ds0, p0, q0, e0, -, -, h0, r0⟩ := trodAll_cons hA
        obtain ⟨e1, -, -⟩ := trodAll_nil r0
        obtain rfl : args = #[v0] := by rw [← Array.toArray_toList (xs := args), e0, e1]
        obtain ⟨aL, aE, aKWidth, aKSoft, aKDashed, aKDashPattern, aKDashRepeat, aKDashCount, aKSize, aKKind, aKFront, aKBack, aKCcw, aKCull, aKOffset, aKFactor, aKUnits, aRX0, aRY0, aRX1, aRY1, rfl, f0⟩ := arg_rastrumlaw22_Face (hval 0 _ v0 rfl rfl) h0
        exact hw aL aE aKWidth aKSoft aKDashed aKDashPattern aKDashRepeat aKDashCount aKSize aKKind aKFront aKBack aKCcw aKCull aKOffset aKFactor aKUnits aRX0 aRY0 aRX1 aRY1 W f0)
      os started H enc (ChangeSpec.witness6 (enc := enc) (C := Tryz.checked) false ⟨#[], #[.agg #[.slice none 0 0, .slice none 0 0, .int .i64 0, .bool false, .bool false, .int .i64 0, .int .i64 0, .int .i64 0, .int .i64 0, .int .i64 0, .int .i64 0, .int .i64 0, .bool false, .int .i64 0, .bool false, .int .i64 0, .int .i64 0, .int .i64 0, .int .i64 0, .int .i64 0, .int .i64 0]], []⟩ 8 (by kernel_rfl) (by kernel_rfl) (by kernel_rfl) (by kernel_rfl)))
end Go.Proofs.YtciooaihobnifaaGreat
