/- Parts of the proof of FaceLines, laid together. Conditions: at each. -/
import Derived.Test.YtbkmgngeahmefaaGreatSFaceLines47
import Derived.Test.YtbkmgngeahmefaaGreatSFaceLines48
set_option linter.unusedVariables false
set_option linter.unusedSimpArgs false
section
namespace Go.Proofs.YtbkmgngeahmefaaGreat
open Go.RowKit
def winR (r : List Value) : Prop := ∃ (x y z c0 c1 c2 c3 : Int), r = [.int .i64 x, .int .i64 y, .int .i64 z, .int .i64 c0, .int .i64 c1, .int .i64 c2, .int .i64 c3] ∧ (-9223372036854775808 ≤ x ∧ x ≤ 9223372036854775807) ∧ (-9223372036854775808 ≤ y ∧ y ≤ 9223372036854775807) ∧ (-9223372036854775808 ≤ z ∧ z ≤ 9223372036854775807) ∧ (-9223372036854775808 ≤ c0 ∧ c0 ≤ 9223372036854775807) ∧ (-9223372036854775808 ≤ c1 ∧ c1 ≤ 9223372036854775807) ∧ (-9223372036854775808 ≤ c2 ∧ c2 ≤ 9223372036854775807) ∧ (-9223372036854775808 ≤ c3 ∧ c3 ≤ 9223372036854775807)
theorem sls_form {w : World} {k : Nat} {R : List Value → Prop} {v : Value} {zs : List (List Value)} (h : Sls w k R v zs) : ∃ a cap, v = .slice a zs.length cap ∧ zs.length ≤ maxLen := by
  obtain ⟨-, h1, a, cap, h2, -⟩ := h
  exact ⟨a, cap, h2, h1⟩
def boolR (r : List Value) : Prop := ∃ (b : Bool), r = [.bool b] ∧ True
end Go.Proofs.YtbkmgngeahmefaaGreat
end
section
namespace Go.Proofs.YtbkmgngeahmefaaGreat
set_option maxRecDepth 100000
open Go.RowKit Go.ChangeShapes Go.WideShapes
def FaceLines_stmt : Prop := ∀ (aL : Value) (aE : Value) (aKWidth : Int) (aKSoft : Bool) (aKDashed : Bool) (aKDashPattern : Int) (aKDashRepeat : Int) (aKDashCount : Int) (aKSize : Int) (aKKind : Int) (aKFront : Int) (aKBack : Int) (aKCcw : Bool) (aKCull : Int) (aKOffset : Bool) (aKFactor : Int) (aKUnits : Int) (aRX0 : Int) (aRY0 : Int) (aRX1 : Int) (aRY1 : Int) (bX : Int) (bY : Int) (bZ : Int) (bC0 : Int) (bC1 : Int) (bC2 : Int) (bC3 : Int) (cX : Int) (cY : Int) (cZ : Int) (cC0 : Int) (cC1 : Int) (cC2 : Int) (cC3 : Int) (w : World), ((∃ zaL, Sls w 7 (fun r => ∃ (eaLX : Int) (eaLY : Int) (eaLZ : Int) (eaLC0 : Int) (eaLC1 : Int) (eaLC2 : Int) (eaLC3 : Int), r = [.int .i64 eaLX, .int .i64 eaLY, .int .i64 eaLZ, .int .i64 eaLC0, .int .i64 eaLC1, .int .i64 eaLC2, .int .i64 eaLC3] ∧ (-9223372036854775808 ≤ eaLX ∧ eaLX ≤ 9223372036854775807) ∧ (-9223372036854775808 ≤ eaLY ∧ eaLY ≤ 9223372036854775807) ∧ (-9223372036854775808 ≤ eaLZ ∧ eaLZ ≤ 9223372036854775807) ∧ (-9223372036854775808 ≤ eaLC0 ∧ eaLC0 ≤ 9223372036854775807) ∧ (-9223372036854775808 ≤ eaLC1 ∧ eaLC1 ≤ 9223372036854775807) ∧ (-9223372036854775808 ≤ eaLC2 ∧ eaLC2 ≤ 9223372036854775807) ∧ (-9223372036854775808 ≤ eaLC3 ∧ eaLC3 ≤ 9223372036854775807)) aL zaL) ∧ (∃ zaE, Sls w 1 (fun r => ∃ (eaE : Bool), r = [.bool eaE] ∧ True) aE zaE) ∧ (-9223372036854775808 ≤ aKWidth ∧ aKWidth ≤ 9223372036854775807) ∧ (-9223372036854775808 ≤ aKDashPattern ∧ aKDashPattern ≤ 9223372036854775807) ∧ (-9223372036854775808 ≤ aKDashRepeat ∧ aKDashRepeat ≤ 9223372036854775807) ∧ (-9223372036854775808 ≤ aKDashCount ∧ aKDashCount ≤ 9223372036854775807) ∧ (-9223372036854775808 ≤ aKSize ∧ aKSize ≤ 9223372036854775807) ∧ (-9223372036854775808 ≤ aKKind ∧ aKKind ≤ 9223372036854775807) ∧ (-9223372036854775808 ≤ aKFront ∧ aKFront ≤ 9223372036854775807) ∧ (-9223372036854775808 ≤ aKBack ∧ aKBack ≤ 9223372036854775807) ∧ (-9223372036854775808 ≤ aKCull ∧ aKCull ≤ 9223372036854775807) ∧ (-9223372036854775808 ≤ aKFactor ∧ aKFactor ≤ 9223372036854775807) ∧ (-9223372036854775808 ≤ aKUnits ∧ aKUnits ≤ 9223372036854775807) ∧ (-9223372036854775808 ≤ aRX0 ∧ aRX0 ≤ 9223372036854775807) ∧ (-9223372036854775808 ≤ aRY0 ∧ aRY0 ≤ 9223372036854775807) ∧ (-9223372036854775808 ≤ aRX1 ∧ aRX1 ≤ 9223372036854775807) ∧ (-9223372036854775808 ≤ aRY1 ∧ aRY1 ≤ 9223372036854775807)) → ((-9223372036854775808 ≤ bX ∧ bX ≤ 9223372036854775807) ∧ (-9223372036854775808 ≤ bY ∧ bY ≤ 9223372036854775807) ∧ (-9223372036854775808 ≤ bZ ∧ bZ ≤ 9223372036854775807) ∧ (-9223372036854775808 ≤ bC0 ∧ bC0 ≤ 9223372036854775807) ∧ (-9223372036854775808 ≤ bC1 ∧ bC1 ≤ 9223372036854775807) ∧ (-9223372036854775808 ≤ bC2 ∧ bC2 ≤ 9223372036854775807) ∧ (-9223372036854775808 ≤ bC3 ∧ bC3 ≤ 9223372036854775807)) → ((-9223372036854775808 ≤ cX ∧ cX ≤ 9223372036854775807) ∧ (-9223372036854775808 ≤ cY ∧ cY ≤ 9223372036854775807) ∧ (-9223372036854775808 ≤ cZ ∧ cZ ≤ 9223372036854775807) ∧ (-9223372036854775808 ≤ cC0 ∧ cC0 ≤ 9223372036854775807) ∧ (-9223372036854775808 ≤ cC1 ∧ cC1 ≤ 9223372036854775807) ∧ (-9223372036854775808 ≤ cC2 ∧ cC2 ≤ 9223372036854775807) ∧ (-9223372036854775808 ≤ cC3 ∧ cC3 ≤ 9223372036854775807)) → Calls Tryz.prog 4 #[.agg #[aL, aE, .int .i64 aKWidth, .bool aKSoft, .bool aKDashed, .int .i64 aKDashPattern, .int .i64 aKDashRepeat, .int .i64 aKDashCount, .int .i64 aKSize, .int .i64 aKKind, .int .i64 aKFront, .int .i64 aKBack, .bool aKCcw, .int .i64 aKCull, .bool aKOffset, .int .i64 aKFactor, .int .i64 aKUnits, .int .i64 aRX0, .int .i64 aRY0, .int .i64 aRX1, .int .i64 aRY1], .agg #[.int .i64 bX, .int .i64 bY, .int .i64 bZ, .int .i64 bC0, .int .i64 bC1, .int .i64 bC2, .int .i64 bC3], .agg #[.int .i64 cX, .int .i64 cY, .int .i64 cZ, .int .i64 cC0, .int .i64 cC1, .int .i64 cC2, .int .i64 cC3]] w (Ret (.bool true) w)
set_option maxRecDepth 100000 in
set_option maxHeartbeats 1000000 in
theorem FaceLines_end (hw : FaceLines_stmt) : Rows.FaceLinesSaid :=
  OpenClaim.holds_of_wide 4 Tryz.f4 rfl rfl rfl rfl rfl rfl rfl ⟨rfl, rfl, rfl, rfl, rfl⟩ rfl rfl rfl rfl rfl (by kernel_rfl) Tryz.func4 (by kernel_rfl) (of_decide_eq_true (by kernel_rfl))
    (by unfold Func.isWrapper; rw [if_neg (of_decide_eq_false (by kernel_rfl))]; exact ⟨rfl, rfl⟩)
    (fun os started H enc _ => law_lifted Rows.faceLinesSpec 4 Tryz.f4 (by kernel_rfl) Tryz.func4 rfl rfl
      (fun H ds hl => by
        rw [Tryz.params4] at hl
        obtain ⟨d0, d1, d2, rfl⟩ := list_3 ds hl
        exact ⟨rfl, rfl, rfl⟩) (by kernel_rfl)
      (fun W args h => by
        obtain ⟨H, enc, ds, ps, base, hA, hval, hlt, hfz⟩ := h
        rw [Tryz.params4] at hA hval
        obtain ⟨v0, vs0, d0, ds0, p0, q0, e0, -, -, h0, r0⟩ := trodAll_cons hA
        obtain ⟨v1, vs1, d1, ds1, p1, q1, e1, -, -, h1, r1⟩ := trodAll_cons r0
        obtain ⟨v2, vs2, d2, ds2, p2, q2, e2, -, -, h2, r2⟩ := trodAll_cons r1
        obtain ⟨e3, -, -⟩ := trodAll_nil r2
        obtain rfl : args = #[v0, v1, v2] := by rw [← Array.toArray_toList (xs := args), e0, e1, e2, e3]
        obtain ⟨aL, aE, aKWidth, aKSoft, aKDashed, aKDashPattern, aKDashRepeat, aKDashCount, aKSize, aKKind, aKFront, aKBack, aKCcw, aKCull, aKOffset, aKFactor, aKUnits, aRX0, aRY0, aRX1, aRY1, rfl, f0⟩ := arg_rastrumlaw22_Face (hval 0 _ v0 rfl rfl) h0
        obtain ⟨bX, bY, bZ, bC0, bC1, bC2, bC3, rfl, f1⟩ := arg_Win (hval 1 _ v1 rfl rfl) h1
        obtain ⟨cX, cY, cZ, cC0, cC1, cC2, cC3, rfl, f2⟩ := arg_Win (hval 2 _ v2 rfl rfl) h2
        exact hw aL aE aKWidth aKSoft aKDashed aKDashPattern aKDashRepeat aKDashCount aKSize aKKind aKFront aKBack aKCcw aKCull aKOffset aKFactor aKUnits aRX0 aRY0 aRX1 aRY1 bX bY bZ bC0 bC1 bC2 bC3 cX cY cZ cC0 cC1 cC2 cC3 W f0 f1 f2)
      os started H enc (ChangeSpec.witness6 (enc := enc) (C := Tryz.checked) false ⟨#[], #[.agg #[.slice none 0 0, .slice none 0 0, .int .i64 0, .bool false, .bool false, .int .i64 0, .int .i64 0, .int .i64 0, .int .i64 0, .int .i64 0, .int .i64 0, .int .i64 0, .bool false, .int .i64 0, .bool false, .int .i64 0, .int .i64 0, .int .i64 0, .int .i64 0, .int .i64 0, .int .i64 0], .agg #[.int .i64 0, .int .i64 0, .int .i64 0, .int .i64 0, .int .i64 0, .int .i64 0, .int .i64 0], .agg #[.int .i64 0, .int .i64 0, .int .i64 0, .int .i64 0, .int .i64 0, .int .i64 0, .int .i64 0]], []⟩ 8 (by kernel_rfl) (by kernel_rfl) (by kernel_rfl) (by kernel_rfl)))
end Go.Proofs.YtbkmgngeahmefaaGreat
end
