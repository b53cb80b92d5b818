/- SlopeDeeper: whatever the input, the law returns true and leaves its arguments as they read. No condition. -/
import Derived.Test.YtamfjfnceeagiaaSlopeN
import Derived.Test.YtamfjfnceeagiaaESlopeDeeper
namespace Go.Proofs.Ytamfjfnceeagiaa
set_option linter.unusedVariables false
set_option linter.unusedSimpArgs false
open Go.RowKit
theorem SlopeDeeper_all : SlopeDeeper_stmt := by
  intro aX aY aZ aC0 aC1 aC2 aC3 bX bY bZ bC0 bC1 bC2 bC3 cX cY cZ cC0 cC1 cC2 cC3 f u x y k w ha hb hk
  let a : WinP := ⟨aX, aY, aZ, aC0, aC1, aC2, aC3⟩
  let b : WinP := ⟨bX, bY, bZ, bC0, bC1, bC2, bC3⟩
  let c : WinP := ⟨cX, cY, cZ, cC0, cC1, cC2, cC3⟩
  by_cases h : mayF a b c f u
  · by_cases h2 : mayF (deepW a k) (deepW b k) (deepW c k) f u
    · exact deeper21_in a b c f u x y k h hk.1 hk.2 h2 w
    · exact deeper21_may2 a b c f u x y k h hk.1 hk.2 h2 w
  · exact deeper21_may a b c f u x y k h w
theorem SlopeDeeper_holds : Rows.SlopeDeeperSaid := SlopeDeeper_end SlopeDeeper_all
end Go.Proofs.Ytamfjfnceeagiaa
