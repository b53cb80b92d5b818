/- SlopeSame: whatever the input, the law returns true and leaves its arguments as they read. No condition. -/
import Derived.Test.YtamfjfnceeagiaaSlopeL
import Derived.Test.YtamfjfnceeagiaaESlopeSame
namespace Go.Proofs.Ytamfjfnceeagiaa
set_option linter.unusedVariables false
set_option linter.unusedSimpArgs false
open Go.RowKit
theorem SlopeSame_all : SlopeSame_stmt := by
  intro aX aY aZ aC0 aC1 aC2 aC3 bX bY bZ bC0 bC1 bC2 bC3 cX cY cZ cC0 cC1 cC2 cC3 f u k w ha hb
  let a : WinP := ⟨aX, aY, aZ, aC0, aC1, aC2, aC3⟩
  let b : WinP := ⟨bX, bY, bZ, bC0, bC1, bC2, bC3⟩
  let c : WinP := ⟨cX, cY, cZ, cC0, cC1, cC2, cC3⟩
  by_cases h : mayF a b c f u
  · exact same21_in a b c f u k h hb.1 hb.2 w
  · exact same21_no a b c f u k h w
theorem SlopeSame_holds : Rows.SlopeSameSaid := SlopeSame_end SlopeSame_all
end Go.Proofs.Ytamfjfnceeagiaa
