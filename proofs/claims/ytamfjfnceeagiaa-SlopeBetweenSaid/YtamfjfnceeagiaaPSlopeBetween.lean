/- SlopeBetween: whatever the input, the law returns true and leaves its arguments as they read. No condition. -/
import Derived.Test.YtamfjfnceeagiaaSlopeM
import Derived.Test.YtamfjfnceeagiaaESlopeBetween
namespace Go.Proofs.Ytamfjfnceeagiaa
set_option linter.unusedVariables false
set_option linter.unusedSimpArgs false
open Go.RowKit
theorem SlopeBetween_all : SlopeBetween_stmt := by
  intro aX aY aZ aC0 aC1 aC2 aC3 bX bY bZ bC0 bC1 bC2 bC3 cX cY cZ cC0 cC1 cC2 cC3 f u x y w ha hb
  let a : WinP := ⟨aX, aY, aZ, aC0, aC1, aC2, aC3⟩
  let b : WinP := ⟨bX, bY, bZ, bC0, bC1, bC2, bC3⟩
  let c : WinP := ⟨cX, cY, cZ, cC0, cC1, cC2, cC3⟩
  by_cases h : mayF a b c f u
  · by_cases h2 : hasF a b c x y
    · exact between21_in a b c f u x y h h2 w
    · exact between21_has a b c f u x y h h2 w
  · exact between21_may a b c f u x y h w
theorem SlopeBetween_holds : Rows.SlopeBetweenSaid := SlopeBetween_end SlopeBetween_all
end Go.Proofs.Ytamfjfnceeagiaa
