/- The contract of layer 18's Line (smooth). Conditions: 64 bits; the rectangle is small. -/
import Derived.Test.YtamfjfnceeagiaaSmoH
namespace Go.Proofs.Ytamfjfnceeagiaa
set_option linter.unusedVariables false
set_option linter.unusedSimpArgs false
open Go.RowKit
theorem line_any (a b : WinP) (n x0 y0 x1 y1 : Int) (ha : a.wide) (hb : b.wide) (har : areaP x0 y0 x1 y1 ≤ 1048576) (w : World) : Calls Try.prog 31 #[a.v, b.v, .int .i64 n, R4 x0 y0 x1 y1] w (RLists frK w (smL4 a b n x0 y0 x1 y1)) := by
  by_cases h : smoP a b n
  · by_cases hr : rightP x0 y0 x1 y1
    · by_cases hne : a.x = b.x ∧ a.y = b.y
      · exact line_alike a b n x0 y0 x1 y1 ha hb h hr hne.1 hne.2 w
      · exact line_in a b n x0 y0 x1 y1 ha hb h hr hne (area_nat hr har) w
    · exact line_noR a b n x0 y0 x1 y1 ha hb h hr w
  · exact line_no a b n x0 y0 x1 y1 ha hb h w
end Go.Proofs.Ytamfjfnceeagiaa
