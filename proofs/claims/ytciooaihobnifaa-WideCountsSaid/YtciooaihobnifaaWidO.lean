/- The contracts of layer 17's Line and of the reference's; the law's example, small rectangles. Conditions: 64 bits; the rectangle is small. -/
import Derived.Test.YtciooaihobnifaaWidG
import Derived.Test.YtciooaihobnifaaWidH
import Derived.Test.YtciooaihobnifaaWidM
import Derived.Test.YtciooaihobnifaaWidN
namespace Go.Proofs.Ytciooaihobnifaa
set_option linter.unusedVariables false
set_option linter.unusedSimpArgs false
open Go.RowKit
theorem side_of {x0 y0 x1 y1 : Int} (hr : rightP x0 y0 x1 y1) (har : areaP x0 y0 x1 y1 ≤ 1048576) : ((x1 - x0).toNat + (y1 - y0).toNat) * 64 ≤ 134217728 := by
  unfold areaP at har
  rw [if_pos hr] at har
  unfold rightP at hr
  have a1 : (x1 - x0) * 1 ≤ (x1 - x0) * (y1 - y0) := Int.mul_le_mul_of_nonneg_left (by omega) (by omega)
  have a2 : 1 * (y1 - y0) ≤ (x1 - x0) * (y1 - y0) := Int.mul_le_mul_of_nonneg_right (by omega) (by omega)
  omega
theorem wline_any (a b : WinP) (n : Int) (dd : Bool) (p r c x0 y0 x1 y1 : Int) (ha : a.wide) (hb : b.wide) (hp : w64 p) (hc : w64 c) (har : areaP x0 y0 x1 y1 ≤ 1048576) (w : World) : Calls Try.prog 21 #[a.v, b.v, .int .i64 n, .bool dd, D3 p r c, R4 x0 y0 x1 y1] w (RLine w (wdL a b n dd p r c x0 y0 x1 y1) p r (wdC a b n dd p r c)) := by
  unfold wdL wdC
  by_cases h : lineP a b n p r c
  · by_cases hr : rightP x0 y0 x1 y1
    · rw [if_pos ⟨h, hr⟩, if_pos h]
      cases dd
      · exact wline_in0 a b n p r c x0 y0 x1 y1 ha hb hp hc h hr (side_of hr har) w
      · exact wline_in1 a b n p r c x0 y0 x1 y1 ha hb hp hc h hr (side_of hr har) w
    · rw [if_neg (fun k => hr k.2), if_pos h]
      cases dd
      · exact wline_noR0 a b n p r c x0 y0 x1 y1 ha hb hp hc h hr w
      · exact wline_noR1 a b n p r c x0 y0 x1 y1 ha hb hp hc h hr w
  · rw [if_neg (fun k => h k.1), if_neg h]
    exact wline_no a b n dd p r c x0 y0 x1 y1 ha hb hp hc h w
end Go.Proofs.Ytciooaihobnifaa
