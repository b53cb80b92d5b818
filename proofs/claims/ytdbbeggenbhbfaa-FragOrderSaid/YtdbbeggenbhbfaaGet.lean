/- The walks of layer 23 (store): what a pixel has, in one form for all pixels. Conditions: the image may be. -/
import Derived.Test.YtdbbeggenbhbfaaImg
namespace Go.Proofs.Ytdbbeggenbhbfaa
set_option linter.unusedVariables false
set_option linter.unusedSimpArgs false
open Go.RowKit
/-- What a pixel has, as far as it is got. -/
def gotC (f : Int → Int) (W H : Int) (C : List Int) (x y : Int) : Int := if inB W H x y then f (elt C (y * W + x).toNat) else 0
abbrev gotV (W H : Int) (C Z : List Int) (x y : Int) : Value := .tuple #[C4 (gotC up0 W H C x y) (gotC up1 W H C x y) (gotC up2 W H C x y) (gotC up3 W H C x y), .int .i64 (gotC id W H Z x y), .bool (decide (inB W H x y))]
theorem get_is (W H : Int) (c z : Value) (C Z : List Int) (x y : Int) (w : World) (hc : Rd w c C) (hz : Rd w z Z) (h : ImOk W H C Z) (bx0 : -9223372036854775808 ≤ x) (bx1 : x ≤ 9223372036854775807) (by0 : -9223372036854775808 ≤ y) (by1 : y ≤ 9223372036854775807) :
    Calls Try.prog 37 #[Im W H c z, .int .i64 x, .int .i64 y] w (Ret (gotV W H C Z x y) w) := by
  unfold gotV gotC
  by_cases hi : inB W H x y
  · simp only [if_pos hi, id, hi, decide_true]; exact get_in W H c z C Z x y w hc hz h hi
  · simp only [if_neg hi, hi, decide_false]; exact get_out W H c z C Z x y w hc hz h bx0 bx1 by0 by1 hi
theorem rget_is (W H : Int) (c z : Value) (C Z : List Int) (x y : Int) (w : World) (hc : Rd w c C) (hz : Rd w z Z) (h : ImOk W H C Z) :
    Calls Try.prog 38 #[Im W H c z, .int .i64 x, .int .i64 y] w (Ret (gotV W H C Z x y) w) := by
  unfold gotV gotC
  by_cases hi : inB W H x y
  · simp only [if_pos hi, id, hi, decide_true]; exact rget_in W H c z C Z x y w hc hz h hi
  · simp only [if_neg hi, hi, decide_false]; exact rget_out W H c z C Z x y w hc hz h hi
end Go.Proofs.Ytdbbeggenbhbfaa
