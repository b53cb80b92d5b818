/- Layer 17's law: the document's example, small rectangles. No condition. -/
import Derived.Test.YtciooaihobnifaaWidO
namespace Go.Proofs.Ytciooaihobnifaa
set_option linter.unusedVariables false
set_option linter.unusedSimpArgs false
open Go.RowKit
theorem wide_lit17 {x y : Int} (hx : w64 x) (hy : w64 y) : (⟨x, y, 0, 0, 0, 0, 0⟩ : WinP).wide := by
  have z : w64 0 := by unfold w64; decide
  exact ⟨hx, hy, z, z, z, z, z⟩
theorem small_area17 {x0 y0 x1 y1 k : Int} (hk : 0 ≤ k) : (!decide (rightP x0 y0 x1 y1) || decide (areaP x0 y0 x1 y1 ≤ k)) = decide (areaP x0 y0 x1 y1 ≤ k) := by
  by_cases h : rightP x0 y0 x1 y1
  · simp [h]
  · have : areaP x0 y0 x1 y1 = 0 := if_neg h
    simp [h, this, hk]
theorem awake17_list : wdL ⟨128, 128, 0, 0, 0, 0, 0⟩ ⟨640, 128, 0, 0, 0, 0, 0⟩ 2 false 0 1 0 (-9) (-9) 9 9 = [⟨0, (-1), 0, 0, 0, 0, 0, 64⟩, ⟨0, 0, 0, 0, 0, 0, 0, 64⟩, ⟨1, (-1), 0, 0, 0, 0, 0, 64⟩, ⟨1, 0, 0, 0, 0, 0, 0, 64⟩] := by kernel_rfl
set_option maxRecDepth 100000 in
set_option maxHeartbeats 4000000 in
theorem awake17 (w : World) : Calls Try.prog 20 #[] w (Ret (.bool true) w) := by
  have L := fun w => wline_any ⟨128, 128, 0, 0, 0, 0, 0⟩ ⟨640, 128, 0, 0, 0, 0, 0⟩ 2 false 0 1 0 (-9) (-9) 9 9 (wide_lit17 (by unfold w64; decide) (by unfold w64; decide)) (wide_lit17 (by unfold w64; decide) (by unfold w64; decide)) (by unfold w64; decide) (by unfold w64; decide) (by decide) w
  simp only [awake17_list, show wdC ⟨128, 128, 0, 0, 0, 0, 0⟩ ⟨640, 128, 0, 0, 0, 0, 0⟩ 2 false 0 1 0 = 0 by kernel_rfl] at L
  have HL := Lib.hid L
  have HS := Lib.hid (fun w a b (ha : Recs frK w a [⟨0, (-1), 0, 0, 0, 0, 0, 64⟩, ⟨0, 0, 0, 0, 0, 0, 0, 64⟩, ⟨1, (-1), 0, 0, 0, 0, 0, 64⟩, ⟨1, 0, 0, 0, 0, 0, 0, 64⟩]) (hb : Recs frK w b [⟨0, (-1), 0, 0, 0, 0, 0, 64⟩, ⟨0, 0, 0, 0, 0, 0, 0, 64⟩, ⟨1, (-1), 0, 0, 0, 0, 0, 64⟩, ⟨1, 0, 0, 0, 0, 0, 0, 64⟩]) => same_frs ha hb)
  clear L
  go_enter Try.func20, Try.ntmps20
  go_upto_region 2 with (first | (go_at_call 21; (with_reducible refine (HL.out _).mono ?_); rintro _ w1 ⟨v, rfl, h1, X1, rfl⟩))
  have H1 := Lib.hid h1
  clear h1
  have SB := Lib.hid (fun (w : World) (n : Nat) (T : TypeId) (h : w.heap.size = n) => show Recs frK (w.alloc (.cells #[.int .i64 0, .int .i64 (-1), .int .i64 0, .int .i64 0, .int .i64 0, .int .i64 0, .int .i64 0, .int .i64 64, .int .i64 0, .int .i64 0, .int .i64 0, .int .i64 0, .int .i64 0, .int .i64 0, .int .i64 0, .int .i64 64, .int .i64 1, .int .i64 (-1), .int .i64 0, .int .i64 0, .int .i64 0, .int .i64 0, .int .i64 0, .int .i64 64, .int .i64 1, .int .i64 0, .int .i64 0, .int .i64 0, .int .i64 0, .int .i64 0, .int .i64 0, .int .i64 64] T)) (.slice (some ⟨n, 0, none⟩) 4 4) [⟨0, (-1), 0, 0, 0, 0, 0, 64⟩, ⟨0, 0, 0, 0, 0, 0, 0, 64⟩, ⟨1, (-1), 0, 0, 0, 0, 0, 64⟩, ⟨1, 0, 0, 0, 0, 0, 0, 64⟩] from recs_lit (K := frK) h [⟨0, (-1), 0, 0, 0, 0, 0, 64⟩, ⟨0, 0, 0, 0, 0, 0, 0, 64⟩, ⟨1, (-1), 0, 0, 0, 0, 0, 64⟩, ⟨1, 0, 0, 0, 0, 0, 0, 64⟩] _ rfl _ (by decide))
  go_wp2_with (first | (go_at_call 36; (with_reducible refine (HS.out _ _ _ ((H1.out.alloc _).alloc _) (SB.out _ _ _ (by first | rfl | simp))).mono ?_); rintro _ _ ⟨rfl, X_, rfl⟩))
  go_ret
  exact Ret.of' rfl (by (repeat (first | exact Below.refl _ _ | with_reducible refine Below.drew ?_ | with_reducible refine Below.ext ?_ (by first | exact Nat.le_refl _ | (simp; done) | (simp; omega)) _ | with_reducible refine Below.alloc ?_ (by first | exact Nat.le_refl _ | (simp; done) | (simp; omega)) _ | with_reducible refine Below.setCell ?_ (by first | exact Nat.le_refl _ | (simp; done) | (simp; omega)) _)))
abbrev wlineV (a b : WinP) (n : Int) (dd : Bool) (p r c x0 y0 x1 y1 : Int) : Value := .agg #[.int .i64 a.x, .int .i64 a.y, .int .i64 a.z, .int .i64 a.c0, .int .i64 a.c1, .int .i64 a.c2, .int .i64 a.c3, .int .i64 b.x, .int .i64 b.y, .int .i64 b.z, .int .i64 b.c0, .int .i64 b.c1, .int .i64 b.c2, .int .i64 b.c3, .int .i64 n, .bool dd, .int .i64 p, .int .i64 r, .int .i64 c, .int .i64 x0, .int .i64 y0, .int .i64 x1, .int .i64 y1]
end Go.Proofs.Ytciooaihobnifaa
