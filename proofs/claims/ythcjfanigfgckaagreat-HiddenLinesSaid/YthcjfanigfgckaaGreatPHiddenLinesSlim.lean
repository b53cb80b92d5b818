/- HiddenLines: whatever the input, the law returns true and leaves its arguments as they read. No condition. -/
import Derived.Test.YthcjfanigfgckaaGreatSHidb53
set_option linter.unusedVariables false
set_option linter.unusedSimpArgs false
set_option maxRecDepth 100000
set_option maxHeartbeats 16000000
namespace Go.Proofs.YthcjfanigfgckaaGreat
open Go.RowKit _root_.Go.Proofs.Tryz
instance jh53 : Coe Nat Value := ⟨fun n => .int .i64 n⟩
section
open Go.RowKit Go.ChangeShapes Go.WideShapes
def HiddenLines_stmt : Prop := ∀ (aL : Value) (aSFactor : Int) (aSUnits : Int) (aSCcw : Bool) (aSCull : Int) (aSWidth : Int) (aSLine0 : Int) (aSLine1 : Int) (aSLine2 : Int) (aSLine3 : Int) (aW : Int) (aH : Int) (aFar : Int) (w : World), ((∃ zaL, Sls w 2 (fun r => ∃ (eaLV : Value) (eaLE : Value), r = [eaLV, eaLE] ∧ (∃ zeaLV, Sls w 3 (fun r => ∃ (eeaLV0 : Int) (eeaLV1 : Int) (eeaLV2 : Int), r = [.int .i64 eeaLV0, .int .i64 eeaLV1, .int .i64 eeaLV2] ∧ (-9223372036854775808 ≤ eeaLV0 ∧ eeaLV0 ≤ 9223372036854775807) ∧ (-9223372036854775808 ≤ eeaLV1 ∧ eeaLV1 ≤ 9223372036854775807) ∧ (-9223372036854775808 ≤ eeaLV2 ∧ eeaLV2 ≤ 9223372036854775807)) eaLV zeaLV) ∧ (∃ zeaLE, Sls w 1 (fun r => ∃ (eeaLE : Bool), r = [.bool eeaLE] ∧ True) eaLE zeaLE)) aL zaL) ∧ (-9223372036854775808 ≤ aSFactor ∧ aSFactor ≤ 9223372036854775807) ∧ (-9223372036854775808 ≤ aSUnits ∧ aSUnits ≤ 9223372036854775807) ∧ (-9223372036854775808 ≤ aSCull ∧ aSCull ≤ 9223372036854775807) ∧ (-9223372036854775808 ≤ aSWidth ∧ aSWidth ≤ 9223372036854775807) ∧ (-9223372036854775808 ≤ aSLine0 ∧ aSLine0 ≤ 9223372036854775807) ∧ (-9223372036854775808 ≤ aSLine1 ∧ aSLine1 ≤ 9223372036854775807) ∧ (-9223372036854775808 ≤ aSLine2 ∧ aSLine2 ≤ 9223372036854775807) ∧ (-9223372036854775808 ≤ aSLine3 ∧ aSLine3 ≤ 9223372036854775807) ∧ (0 ≤ aW ∧ aW ≤ 255) ∧ (0 ≤ aH ∧ aH ≤ 255) ∧ (-9223372036854775808 ≤ aFar ∧ aFar ≤ 9223372036854775807)) → Calls Tryz.prog 7 #[.agg #[aL, .int .i64 aSFactor, .int .i64 aSUnits, .bool aSCcw, .int .i64 aSCull, .int .i64 aSWidth, .int .i64 aSLine0, .int .i64 aSLine1, .int .i64 aSLine2, .int .i64 aSLine3, .int .u8 aW, .int .u8 aH, .int .i64 aFar]] w (Ret (.bool true) w)
theorem HiddenLines_end (hw : HiddenLines_stmt) : Rows.HiddenLinesSaid :=
  OpenClaim.holds_of_wide 7 Tryz.f7 rfl rfl rfl rfl rfl rfl rfl ⟨rfl, rfl, rfl, rfl, rfl⟩ rfl rfl rfl rfl rfl (by kernel_rfl) Tryz.func7 (by kernel_rfl) (of_decide_eq_true (by kernel_rfl))
    (by unfold Func.isWrapper; rw [if_neg (of_decide_eq_false (by kernel_rfl))]; exact ⟨rfl, rfl⟩)
    (fun os started H enc _ => nK Rows.hiddenLinesSpec 7 Tryz.f7 (by kernel_rfl) Tryz.func7 rfl rfl
      (fun H ds hl => by
        rw [Tryz.params7] at hl
        obtain ⟨d0, rfl⟩ := aF2 ds hl
        exact ⟨rfl, rfl, rfl⟩) (by kernel_rfl)
      (fun W args h => by
        obtain ⟨H, enc, ds, ps, base, hA, hval, hlt, hfz⟩ := h
        rw [Tryz.params7] at hA hval
        obtain ⟨v0, vs0, d0, ds0, p0, q0, e0, -, -, h0, r0⟩ := trodAll_cons hA
        obtain ⟨e1, -, -⟩ := trodAll_nil r0
        obtain rfl : args = #[v0] := by rw [← Array.toArray_toList (xs := args), e0, e1]
        obtain ⟨aL, aSFactor, aSUnits, aSCcw, aSCull, aSWidth, aSLine0, aSLine1, aSLine2, aSLine3, aW, aH, aFar, rfl, f0⟩ := cV (hval 0 _ v0 rfl rfl) h0
        exact hw aL aSFactor aSUnits aSCcw aSCull aSWidth aSLine0 aSLine1 aSLine2 aSLine3 aW aH aFar W f0)
      os started H enc (ChangeSpec.witness6 (enc := enc) (C := Tryz.checked) false ⟨#[], #[.agg #[.slice none 0 0, .int .i64 0, .int .i64 0, .bool false, .int .i64 0, .int .i64 0, .int .i64 0, .int .i64 0, .int .i64 0, .int .i64 0, .int .u8 0, .int .u8 0, .int .i64 0]], []⟩ 8 (by kernel_rfl) (by kernel_rfl) (by kernel_rfl) (by kernel_rfl)))
end
/- HiddenLines: whatever the input, the law returns true and leaves its arguments as they read. No condition. -/
theorem aCp (av : Option Addr) (n cap : Nat) (s : SkP) (aW aH far : Int) (w : World) (my : ∀ X, Calls Tryz.prog 24 #[mR (.slice av n cap) s aW aH far] (w.ext X) (Ret (.bool false) (w.ext X))) : Calls Tryz.prog 7 #[mR (.slice av n cap) s aW aH far] w (Ret (.bool true) w) := by
  have MY := jj my
  have AW := jj (fun w => jQ w)
  clear my
  go_enter Tryz.func7, Tryz.ntmps7
  go_upto_region 1 with fail
  refine aE (F := fun w1 => Row w1 w.heap.size #[.slice av n cap, .int .i64 s.factor, .int .i64 s.units, .bool s.ccw, .int .i64 s.cull, .int .i64 s.width, .int .i64 s.c0, .int .i64 s.c1, .int .i64 s.c2, .int .i64 s.c3, .int .u8 aW, .int .u8 aH, .int .i64 far] 50 ∧ ∃ X, w1 = w.ext X) ⟨by exact rx_, jz (by exact bx_)⟩ ?_
  rintro w1 ⟨Ra, X1, hX1⟩
  have MY0 := jj (by rw [hX1]; exact MY.out X1 : Calls Tryz.prog 24 #[mR (.slice av n cap) s aW aH far] w1 (Ret (.bool false) w1))
  have HX := jj (show ∃ X, w1 = w.ext X from ⟨X1, hX1⟩)
  have ca := Ra.cell
  have fa := Ra.frozen
  have la := Ra.lt
  have da := World.rowD_of Ra
  clear Ra hX1 MY
  go_wp2_with (first | (go_at_call 24; (with_reducible refine (MY0.out).mono ?_); rintro _ _ ⟨rfl, X_, rfl⟩) | (go_at_call 25; (with_reducible refine (AW.out _).mono ?_); rintro _ _ ⟨rfl, X_, rfl⟩))
  go_ret
  obtain ⟨X0, hX0⟩ := HX.out
  subst hX0
  exact Ret.of' rfl (by exact br_)
theorem yK (v : Value) (S : List PsP) (l : List PolP) (s : SkP) (aW aH far : Int) (w : World) (hp : PolsR w v S l) (hh : ¬ iZ l s) (my : ∀ X, Calls Tryz.prog 24 #[mR v s aW aH far] (w.ext X) (Ret (.bool true) (w.ext X))) : Calls Tryz.prog 7 #[mR v s aW aH far] w (Ret (.bool true) w) := by
  have MY := jj my
  have AW := jj (fun w => jQ w)
  have RI := jj (fun v S w h => decide_eq_false hh ▸ pO v S l s w h)
  have HP := jj hp
  obtain ⟨-, av, cap, rfl, -, -⟩ := hp.r
  clear my hp hh
  go_enter Tryz.func7, Tryz.ntmps7
  go_upto_region 1 with fail
  refine aE (F := fun w1 => Row w1 w.heap.size #[.slice av S.length cap, .int .i64 s.factor, .int .i64 s.units, .bool s.ccw, .int .i64 s.cull, .int .i64 s.width, .int .i64 s.c0, .int .i64 s.c1, .int .i64 s.c2, .int .i64 s.c3, .int .u8 aW, .int .u8 aH, .int .i64 far] 50 ∧ ∃ X, w1 = w.ext X) ⟨by exact rx_, jz (by exact bx_)⟩ ?_
  rintro w1 ⟨Ra, X1, hX1⟩
  have MY0 := jj (by rw [hX1]; exact MY.out X1 : Calls Tryz.prog 24 #[mR (.slice av S.length cap) s aW aH far] w1 (Ret (.bool true) w1))
  have HP1 := jj (by rw [hX1]; exact HP.out.ext X1 : PolsR w1 (.slice av S.length cap) S l)
  have HX := jj (show ∃ X, w1 = w.ext X from ⟨X1, hX1⟩)
  have ca := Ra.cell
  have fa := Ra.frozen
  have la := Ra.lt
  have da := World.rowD_of Ra
  clear Ra hX1 MY HP
  go_wp2_with (first | (go_at_call 24; (with_reducible refine (MY0.out).mono ?_); rintro _ _ ⟨rfl, X_, rfl⟩) | (go_at_call 34; (with_reducible refine (RI.out _ S _ (by repeat (first | with_reducible exact HP1.out | with_reducible refine PolsR.ext ?_ _ | with_reducible refine PolsR.alloc ?_ _ | with_reducible refine PolsR.drew ?_))).mono ?_); rintro _ _ ⟨rfl, X_, rfl⟩) | (go_at_call 25; (with_reducible refine (AW.out _).mono ?_); rintro _ _ ⟨rfl, X_, rfl⟩))
  go_ret
  obtain ⟨X0, hX0⟩ := HX.out
  subst hX0
  exact Ret.of' rfl (by exact br_)
def skL (s : SkP) : SkP := ⟨s.factor, s.units, s.ccw, s.cull, s.width, s.c0, s.c1, s.c2, 1 + s.c3 / 2⟩
theorem aPb {l : List PolP} {s : SkP} (h : iZ l s) : iZ l (skL s) ∧ May s.c0 s.c1 s.c2 (1 + s.c3 / 2) := by
  obtain ⟨h1, h2, h3, h4⟩ := h
  unfold SkP.hue aI at h3
  refine ⟨⟨h1, h2, ?_, h4⟩, ?_⟩
  · unfold SkP.hue aI skL
    simp only
    omega
  · constructor <;> omega
theorem aI6 {s : SkP} (h : s.wide) (h3 : 0 ≤ s.c3 ∧ s.c3 ≤ 255) : (skL s).wide := by
  refine ⟨h.factor, h.units, h.cull, h.width, h.c0, h.c1, h.c2, ?_⟩
  unfold w64 skL
  simp only
  omega
theorem elt_rep {n j : Nat} {z : Int} (h : j < n) : elt (List.replicate n z) j = z := by simp [elt, h]
theorem aKk {l : List PolP} {s : SkP} {W H far : Int} {n j : Nat} (h : ImOk W H (List.replicate n 0) (List.replicate n far)) (hj : j < n) : elt (dO l s W H (List.replicate n 0) (List.replicate n far)).1 j = if bK l s ((j : Int) % W) ((j : Int) / W) far then pk s.c0 s.c1 s.c2 s.c3 else 0 := by
  rw [aNy h (by simpa using hj), elt_rep hj, elt_rep hj]
theorem yJ (v : Value) (S : List PsP) (l : List PolP) (s : SkP) (aW aH far : Int) (w : World) (hp : PolsR w v S l) (hs : s.wide) (hh : iZ l s) (hW : 0 ≤ aW ∧ aW ≤ 255) (hH : 0 ≤ aH ∧ aH ≤ 255) (f0 : 0 ≤ far) (f1 : far ≤ 16777215) (my : ∀ X, Calls Tryz.prog 24 #[mR v s aW aH far] (w.ext X) (Ret (.bool true) (w.ext X))) : Calls Tryz.prog 7 #[mR v s aW aH far] w (Ret (.bool true) w) := by
  obtain ⟨n, hn, n1, n2⟩ := mP (W := 1 + aW % 12) (H := 1 + aH % 12) (by omega) (by omega) (by omega) (by omega)
  have c3b : 0 ≤ s.c3 ∧ s.c3 ≤ 255 := hh.2.2.1.2.2.2
  obtain ⟨hh2, aP5⟩ := aPb hh
  have hs2 := aI6 hs c3b
  have okI : ImOk (1 + aW % 12) (1 + aH % 12) (List.replicate n 0) (List.replicate n far) := uA (by omega) (by omega) (by omega) (by omega) hn f0 f1
  have MY := jj my
  have AW := jj (fun w => jQ w)
  have RI := jj (fun v S w h => decide_eq_true hh ▸ pO v S l s w h)
  have BK := jj (fun w => show Calls Tryz.prog 26 #[.agg #[v, .int .i64 s.factor, .int .i64 s.units, .bool s.ccw, .int .i64 s.cull, .int .i64 s.width, .int .i64 s.c0, .int .i64 s.c1, .int .i64 s.c2, .int .i64 (1 + s.c3 / 2), .int .u8 aW, .int .u8 aH, .int .i64 far]] w (aBm (1 + aW % 12) (1 + aH % 12) (List.replicate n 0) (List.replicate n far) w) from yY v (skL s) aW aH far n w hW hH hn f0 f1)
  have w0 : 1 ≤ 1 + aW % 12 ∧ 1 + aW % 12 ≤ 12 := by omega
  have h0 : 1 ≤ 1 + aH % 12 ∧ 1 + aH % 12 ≤ 12 := by omega
  have DR := fun wb w {bm g1 k1 g2 k2 : Nat} (hp : PolsR wb v S l) (hx : ∃ X, w = wb.ext X) (hg : wb.heap.size ≤ g1 ∧ wb.heap.size ≤ g2) (hI : Img w bm g1 k1 g2 k2 (1 + aW % 12) (1 + aH % 12) (List.replicate n 0) (List.replicate n far)) => show Calls Tryz.prog 31 #[.pointer (some ⟨bm, 0, none⟩), v, .agg #[.int .i64 s.factor, .int .i64 s.units, .bool s.ccw, .int .i64 s.cull, .int .i64 s.width, .int .i64 s.c0, .int .i64 s.c1, .int .i64 s.c2, .int .i64 (1 + s.c3 / 2)]] w (aIi bm g1 k1 g2 k2 (1 + aW % 12) (1 + aH % 12) (dO l (skL s) (1 + aW % 12) (1 + aH % 12) (List.replicate n 0) (List.replicate n far)).1 (dO l (skL s) (1 + aW % 12) (1 + aH % 12) (List.replicate n 0) (List.replicate n far)).2 (.int .i64 0) w) from aP9 v S l (skL s) wb w (bm := bm) (g1 := g1) (k1 := k1) (g2 := g2) (k2 := k2) (W := 1 + aW % 12) (H := 1 + aH % 12) (C := List.replicate n 0) (Z := List.replicate n far) hp hx hg hI hs2 hh2
  have ln1 := (hid_len (l := l) (s := skL s) (W := 1 + aW % 12) (H := 1 + aH % 12) (C := List.replicate n 0) (Z := List.replicate n far)).1
  rw [List.length_replicate] at ln1
  have SE := fun x y => show decide (iZ l (skL s) ∧ bK l (skL s) x y far) = decide (bK l (skL s) x y far) by simp [hh2]
  have SH := jj (fun x y w (h : PolsR w v S l) x0 x1 y0 y1 => show Calls Tryz.prog 27 #[v, .agg #[.int .i64 s.factor, .int .i64 s.units, .bool s.ccw, .int .i64 s.cull, .int .i64 s.width, .int .i64 s.c0, .int .i64 s.c1, .int .i64 s.c2, .int .i64 (1 + s.c3 / 2)], .int .i64 x, .int .i64 y, .int .i64 far] w (Ret (.bool (decide (bK l (skL s) x y far))) w) from SE x y ▸ vU v S l (skL s) x y far w h hs2 x0 x1 y0 y1)
  have PK0 := fun w => aEg s.c0 s.c1 s.c2 (1 + s.c3 / 2) aP5 w
  have LN := fun j (hj : j < n) => show elt (dO l (skL s) (1 + aW % 12) (1 + aH % 12) (List.replicate n 0) (List.replicate n far)).1 j = if bK l (skL s) ((j : Int) % (1 + aW % 12)) ((j : Int) / (1 + aW % 12)) far then pk s.c0 s.c1 s.c2 (1 + s.c3 / 2) else 0 from aKk (l := l) (s := skL s) okI hj
  obtain ⟨pv, hpv⟩ : ∃ z, pk s.c0 s.c1 s.c2 (1 + s.c3 / 2) = z := ⟨_, rfl⟩
  rw [hpv] at PK0 LN
  have PK := jj PK0
  obtain ⟨D, hD⟩ : ∃ D, dO l (skL s) (1 + aW % 12) (1 + aH % 12) (List.replicate n 0) (List.replicate n far) = D := ⟨_, rfl⟩
  rw [hD] at DR LN ln1
  obtain ⟨W, hWe⟩ : ∃ W, 1 + aW % 12 = W := ⟨_, rfl⟩
  obtain ⟨H, hHe⟩ : ∃ H, 1 + aH % 12 = H := ⟨_, rfl⟩
  rw [hWe, hHe] at BK DR hn okI
  rw [hWe] at LN w0
  rw [hHe] at h0
  have HDR := jj @DR
  have HLN := jj LN
  have HL1 := jj ln1
  have HOK := jj okI
  have HP := jj hp
  obtain ⟨-, av, cap, rfl, -, -⟩ := hp.r
  have q1 : s.c3.tdiv 2 = s.c3 / 2 := Int.tdiv_eq_ediv_of_nonneg (by omega)
  have q2 : wrap64 (s.c3 / 2) = s.c3 / 2 := IntWalk.wrap64_in _ (by omega)
  have q3 : wrap64 (1 + s.c3 / 2) = 1 + s.c3 / 2 := IntWalk.wrap64_in _ (by omega)
  clear PK0 hpv my hp hs hs2 hh hh2 aP5 hW hH f0 f1 DR LN ln1 okI hD hWe hHe SE
  go_enter Tryz.func7, Tryz.ntmps7
  go_upto_region 1 with fail
  refine aE (F := fun w1 => Row w1 w.heap.size #[.slice av S.length cap, .int .i64 s.factor, .int .i64 s.units, .bool s.ccw, .int .i64 s.cull, .int .i64 s.width, .int .i64 s.c0, .int .i64 s.c1, .int .i64 s.c2, .int .i64 s.c3, .int .u8 aW, .int .u8 aH, .int .i64 far] 50 ∧ ∃ X, w1 = w.ext X) ⟨by exact rx_, jz (by exact bx_)⟩ ?_
  rintro w1 ⟨Ra, X1, hX1⟩
  have MY0 := jj (by rw [hX1]; exact MY.out X1 : Calls Tryz.prog 24 #[mR (.slice av S.length cap) s aW aH far] w1 (Ret (.bool true) w1))
  have HP1 := jj (by rw [hX1]; exact HP.out.ext X1 : PolsR w1 (.slice av S.length cap) S l)
  have HX := jj (show ∃ X, w1 = w.ext X from ⟨X1, hX1⟩)
  have HRa := jj Ra
  have ca := Ra.cell
  have fa := Ra.frozen
  have la := Ra.lt
  have da := World.rowD_of Ra
  clear Ra hX1 MY
  go_upto_region 3 with (first | (go_at_call 24; (with_reducible refine (MY0.out).mono ?_); rintro _ _ ⟨rfl, X_, rfl⟩) | (go_at_call 34; (with_reducible refine (RI.out _ S _ (by repeat (first | with_reducible exact HP1.out | with_reducible refine PolsR.ext ?_ _ | with_reducible refine PolsR.alloc ?_ _ | with_reducible refine PolsR.drew ?_))).mono ?_); rintro _ _ ⟨rfl, X_, rfl⟩))
  go_upto_region 4 with fail
  have hle1 : w.heap.size < w1.heap.size := HRa.out.lt
  refine aE (F := fun w2 => Row w2 w.heap.size #[.slice av S.length cap, .int .i64 s.factor, .int .i64 s.units, .bool s.ccw, .int .i64 s.cull, .int .i64 s.width, .int .i64 s.c0, .int .i64 s.c1, .int .i64 s.c2, .int .i64 (1 + s.c3 / 2), .int .u8 aW, .int .u8 aH, .int .i64 far] 50 ∧ ∃ X, w2 = w.ext X) ⟨by simpa using ((HRa.out.set 9 (.int .i64 (1 + s.c3 / 2))).ext _).ext _, by obtain ⟨X0, hX0⟩ := HX.out; subst hX0; exact jz (by exact br_)⟩ ?_
  clear HX HRa HP1 MY0 RI ca fa la da hle1
  rintro w2 ⟨Ra, X2, hX2⟩
  have HP2 := jj (by rw [hX2]; exact HP.out.ext X2 : PolsR w2 (.slice av S.length cap) S l)
  have HX2 := jj (show ∃ X, w2 = w.ext X from ⟨X2, hX2⟩)
  have HRa := jj Ra
  have ca := Ra.cell
  have fa := Ra.frozen
  have la := Ra.lt
  have da := World.rowD_of Ra
  clear Ra hX2
  go_upto_region 5 with (first | (go_at_call 26; (with_reducible refine (BK.out _).mono ?_); rintro _ _ ⟨g1, k1, g2, k2, rfl, ⟨XN, rfl⟩, A1, A2, b1, b2, ne12⟩; have HA1 := jj A1; have HA2 := jj A2; clear A1 A2))
  have l1 := HA1.out.lt
  have l2 := HA2.out.lt
  rw [World.size_ext] at l1 l2
  refine aE (F := fun w3 => Img w3 (w2.heap.size + XN.sz) g1 k1 g2 k2 W H (List.replicate n 0) (List.replicate n far) ∧ Row w3 w.heap.size #[.slice av S.length cap, .int .i64 s.factor, .int .i64 s.units, .bool s.ccw, .int .i64 s.cull, .int .i64 s.width, .int .i64 s.c0, .int .i64 s.c1, .int .i64 s.c2, .int .i64 (1 + s.c3 / 2), .int .u8 aW, .int .u8 aH, .int .i64 far] 50 ∧ ∃ X, w3 = w2.ext X) ⟨⟨HOK.out, by rw [List.length_replicate]; exact rx_, HA1.out.chg (p := fun _ => False) (Chg.refl.alloc _) id, HA2.out.chg (p := fun _ => False) (Chg.refl.alloc _) id, by omega, by omega, ne12⟩, (HRa.out.ext XN).alloc _, jz (by exact br_)⟩ ?_
  obtain ⟨Bm, hBm⟩ : ∃ b, w2.heap.size + XN.sz = b := ⟨_, rfl⟩
  rw [hBm] at l1 l2 ⊢
  have hag : w.heap.size < g1 ∧ w.heap.size < g2 := by omega
  clear hBm HA1 HA2 HRa ca fa la da BK
  rintro w3 ⟨hI3, Ra, hX3⟩
  have HI3 := jj hI3
  have HX3 := jj hX3
  have HRa := jj Ra
  have ca := Ra.cell
  have fa := Ra.frozen
  have la := Ra.lt
  have da := World.rowD_of Ra
  have ci := hI3.row.cell
  have fi := hI3.row.frozen
  have li := hI3.row.lt
  have hwh : wrap64 (W * H) = n := by rw [IntWalk.wrap64_in _ (by omega)]; exact hn
  clear Ra hI3 hX3
  go_upto_region 7 with (first | (go_at_call 31; (with_reducible refine (HDR.out w2 _ HP2.out HX3.out ⟨b1, b2⟩ HI3.out).mono ?_); rintro _ w4 ⟨rfl, I4, C4⟩; have RM := I4.row; rw [HL1.out] at RM; have i0 := RM.cell 0; have i1 := RM.cell 1; have i2 := RM.cell 2; have i3 := RM.cell 3; simp at i0 i1 i2 i3; have ma := RM.lt; have HI4 := jj I4; have HM4 := jj RM; have HA4 := jj (C4.row HRa.out (by omega)); have HX4 := jj (Below.chg (by obtain ⟨Y, hY⟩ := HX3.out; rw [hY]; exact (Below.refl _ _).ext (Nat.le_refl _) Y : Below w2.heap.size w2 w3) C4 (by obtain ⟨Y, hY⟩ := HX3.out; rw [hY]; simp) (fun k hk h => by omega)); clear I4 RM C4))
  have HP4 := jj (by obtain ⟨Y, hY⟩ := HX4.out.toExt; rw [hY]; exact HP2.out.ext Y : PolsR w4 (.slice av S.length cap) S l)
  have HX5 := jj (by obtain ⟨Y, hY⟩ := HX4.out.toExt; obtain ⟨X0, hX0⟩ := HX2.out; rw [hY, hX0]; exact ⟨_, World.ext_ext ..⟩ : ∃ X, w4 = w.ext X)
  have HAC := jj (HI4.out.c)
  clear ca fa la da ci fi li i0 i1 i2 i3 ma hwh HX2 HX3 HX4 HI3 HRa HP2 HDR HOK HP HI4 b1 b2 l1 l2 hag
  have ca := HA4.out.cell
  have fa := HA4.out.frozen
  have la := HA4.out.lt
  have da := World.rowD_of HA4.out
  have cm := HM4.out.cell
  have fm := HM4.out.frozen
  have lm := HM4.out.lt
  have lg := HAC.out.lt
  have lgh : g1 ≤ w4.heap.size := by omega
  clear HA4 HM4
  go_upto_region 8 with fail
  go_loopw [4] (fun i wr => ∃ (j : Nat), j ≤ n ∧ i = .int .i64 j ∧ ∃ X, wr = w4.ext X)
    (fun i _ => n - (intOf i).toNat)
  case atStart => exact ⟨0, by omega, rfl, _, (aN _).symm⟩
  case round =>
    obtain ⟨j, hj, rfl, X, rfl⟩ := hrel
    by_cases hlt : j < n
    · have HJ := jj (show j + 1 ≤ n from hlt)
      have hji : (j : Int) < n := by omega
      have hw0 : ¬ W = 0 := by omega
      have hwb : (W == 0) = false := by simpa using hw0
      have x0 : 0 ≤ (j : Int) % W ∧ (j : Int) % W ≤ 65535 := by
        have e1 := Int.emod_nonneg (j : Int) hw0
        have e2 := Int.emod_lt_of_pos (j : Int) (show 0 < W by omega)
        omega
      have y0 : 0 ≤ (j : Int) / W ∧ (j : Int) / W ≤ 65535 := by
        have e1 := Int.ediv_nonneg (a := (j : Int)) (b := W) (by omega) (by omega)
        have e2 := Int.ediv_le_self (a := (j : Int)) W (by omega)
        omega
      have hk : wrap64 ((j : Int) / W) = (j : Int) / W := IntWalk.wrap64_in _ (by omega)
      have pc0 : w4.cell? ⟨g1, j, none⟩ = some (.int .i64 (elt D.1 j)) := HAC.out.cell (by rw [HL1.out]; exact hlt)
      rw [HLN.out j hlt, ← hk] at pc0
      rw [← hk] at y0
      have Q1 := fun Y => SH.out ((j : Int) % W) (wrap64 ((j : Int) / W)) ((w4.ext X).ext Y) ((HP4.out.ext X).ext Y) x0.1 x0.2 y0.1 y0.2
      have HPC := jj pc0
      clear x0 y0 hk pc0
      by_cases k : bK l (skL s) ((j : Int) % W) (wrap64 ((j : Int) / W)) far
      · have pc1 := HPC.out
        rw [if_pos k] at pc1
        rw [decide_eq_true k] at Q1
        have HQ1 := jj Q1
        clear k Q1 HPC
        go_upto_region 11 with fail
        refine tA (by kernel_rfl) (by kernel_rfl) ?_
        repeat (go_big_quiet_step ((first | (go_at_call 27; with_reducible exact Calls.quiet_ret (HQ1.out _)))))
        refine wpQuiet_nil ?_
        intro _ hw_ext
        obtain ⟨X9, hw_ext⟩ := hw_ext
        subst hw_ext
        go_wp2_with (first | (go_at_call 35; (with_reducible refine (PK.out _).mono ?_); rintro _ _ ⟨rfl, X_, rfl⟩))
        go_roundw
        case rel => exact ⟨j + 1, HJ.out, by go_num, jz (by exact br_)⟩
        case measure => have := HJ.out; simp [intOf]; omega
      · have pc1 := HPC.out
        rw [if_neg k] at pc1
        rw [decide_eq_false k] at Q1
        have HQ1 := jj Q1
        clear k Q1 HPC
        go_upto_region 11 with fail
        refine tA (by kernel_rfl) (by kernel_rfl) ?_
        repeat (go_big_quiet_step ((first | (go_at_call 27; with_reducible exact Calls.quiet_ret (HQ1.out _)))))
        refine wpQuiet_nil ?_
        intro _ hw_ext
        obtain ⟨X9, hw_ext⟩ := hw_ext
        subst hw_ext
        go_wp2_with (first | (go_at_call 35; (with_reducible refine (PK.out _).mono ?_); rintro _ _ ⟨rfl, X_, rfl⟩))
        go_roundw
        case rel => exact ⟨j + 1, HJ.out, by go_num, jz (by exact br_)⟩
        case measure => have := HJ.out; simp [intOf]; omega
    · obtain rfl : j = n := by omega
      go_wp2_with (first | (go_at_call 25; (with_reducible refine (AW.out _).mono ?_); rintro _ _ ⟨rfl, X_, rfl⟩))
      go_ret
      obtain ⟨X0, hX0⟩ := HX5.out
      subst hX0
      exact Ret.of' rfl (by exact br_)
theorem HiddenLines_holds : Rows.HiddenLinesSaid := HiddenLines_end fun aL f u c k wd c0 c1 c2 c3 aW aH far w h => by
  obtain ⟨hL, hf, hu, hk, hwd, h0, h1, h2, h3, hW, hH, hF⟩ := h
  rcases qZ aL ⟨f, u, c, k, wd, c0, c1, c2, c3⟩ aW aH far w hL with ⟨a, n, cap, rfl, hn, my⟩ | ⟨S, l, h12, hp, f0, f1, my⟩
  · exact aCp a n cap ⟨f, u, c, k, wd, c0, c1, c2, c3⟩ aW aH far w my
  · by_cases hh : iZ l ⟨f, u, c, k, wd, c0, c1, c2, c3⟩
    · exact yJ aL S l ⟨f, u, c, k, wd, c0, c1, c2, c3⟩ aW aH far w hp ⟨hf, hu, hk, hwd, h0, h1, h2, h3⟩ hh hW hH f0 f1 my
    · exact yK aL S l ⟨f, u, c, k, wd, c0, c1, c2, c3⟩ aW aH far w hp hh my
end Go.Proofs.YthcjfanigfgckaaGreat
