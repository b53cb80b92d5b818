/- The walk of the reference's Within (layer 14). Conditions: the points' bounds. -/
import Derived.Test.YtmlhbbkgfffmcaaWalkT
import Derived.Deep.CutBlock
import Derived.Deep.RegionLawGrows
namespace Go.Proofs.Ytmlhbbkgfffmcaa
set_option linter.unusedVariables false
set_option linter.unusedSimpArgs false
open Go.RowKit
theorem rwithin_no (ax ay bx y2 x0 y0 x1 y1 : Int) (c : ¬ rightP x0 y0 x1 y1) (w : World) : Calls Try.prog 41 #[P2 ax ay, P2 bx y2, R4 x0 y0 x1 y1] w (Lists w (withinL ax ay bx y2 x0 y0 x1 y1)) := by
  rw [withinL_no _ _ _ _ _ _ _ _ (Or.inr c)]
  have HR := Lib.hid (fun w => decide_eq_false c ▸ rrect_right x0 y0 x1 y1 w)
  clear c
  go_enter Try.func41, Try.ntmps41
  go_wp2_with (first | (go_at_call 88; (with_reducible refine (HR.out _).mono ?_); rintro _ _ ⟨rfl, X_, rfl⟩))
  go_ret
  exact ⟨_, rfl, sts_nil _, RowKit.Below.toExt (by (repeat (first | exact Below.refl _ _ | with_reducible refine Below.drew ?_ | with_reducible refine Below.ext ?_ (by first | exact Nat.le_refl _ | (simp; done) | (simp; omega)) _ | with_reducible refine Below.alloc ?_ (by first | exact Nat.le_refl _ | (simp; done) | (simp; omega)) _ | with_reducible refine Below.setCell ?_ (by first | exact Nat.le_refl _ | (simp; done) | (simp; omega)) _)))⟩
theorem numL_at (ax ay bx y2 x y : Int) (c : ¬ (ax = bx ∧ ay = y2)) (h : exP ax ay bx y2 x y) : numL (ofL ax ay bx y2) x y (uC (decide (turnP ax ay bx y2)) x y) = idxP ax ay bx y2 x y := num_idx ax ay bx y2 x y c h
set_option maxRecDepth 100000 in
set_option maxHeartbeats 8000000 in
theorem rwithin_in (ax ay bx y2 x0 y0 x1 y1 : Int) (ha : MayP ax ay) (hb : MayP bx y2) (rr : rightP x0 y0 x1 y1) (w : World) : Calls Try.prog 41 #[P2 ax ay, P2 bx y2, R4 x0 y0 x1 y1] w (Lists w (withinL ax ay bx y2 x0 y0 x1 y1)) := by
  have HR := Lib.hid (fun w => decide_eq_true rr ▸ rrect_right x0 y0 x1 y1 w)
  have HO := Lib.hid (fun w => rof_any ax ay bx y2 ha hb w)
  have HWd := Lib.hid (fun w => rwide_any ax ay bx y2 ha hb w)
  have HE := Lib.hid (fun x y w (hx : FarP x y) => rexits_any ax ay bx y2 x y ha hb hx w)
  have HN := Lib.hid (fun x y u w (u0 : -8388608 ≤ u) (u1 : u ≤ 8388608) => rnumber_any (ofL ax ay bx y2) (ofL_ok ax ay bx y2 ha hb) x y u u0 u1 w)
  have HID := Lib.hid (fun x y c h => num_idx ax ay bx y2 x y c h)
  have HL := Lib.hid (fun x y (L : List St) (h : Proc ax ay bx y2 x0 y0 y1 x y L) => h.len ha hb)
  have HB := Lib.hid (fun x y (h : exP ax ay bx y2 x y) => idx_bd ha hb h)
  have RR := Lib.hid rr
  obtain ⟨l, hl⟩ : ∃ l, ofL ax ay bx y2 = l := ⟨_, rfl⟩
  rw [hl] at HO HN HID
  obtain ⟨t, ht⟩ : ∃ t, decide (turnP ax ay bx y2) = t := ⟨_, rfl⟩
  simp only [ht] at HWd HID
  clear hl ht ha hb
  obtain ⟨r0, r1, r2, r3, r4, r5⟩ : -4194304 ≤ x0 ∧ x0 ≤ x1 ∧ x1 ≤ 4194304 ∧ -4194304 ≤ y0 ∧ y0 ≤ y1 ∧ y1 ≤ 4194304 := by
    unfold rightP at rr; omega
  clear rr
  go_enter Try.func41, Try.ntmps41
  go_upto_region 5 with (first
    | (go_at_call 88; (with_reducible refine (HR.out _).mono ?_); rintro _ _ ⟨rfl, XA, rfl⟩)
    | (go_at_call 97; (with_reducible refine (HO.out _).mono ?_); rintro _ _ ⟨rfl, XB, rfl⟩))
  obtain ⟨p, hp⟩ : ∃ p, w.heap.size + 1 + 1 + 1 + XA.sz + XB.sz = p := ⟨_, rfl⟩
  refine wp_abs (F := fun w1 => Rin w w1 ax ay bx y2 x0 y0 x1 y1 l p (.slice none 0 0) []) ⟨by (repeat (first | assumption | with_reducible refine Row.ext ?_ _ | with_reducible refine row_drew ?_ | (with_reducible refine row_last ?_; first | rfl | (simp; done)) | with_reducible refine Row.alloc ?_ _)), by (repeat (first | assumption | with_reducible refine Row.ext ?_ _ | with_reducible refine row_drew ?_ | (with_reducible refine row_last ?_; first | rfl | (simp; done)) | with_reducible refine Row.alloc ?_ _)), by (repeat (first | assumption | with_reducible refine Row.ext ?_ _ | with_reducible refine row_drew ?_ | (with_reducible refine row_last ?_; first | rfl | (simp; done)) | with_reducible refine Row.alloc ?_ _)), by rw [← hp]; (repeat (first | assumption | with_reducible refine Row.ext ?_ _ | with_reducible refine row_drew ?_ | (with_reducible refine row_last ?_; first | rfl | (simp; done)) | with_reducible refine Row.alloc ?_ _)), by omega, World.ownsRow_nil _ _ _ _, RowKit.Below.toExt (by (repeat (first | exact Below.refl _ _ | with_reducible refine Below.drew ?_ | with_reducible refine Below.ext ?_ (by first | exact Nat.le_refl _ | (simp; done) | (simp; omega)) _ | with_reducible refine Below.alloc ?_ (by first | exact Nat.le_refl _ | (simp; done) | (simp; omega)) _ | with_reducible refine Below.setCell ?_ (by first | exact Nat.le_refl _ | (simp; done) | (simp; omega)) _)))⟩ ?_
  intro w1 h1
  rw [hp]
  have H1 := Lib.hid h1
  have ca := h1.ra.cell
  have fa := h1.ra.frozen
  have la := h1.ra.lt
  have cb := h1.rb.cell
  have fb := h1.rb.frozen
  have lb := h1.rb.lt
  have cr := h1.rr.cell
  have fr := h1.rr.frozen
  have lr := h1.rr.lt
  have cl := h1.rl.cell
  have fl := h1.rl.frozen
  have ll := h1.rl.lt
  obtain ⟨i0, hi, hz0, hz1, hz2⟩ := info_parts info_step
  have hp3 := h1.hp
  clear h1 hp
  go_wp2
  clear ca fa la cb fb lb cr fr lr cl fl ll
  go_loopw [9, 7] (fun i o wr => ∃ (x : Int) (v : Value) (L : List St), x0 ≤ x ∧ x ≤ x1 ∧ i = .int .i64 x ∧ o = v ∧ Hid (Rin w wr ax ay bx y2 x0 y0 x1 y1 l p v L) ∧ Hid (Proc ax ay bx y2 x0 y0 y1 x y0 L))
    (fun i _ _ => (x1 - intOf i).toNat)
  case atStart => exact ⟨x0, _, [], by omega, by omega, rfl, rfl, H1, Lib.hid Proc.start⟩
  case round =>
    obtain ⟨x, v, L, hx0, hx1, rfl, hv, hR, hP⟩ := hrel
    have hv := hv.symm
    subst hv
    clear H1
    have cr := hR.out.rr.cell
    have fr := hR.out.rr.frozen
    have lr := hR.out.rr.lt
    by_cases hlt : x < x1
    · go_wp2
      have HP0 := Lib.hid (show Proc ax ay bx y2 x0 y0 y1 x y0 L from hP.out)
      go_loopw [10, 7] (fun i o wr => ∃ (y : Int) (v : Value) (L : List St), y0 ≤ y ∧ y ≤ y1 ∧ i = .int .i64 y ∧ o = v ∧ Hid (Rin w wr ax ay bx y2 x0 y0 x1 y1 l p v L) ∧ Hid (Proc ax ay bx y2 x0 y0 y1 x y L))
        (fun i _ _ => (y1 - intOf i).toNat)
      case atStart => exact ⟨y0, _, L, by omega, by omega, rfl, rfl, hR, HP0⟩
      case round =>
        clear cr fr lr hR hP HP0
        obtain ⟨y, v, L, hy0, hy1, rfl, hv, hR, hP⟩ := hrel
        have hv := hv.symm
        subst hv
        have cr := hR.out.rr.cell
        have fr := hR.out.rr.frozen
        have lr := hR.out.rr.lt
        have ca := hR.out.ra.cell
        have fa := hR.out.ra.frozen
        have la := hR.out.ra.lt
        have cb := hR.out.rb.cell
        have fb := hR.out.rb.frozen
        have lb := hR.out.rb.lt
        have cl := hR.out.rl.cell
        have fl := hR.out.rl.frozen
        have ll := hR.out.rl.lt
        by_cases hl2 : y < y1
        · obtain ⟨e, he⟩ : ∃ e, decide (exP ax ay bx y2 x y) = e := ⟨_, rfl⟩
          have HE1 := Lib.hid (fun w => he ▸ HE.out x y w ⟨by omega, by omega, by omega, by omega⟩)
          have EE := Lib.hid he
          clear he
          cases e
          · go_wp2_with (first | (go_at_call 55; (with_reducible refine (HE1.out _).mono ?_); rintro _ _ ⟨rfl, X_, rfl⟩))
            go_roundw
            case rel => exact ⟨y + 1, _, L, by omega, by omega, rfl, rfl, Lib.hid (hR.out.grow _), Lib.hid (hP.out.skip (of_decide_eq_false EE.out))⟩
            case measure => simp [intOf]; omega
          · have hex := of_decide_eq_true EE.out
            have hc : ¬ (ax = bx ∧ ay = y2) := fun c => by obtain ⟨rfl, rfl⟩ := c; exact exP_same _ _ _ _ hex
            have hid := HID.out x y hc hex
            have hbd := HB.out x y hex
            obtain ⟨u, hu⟩ : ∃ u, uC t x y = u := ⟨_, rfl⟩
            rw [hu] at hid
            have ub : -8388608 ≤ u ∧ u ≤ 8388608 := by rw [← hu]; unfold uC; split <;> omega
            obtain ⟨K, hK⟩ : ∃ K, idxP ax ay bx y2 x y = K := ⟨_, rfl⟩
            rw [hK] at hid hbd
            have HN1 := Lib.hid (fun w => hid ▸ HN.out x y u w ub.1 ub.2)
            have HU := Lib.hid hu
            have HK := Lib.hid hK
            obtain ⟨k0, k1⟩ := hbd
            obtain ⟨u0, u1⟩ := ub
            clear hu hid hex hc hK
            go_upto_if 47 with (first | (go_at_call 55; (with_reducible refine (HE1.out _).mono ?_); rintro _ _ ⟨rfl, X_, rfl⟩) | (go_at_call 98; (with_reducible refine (HWd.out _).mono ?_); rintro _ _ ⟨rfl, X_, rfl⟩))
            go_cut [11] (fun t11 wx => t11 = .int .i64 u ∧ ∃ X, wx = wr.ext X)
            case first =>
              cases t
              · go_wp2
                go_meet
                exact ⟨congrArg _ HU.out, RowKit.Below.toExt (by (repeat (first | with_reducible assumption | with_reducible exact Below.refl _ _ | with_reducible refine Below.drew ?_ | with_reducible refine Below.ext ?_ (by first | exact Nat.le_refl _ | omega | (simp; done) | (simp; omega)) _ | with_reducible refine Below.alloc ?_ (by first | exact Nat.le_refl _ | omega | (simp; done) | (simp; omega)) _ | with_reducible refine Below.setCell ?_ (by first | exact Nat.le_refl _ | omega | (simp; done) | (simp; omega)) _)))⟩
              · go_wp2
                go_meet
                exact ⟨congrArg _ HU.out, RowKit.Below.toExt (by (repeat (first | with_reducible assumption | with_reducible exact Below.refl _ _ | with_reducible refine Below.drew ?_ | with_reducible refine Below.ext ?_ (by first | exact Nat.le_refl _ | omega | (simp; done) | (simp; omega)) _ | with_reducible refine Below.alloc ?_ (by first | exact Nat.le_refl _ | omega | (simp; done) | (simp; omega)) _ | with_reducible refine Below.setCell ?_ (by first | exact Nat.le_refl _ | omega | (simp; done) | (simp; omega)) _)))⟩
            case rest =>
              obtain ⟨rfl, X5, rfl⟩ := hcut
              go_upto_region 16 with (first | (go_at_call 99; (with_reducible refine (HN1.out _).mono ?_); rintro _ _ ⟨rfl, XN, rfl⟩))
              obtain ⟨ps, hps⟩ : ∃ p, wr.heap.size + X5.sz + XN.sz = p := ⟨_, rfl⟩
              refine wp_abs (F := fun w2 => Rin w w2 ax ay bx y2 x0 y0 x1 y1 l p v L ∧ Row w2 ps #[.int .i64 K, .int .i64 x, .int .i64 y] 62) ⟨hR.out.grown (by (repeat (first | with_reducible assumption | with_reducible exact Below.refl _ _ | with_reducible refine Below.drew ?_ | with_reducible refine Below.ext ?_ (by first | exact Nat.le_refl _ | omega | (simp; done) | (simp; omega)) _ | with_reducible refine Below.alloc ?_ (by first | exact Nat.le_refl _ | omega | (simp; done) | (simp; omega)) _ | with_reducible refine Below.setCell ?_ (by first | exact Nat.le_refl _ | omega | (simp; done) | (simp; omega)) _))), by rw [← hps]; exact row_last (by simp)⟩ ?_
              rintro w2 ⟨hR2, rs⟩
              have HO2 := Lib.hid (fun g (h : v.ownBlock = some g) => show g < ps by have := (hR.out.own.lt g h).2; omega)
              rw [hps]
              clear cr fr lr ca fa la cb fb lb cl fl ll hps hR HE1 HN1
              have HR2 := Lib.hid hR2
              have RS := Lib.hid rs
              have cs := rs.cell
              have fs := rs.frozen
              have ls := rs.lt
              clear rs
              obtain ⟨a, cap, rfl⟩ : ∃ a cap, v = .slice a L.length cap := by
                rcases hR2.own.2 with ⟨rfl, e⟩ | ⟨g, cap, cur, rfl, _⟩
                · exact ⟨_, _, by rw [e]⟩
                · exact ⟨_, _, rfl⟩
              have lL : L.length ≤ 4194308 := HL.out _ _ _ hP.out
              clear hR2
              go_upto_block 4 with fail
              go_cut [13] (fun t13 wx => ∃ j : Nat, t13 = .int .i64 j ∧ j ≤ L.length ∧ Hid (∀ i s, i < j → L[i]? = some s → s.K < K) ∧ Hid (∀ s, L[j]? = some s → K ≤ s.K) ∧ ∃ X, wx = w2.ext X)
              case first =>
                obtain ⟨-, a', cap', hv, -, g1⟩ := own_sts HR2.out.own (by omega)
                injection hv with e1 _ e2
                subst e1 e2
                go_wp2
                go_loopw [13] (fun i wq => ∃ (j : Nat), j ≤ L.length ∧ i = .int .i64 j ∧ Hid (∀ i s, i < j → L[i]? = some s → s.K < K) ∧ ∃ X, wq = w2.ext X)
                  (fun i _ => L.length - (intOf i).toNat)
                case atStart => exact ⟨0, by omega, rfl, Lib.hid (fun i s h => by omega), _, ext_self _⟩
                case round =>
                  obtain ⟨j, hj, rfl, hjK, X, rfl⟩ := hrel
                  by_cases hlj : j < L.length
                  · rcases g1 with g1 | ⟨b, off, rfl, hb, hc⟩
                    · rw [g1] at hlj; simp at hlj
                    obtain ⟨s, hs⟩ : ∃ s, L[j]? = some s := ⟨L[j], by simp [hlj]⟩
                    have f0 := hc j s hs 0 _ rfl
                    simp only [Nat.add_zero] at f0
                    have hb' : b ≤ w2.heap.size := by omega
                    have HS := Lib.hid hs
                    clear hc hs
                    by_cases hk : s.K < K
                    · go_wp2
                      refine wp_region_ext (by kernel_rfl) (by kernel_rfl) ?_
                      repeat (go_big_quiet_step ((fail)))
                      refine wpQuiet_nil ?_
                      intro _ hw_ext
                      obtain ⟨Y, hw_ext⟩ := hw_ext
                      subst hw_ext
                      go_wp2
                      go_roundw
                      case rel => exact ⟨j + 1, by omega, by go_num, Lib.hid (fun i s' h1 h2 => by
                        by_cases e : i = j
                        · subst e; rw [HS.out] at h2; injection h2 with h2; subst h2; exact hk
                        · exact hjK.out i s' (by omega) h2), RowKit.Below.toExt (by (repeat (first | with_reducible assumption | with_reducible exact Below.refl _ _ | with_reducible refine Below.drew ?_ | with_reducible refine Below.ext ?_ (by first | exact Nat.le_refl _ | omega | (simp; done) | (simp; omega)) _ | with_reducible refine Below.alloc ?_ (by first | exact Nat.le_refl _ | omega | (simp; done) | (simp; omega)) _ | with_reducible refine Below.setCell ?_ (by first | exact Nat.le_refl _ | omega | (simp; done) | (simp; omega)) _)))⟩
                      case measure => simp [intOf]; omega
                    · go_wp2
                      refine wp_region_ext (by kernel_rfl) (by kernel_rfl) ?_
                      repeat (go_big_quiet_step ((fail)))
                      refine wpQuiet_nil ?_
                      intro _ hw_ext
                      obtain ⟨Y, hw_ext⟩ := hw_ext
                      subst hw_ext
                      go_wp2
                      go_meet
                      exact ⟨j, rfl, by omega, hjK, Lib.hid (fun s' h2 => by rw [HS.out] at h2; injection h2 with h2; subst h2; omega), RowKit.Below.toExt (by (repeat (first | with_reducible assumption | with_reducible exact Below.refl _ _ | with_reducible refine Below.drew ?_ | with_reducible refine Below.ext ?_ (by first | exact Nat.le_refl _ | omega | (simp; done) | (simp; omega)) _ | with_reducible refine Below.alloc ?_ (by first | exact Nat.le_refl _ | omega | (simp; done) | (simp; omega)) _ | with_reducible refine Below.setCell ?_ (by first | exact Nat.le_refl _ | omega | (simp; done) | (simp; omega)) _)))⟩
                  · have hp2 : decide (j < L.length) = false := by simp; omega
                    have hp3 : decide ((j : Int) < (L.length : Int)) = false := by simp; omega
                    go_wp2
                    refine wp_region_ext (by kernel_rfl) (by kernel_rfl) ?_
                    repeat (go_big_quiet_step ((fail)))
                    refine wpQuiet_nil ?_
                    intro _ hw_ext
                    obtain ⟨Y, hw_ext⟩ := hw_ext
                    subst hw_ext
                    go_wp2
                    go_meet
                    exact ⟨j, rfl, by omega, hjK, Lib.hid (fun s' h2 => by have := (List.getElem?_eq_some_iff.1 h2).1; omega), RowKit.Below.toExt (by (repeat (first | with_reducible assumption | with_reducible exact Below.refl _ _ | with_reducible refine Below.drew ?_ | with_reducible refine Below.ext ?_ (by first | exact Nat.le_refl _ | omega | (simp; done) | (simp; omega)) _ | with_reducible refine Below.alloc ?_ (by first | exact Nat.le_refl _ | omega | (simp; done) | (simp; omega)) _ | with_reducible refine Below.setCell ?_ (by first | exact Nat.le_refl _ | omega | (simp; done) | (simp; omega)) _)))⟩
              case rest =>
                obtain ⟨j, rfl, hj, hjK, hjL, X3, rfl⟩ := hcut
                have hW2 : w.heap.size ≤ w2.heap.size := HR2.out.size
                go_upto_region 19 with fail
                go_cut [14] (fun t14 wx => ∃ gb c, t14 = .slice (some ⟨gb, 0, none⟩) (L.length - j) c ∧ Hid (∀ i u, ((L.drop j).flatMap St.cells)[i]? = some u → wx.cell? ((⟨gb, 0, none⟩ : Addr).add i) = some u) ∧ Hid (w2.heap.size ≤ gb ∧ gb < wx.heap.size) ∧ ∃ X, wx = w2.ext X)
                case first =>
                  rcases HR2.out.own.2 with ⟨hv, hL0⟩ | ⟨g, cap', cur, hv, hbg, hg, hnc, -, -, -⟩
                  · injection hv with e1 _ e2
                    subst e1 e2
                    obtain rfl : L = [] := List.eq_nil_of_length_eq_zero hL0
                    obtain rfl : j = 0 := by simpa using hj
                    go_wp2
                    go_meet
                    exact ⟨_, _, rfl, Lib.hid (fun i u h => by simp at h), Lib.hid (by first | (simp; done) | (simp; omega)), RowKit.Below.toExt (by (repeat (first | with_reducible assumption | with_reducible exact Below.refl _ _ | with_reducible refine Below.drew ?_ | with_reducible refine Below.ext ?_ (by first | exact Nat.le_refl _ | omega | (simp; done) | (simp; omega)) _ | with_reducible refine Below.alloc ?_ (by first | exact Nat.le_refl _ | omega | (simp; done) | (simp; omega)) _ | with_reducible refine Below.setCell ?_ (by first | exact Nat.le_refl _ | omega | (simp; done) | (simp; omega)) _)))⟩
                  · injection hv with e1 _ e2
                    subst e1 e2
                    by_cases hjc : cap = j
                    · subst hjc
                      have e0 : L.length - cap = 0 := by omega
                      have e1 : cap = L.length := by omega
                      have e2 : L.drop cap = [] := by rw [e1]; exact List.drop_length
                      have E1 := Lib.hid e1
                      have E2 := Lib.hid e2
                      clear e1 e2
                      go_wp2
                      go_meet
                      exact ⟨_, _, by first | rfl | rw [e0] | simp [e0], Lib.hid (fun i u h => by rw [E2.out] at h; simp at h), Lib.hid (by first | (simp; done) | (simp; omega)), RowKit.Below.toExt (by (repeat (first | with_reducible assumption | with_reducible exact Below.refl _ _ | with_reducible refine Below.drew ?_ | with_reducible refine Below.ext ?_ (by first | exact Nat.le_refl _ | omega | (simp; done) | (simp; omega)) _ | with_reducible refine Below.alloc ?_ (by first | exact Nat.le_refl _ | omega | (simp; done) | (simp; omega)) _ | with_reducible refine Below.setCell ?_ (by first | exact Nat.le_refl _ | omega | (simp; done) | (simp; omega)) _)))⟩
                    · have hOw := own_extS HR2.out.own X3
                      have HOw := Lib.hid hOw
                      clear hOw hg
                      go_wp2_with (first
                        | (at_builtin; refine wpList_append_own _ rfl (.tmp 73) (.tmp 76) 54 rfl w2.heap.size 62 i0 (.agg #[.int .i64 0, .int .i64 0, .int .i64 0]) 3 24 Try.underlying54 hi hz0 hz1 hz2 rfl (by decide) (.slice (some ⟨w2.heap.size + X3.sz, 0, none⟩) 0 0) 0 [] rfl (own_empty (by simp) (by omega)) ⟨g, j * 3, none⟩ (L.length - j) (cap - j) ((L.drop j).flatMap St.cells) rfl (by rw [cells_len, List.length_drop]) (own_news (HOw.out.alloc _)) (cells_one _) (by simp only [maxLen]; omega) (by omega) (by simp; omega) ?_; intro v' w5 hown hgrow hiff))
                      go_meet
                      obtain ⟨g', cap', cur', rfl, hb', hg', -, -, -, -⟩ : ∃ g' cap' cur', v' = .slice (some ⟨g', 0, none⟩) (0 + (L.length - j)) cap' ∧ w2.heap.size ≤ g' ∧ w5.heap[g']? = some (.cells cur' 62 (0, 0)) ∧ True ∧ True ∧ True ∧ True := by
                        rcases hown.2 with ⟨e, e'⟩ | ⟨g', cap', cur', e, hb', hg', -⟩
                        · cases (hiff.1 e).1
                        · exact ⟨g', cap', cur', e, hb', hg', trivial, trivial, trivial, trivial⟩
                      refine ⟨g', cap', by rw [Nat.zero_add], Lib.hid fun i u h => hown.cells (g := g') rfl i u h, Lib.hid ⟨hb', (Array.getElem?_eq_some_iff.1 hg').1⟩, ?_⟩
                      refine RowKit.Below.toExt ?_
                      refine Below.grown (w := (w2.ext X3).alloc (.cells #[] 62)) (by (repeat (first | with_reducible assumption | with_reducible exact Below.refl _ _ | with_reducible refine Below.drew ?_ | with_reducible refine Below.ext ?_ (by first | exact Nat.le_refl _ | omega | (simp; done) | (simp; omega)) _ | with_reducible refine Below.alloc ?_ (by first | exact Nat.le_refl _ | omega | (simp; done) | (simp; omega)) _ | with_reducible refine Below.setCell ?_ (by first | exact Nat.le_refl _ | omega | (simp; done) | (simp; omega)) _))) hgrow (by simp; omega) ?_
                      intro b hb
                      have : w2.heap.size + X3.sz = b := by simpa [Value.ownBlock] using hb
                      omega
                case rest =>
                  obtain ⟨gb, c14, rfl, hcl, hab, X4, rfl⟩ := hcut
                  go_upto_region 20 with fail
                  rcases HR2.out.own.2 with ⟨hv, hL0⟩ | ⟨g, cap', cur, hv, hbg, hg, hnc, -, -, -⟩
                  · injection hv with e1 e3 e2
                    subst e1 e2
                    obtain rfl : j = 0 := by omega
                    clear hL0 e3
                    go_region_law (first
                      | (refine step_append_any _ rfl (.tmp 80) (.tmp 82) 54 rfl w.heap.size 62 i0 (.agg #[.int .i64 0, .int .i64 0, .int .i64 0]) 3 24 Try.underlying54 hi hz0 hz1 hz2 rfl (by decide) (.slice none 0 0) 0 ((L.take 0).flatMap St.cells) rfl ?_ ⟨w2.heap.size + X4.sz, 0, none⟩ 1 1 (St.cells ⟨K, x, y⟩) rfl rfl ?_ ?_ (by simp only [maxLen]; omega) (by omega) ?_ ?_
                         · exact World.ownsRow.alloc (World.ownsRow_nil _ _ _ _) _
                         · exact cells_newS (by first | rfl | (simp; done) | (simp; rfl)) _ _
                         · intro u hu; simp at hu; rcases hu with rfl | rfl | rfl <;> rfl
                         · simp; omega
                         intro v1 w6 hown1 hgrow1
                         have GR1 := Lib.hid hgrow1
                         have OW1 := Lib.hid hown1
                         have hz6 := hgrow1.size
                         simp at hz6
                         clear hgrow1 hown1)
                      | (refine step_append_any _ rfl (.tmp 83) (.tmp 84) 54 rfl w.heap.size 62 i0 (.agg #[.int .i64 0, .int .i64 0, .int .i64 0]) 3 24 Try.underlying54 hi hz0 hz1 hz2 rfl (by decide) _ (0 + 1) _ rfl OW1.out ⟨gb, 0, none⟩ (L.length - 0) c14 ((L.drop 0).flatMap St.cells) rfl (by rw [cells_len, List.length_drop]) ?_ (cells_one _) (by simp only [maxLen]; omega) (by omega) ?_ ?_
                         · exact news_kept hcl.out hab.out.2 GR1.out (by simp [Value.ownBlock])
                         · have := HR2.out.size; omega
                         intro v2 w7 hown2 hgrow2
                         have GR2 := Lib.hid hgrow2
                         have OW2 := Lib.hid hown2
                         clear hgrow2 hown2))
                    all_goals go_wp2
                    all_goals go_roundw
                    all_goals first
                      | exact ⟨y + 1, _, _, by omega, by omega, rfl, rfl, Lib.hid (HR2.out.put (Nat.zero_le _) (by (repeat (first | with_reducible assumption | with_reducible exact Below.refl _ _ | with_reducible refine Below.drew ?_ | with_reducible refine Below.ext ?_ (by first | exact Nat.le_refl _ | omega | (simp; done) | (simp; omega)) _ | with_reducible refine Below.alloc ?_ (by first | exact Nat.le_refl _ | omega | (simp; done) | (simp; omega)) _ | with_reducible refine Below.setCell ?_ (by first | exact Nat.le_refl _ | omega | (simp; done) | (simp; omega)) _))) (.inr rfl) GR1.out OW1.out GR2.out OW2.out), Lib.hid (by
                          have := hP.out.put (of_decide_eq_true EE.out) hx0 hy0 hl2 0 (by rw [HK.out]; exact hjK.out) (by rw [HK.out]; exact hjL.out)
                          rw [HK.out] at this; exact this)⟩
                      | (simp [intOf]; omega)
                  · injection hv with e1 _ e2
                    subst e1 e2
                    by_cases hc0 : cap = 0
                    · subst hc0
                      have hL0 : L.length = 0 := by omega
                      obtain rfl : j = 0 := by omega
                      have hgs := HO2.out g rfl
                      have hg2 := ls
                      have OWN0 := Lib.hid (fun X => show (w2.ext X).ownsRow w.heap.size 62 3 (.slice (some ⟨g, 0, none⟩) 0 0) 0 ((L.take 0).flatMap St.cells) by rw [← take_flat]; exact own_take (own_extS HR2.out.own X) (Nat.zero_le _))
                      clear hg hnc hL0
                      go_region_law (first
                        | (refine step_append_any _ rfl (.tmp 80) (.tmp 82) 54 rfl w.heap.size 62 i0 (.agg #[.int .i64 0, .int .i64 0, .int .i64 0]) 3 24 Try.underlying54 hi hz0 hz1 hz2 rfl (by decide) (.slice (some ⟨g, 0, none⟩) 0 0) 0 ((L.take 0).flatMap St.cells) rfl ?_ ⟨w2.heap.size + X4.sz, 0, none⟩ 1 1 (St.cells ⟨K, x, y⟩) rfl rfl ?_ ?_ (by simp only [maxLen]; omega) (by omega) ?_ ?_
                           · exact World.ownsRow.alloc (OWN0.out _) _
                           · exact cells_newS (by first | rfl | (simp; done) | (simp; rfl)) _ _
                           · intro u hu; simp at hu; rcases hu with rfl | rfl | rfl <;> rfl
                           · simp; omega
                           intro v1 w6 hown1 hgrow1
                           have GR1 := Lib.hid hgrow1
                           have OW1 := Lib.hid hown1
                           have hz6 := hgrow1.size
                           simp at hz6
                           clear hgrow1 hown1)
                        | (refine step_append_any _ rfl (.tmp 83) (.tmp 84) 54 rfl w.heap.size 62 i0 (.agg #[.int .i64 0, .int .i64 0, .int .i64 0]) 3 24 Try.underlying54 hi hz0 hz1 hz2 rfl (by decide) _ (0 + 1) _ rfl OW1.out ⟨gb, 0, none⟩ (L.length - 0) c14 ((L.drop 0).flatMap St.cells) rfl (by rw [cells_len, List.length_drop]) ?_ (cells_one _) (by simp only [maxLen]; omega) (by omega) ?_ ?_
                           · exact news_kept hcl.out hab.out.2 GR1.out (by have := hab.out.1; simp [Value.ownBlock]; omega)
                           · have := HR2.out.size; omega
                           intro v2 w7 hown2 hgrow2
                           have GR2 := Lib.hid hgrow2
                           have OW2 := Lib.hid hown2
                           clear hgrow2 hown2))
                      all_goals go_wp2
                      all_goals go_roundw
                      all_goals first
                        | exact ⟨y + 1, _, _, by omega, by omega, rfl, rfl, Lib.hid (HR2.out.put (Nat.zero_le _) (by (repeat (first | with_reducible assumption | with_reducible exact Below.refl _ _ | with_reducible refine Below.drew ?_ | with_reducible refine Below.ext ?_ (by first | exact Nat.le_refl _ | omega | (simp; done) | (simp; omega)) _ | with_reducible refine Below.alloc ?_ (by first | exact Nat.le_refl _ | omega | (simp; done) | (simp; omega)) _ | with_reducible refine Below.setCell ?_ (by first | exact Nat.le_refl _ | omega | (simp; done) | (simp; omega)) _))) (.inl rfl) GR1.out OW1.out GR2.out OW2.out), Lib.hid (by
                            have := hP.out.put (of_decide_eq_true EE.out) hx0 hy0 hl2 0 (by rw [HK.out]; exact hjK.out) (by rw [HK.out]; exact hjL.out)
                            rw [HK.out] at this; exact this)⟩
                        | (simp [intOf]; omega)
                    have hc1 : 0 < cap := by omega
                    have hjc : j ≤ cap := by omega
                    have hgs := HO2.out g rfl
                    have hg2 := ls
                    clear hg hnc
                    have OWN0 := Lib.hid (fun X => show (w2.ext X).ownsRow w.heap.size 62 3 (.slice (some ⟨g, 0, none⟩) j cap) j ((L.take j).flatMap St.cells) by rw [← take_flat]; exact own_take (own_extS HR2.out.own X) hj)
                    go_region_law (first
                      | (refine step_append_any _ rfl (.tmp 80) (.tmp 82) 54 rfl w.heap.size 62 i0 (.agg #[.int .i64 0, .int .i64 0, .int .i64 0]) 3 24 Try.underlying54 hi hz0 hz1 hz2 rfl (by decide) (.slice (some ⟨g, 0, none⟩) j cap) j ((L.take j).flatMap St.cells) rfl ?_ ⟨w2.heap.size + X4.sz, 0, none⟩ 1 1 (St.cells ⟨K, x, y⟩) rfl rfl ?_ ?_ (by simp only [maxLen]; omega) (by omega) ?_ ?_
                         · exact World.ownsRow.alloc (OWN0.out _) _
                         · exact cells_newS (by first | rfl | (simp; done) | (simp; rfl)) _ _
                         · intro u hu; simp at hu; rcases hu with rfl | rfl | rfl <;> rfl
                         · simp; omega
                         intro v1 w6 hown1 hgrow1
                         have GR1 := Lib.hid hgrow1
                         have OW1 := Lib.hid hown1
                         have hz6 := hgrow1.size
                         simp at hz6
                         clear hgrow1 hown1)
                      | (refine step_append_any _ rfl (.tmp 83) (.tmp 84) 54 rfl w.heap.size 62 i0 (.agg #[.int .i64 0, .int .i64 0, .int .i64 0]) 3 24 Try.underlying54 hi hz0 hz1 hz2 rfl (by decide) _ (j + 1) _ rfl OW1.out ⟨gb, 0, none⟩ (L.length - j) c14 ((L.drop j).flatMap St.cells) rfl (by rw [cells_len, List.length_drop]) ?_ (cells_one _) (by simp only [maxLen]; omega) (by omega) ?_ ?_
                         · exact news_kept hcl.out hab.out.2 GR1.out (by have := hab.out.1; simp [Value.ownBlock]; omega)
                         · have := HR2.out.size; omega
                         intro v2 w7 hown2 hgrow2
                         have GR2 := Lib.hid hgrow2
                         have OW2 := Lib.hid hown2
                         clear hgrow2 hown2))
                    all_goals go_wp2
                    all_goals go_roundw
                    all_goals first
                      | exact ⟨y + 1, _, _, by omega, by omega, rfl, rfl, Lib.hid (HR2.out.put hj (by (repeat (first | with_reducible assumption | with_reducible exact Below.refl _ _ | with_reducible refine Below.drew ?_ | with_reducible refine Below.ext ?_ (by first | exact Nat.le_refl _ | omega | (simp; done) | (simp; omega)) _ | with_reducible refine Below.alloc ?_ (by first | exact Nat.le_refl _ | omega | (simp; done) | (simp; omega)) _ | with_reducible refine Below.setCell ?_ (by first | exact Nat.le_refl _ | omega | (simp; done) | (simp; omega)) _))) (.inl rfl) GR1.out OW1.out GR2.out OW2.out), Lib.hid (by
                          have := hP.out.put (of_decide_eq_true EE.out) hx0 hy0 hl2 j (by rw [HK.out]; exact hjK.out) (by rw [HK.out]; exact hjL.out)
                          rw [HK.out] at this; exact this)⟩
                      | (simp [intOf]; omega)
        · go_wp2
          go_roundw
          case rel => exact ⟨x + 1, _, L, by omega, by omega, rfl, rfl, hR, Lib.hid (by
            have e : y = y1 := by omega
            subst e; exact hP.out.column)⟩
          case measure => simp [intOf]; omega
    · go_wp2
      go_ret
      have e : x = x1 := by omega
      subst e
      have hd := hP.out.done RR.out
      refine ⟨_, rfl, ?_, ?_⟩
      · rw [← hd]; exact own_sts hR.out.own (by have := HL.out _ _ _ hP.out; omega)
      · exact hR.out.ext
end Go.Proofs.Ytmlhbbkgfffmcaa
