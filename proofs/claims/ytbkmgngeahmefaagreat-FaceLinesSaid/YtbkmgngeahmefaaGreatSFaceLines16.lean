/- Parts of the proof of FaceLines, laid together. Conditions: at each. -/
import Derived.Deep.DeepCutAuto
import Derived.Deep.AppendLies
import Derived.Laws.AppendOwnNone
import Derived.Test.YtbkmgngeahmefaaGreatSFaceLines11
import Derived.Test.YtbkmgngeahmefaaGreatSFaceLines15
set_option linter.unusedVariables false
set_option linter.unusedSimpArgs false
section
namespace Go.Proofs.YtbkmgngeahmefaaGreat
open Go.RowKit
set_option maxHeartbeats 4000000 in
theorem rexits_any (ax ay bx y2 x y : Int) (ha : MayP ax ay) (hb : MayP bx y2) (hx : FarP x y) (w : World) :
    Calls Tryz.prog 187 #[P2 ax ay, P2 bx y2, .int .i64 x, .int .i64 y] w (Ret (.bool (decide (exP ax ay bx y2 x y))) w) := by
  have HM := Lib.hid (fun w => rmeets_any ax ay bx y2 x y ha hb hx w)
  have HI := Lib.hid (fun w => rinside_any bx y2 x y hb hx w)
  have e : decide (exP ax ay bx y2 x y) = (decide (mtP (ax - 256 * x - 128) (ay - 256 * y - 128) (bx - 256 * x - 128) (y2 - 256 * y - 128)) && !decide (insP (bx - 256 * x - 128) (y2 - 256 * y - 128))) := by
    rw [Bool.eq_iff_iff]; simp [exP]; exact decide_eq_true_iff
  rw [e]
  clear e
  obtain ⟨m, hm⟩ : ∃ m, decide (mtP (ax - 256 * x - 128) (ay - 256 * y - 128) (bx - 256 * x - 128) (y2 - 256 * y - 128)) = m := ⟨_, rfl⟩
  obtain ⟨n, hn⟩ : ∃ m, decide (insP (bx - 256 * x - 128) (y2 - 256 * y - 128)) = m := ⟨_, rfl⟩
  rw [hm] at HM ⊢
  rw [hn] at HI ⊢
  clear hm hn
  cases m
  all_goals cases n
  all_goals
    go_enter Tryz.func187, Tryz.ntmps187
    go_wp2_with (first | (go_at_call 230; (with_reducible refine (HM.out _).mono ?_); rintro _ _ ⟨rfl, X_, rfl⟩) | (go_at_call 231; (with_reducible refine (HI.out _).mono ?_); rintro _ _ ⟨rfl, X_, rfl⟩))
    go_ret
    exact Ret.of' rfl (by exact bl_)
set_option maxHeartbeats 4000000 in
theorem rin_any (x y : Int) (h : MayP x y) (w : World) : Calls Tryz.prog 229 #[P2 x y] w (Ret (In3 x y) w) := by
  have HI := Lib.hid (fun i k w (hf : FarP i k) => rinside_any x y i k h hf w)
  have hin := Lib.hid (fun i k => in_ins x y i k)
  have hx1 : inOk x y = true → x / 256 - 1 ≤ inX x y ∧ inX x y ≤ x / 256 := fun e => by unfold inX; rw [if_pos e]; split <;> omega
  have hy1 : inOk x y = true → inY x y = y / 256 := fun e => by unfold inY; rw [if_pos e]
  have hx2 : inOk x y = false → inX x y = 0 ∧ inY x y = 0 := fun e => by unfold inX inY; rw [e]; exact ⟨rfl, rfl⟩
  have tx := tdiv_near x
  have ty := tdiv_near y
  obtain ⟨x0, x1, y0, y1⟩ := h
  obtain ⟨a, ha⟩ : ∃ a, inX x y = a := ⟨_, rfl⟩
  obtain ⟨b, hb⟩ : ∃ b, inY x y = b := ⟨_, rfl⟩
  obtain ⟨o, ho⟩ : ∃ o, inOk x y = o := ⟨_, rfl⟩
  simp only [In3, ha, hb, ho] at *
  obtain ⟨p, hp⟩ : ∃ p, x.tdiv 256 = p := ⟨_, rfl⟩
  obtain ⟨q, hq⟩ : ∃ p, y.tdiv 256 = p := ⟨_, rfl⟩
  rw [hp] at tx
  rw [hq] at ty
  have pb : -2097154 ≤ p ∧ p ≤ 2097154 := by omega
  have qb : -2097154 ≤ q ∧ q ≤ 2097154 := by omega
  have A1 : o = true → p - 2 ≤ a ∧ a ≤ p + 2 := fun e => by have := hx1 e; omega
  have B1 : o = true → q - 2 ≤ b ∧ b ≤ q + 2 := fun e => by have := hy1 e; omega
  have HA := Lib.hid A1
  have HB := Lib.hid B1
  have HO := Lib.hid hx2
  obtain ⟨pb0, pb1⟩ := pb
  obtain ⟨qb0, qb1⟩ := qb
  clear hx1 hy1 hx2 tx ty A1 B1 ha hb ho
  go_enter Tryz.func229, Tryz.ntmps229
  go_wp2
  go_loopw [5] (fun i wr => ∃ (k : Int) (X : Xt), p - 2 ≤ k ∧ k ≤ p + 3 ∧ Hid (o = true → k ≤ a) ∧ i = .int .i64 k ∧ wr = (w.alloc (.cells #[.int .i64 x, .int .i64 y] 151)).ext X)
    (fun i _ => (p + 3 - intOf i).toNat)
  case atStart => exact ⟨p - 2, _, by omega, by omega, Lib.hid fun e => (HA.out e).1, rfl, ext_self _⟩
  case round =>
    obtain ⟨k, X, k0, k1, ka, rfl, rfl⟩ := hrel
    by_cases hlt : k ≤ p + 2
    · go_wp2
      go_loopw [6] (fun i wr => ∃ (j : Int) (Y : Xt), q - 2 ≤ j ∧ j ≤ q + 3 ∧ Hid (o = true → a = k → j ≤ b) ∧ i = .int .i64 j ∧ wr = (w.alloc (.cells #[.int .i64 x, .int .i64 y] 151)).ext Y)
        (fun i _ => (q + 3 - intOf i).toNat)
      case atStart => exact ⟨q - 2, _, by omega, by omega, Lib.hid fun e _ => (HB.out e).1, rfl, rfl⟩
      case round =>
        obtain ⟨j, Y, j0, j1, jb, rfl, rfl⟩ := hrel
        by_cases hl2 : j ≤ q + 2
        · obtain ⟨s, hs⟩ : ∃ s, decide (insP (x - 256 * k - 128) (y - 256 * j - 128)) = s := ⟨_, rfl⟩
          have HI1 := Lib.hid (fun w => hs ▸ HI.out k j w ⟨by omega, by omega, by omega, by omega⟩)
          have HN := Lib.hid ((hin.out k j).trans (by rw [← decide_eq_true_iff (p := insP _ _), hs]))
          clear hs
          cases s
          · go_wp2_with (first | (go_at_call 231; (with_reducible refine (HI1.out _).mono ?_); rintro _ _ ⟨rfl, X_, rfl⟩))
            go_roundw
            case rel => exact ⟨j + 1, _, by omega, by omega, Lib.hid fun e f => by
              have := jb.out e f
              have : b ≠ j := fun g => by cases HN.out.1 ⟨e, f, g⟩
              omega, rfl, World.ext_ext⟩
            case measure => simp [intOf]; omega
          · go_wp2_with (first | (go_at_call 231; (with_reducible refine (HI1.out _).mono ?_); rintro _ _ ⟨rfl, X_, rfl⟩))
            go_ret3
            obtain ⟨e1, e2, e3⟩ := HN.out.2 (by trivial)
            exact Ret.of' (by rw [e1, e2, e3]; rfl) (by exact bl_)
        · go_wp2
          go_roundw
          case rel => exact ⟨k + 1, _, by omega, by omega, Lib.hid fun e => by
            have := ka.out e
            have h2 := (HB.out e).2
            have : a ≠ k := fun f => by have := jb.out e f; omega
            omega, rfl, rfl⟩
          case measure => simp [intOf]; omega
    · go_wp2
      go_ret3
      have e : o = false := by
        cases o
        · rfl
        · have h1 := ka.out rfl
          have h2 := (HA.out rfl).2
          omega
      obtain ⟨e1, e2⟩ := HO.out e
      exact Ret.of' (by rw [e, e1, e2]; rfl) (by exact bl_)
theorem rwide_any (ax ay bx y2 : Int) (ha : MayP ax ay) (hb : MayP bx y2) (w : World) : Calls Tryz.prog 186 #[P2 ax ay, P2 bx y2] w (Ret (.bool (!decide (turnP ax ay bx y2))) w) := by
  obtain ⟨a0, a1, a2, a3⟩ := ha
  obtain ⟨b0, b1, b2, b3⟩ := hb
  go_enter Tryz.func186, Tryz.ntmps186
  go_wp2
  refine wp_region_ext (by kernel_rfl) (by kernel_rfl) ?_
  repeat (go_big_quiet_step ((fail)))
  refine wpQuiet_nil ?_
  intro _ hw_ext
  obtain ⟨X, hw_ext⟩ := hw_ext
  subst hw_ext
  go_wp2
  go_ret
  exact Ret.of' (by rw [← decide_not]; refine bool_d ?_; unfold turnP; omega) (by exact bl_)
theorem rahead_any (u : Int) (h0 : -536870912 ≤ u) (h1 : u ≤ 536870912) (w : World) : Calls Tryz.prog 228 #[.int .i64 u] w (Ret (.int .i64 (leastC u)) w) := by
  have t := tdiv_near u
  have L := leastC_is u
  obtain ⟨n, hn⟩ : ∃ n, leastC u = n := ⟨_, rfl⟩
  rw [hn] at L ⊢
  obtain ⟨p, hp⟩ : ∃ p, u.tdiv 256 = p := ⟨_, rfl⟩
  rw [hp] at t
  obtain ⟨L0, L1⟩ := L
  have pb : -2097154 ≤ p ∧ p ≤ 2097154 := by omega
  have pn : p - 3 ≤ n ∧ n ≤ p + 3 := by omega
  obtain ⟨pb0, pb1⟩ := pb
  clear hn t
  go_enter Tryz.func228, Tryz.ntmps228
  go_wp2
  go_loop [3] (fun i => ∃ k : Int, p - 3 ≤ k ∧ k ≤ n ∧ i = .int .i64 k) (fun i => (n - intOf i).toNat)
  case atStart => exact ⟨p - 3, by omega, by omega, rfl⟩
  case round =>
    obtain ⟨k, k0, k1, rfl⟩ := hrel
    by_cases hlt : 256 * k + 128 < u
    · go_wp2
      go_round
      case rel => exact ⟨k + 1, by omega, by omega, rfl⟩
      case measure => simp [intOf]; omega
    · go_wp2
      go_ret
      exact Ret.of' (congrArg (Value.int .i64) (by omega)) (by exact bl_)
abbrev Ln.w (l : Ln) : Value := .agg #[.int .i64 l.From, .int .i64 l.To, .int .i64 l.X, .int .i64 l.Y, .bool l.Extra]
structure Ln.Ok (l : Ln) : Prop where
  f0 : -8388608 ≤ l.From
  f1 : l.From ≤ 8388608
theorem rnumber_any (l : Ln) (ok : l.Ok) (x y u : Int) (u0 : -8388608 ≤ u) (u1 : u ≤ 8388608) (w : World) : Calls Tryz.prog 188 #[l.w, .int .i64 x, .int .i64 y, .int .i64 u] w (Ret (.int .i64 (numL l x y u)) w) := by
  obtain ⟨f0, f1⟩ := ok
  obtain ⟨Z, hZ⟩ : ∃ Z, Z = numL l x y u := ⟨_, rfl⟩
  rw [← hZ]
  unfold numL at hZ
  cases l with
  | mk F T X Y E =>
  simp only [Ln.w] at *
  have HZ := Lib.hid hZ
  clear hZ
  by_cases c : T < F
  all_goals
    cases E
    · go_enter Tryz.func188, Tryz.ntmps188
      go_wp2
      go_ret
      exact Ret.of' (congrArg (Value.int .i64) (by rw [HZ.out]; simp; omega)) (by exact bl_)
    · by_cases c1 : x = X
      · by_cases c2 : y = Y
        · have z1 : (x == X) = true := by simp [c1]
          have z2 : (y == Y) = true := by simp [c2]
          have C1 := Lib.hid c1
          have C2 := Lib.hid c2
          clear c1 c2
          go_enter Tryz.func188, Tryz.ntmps188
          go_wp2
          go_ret
          exact Ret.of' (congrArg (Value.int .i64) (by rw [HZ.out]; simp [C1.out, C2.out])) (by exact bl_)
        · have z1 : (x == X) = true := by simp [c1]
          have z2 : (y == Y) = false := by simp [c2]
          have C1 := Lib.hid c1
          have C2 := Lib.hid c2
          clear c1 c2
          go_enter Tryz.func188, Tryz.ntmps188
          go_wp2
          go_ret
          exact Ret.of' (congrArg (Value.int .i64) (by rw [HZ.out]; simp [C2.out]; omega)) (by exact bl_)
      · have z1 : (x == X) = false := by simp [c1]
        have C1 := Lib.hid c1
        clear c1
        go_enter Tryz.func188, Tryz.ntmps188
        go_wp2
        go_ret
        exact Ret.of' (congrArg (Value.int .i64) (by rw [HZ.out]; simp [C1.out]; omega)) (by exact bl_)
end Go.Proofs.YtbkmgngeahmefaaGreat
end
section
namespace Go.Proofs.YtbkmgngeahmefaaGreat
open Go.RowKit
theorem ofL_ok (ax ay bx y2 : Int) (ha : MayP ax ay) (hb : MayP bx y2) : (ofL ax ay bx y2).Ok := by
  have b1 := uC_bd (decide (turnP ax ay bx y2)) ha
  unfold ofL
  split <;> (refine ⟨?_, ?_⟩ <;> (simp only [leastC]; omega))
set_option maxHeartbeats 8000000 in
theorem wrof_any (ax ay bx y2 : Int) (ha : MayP ax ay) (hb : MayP bx y2) (w : World) : Calls Tryz.prog 184 #[P2 ax ay, P2 bx y2] w (Ret (ofL ax ay bx y2).w w) := by
  have HWd := Lib.hid (fun w => rwide_any ax ay bx y2 ha hb w)
  have HAh := Lib.hid (fun u w (h0 : -536870912 ≤ u) (h1 : u ≤ 536870912) => rahead_any u h0 h1 w)
  have HI := Lib.hid (fun w => rin_any ax ay ha w)
  have ib : (-8388608 ≤ inX ax ay ∧ inX ax ay ≤ 8388608) ∧ (-8388608 ≤ inY ax ay ∧ inY ax ay ≤ 8388608) := by
    obtain ⟨a0, a1, a2, a3⟩ := ha
    unfold inX inY; constructor <;> constructor <;> repeat' split
    all_goals omega
  have HE := Lib.hid (fun w => rexits_any ax ay bx y2 (inX ax ay) (inY ax ay) ha hb ⟨ib.1.1, ib.1.2, ib.2.1, ib.2.2⟩ w)
  have fb := uC_bd (decide (turnP ax ay bx y2)) ha
  have gb := uC_bd (decide (turnP ax ay bx y2)) hb
  obtain ⟨V, hV⟩ : ∃ V, ofL ax ay bx y2 = V := ⟨_, rfl⟩
  rw [hV]
  unfold ofL exA at hV
  obtain ⟨a0, a1, a2, a3⟩ := ha
  obtain ⟨b0, b1, b2, b3⟩ := hb
  obtain ⟨t, ht⟩ : ∃ t, decide (turnP ax ay bx y2) = t := ⟨_, rfl⟩
  obtain ⟨o, ho⟩ : ∃ t, inOk ax ay = t := ⟨_, rfl⟩
  obtain ⟨e, he⟩ : ∃ t, decide (exP ax ay bx y2 (inX ax ay) (inY ax ay)) = t := ⟨_, rfl⟩
  have he' : exP ax ay bx y2 (inX ax ay) (inY ax ay) ↔ e = true := by rw [← he, decide_eq_true_iff]
  simp only [ht, ho, he'] at hV
  have hu := iC_uv t ax ay
  rw [hu.1] at hV
  rw [he] at HE
  rw [ht] at fb gb
  simp only [ht] at HWd
  simp only [In3, ho] at HI
  obtain ⟨i, hi⟩ : ∃ t, inX ax ay = t := ⟨_, rfl⟩
  obtain ⟨k, hk⟩ : ∃ t, inY ax ay = t := ⟨_, rfl⟩
  simp only [hi, hk] at HI HE hV ib
  obtain ⟨F, hF⟩ : ∃ F, leastC (uC t ax ay) = F := ⟨_, rfl⟩
  obtain ⟨G, hG⟩ : ∃ F, leastC (uC t bx y2) = F := ⟨_, rfl⟩
  rw [hF, hG] at hV
  have hFb : -2097154 ≤ F ∧ F ≤ 2097154 := by rw [← hF]; unfold leastC; omega
  have hGb : -2097154 ≤ G ∧ G ≤ 2097154 := by rw [← hG]; unfold leastC; omega
  have HV := Lib.hid hV
  have HF := Lib.hid hF
  have HG := Lib.hid hG
  obtain ⟨F0, F1⟩ := hFb
  obtain ⟨G0, G1⟩ := hGb
  obtain ⟨⟨i0, i1⟩, ⟨k0, k1⟩⟩ := ib
  clear hV hF hG ht ho he he' hu hi hk
  have L1 := Lib.hid (fun w => HAh.out ax w (by omega) (by omega))
  have L2 := Lib.hid (fun w => HAh.out bx w (by omega) (by omega))
  have L3 := Lib.hid (fun w => HAh.out ay w (by omega) (by omega))
  have L4 := Lib.hid (fun w => HAh.out y2 w (by omega) (by omega))
  obtain ⟨F', hF'⟩ : ∃ F, leastC ax = F := ⟨_, rfl⟩
  obtain ⟨G', hG'⟩ : ∃ F, leastC bx = F := ⟨_, rfl⟩
  have HF' := Lib.hid hF'
  have HG' := Lib.hid hG'
  rw [hF'] at L1
  rw [hG'] at L2
  clear hF' hG'
  go_enter Tryz.func184, Tryz.ntmps184
  go_upto_region 1 with fail
  refine wp_region_mix (by kernel_rfl) ?_
  repeat (first | (refine mix_skip rfl ?_; simp only [List.nil_append, List.cons_append]) | (refine mix_ncheck rfl rfl rfl ?_; simp only [Act.put, List.setIfInBounds_toArray, List.set_cons_zero, List.set_cons_succ, List.nil_append, List.cons_append]) | (refine mix_calm rfl rfl ?_; intro K_ hK_; go_big_quiet_op; go_big_quiet_on; simp only [List.nil_append, List.cons_append]) | (refine mix_alloc rfl rfl Tryz.zeroValue225 ?_; simp only [List.nil_append, List.cons_append]) | (refine mix_fill 7 rfl rfl rfl rfl (by simp [Value.oneCell']) (by kernel_rfl) (by simp) rfl rfl rfl rfl ?_; simp only [List.nil_append, List.cons_append]) | (apply mix_call rfl; (intro X_; go_simp; go_at_call 228; with_reducible exact Calls.calm_ret (L1.out _)); simp only [Act.put, List.setIfInBounds_toArray, List.set_cons_zero, List.set_cons_succ, List.nil_append, List.cons_append]) | (apply mix_call rfl; (intro X_; go_simp; go_at_call 228; with_reducible exact Calls.calm_ret (L2.out _)); simp only [Act.put, List.setIfInBounds_toArray, List.set_cons_zero, List.set_cons_succ, List.nil_append, List.cons_append]))
  refine mix_nil (mix_end1 7 8 ⟨by kernel_rfl, by kernel_rfl⟩ rfl rfl rfl rfl rfl (by kernel_rfl) ?_)
  intro X p h
  have c_h := h.cell
  have f_h := h.frozen
  have g_h := h.gap
  have b_h := Lib.hid h.block
  simp only [World.size_ext, World.size_alloc, World.size_drew, World.size_setCell] at g_h
  clear h
  simp only [Act.put, List.setIfInBounds_toArray, List.set_cons_zero, List.set_cons_succ, ptr]
  go_upto_region 2 with fail
  have B := b_h.out
  refine wp_abs (F := fun w1 => Row w1 w.heap.size #[.int .i64 ax, .int .i64 ay] 151 ∧ Row w1 (w.heap.size + 1) #[.int .i64 bx, .int .i64 y2] 151 ∧ Row w1 (w.heap.size + 1 + 1) #[.int .i64 0, .int .i64 0, .int .i64 0, .int .i64 0, .bool false] 225 ∧ Row w1 p #[.int .i64 F', .int .i64 G', .int .i64 0, .int .i64 0, .bool false] 225 ∧ w.heap.size + 3 ≤ p ∧ ∃ X, w1 = w.ext X) ⟨by exact rx_, by exact rx_, by exact rx_, B, by simp [Xt.gapl, Xt.gap, Xt.sz] at g_h ⊢; omega, RowKit.Below.toExt (by exact bl_)⟩ ?_
  clear c_h f_h g_h b_h B
  rintro w1 ⟨ra, rb, rs, rp, hp, hX⟩
  have RA := Lib.hid ra
  have RB := Lib.hid rb
  have RS := Lib.hid rs
  have RP := Lib.hid rp
  have HX := Lib.hid hX
  have ca := ra.cell
  have fa := ra.frozen
  have la := ra.lt
  have cb := rb.cell
  have fb := rb.frozen
  have lb := rb.lt
  have cp := rp.cell
  have fp := rp.frozen
  have lp := rp.lt
  clear ra rb rs rp hX
  go_upto_if 21 with (first | (go_at_call 186; (with_reducible refine (HWd.out _).mono ?_); rintro _ _ ⟨rfl, X_, rfl⟩))
  go_cut [] (fun wx => Row wx w.heap.size #[.int .i64 ax, .int .i64 ay] 151 ∧ Row wx (w.heap.size + 1) #[.int .i64 bx, .int .i64 y2] 151 ∧ Row wx (w.heap.size + 1 + 1) #[.int .i64 0, .int .i64 0, .int .i64 0, .int .i64 0, .bool false] 225 ∧ Row wx p #[.int .i64 F, .int .i64 G, .int .i64 0, .int .i64 0, .bool false] 225 ∧ ∃ X, wx = w.ext X)
  case first =>
    cases t
    · have e1 : F' = F := by rw [← HF.out, ← HF'.out]; rfl
      have e2 : G' = G := by rw [← HG.out, ← HG'.out]; rfl
      have E1 := Lib.hid e1
      have E2 := Lib.hid e2
      clear e1 e2
      go_wp2
      go_meet
      rw [← E1.out, ← E2.out]
      obtain ⟨X1, hX1⟩ := HX.out
      exact ⟨RA.out.ext _, RB.out.ext _, RS.out.ext _, RP.out.ext _, by subst hX1; exact ⟨_, World.ext_ext⟩⟩
    · have e1 : leastC ay = F := HF.out
      have e2 : leastC y2 = G := HG.out
      rw [e1] at L3
      rw [e2] at L4
      clear e1 e2
      go_upto_region 3 with fail
      refine wp_region_ext_tail 7 (by kernel_rfl) (by kernel_rfl) ?_
      simp only [List.take_succ_cons, List.take_zero, List.drop_succ_cons, List.drop_zero]
      repeat (go_big_quiet_step ((first | (go_at_call 228; with_reducible exact Calls.quiet_ret (L3.out _)) | (go_at_call 228; with_reducible exact Calls.quiet_ret (L4.out _)))))
      refine wpQuiet_nil ?_
      intro _ hw_ext
      obtain ⟨X2, hw_ext⟩ := hw_ext
      subst hw_ext
      go_wp2
      go_meet
      obtain ⟨X1, hX1⟩ := HX.out
      have ra := RA.out
      have rb := RB.out
      have rs := RS.out
      have R5 := ((((RP.out.set 0 (.int .i64 F)).set 1 (.int .i64 G)).set 2 (.int .i64 0)).set 3 (.int .i64 0)).set 4 (.bool false)
      simp only [List.setIfInBounds_toArray, List.set_cons_zero, List.set_cons_succ] at R5
      refine ⟨by exact ry_, by exact ry_, by exact ry_, by exact ry_, by subst hX1; exact RowKit.Below.toExt (by exact br_)⟩
  case rest =>
    obtain ⟨ra, rb, rs, rp, hX⟩ := hcut
    obtain ⟨w2, rfl⟩ : ∃ w2, w2 = wc := ⟨_, rfl⟩
    clear HX ca fa la cb fb lb cp fp lp
    have RA := Lib.hid ra
    have RB := Lib.hid rb
    have RS := Lib.hid rs
    have RP := Lib.hid rp
    have HX := Lib.hid hX
    have ca := ra.cell
    have fa := ra.frozen
    have la := ra.lt
    have cb := rb.cell
    have fb := rb.frozen
    have lb := rb.lt
    have cp := rp.cell
    have fp := rp.frozen
    have lp := rp.lt
    have cs := rs.cell
    have fs := rs.frozen
    have ls := rs.lt
    clear ra rb rs rp hX L1 L2 L3 L4 HAh
    cases o
    · have E := Lib.hid (show (⟨F, G, 0, 0, false⟩ : Ln) = V by rw [← HV.out]; simp)
      go_wp2_with (first | (go_at_call 229; (with_reducible refine (HI.out _).mono ?_); rintro _ _ ⟨rfl, X_, rfl⟩))
      refine body_abs (F := fun w9 => Row w9 (w.heap.size + 1 + 1) #[.int .i64 F, .int .i64 G, .int .i64 0, .int .i64 0, .bool false] 225 ∧ ∃ X, w9 = w.ext X) ⟨?_, ?_⟩ ?_
      · have R5 := ((((RS.out.set 0 (.int .i64 F)).set 1 (.int .i64 G)).set 2 (.int .i64 0)).set 3 (.int .i64 0)).set 4 (.bool false)
        simp only [List.setIfInBounds_toArray, List.set_cons_zero, List.set_cons_succ] at R5
        exact ry_
      · obtain ⟨X1, hX1⟩ := HX.out
        subst hX1
        exact RowKit.Below.toExt (by exact br_)
      rintro w9 ⟨r9, X8, rfl⟩
      have c9 := r9.cell
      rw [← E.out]
      refine bodyPost_ret (v := Ln.w ⟨F, G, 0, 0, false⟩) (by simp [results, Tryz.results184, go_sem, c9]) rfl ?_
      exact Ret.of (by exact bl_)
    · by_cases c : ax = bx ∧ ay = y2
      · have E := Lib.hid (show (⟨F, G, 0, 0, false⟩ : Ln) = V by rw [← HV.out]; simp [c])
        obtain ⟨rfl, rfl⟩ := c
        have z1 : (ax == ax) = true := by simp
        have z2 : (ay == ay) = true := by simp
        go_wp2_with (first | (go_at_call 229; (with_reducible refine (HI.out _).mono ?_); rintro _ _ ⟨rfl, X_, rfl⟩))
        refine body_abs (F := fun w9 => Row w9 (w.heap.size + 1 + 1) #[.int .i64 F, .int .i64 G, .int .i64 0, .int .i64 0, .bool false] 225 ∧ ∃ X, w9 = w.ext X) ⟨?_, ?_⟩ ?_
        · have R5 := ((((RS.out.set 0 (.int .i64 F)).set 1 (.int .i64 G)).set 2 (.int .i64 0)).set 3 (.int .i64 0)).set 4 (.bool false)
          simp only [List.setIfInBounds_toArray, List.set_cons_zero, List.set_cons_succ] at R5
          exact ry_
        · obtain ⟨X1, hX1⟩ := HX.out
          subst hX1
          exact RowKit.Below.toExt (by exact br_)
        rintro w9 ⟨r9, X8, rfl⟩
        have c9 := r9.cell
        rw [← E.out]
        refine bodyPost_ret (v := Ln.w ⟨F, G, 0, 0, false⟩) (by simp [results, Tryz.results184, go_sem, c9]) rfl ?_
        exact Ret.of (by exact bl_)
      · cases e
        · have E := Lib.hid (show (⟨F, G, 0, 0, false⟩ : Ln) = V by rw [← HV.out]; simp)
          rcases ne_bools c with z1 | ⟨z1, z2⟩
          all_goals
            clear c
            go_wp2_with (first | (go_at_call 229; (with_reducible refine (HI.out _).mono ?_); rintro _ _ ⟨rfl, X_, rfl⟩) | (go_at_call 187; (with_reducible refine (HE.out _).mono ?_); rintro _ _ ⟨rfl, X_, rfl⟩))
            refine body_abs (F := fun w9 => Row w9 (w.heap.size + 1 + 1) #[.int .i64 F, .int .i64 G, .int .i64 0, .int .i64 0, .bool false] 225 ∧ ∃ X, w9 = w.ext X) ⟨?_, ?_⟩ ?_
            · have R5 := ((((RS.out.set 0 (.int .i64 F)).set 1 (.int .i64 G)).set 2 (.int .i64 0)).set 3 (.int .i64 0)).set 4 (.bool false)
              simp only [List.setIfInBounds_toArray, List.set_cons_zero, List.set_cons_succ] at R5
              exact ry_
            · obtain ⟨X1, hX1⟩ := HX.out
              subst hX1
              exact RowKit.Below.toExt (by exact br_)
            rintro w9 ⟨r9, X8, rfl⟩
            have c9 := r9.cell
            rw [← E.out]
            refine bodyPost_ret (v := Ln.w ⟨F, G, 0, 0, false⟩) (by simp [results, Tryz.results184, go_sem, c9]) rfl ?_
            exact Ret.of (by exact bl_)
        · obtain ⟨u, hu⟩ : ∃ u, uC t i k = u := ⟨_, rfl⟩
          have ub : -8388608 ≤ u ∧ u ≤ 8388608 := by rw [← hu]; unfold uC; split <;> omega
          have hV := HV.out
          rw [hu] at hV
          have HU := Lib.hid hu
          clear HV hu
          obtain ⟨cr, hcr⟩ : ∃ c, decide (crP F G u) = c := ⟨_, rfl⟩
          have E := Lib.hid (show (⟨F, G, i, k, !cr⟩ : Ln) = V by rw [← hV, ← hcr]; simp [c])
          have CR := Lib.hid hcr
          clear hV hcr
          obtain ⟨u0, u1⟩ := ub
          rcases ne_bools c with z1 | ⟨z1, z2⟩
          all_goals
            clear c
            go_upto_region 7 with (first | (go_at_call 229; (with_reducible refine (HI.out _).mono ?_); rintro _ _ ⟨rfl, X_, rfl⟩) | (go_at_call 187; (with_reducible refine (HE.out _).mono ?_); rintro _ _ ⟨rfl, X_, rfl⟩))
            go_upto_if 55 with (first | (go_at_call 186; (with_reducible refine (HWd.out _).mono ?_); rintro _ _ ⟨rfl, X_, rfl⟩))
            go_cut [9] (fun t9 wx => t9 = .int .i64 u ∧ ∃ X, wx = w2.ext X)
            case first =>
              cases t
              · go_wp2
                go_meet
                exact ⟨congrArg _ HU.out, RowKit.Below.toExt (by exact br_)⟩
              · go_wp2
                go_meet
                exact ⟨congrArg _ HU.out, RowKit.Below.toExt (by exact br_)⟩
            case rest =>
              obtain ⟨rfl, X5, rfl⟩ := hcut
              have CR2 := Lib.hid (show cr = (decide (min F G ≤ u) && decide (u < max F G)) by rw [← CR.out, Bool.eq_iff_iff]; simp [crP]; exact decide_eq_true_iff)
              by_cases c1 : min F G ≤ u
              · by_cases c2 : u < max F G
                · have hcr := CR2.out
                  simp only [c1, c2, decide_true, Bool.and_true] at hcr
                  obtain rfl : cr = true := hcr
                  clear c1 c2
                  have d1 : decide (min F G ≤ u) = true := by have := CR2.out; simp at this; simp; omega
                  have d2 : decide (u < max F G) = true := by have := CR2.out; simp at this; simp; omega
                  go_wp2
                  have hne : w.heap.size + 1 + 1 ≠ p := by omega
                  have R5 := (((((((RS.out.other hne 2 (.int .i64 i)).other hne 3 (.int .i64 k)).other hne 4 (.bool false)).set 0 (.int .i64 F)).set 1 (.int .i64 G)).set 2 (.int .i64 i)).set 3 (.int .i64 k)).set 4 (.bool false)
                  simp only [List.setIfInBounds_toArray, List.set_cons_zero, List.set_cons_succ] at R5
                  refine body_abs (F := fun w9 => Row w9 (w.heap.size + 1 + 1) #[.int .i64 F, .int .i64 G, .int .i64 i, .int .i64 k, .bool false] 225 ∧ ∃ X, w9 = w.ext X) ⟨?_, ?_⟩ ?_
                  · exact ry_
                  · obtain ⟨X1, hX1⟩ := HX.out
                    subst hX1
                    exact RowKit.Below.toExt (by exact br_)
                  rintro w9 ⟨r9, X8, rfl⟩
                  have c9 := r9.cell
                  rw [← E.out]
                  refine bodyPost_ret (v := Ln.w ⟨F, G, i, k, false⟩) (by simp [results, Tryz.results184, go_sem, c9]) rfl ?_
                  exact Ret.of (by exact bl_)
                · have hcr := CR2.out
                  simp only [c1, c2, decide_true, decide_false, Bool.and_false] at hcr
                  obtain rfl : cr = false := hcr
                  have d1 : decide (min F G ≤ u) = true := by simp; omega
                  have d2 : decide (u < max F G) = false := by simp; omega
                  clear c1 c2
                  go_wp2
                  have hne : w.heap.size + 1 + 1 ≠ p := by omega
                  have R5 := (((((((RS.out.other hne 2 (.int .i64 i)).other hne 3 (.int .i64 k)).other hne 4 (.bool true)).set 0 (.int .i64 F)).set 1 (.int .i64 G)).set 2 (.int .i64 i)).set 3 (.int .i64 k)).set 4 (.bool true)
                  simp only [List.setIfInBounds_toArray, List.set_cons_zero, List.set_cons_succ] at R5
                  refine body_abs (F := fun w9 => Row w9 (w.heap.size + 1 + 1) #[.int .i64 F, .int .i64 G, .int .i64 i, .int .i64 k, .bool true] 225 ∧ ∃ X, w9 = w.ext X) ⟨?_, ?_⟩ ?_
                  · exact ry_
                  · obtain ⟨X1, hX1⟩ := HX.out
                    subst hX1
                    exact RowKit.Below.toExt (by exact br_)
                  rintro w9 ⟨r9, X8, rfl⟩
                  have c9 := r9.cell
                  rw [← E.out]
                  refine bodyPost_ret (v := Ln.w ⟨F, G, i, k, true⟩) (by simp [results, Tryz.results184, go_sem, c9]) rfl ?_
                  exact Ret.of (by exact bl_)
              · have hcr := CR2.out
                simp only [c1, decide_false, Bool.false_and] at hcr
                obtain rfl : cr = false := hcr
                have d1 : decide (min F G ≤ u) = false := by simp; omega
                clear c1
                go_wp2
                have hne : w.heap.size + 1 + 1 ≠ p := by omega
                have R5 := (((((((RS.out.other hne 2 (.int .i64 i)).other hne 3 (.int .i64 k)).other hne 4 (.bool true)).set 0 (.int .i64 F)).set 1 (.int .i64 G)).set 2 (.int .i64 i)).set 3 (.int .i64 k)).set 4 (.bool true)
                simp only [List.setIfInBounds_toArray, List.set_cons_zero, List.set_cons_succ] at R5
                refine body_abs (F := fun w9 => Row w9 (w.heap.size + 1 + 1) #[.int .i64 F, .int .i64 G, .int .i64 i, .int .i64 k, .bool true] 225 ∧ ∃ X, w9 = w.ext X) ⟨?_, ?_⟩ ?_
                · exact ry_
                · obtain ⟨X1, hX1⟩ := HX.out
                  subst hX1
                  exact RowKit.Below.toExt (by exact br_)
                rintro w9 ⟨r9, X8, rfl⟩
                have c9 := r9.cell
                rw [← E.out]
                refine bodyPost_ret (v := Ln.w ⟨F, G, i, k, true⟩) (by simp [results, Tryz.results184, go_sem, c9]) rfl ?_
                exact Ret.of (by exact bl_)
end Go.Proofs.YtbkmgngeahmefaaGreat
end
section
namespace Go
section
variable {P : Program} (w : World)
theorem step_append_any {ops : Array Oper} {o : Oper} {a : Act} {K : Act → World → Prop} {Q : Exit → Act → World → Prop} {E : Prop} (hgd : o.guard = none) (s x : Operand) (t : TypeId)
    (ho : o.op = .call { callee := .builtin .append, args := #[s, x], argTypes := #[t, t] })
    (base : Nat) (e : TypeId) (i : TypeInfo) (z : Value) (size bytes : Nat) (ht : P.underlying t = some (.slice e)) (hi : P.info? e = some i) (hz : i.zero = some z)
    (hsize : i.size = size) (hby : i.bytes = bytes) (hzs : z.cells.size = size) (hsz : 0 < size)
    (v : Value) (n : Nat) (xs : List Value) (hs : a.eval s = v) (hown : w.ownsRow base e size v n xs)
    (ad : Addr) (m c : Nat) (news : List Value) (hx : a.eval x = .slice (some ad) m c) (hl : news.length = m * size) (hnews : ∀ j u, news[j]? = some u → w.cell? (ad.add j) = some u) (h1 : ∀ u ∈ news, u.oneCell' = true)
    (h63 : n + m ≤ maxLen) (hbytes : (n + m) * bytes ≤ 140737488355328) (hbase : base ≤ w.heap.size)
    (h : ∀ v' w', w'.ownsRow base e size v' (n + m) (xs ++ news) → w.grownBy w' v.ownBlock → K (a.put o.dst v') w') :
    if Region.wanted o (yielded ops a.tmps) = true then Oper.wp P o a w K Q else E := by
  have hw : Region.wanted o (yielded ops a.tmps) = true := by simp [Region.wanted, hgd]
  rw [if_pos hw]
  exact wp_append_own w s x t ho base e i z size bytes ht hi hz hsize hby hzs hsz v n xs hs hown ad m c news hx hl hnews h1 h63 hbytes hbase fun v' w' h2 h3 _ => h v' w' h2 h3
end
end Go
namespace Go.Proofs.YtbkmgngeahmefaaGreat
open Go.RowKit
structure Rin (w wr : World) (ax ay bx y2 x0 y0 x1 y1 : Int) (l : Ln) (p : Nat) (v : Value) (L : List St) : Prop where
  ra : Row wr w.heap.size #[.int .i64 ax, .int .i64 ay] 151
  rb : Row wr (w.heap.size + 1) #[.int .i64 bx, .int .i64 y2] 151
  rr : Row wr (w.heap.size + 1 + 1) #[.int .i64 x0, .int .i64 y0, .int .i64 x1, .int .i64 y1] 29
  rl : Row wr p #[.int .i64 l.From, .int .i64 l.To, .int .i64 l.X, .int .i64 l.Y, .bool l.Extra] 225
  hp : w.heap.size + 3 ≤ p
  own : wr.ownsRow w.heap.size 162 3 v L.length (L.flatMap St.cells)
  ext : ∃ X, wr = w.ext X
section
variable {w wr : World} {ax ay bx y2 x0 y0 x1 y1 : Int} {l : Ln} {p : Nat} {v : Value} {L : List St}
theorem Rin.grow (h : Rin w wr ax ay bx y2 x0 y0 x1 y1 l p v L) (X : Xt) : Rin w (wr.ext X) ax ay bx y2 x0 y0 x1 y1 l p v L :=
  ⟨h.ra.ext X, h.rb.ext X, h.rr.ext X, h.rl.ext X, h.hp, own_extS h.own X, by obtain ⟨Y, rfl⟩ := h.ext; exact ⟨_, World.ext_ext⟩⟩
theorem Rin.grown {w' : World} (h : Rin w wr ax ay bx y2 x0 y0 x1 y1 l p v L) (hb : Below wr.heap.size wr w') : Rin w w' ax ay bx y2 x0 y0 x1 y1 l p v L := by
  obtain ⟨X, rfl⟩ := hb.toExt; exact h.grow X
theorem Rin.size (h : Rin w wr ax ay bx y2 x0 y0 x1 y1 l p v L) : w.heap.size ≤ wr.heap.size := by obtain ⟨X, rfl⟩ := h.ext; simp
theorem Rin.below (h : Rin w wr ax ay bx y2 x0 y0 x1 y1 l p v L) : Below w.heap.size w wr := by obtain ⟨X, rfl⟩ := h.ext; exact (Below.refl _ _).ext (Nat.le_refl _) X
theorem Rin.both {w0 w1 w2 : World} {v0 v1 v2 : Value} {L' : List St} {k1 : Nat} {xs1 : List Value} (h : Rin w wr ax ay bx y2 x0 y0 x1 y1 l p v L) (hB : Below wr.heap.size wr w0)
    (h0 : v0.ownBlock = v.ownBlock ∨ v0.ownBlock = none) (hg1 : w0.grownBy w1 v0.ownBlock) (hown1 : w1.ownsRow w.heap.size 162 3 v1 k1 xs1) (hg2 : w1.grownBy w2 v1.ownBlock)
    (hown : w2.ownsRow w.heap.size 162 3 v2 L'.length (L'.flatMap St.cells)) : Rin w w2 ax ay bx y2 x0 y0 x1 y1 l p v2 L' := by
  have h' := h.grown hB
  have nn : ∀ {b : Nat} {c : Array Value} {T : TypeId}, Row w0 b c T → T ≠ 162 → some b ≠ v0.ownBlock := fun hr hT => by
    rcases h0 with e | e
    · rw [e]; exact row_not_own hr hT h'.own
    · rw [e]; simp
  have k : ∀ {b : Nat} {c : Array Value} {T : TypeId}, Row w0 b c T → T ≠ 162 → Row w2 b c T := fun hr hT => by
    have r1 := hr.kept hg1 (nn hr hT)
    exact r1.kept hg2 (row_not_own r1 hT hown1)
  refine ⟨k h'.ra (by decide), k h'.rb (by decide), k h'.rr (by decide), k h'.rl (by decide), h.hp, hown, ?_⟩
  have b1 : Below w.heap.size w w1 := Below.grown h'.below hg1 h'.size fun b hb => by
    rcases h0 with e | e
    · rw [e] at hb; exact (h'.own.lt b hb).1
    · rw [e] at hb; cases hb
  exact RowKit.Below.toExt (Below.grown b1 hg2 b1.size fun b hb => (hown1.lt b hb).1)
theorem Rin.put {w0 w1 w2 : World} {v0 v1 v2 : Value} {j : Nat} {s : St} (h : Rin w wr ax ay bx y2 x0 y0 x1 y1 l p v L) (hj : j ≤ L.length) (hB : Below wr.heap.size wr w0)
    (h0 : v0.ownBlock = v.ownBlock ∨ v0.ownBlock = none) (hg1 : w0.grownBy w1 v0.ownBlock) (hown1 : w1.ownsRow w.heap.size 162 3 v1 (j + 1) ((L.take j).flatMap St.cells ++ St.cells s)) (hg2 : w1.grownBy w2 v1.ownBlock)
    (hown : w2.ownsRow w.heap.size 162 3 v2 (j + 1 + (L.length - j)) ((L.take j).flatMap St.cells ++ St.cells s ++ (L.drop j).flatMap St.cells)) : Rin w w2 ax ay bx y2 x0 y0 x1 y1 l p v2 (putAt L j s) := by
  refine h.both hB h0 hg1 hown1 hg2 ?_
  have e1 : (putAt L j s).length = j + 1 + (L.length - j) := by
    unfold putAt; rw [List.length_append, List.length_take, List.length_cons, List.length_drop]; omega
  have e2 : (putAt L j s).flatMap St.cells = (L.take j).flatMap St.cells ++ St.cells s ++ (L.drop j).flatMap St.cells := by
    unfold putAt; rw [List.flatMap_append, List.flatMap_cons, List.append_assoc]
  rw [e1, e2]; exact hown
end
end Go.Proofs.YtbkmgngeahmefaaGreat
end
