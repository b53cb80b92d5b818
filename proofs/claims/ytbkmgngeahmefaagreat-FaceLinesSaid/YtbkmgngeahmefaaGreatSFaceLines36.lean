/- Parts of the proof of FaceLines, laid together. Conditions: at each. -/
import Derived.Test.YtbkmgngeahmefaaGreatSFaceLines35
set_option linter.unusedVariables false
set_option linter.unusedSimpArgs false
namespace Go.Proofs.YtbkmgngeahmefaaGreat
open Go.RowKit
theorem fill_none (a b c : WinP) (o x0 y0 x1 y1 : Int) (ha : a.fits) (hb : b.fits) (hc : c.fits) (h : spansL a b c x0 y0 x1 y1 = []) (w : World) : Calls Tryz.prog 88 #[a.v, b.v, c.v, .int .i64 o, R4 x0 y0 x1 y1] w (RLists frK w (fillL a b c o x0 y0 x1 y1)) := by
  have e : fillL a b c o x0 y0 x1 y1 = [] := by unfold fillL; rw [h]; rfl
  rw [e]
  have S := Lib.hid (fun w => h ▸ spans_any a b c x0 y0 x1 y1 ha hb hc w)
  clear ha hb hc h e
  go_enter Tryz.func88, Tryz.ntmps88
  go_wp2_with (first | (go_at_call 150; (with_reducible refine (S.out _).mono ?_); rintro _ _ ⟨v, rfl, hv, ⟨X_, rfl⟩⟩; obtain ⟨-, av, cap, rfl, -, -⟩ := hv))
  go_ret
  exact ⟨_, rfl, recs_nil _, RowKit.Below.toExt (by exact bl_)⟩
theorem Hold.two {α : Type} {K : RecK α} {w wr : World} {E T : TypeId} {R : List (Nat × Array Value × TypeId)} {v : Value} {L : List α} {b : Nat} {c : Array Value} (c' : Array Value) (h : Hold K w wr E ((b, c, T) :: R) v L) (k : Nat) (u1 u2 : Value)
    (hw : w.heap.size ≤ b) (hne : ∀ r ∈ R, r.1 ≠ b) (hc : (c.setIfInBounds k u1).setIfInBounds (k + 1) u2 = c') : Hold K w ((wr.setCell ⟨b, k, none⟩ u1).setCell ⟨b, k + 1, none⟩ u2) E ((b, c', T) :: R) v L := by
  have r0 := h.rows _ List.mem_cons_self
  have f0 := h.far _ List.mem_cons_self
  simp only at r0 f0
  have ap := row_apart r0 f0 h.own
  have hf : ∀ c'', ∀ r ∈ (b, c'', T) :: R, r.2.2 ≠ E := fun c'' r hr => by
    rcases List.mem_cons.1 hr with rfl | hr
    · exact f0
    · exact h.far r (List.mem_cons_of_mem _ hr)
  have h1 := h.put (k := k) (u := u1) (R' := (b, c.setIfInBounds k u1, T) :: R) ap hw (fun r hr => by
    rcases List.mem_cons.1 hr with rfl | hr
    · exact r0.set k u1
    · exact (h.rows r (List.mem_cons_of_mem _ hr)).other (hne r hr) _ _) (hf _)
  have r1 := h1.rows _ List.mem_cons_self
  simp only at r1
  refine h1.put (k := k + 1) (u := u2) (R' := (b, c', T) :: R) ap hw (fun r hr => ?_) (hf _)
  rcases List.mem_cons.1 hr with rfl | hr
  · rw [← hc]; exact r1.set (k + 1) u2
  · exact (h1.rows r (List.mem_cons_of_mem _ hr)).other (hne r hr) _ _
theorem plOf_next (p : PlP) (x y : Int) : p.sum x y + p.right = p.sum (x + 1) y := by
  unfold PlP.sum; rw [Int.mul_add]; omega
theorem spans_mem {a b c : WinP} {x0 y0 x1 y1 : Int} {s : SpP} (h : s ∈ spansL a b c x0 y0 x1 y1) : (y0 ≤ s.y ∧ s.y < y1 ∧ x0 ≤ s.x0 ∧ s.x0 < s.x1 ∧ s.x1 ≤ x1) ∧ rightP x0 y0 x1 y1 ∧ ar a b c ≠ 0 ∧ ∀ x, s.x0 ≤ x → x < s.x1 → triHas a b c x s.y := by
  unfold spansL at h
  split at h
  · simp at h
  · next hn =>
    have h0 : ar a b c ≠ 0 := fun k => hn (.inl k)
    have hr : rightP x0 y0 x1 y1 := Classical.byContradiction fun k => hn (.inr k)
    unfold spansTo at h
    obtain ⟨y, hy, hs⟩ := List.mem_flatMap.1 h
    obtain ⟨hy0, hy1⟩ := rng_mem.1 hy
    unfold spanAt at hs
    split at hs
    · next hl =>
      obtain rfl := List.mem_singleton.1 hs
      have k1 := (span_iff h0 x0 x1 (spF a b c x0 y) y).1 ⟨Int.le_refl _, hl⟩
      have k2 := (span_iff h0 x0 x1 (spT a b c x0 x1 y - 1) y).1 ⟨by omega, by omega⟩
      exact ⟨⟨hy0, hy1, k1.1, hl, by simp only; omega⟩, hr, h0, fun x e1 e2 => ((span_iff h0 x0 x1 x y).1 ⟨e1, e2⟩).2.2⟩
    · simp at hs
theorem fillTo_take (a b c : WinP) (o : Int) (S : List SpP) (k : Nat) (hk : k < S.length) : fillTo a b c o (S.take (k + 1)) = fillTo a b c o (S.take k) ++ fillRow a b c o S[k] := by
  rw [List.take_succ_eq_append_getElem hk, fillTo_append, fillTo_one]
theorem fillTo_part (a b c : WinP) (o : Int) (S : List SpP) (k : Nat) (hk : k < S.length) (x : Int) (hx : x ≤ S[k].x1) : (fillTo a b c o (S.take k) ++ fillRow a b c o ⟨S[k].y, S[k].x0, x⟩).length ≤ (fillTo a b c o S).length := by
  have e : fillTo a b c o S = fillTo a b c o (S.take (k + 1)) ++ fillTo a b c o (S.drop (k + 1)) := by rw [← fillTo_append, List.take_append_drop]
  rw [e, fillTo_take a b c o S k hk, List.length_append, List.length_append, List.length_append]
  have : (fillRow a b c o ⟨S[k].y, S[k].x0, x⟩).length ≤ (fillRow a b c o S[k]).length := by
    unfold fillRow; rw [List.length_map, List.length_map, rng_len, rng_len]; simp only; omega
  omega
set_option maxRecDepth 100000 in
set_option maxHeartbeats 16000000 in
theorem fill_walk (a b c : WinP) (o x0 y0 x1 y1 : Int) (p0 p1 p2 p3 p4 : PlP) (f : Value) (S : List SpP) (Z C0 C1 C2 C3 : Int → Int → Int) (o0 : -33554432 ≤ o) (o1 : o ≤ 33554432) (hne : S ≠ [])
    (HS : Hid (∀ s ∈ S, (-4194304 ≤ s.y ∧ s.y ≤ 4194304) ∧ -4194304 ≤ s.x0 ∧ s.x0 < s.x1 ∧ s.x1 ≤ 4194304))
    (HLn : Hid ((fillTo a b c o S).length ≤ 1048576)) (HSL : Hid (S.length ≤ 8388608))
    (HFR : Hid (∀ x y, frAt a b c o x y = ⟨x, y, max 0 (min (Z x y + o) 16777215), C0 x y, C1 x y, C2 x y, C3 x y, 64⟩))
    (HZ : Hid (∀ s ∈ S, ∀ x, s.x0 ≤ x → x < s.x1 → 0 ≤ Z x s.y ∧ Z x s.y ≤ 16777215))
    (HSP : Hid (∀ w, Calls Tryz.prog 150 #[a.v, b.v, c.v, R4 x0 y0 x1 y1] w (RLists spK w S)))
    (HNF : Hid (∀ w, Calls Tryz.prog 151 #[a.v, b.v, c.v] w (Ret f w)))
    (HPL : Hid (∀ w, Calls Tryz.prog 152 #[f] w (Ret (plsV p0 p1 p2 p3 p4) w)))
    (HU0 : Hid (∀ x y, Near x y → ∀ w, Calls Tryz.prog 153 #[p0.v, .int .i64 x, .int .i64 y] w (Ret (I2 (p0.sum x y)) w)))
    (HV0 : Hid (∀ s ∈ S, ∀ x, s.x0 ≤ x → x < s.x1 → ∀ w, Calls Tryz.prog 154 #[p0.v, I2 (p0.sum x s.y)] w (Ret (.int .i64 (Z x s.y)) w)))
    (HB0 : Hid (∀ x y, Near x y → ∀ w, Calls Tryz.prog 147 #[I2 (p0.sum x y), I2 p0.right] w (Ret (I2 (p0.sum (x + 1) y)) w)))
    (HU1 : Hid (∀ x y, Near x y → ∀ w, Calls Tryz.prog 153 #[p1.v, .int .i64 x, .int .i64 y] w (Ret (I2 (p1.sum x y)) w)))
    (HV1 : Hid (∀ s ∈ S, ∀ x, s.x0 ≤ x → x < s.x1 → ∀ w, Calls Tryz.prog 154 #[p1.v, I2 (p1.sum x s.y)] w (Ret (.int .i64 (C0 x s.y)) w)))
    (HB1 : Hid (∀ x y, Near x y → ∀ w, Calls Tryz.prog 147 #[I2 (p1.sum x y), I2 p1.right] w (Ret (I2 (p1.sum (x + 1) y)) w)))
    (HU2 : Hid (∀ x y, Near x y → ∀ w, Calls Tryz.prog 153 #[p2.v, .int .i64 x, .int .i64 y] w (Ret (I2 (p2.sum x y)) w)))
    (HV2 : Hid (∀ s ∈ S, ∀ x, s.x0 ≤ x → x < s.x1 → ∀ w, Calls Tryz.prog 154 #[p2.v, I2 (p2.sum x s.y)] w (Ret (.int .i64 (C1 x s.y)) w)))
    (HB2 : Hid (∀ x y, Near x y → ∀ w, Calls Tryz.prog 147 #[I2 (p2.sum x y), I2 p2.right] w (Ret (I2 (p2.sum (x + 1) y)) w)))
    (HU3 : Hid (∀ x y, Near x y → ∀ w, Calls Tryz.prog 153 #[p3.v, .int .i64 x, .int .i64 y] w (Ret (I2 (p3.sum x y)) w)))
    (HV3 : Hid (∀ s ∈ S, ∀ x, s.x0 ≤ x → x < s.x1 → ∀ w, Calls Tryz.prog 154 #[p3.v, I2 (p3.sum x s.y)] w (Ret (.int .i64 (C2 x s.y)) w)))
    (HB3 : Hid (∀ x y, Near x y → ∀ w, Calls Tryz.prog 147 #[I2 (p3.sum x y), I2 p3.right] w (Ret (I2 (p3.sum (x + 1) y)) w)))
    (HU4 : Hid (∀ x y, Near x y → ∀ w, Calls Tryz.prog 153 #[p4.v, .int .i64 x, .int .i64 y] w (Ret (I2 (p4.sum x y)) w)))
    (HV4 : Hid (∀ s ∈ S, ∀ x, s.x0 ≤ x → x < s.x1 → ∀ w, Calls Tryz.prog 154 #[p4.v, I2 (p4.sum x s.y)] w (Ret (.int .i64 (C3 x s.y)) w)))
    (HB4 : Hid (∀ x y, Near x y → ∀ w, Calls Tryz.prog 147 #[I2 (p4.sum x y), I2 p4.right] w (Ret (I2 (p4.sum (x + 1) y)) w)))
    (w : World) : Calls Tryz.prog 88 #[a.v, b.v, c.v, .int .i64 o, R4 x0 y0 x1 y1] w (RLists frK w (fillTo a b c o S)) := by
  have hpos : 0 < S.length := List.length_pos_iff.2 hne
  have hz0 : ((S.length : Int) == 0) = false := by simp; omega
  clear hne
  go_enter Tryz.func88, Tryz.ntmps88
  go_upto_region 5 with (first
    | (go_at_call 150; (with_reducible refine (HSP.out _).mono ?_); rintro _ _ ⟨v, rfl, hv, ⟨XS, rfl⟩⟩; have HVS := Lib.hid hv; obtain ⟨-, av, cap, rfl, -, -⟩ := hv)
    | (go_at_call 151; (with_reducible refine (HNF.out _).mono ?_); rintro _ _ ⟨rfl, XF, rfl⟩)
    | (go_at_call 152; (with_reducible refine (HPL.out _).mono ?_); rintro _ _ ⟨rfl, XP, rfl⟩))
  obtain ⟨Bl, hBl⟩ : ∃ B, w.heap.size + 1 + 1 + 1 + 1 + XS.sz + XF.sz + XP.sz = B := ⟨_, rfl⟩
  refine wp_abs (F := fun w1 => Row w1 Bl #[.int .i64 (hiN p0.at_), .int .u64 (loN p0.at_), .int .i64 (hiN p0.right), .int .u64 (loN p0.right), .int .i64 (hiN p0.up), .int .u64 (loN p0.up), .int .i64 p0.area, .int .i64 (hiN p1.at_), .int .u64 (loN p1.at_), .int .i64 (hiN p1.right), .int .u64 (loN p1.right), .int .i64 (hiN p1.up), .int .u64 (loN p1.up), .int .i64 p1.area, .int .i64 (hiN p2.at_), .int .u64 (loN p2.at_), .int .i64 (hiN p2.right), .int .u64 (loN p2.right), .int .i64 (hiN p2.up), .int .u64 (loN p2.up), .int .i64 p2.area, .int .i64 (hiN p3.at_), .int .u64 (loN p3.at_), .int .i64 (hiN p3.right), .int .u64 (loN p3.right), .int .i64 (hiN p3.up), .int .u64 (loN p3.up), .int .i64 p3.area, .int .i64 (hiN p4.at_), .int .u64 (loN p4.at_), .int .i64 (hiN p4.right), .int .u64 (loN p4.right), .int .i64 (hiN p4.up), .int .u64 (loN p4.up), .int .i64 p4.area] 191 ∧ Recs spK w1 (.slice av S.length cap) S ∧ ∃ X, w1 = w.ext X) ⟨by rw [← hBl]; exact rx_, HVS.out.below (by exact bl_), RowKit.Below.toExt (by exact bl_)⟩ ?_
  rintro w1 ⟨hpl, ⟨-, av', cap', hq, hcap, hcl⟩, hX⟩
  rw [hBl]
  obtain ⟨rfl, rfl⟩ : av = av' ∧ cap = cap' := by simpa using hq
  have HX := Lib.hid hX
  rcases hcl with rfl | ⟨sb, so, rfl, hsb, hcl⟩
  · simp at hpos
  have HCL := Lib.hid hcl
  have HPR := Lib.hid hpl
  clear hq hcl hX hBl HVS hpl hcap
  obtain ⟨i0, hii, hi0, hi1, hi2⟩ := info_parts info_fr
  go_wp2
  go_loopw [37, 13] (fun i u wr => ∃ (k : Nat) (v : Value) (L : List FrP), k ≤ S.length ∧ i = .int .i64 k ∧ u = v ∧ Hid (L = fillTo a b c o (S.take k)) ∧ Hid (Hold frK w1 wr 76 [(Bl, #[.int .i64 (hiN p0.at_), .int .u64 (loN p0.at_), .int .i64 (hiN p0.right), .int .u64 (loN p0.right), .int .i64 (hiN p0.up), .int .u64 (loN p0.up), .int .i64 p0.area, .int .i64 (hiN p1.at_), .int .u64 (loN p1.at_), .int .i64 (hiN p1.right), .int .u64 (loN p1.right), .int .i64 (hiN p1.up), .int .u64 (loN p1.up), .int .i64 p1.area, .int .i64 (hiN p2.at_), .int .u64 (loN p2.at_), .int .i64 (hiN p2.right), .int .u64 (loN p2.right), .int .i64 (hiN p2.up), .int .u64 (loN p2.up), .int .i64 p2.area, .int .i64 (hiN p3.at_), .int .u64 (loN p3.at_), .int .i64 (hiN p3.right), .int .u64 (loN p3.right), .int .i64 (hiN p3.up), .int .u64 (loN p3.up), .int .i64 p3.area, .int .i64 (hiN p4.at_), .int .u64 (loN p4.at_), .int .i64 (hiN p4.right), .int .u64 (loN p4.right), .int .i64 (hiN p4.up), .int .u64 (loN p4.up), .int .i64 p4.area], 191)] v L))
    (fun i _ _ => S.length - (intOf i).toNat)
  case atStart => exact ⟨0, _, [], by omega, rfl, rfl, Lib.hid rfl, Lib.hid (Hold.start (List.forall_mem_cons.2 ⟨HPR.out, by simp⟩) (by simp) ⟨⟨#[], w1.drawn⟩, (ext_none' _).symm⟩)⟩
  case round =>
    obtain ⟨k, v, L, hk, rfl, hv, hL, hR⟩ := hrel
    have hv := hv.symm
    subst hv
    by_cases hlt : k < S.length
    · have HKL := Lib.hid (show k + 1 ≤ S.length from hlt)
      have hsl := HSL.out
      obtain ⟨sp, hgk, hm, QP0, QT0⟩ : ∃ sp, S[k]? = some sp ∧ sp ∈ S ∧ (∀ x, x ≤ sp.x1 → (fillTo a b c o (S.take k) ++ fillRow a b c o ⟨sp.y, sp.x0, x⟩).length ≤ (fillTo a b c o S).length) ∧ fillTo a b c o (S.take (k + 1)) = fillTo a b c o (S.take k) ++ fillRow a b c o sp := ⟨S[k]'hlt, List.getElem?_eq_getElem hlt, List.getElem_mem hlt, fun x hx => fillTo_part a b c o S k hlt x hx, fillTo_take a b c o S k hlt⟩
      have e0 := HCL.out k _ hgk 0 _ rfl
      have e1 := HCL.out k _ hgk 1 _ rfl
      have e2 := HCL.out k _ hgk 2 _ rfl
      obtain ⟨⟨b0, b1⟩, b2, b3, b4⟩ := HS.out _ hm
      have QP := Lib.hid (fun x hx => Nat.le_trans (QP0 x hx) HLn.out)
      have QT := Lib.hid QT0
      have QZ := Lib.hid (fun x h0 h1 => HZ.out _ hm x h0 h1)
      have QV0 := Lib.hid (fun x h0 h1 w => HV0.out _ hm x h0 h1 w)
      have QV1 := Lib.hid (fun x h0 h1 w => HV1.out _ hm x h0 h1 w)
      have QV2 := Lib.hid (fun x h0 h1 w => HV2.out _ hm x h0 h1 w)
      have QV3 := Lib.hid (fun x h0 h1 w => HV3.out _ hm x h0 h1 w)
      have QV4 := Lib.hid (fun x h0 h1 w => HV4.out _ hm x h0 h1 w)
      clear hgk hm QP0 QT0
      obtain ⟨sy, sx0, sx1⟩ := sp
      simp only at e0 e1 e2 b0 b1 b2 b3 b4 QP QT QZ QV0 QV1 QV2 QV3 QV4
      obtain ⟨X0, hX0⟩ := hR.out.ext
      have ce : ∀ j, wr.cell? ⟨sb, j, none⟩ = w1.cell? ⟨sb, j, none⟩ := fun j => by rw [hX0]; exact (Chg.of_ext (p := fun _ => False) X0).cell hsb (fun h => h)
      have d0 : wr.cell? ⟨sb, so + k * 3, none⟩ = some (.int .i64 sy) := by rw [ce]; exact e0
      have d1 : wr.cell? ⟨sb, so + k * 3 + 1, none⟩ = some (.int .i64 sx0) := by rw [ce]; exact e1
      have d2 : wr.cell? ⟨sb, so + k * 3 + 2, none⟩ = some (.int .i64 sx1) := by rw [ce]; exact e2
      clear e0 e1 e2 ce hX0
      have hki : (k : Int) < S.length := by omega
      have hsz := hR.out.size
      have l0 := hR.out.rows _ (List.mem_cons_self ..)
      simp only at l0
      have l1 := l0.cell
      have l2 := l0.frozen
      have l3 := l0.lt
      have HPR0 := Lib.hid l0
      clear l0
      go_wp2
      obtain ⟨Bsp, hBsp⟩ : ∃ B, wr.heap.size = B := ⟨_, rfl⟩
      obtain ⟨Bs, hBs⟩ : ∃ B, Bsp + 1 = B := ⟨_, rfl⟩
      refine wp_abs (F := fun w2 => Hold frK w1 w2 76 [(Bs, #[.int .i64 0, .int .u64 0, .int .i64 0, .int .u64 0, .int .i64 0, .int .u64 0, .int .i64 0, .int .u64 0, .int .i64 0, .int .u64 0], 199), (Bsp, #[.int .i64 sy, .int .i64 sx0, .int .i64 sx1], 198), (Bl, #[.int .i64 (hiN p0.at_), .int .u64 (loN p0.at_), .int .i64 (hiN p0.right), .int .u64 (loN p0.right), .int .i64 (hiN p0.up), .int .u64 (loN p0.up), .int .i64 p0.area, .int .i64 (hiN p1.at_), .int .u64 (loN p1.at_), .int .i64 (hiN p1.right), .int .u64 (loN p1.right), .int .i64 (hiN p1.up), .int .u64 (loN p1.up), .int .i64 p1.area, .int .i64 (hiN p2.at_), .int .u64 (loN p2.at_), .int .i64 (hiN p2.right), .int .u64 (loN p2.right), .int .i64 (hiN p2.up), .int .u64 (loN p2.up), .int .i64 p2.area, .int .i64 (hiN p3.at_), .int .u64 (loN p3.at_), .int .i64 (hiN p3.right), .int .u64 (loN p3.right), .int .i64 (hiN p3.up), .int .u64 (loN p3.up), .int .i64 p3.area, .int .i64 (hiN p4.at_), .int .u64 (loN p4.at_), .int .i64 (hiN p4.right), .int .u64 (loN p4.right), .int .i64 (hiN p4.up), .int .u64 (loN p4.up), .int .i64 p4.area], 191)] v L) ((hR.out.grown (by exact bl_)).with (List.forall_mem_cons.2 ⟨by rw [← hBs, ← hBsp]; exact rx_, List.forall_mem_cons.2 ⟨by rw [← hBsp]; exact rx_, List.forall_mem_cons.2 ⟨((HPR0.out.alloc _).alloc _), by simp⟩⟩⟩) (by simp)) ?_
      rw [hBsp, hBs]
      have hw1 : w1.heap.size ≤ Bs := by omega
      have hne1 : ∀ r ∈ ([(Bsp, #[.int .i64 sy, .int .i64 sx0, .int .i64 sx1], 198), (Bl, #[.int .i64 (hiN p0.at_), .int .u64 (loN p0.at_), .int .i64 (hiN p0.right), .int .u64 (loN p0.right), .int .i64 (hiN p0.up), .int .u64 (loN p0.up), .int .i64 p0.area, .int .i64 (hiN p1.at_), .int .u64 (loN p1.at_), .int .i64 (hiN p1.right), .int .u64 (loN p1.right), .int .i64 (hiN p1.up), .int .u64 (loN p1.up), .int .i64 p1.area, .int .i64 (hiN p2.at_), .int .u64 (loN p2.at_), .int .i64 (hiN p2.right), .int .u64 (loN p2.right), .int .i64 (hiN p2.up), .int .u64 (loN p2.up), .int .i64 p2.area, .int .i64 (hiN p3.at_), .int .u64 (loN p3.at_), .int .i64 (hiN p3.right), .int .u64 (loN p3.right), .int .i64 (hiN p3.up), .int .u64 (loN p3.up), .int .i64 p3.area, .int .i64 (hiN p4.at_), .int .u64 (loN p4.at_), .int .i64 (hiN p4.right), .int .u64 (loN p4.right), .int .i64 (hiN p4.up), .int .u64 (loN p4.up), .int .i64 p4.area], 191)] : List (Nat × Array Value × TypeId)), r.1 ≠ Bs := by simp; omega
      have HW1 := Lib.hid hw1
      have HN1 := Lib.hid hne1
      clear hR hBs hBsp d0 d1 d2 hw1 hne1 l1 l2 l3 HPR0 hsz
      intro w2 h2
      have hR := Lib.hid h2
      clear h2
      have U0 := Lib.hid (fun w => HU0.out sx0 sy ⟨by omega, by omega, by omega, by omega⟩ w)
      have U1 := Lib.hid (fun w => HU1.out sx0 sy ⟨by omega, by omega, by omega, by omega⟩ w)
      have U2 := Lib.hid (fun w => HU2.out sx0 sy ⟨by omega, by omega, by omega, by omega⟩ w)
      have U3 := Lib.hid (fun w => HU3.out sx0 sy ⟨by omega, by omega, by omega, by omega⟩ w)
      have U4 := Lib.hid (fun w => HU4.out sx0 sy ⟨by omega, by omega, by omega, by omega⟩ w)
      have HE0 := Lib.hid (rfl : p0.sum sx0 sy = p0.sum sx0 sy)
      obtain ⟨s0, hs0⟩ : ∃ s, p0.sum sx0 sy = s := ⟨_, rfl⟩
      rw [hs0] at U0
      have G0 := Lib.hid hs0
      clear hs0 HE0
      have HE1 := Lib.hid (rfl : p1.sum sx0 sy = p1.sum sx0 sy)
      obtain ⟨s1, hs1⟩ : ∃ s, p1.sum sx0 sy = s := ⟨_, rfl⟩
      rw [hs1] at U1
      have G1 := Lib.hid hs1
      clear hs1 HE1
      have HE2 := Lib.hid (rfl : p2.sum sx0 sy = p2.sum sx0 sy)
      obtain ⟨s2, hs2⟩ : ∃ s, p2.sum sx0 sy = s := ⟨_, rfl⟩
      rw [hs2] at U2
      have G2 := Lib.hid hs2
      clear hs2 HE2
      have HE3 := Lib.hid (rfl : p3.sum sx0 sy = p3.sum sx0 sy)
      obtain ⟨s3, hs3⟩ : ∃ s, p3.sum sx0 sy = s := ⟨_, rfl⟩
      rw [hs3] at U3
      have G3 := Lib.hid hs3
      clear hs3 HE3
      have HE4 := Lib.hid (rfl : p4.sum sx0 sy = p4.sum sx0 sy)
      obtain ⟨s4, hs4⟩ : ∃ s, p4.sum sx0 sy = s := ⟨_, rfl⟩
      rw [hs4] at U4
      have G4 := Lib.hid hs4
      clear hs4 HE4
      refine wp_loop_rounds 6 ?_
      have m0 := hR.out.rows _ (List.mem_cons_self ..)
      simp only at m0
      have m1 := m0.cell
      have m2 := m0.frozen
      have m3 := m0.lt
      clear m0
      have n0 := hR.out.rows _ (List.mem_cons_of_mem _ (List.mem_cons_self ..))
      simp only at n0
      have n1 := n0.cell
      have n2 := n0.frozen
      have n3 := n0.lt
      clear n0
      have l0 := hR.out.rows _ (List.mem_cons_of_mem _ (List.mem_cons_of_mem _ (List.mem_cons_self ..)))
      simp only at l0
      have l1 := l0.cell
      have l2 := l0.frozen
      have l3 := l0.lt
      clear l0
      rw [rounds_succ]; go_wp2
      refine wp_region_ext_tail 9 (by kernel_rfl) (by kernel_rfl) ?_
      simp only [List.take_succ_cons, List.take_zero, List.drop_succ_cons, List.drop_zero]
      repeat (go_big_quiet_step ((first | (go_at_call 153; with_reducible exact Calls.quiet_ret (U0.out _)))))
      refine wpQuiet_nil ?_
      intro _ hw_ext
      obtain ⟨X, hw_ext⟩ := hw_ext
      subst hw_ext
      go_wp2
      refine rounds_abs (F := fun w2 => Hold frK w1 w2 76 [(Bs, #[.int .i64 (hiN s0), .int .u64 (loN s0), .int .i64 0, .int .u64 0, .int .i64 0, .int .u64 0, .int .i64 0, .int .u64 0, .int .i64 0, .int .u64 0], 199), (Bsp, #[.int .i64 sy, .int .i64 sx0, .int .i64 sx1], 198), (Bl, #[.int .i64 (hiN p0.at_), .int .u64 (loN p0.at_), .int .i64 (hiN p0.right), .int .u64 (loN p0.right), .int .i64 (hiN p0.up), .int .u64 (loN p0.up), .int .i64 p0.area, .int .i64 (hiN p1.at_), .int .u64 (loN p1.at_), .int .i64 (hiN p1.right), .int .u64 (loN p1.right), .int .i64 (hiN p1.up), .int .u64 (loN p1.up), .int .i64 p1.area, .int .i64 (hiN p2.at_), .int .u64 (loN p2.at_), .int .i64 (hiN p2.right), .int .u64 (loN p2.right), .int .i64 (hiN p2.up), .int .u64 (loN p2.up), .int .i64 p2.area, .int .i64 (hiN p3.at_), .int .u64 (loN p3.at_), .int .i64 (hiN p3.right), .int .u64 (loN p3.right), .int .i64 (hiN p3.up), .int .u64 (loN p3.up), .int .i64 p3.area, .int .i64 (hiN p4.at_), .int .u64 (loN p4.at_), .int .i64 (hiN p4.right), .int .u64 (loN p4.right), .int .i64 (hiN p4.up), .int .u64 (loN p4.up), .int .i64 p4.area], 191)] v L) ?_ ?_
      · exact (hR.out.two _ 0 _ _ HW1.out HN1.out rfl).grow _
      clear hR m1 m2 m3 n1 n2 n3 l1 l2 l3
      refine fun w2 h2 => ?_
      have hR := Lib.hid h2
      clear h2
      have m0 := hR.out.rows _ (List.mem_cons_self ..)
      simp only at m0
      have m1 := m0.cell
      have m2 := m0.frozen
      have m3 := m0.lt
      clear m0
      have n0 := hR.out.rows _ (List.mem_cons_of_mem _ (List.mem_cons_self ..))
      simp only at n0
      have n1 := n0.cell
      have n2 := n0.frozen
      have n3 := n0.lt
      clear n0
      have l0 := hR.out.rows _ (List.mem_cons_of_mem _ (List.mem_cons_of_mem _ (List.mem_cons_self ..)))
      simp only at l0
      have l1 := l0.cell
      have l2 := l0.frozen
      have l3 := l0.lt
      clear l0
      rw [rounds_succ]; go_wp2
      refine wp_region_ext_tail 9 (by kernel_rfl) (by kernel_rfl) ?_
      simp only [List.take_succ_cons, List.take_zero, List.drop_succ_cons, List.drop_zero]
      repeat (go_big_quiet_step ((first | (go_at_call 153; with_reducible exact Calls.quiet_ret (U1.out _)))))
      refine wpQuiet_nil ?_
      intro _ hw_ext
      obtain ⟨X, hw_ext⟩ := hw_ext
      subst hw_ext
      go_wp2
      refine rounds_abs (F := fun w2 => Hold frK w1 w2 76 [(Bs, #[.int .i64 (hiN s0), .int .u64 (loN s0), .int .i64 (hiN s1), .int .u64 (loN s1), .int .i64 0, .int .u64 0, .int .i64 0, .int .u64 0, .int .i64 0, .int .u64 0], 199), (Bsp, #[.int .i64 sy, .int .i64 sx0, .int .i64 sx1], 198), (Bl, #[.int .i64 (hiN p0.at_), .int .u64 (loN p0.at_), .int .i64 (hiN p0.right), .int .u64 (loN p0.right), .int .i64 (hiN p0.up), .int .u64 (loN p0.up), .int .i64 p0.area, .int .i64 (hiN p1.at_), .int .u64 (loN p1.at_), .int .i64 (hiN p1.right), .int .u64 (loN p1.right), .int .i64 (hiN p1.up), .int .u64 (loN p1.up), .int .i64 p1.area, .int .i64 (hiN p2.at_), .int .u64 (loN p2.at_), .int .i64 (hiN p2.right), .int .u64 (loN p2.right), .int .i64 (hiN p2.up), .int .u64 (loN p2.up), .int .i64 p2.area, .int .i64 (hiN p3.at_), .int .u64 (loN p3.at_), .int .i64 (hiN p3.right), .int .u64 (loN p3.right), .int .i64 (hiN p3.up), .int .u64 (loN p3.up), .int .i64 p3.area, .int .i64 (hiN p4.at_), .int .u64 (loN p4.at_), .int .i64 (hiN p4.right), .int .u64 (loN p4.right), .int .i64 (hiN p4.up), .int .u64 (loN p4.up), .int .i64 p4.area], 191)] v L) ?_ ?_
      · exact (hR.out.two _ 2 _ _ HW1.out HN1.out rfl).grow _
      clear hR m1 m2 m3 n1 n2 n3 l1 l2 l3
      refine fun w2 h2 => ?_
      have hR := Lib.hid h2
      clear h2
      have m0 := hR.out.rows _ (List.mem_cons_self ..)
      simp only at m0
      have m1 := m0.cell
      have m2 := m0.frozen
      have m3 := m0.lt
      clear m0
      have n0 := hR.out.rows _ (List.mem_cons_of_mem _ (List.mem_cons_self ..))
      simp only at n0
      have n1 := n0.cell
      have n2 := n0.frozen
      have n3 := n0.lt
      clear n0
      have l0 := hR.out.rows _ (List.mem_cons_of_mem _ (List.mem_cons_of_mem _ (List.mem_cons_self ..)))
      simp only at l0
      have l1 := l0.cell
      have l2 := l0.frozen
      have l3 := l0.lt
      clear l0
      rw [rounds_succ]; go_wp2
      refine wp_region_ext_tail 9 (by kernel_rfl) (by kernel_rfl) ?_
      simp only [List.take_succ_cons, List.take_zero, List.drop_succ_cons, List.drop_zero]
      repeat (go_big_quiet_step ((first | (go_at_call 153; with_reducible exact Calls.quiet_ret (U2.out _)))))
      refine wpQuiet_nil ?_
      intro _ hw_ext
      obtain ⟨X, hw_ext⟩ := hw_ext
      subst hw_ext
      go_wp2
      refine rounds_abs (F := fun w2 => Hold frK w1 w2 76 [(Bs, #[.int .i64 (hiN s0), .int .u64 (loN s0), .int .i64 (hiN s1), .int .u64 (loN s1), .int .i64 (hiN s2), .int .u64 (loN s2), .int .i64 0, .int .u64 0, .int .i64 0, .int .u64 0], 199), (Bsp, #[.int .i64 sy, .int .i64 sx0, .int .i64 sx1], 198), (Bl, #[.int .i64 (hiN p0.at_), .int .u64 (loN p0.at_), .int .i64 (hiN p0.right), .int .u64 (loN p0.right), .int .i64 (hiN p0.up), .int .u64 (loN p0.up), .int .i64 p0.area, .int .i64 (hiN p1.at_), .int .u64 (loN p1.at_), .int .i64 (hiN p1.right), .int .u64 (loN p1.right), .int .i64 (hiN p1.up), .int .u64 (loN p1.up), .int .i64 p1.area, .int .i64 (hiN p2.at_), .int .u64 (loN p2.at_), .int .i64 (hiN p2.right), .int .u64 (loN p2.right), .int .i64 (hiN p2.up), .int .u64 (loN p2.up), .int .i64 p2.area, .int .i64 (hiN p3.at_), .int .u64 (loN p3.at_), .int .i64 (hiN p3.right), .int .u64 (loN p3.right), .int .i64 (hiN p3.up), .int .u64 (loN p3.up), .int .i64 p3.area, .int .i64 (hiN p4.at_), .int .u64 (loN p4.at_), .int .i64 (hiN p4.right), .int .u64 (loN p4.right), .int .i64 (hiN p4.up), .int .u64 (loN p4.up), .int .i64 p4.area], 191)] v L) ?_ ?_
      · exact (hR.out.two _ 4 _ _ HW1.out HN1.out rfl).grow _
      clear hR m1 m2 m3 n1 n2 n3 l1 l2 l3
      refine fun w2 h2 => ?_
      have hR := Lib.hid h2
      clear h2
      have m0 := hR.out.rows _ (List.mem_cons_self ..)
      simp only at m0
      have m1 := m0.cell
      have m2 := m0.frozen
      have m3 := m0.lt
      clear m0
      have n0 := hR.out.rows _ (List.mem_cons_of_mem _ (List.mem_cons_self ..))
      simp only at n0
      have n1 := n0.cell
      have n2 := n0.frozen
      have n3 := n0.lt
      clear n0
      have l0 := hR.out.rows _ (List.mem_cons_of_mem _ (List.mem_cons_of_mem _ (List.mem_cons_self ..)))
      simp only at l0
      have l1 := l0.cell
      have l2 := l0.frozen
      have l3 := l0.lt
      clear l0
      rw [rounds_succ]; go_wp2
      refine wp_region_ext_tail 9 (by kernel_rfl) (by kernel_rfl) ?_
      simp only [List.take_succ_cons, List.take_zero, List.drop_succ_cons, List.drop_zero]
      repeat (go_big_quiet_step ((first | (go_at_call 153; with_reducible exact Calls.quiet_ret (U3.out _)))))
      refine wpQuiet_nil ?_
      intro _ hw_ext
      obtain ⟨X, hw_ext⟩ := hw_ext
      subst hw_ext
      go_wp2
      refine rounds_abs (F := fun w2 => Hold frK w1 w2 76 [(Bs, #[.int .i64 (hiN s0), .int .u64 (loN s0), .int .i64 (hiN s1), .int .u64 (loN s1), .int .i64 (hiN s2), .int .u64 (loN s2), .int .i64 (hiN s3), .int .u64 (loN s3), .int .i64 0, .int .u64 0], 199), (Bsp, #[.int .i64 sy, .int .i64 sx0, .int .i64 sx1], 198), (Bl, #[.int .i64 (hiN p0.at_), .int .u64 (loN p0.at_), .int .i64 (hiN p0.right), .int .u64 (loN p0.right), .int .i64 (hiN p0.up), .int .u64 (loN p0.up), .int .i64 p0.area, .int .i64 (hiN p1.at_), .int .u64 (loN p1.at_), .int .i64 (hiN p1.right), .int .u64 (loN p1.right), .int .i64 (hiN p1.up), .int .u64 (loN p1.up), .int .i64 p1.area, .int .i64 (hiN p2.at_), .int .u64 (loN p2.at_), .int .i64 (hiN p2.right), .int .u64 (loN p2.right), .int .i64 (hiN p2.up), .int .u64 (loN p2.up), .int .i64 p2.area, .int .i64 (hiN p3.at_), .int .u64 (loN p3.at_), .int .i64 (hiN p3.right), .int .u64 (loN p3.right), .int .i64 (hiN p3.up), .int .u64 (loN p3.up), .int .i64 p3.area, .int .i64 (hiN p4.at_), .int .u64 (loN p4.at_), .int .i64 (hiN p4.right), .int .u64 (loN p4.right), .int .i64 (hiN p4.up), .int .u64 (loN p4.up), .int .i64 p4.area], 191)] v L) ?_ ?_
      · exact (hR.out.two _ 6 _ _ HW1.out HN1.out rfl).grow _
      clear hR m1 m2 m3 n1 n2 n3 l1 l2 l3
      refine fun w2 h2 => ?_
      have hR := Lib.hid h2
      clear h2
      have m0 := hR.out.rows _ (List.mem_cons_self ..)
      simp only at m0
      have m1 := m0.cell
      have m2 := m0.frozen
      have m3 := m0.lt
      clear m0
      have n0 := hR.out.rows _ (List.mem_cons_of_mem _ (List.mem_cons_self ..))
      simp only at n0
      have n1 := n0.cell
      have n2 := n0.frozen
      have n3 := n0.lt
      clear n0
      have l0 := hR.out.rows _ (List.mem_cons_of_mem _ (List.mem_cons_of_mem _ (List.mem_cons_self ..)))
      simp only at l0
      have l1 := l0.cell
      have l2 := l0.frozen
      have l3 := l0.lt
      clear l0
      rw [rounds_succ]; go_wp2
      refine wp_region_ext_tail 9 (by kernel_rfl) (by kernel_rfl) ?_
      simp only [List.take_succ_cons, List.take_zero, List.drop_succ_cons, List.drop_zero]
      repeat (go_big_quiet_step ((first | (go_at_call 153; with_reducible exact Calls.quiet_ret (U4.out _)))))
      refine wpQuiet_nil ?_
      intro _ hw_ext
      obtain ⟨X, hw_ext⟩ := hw_ext
      subst hw_ext
      go_wp2
      refine rounds_abs (F := fun w2 => Hold frK w1 w2 76 [(Bs, #[.int .i64 (hiN s0), .int .u64 (loN s0), .int .i64 (hiN s1), .int .u64 (loN s1), .int .i64 (hiN s2), .int .u64 (loN s2), .int .i64 (hiN s3), .int .u64 (loN s3), .int .i64 (hiN s4), .int .u64 (loN s4)], 199), (Bsp, #[.int .i64 sy, .int .i64 sx0, .int .i64 sx1], 198), (Bl, #[.int .i64 (hiN p0.at_), .int .u64 (loN p0.at_), .int .i64 (hiN p0.right), .int .u64 (loN p0.right), .int .i64 (hiN p0.up), .int .u64 (loN p0.up), .int .i64 p0.area, .int .i64 (hiN p1.at_), .int .u64 (loN p1.at_), .int .i64 (hiN p1.right), .int .u64 (loN p1.right), .int .i64 (hiN p1.up), .int .u64 (loN p1.up), .int .i64 p1.area, .int .i64 (hiN p2.at_), .int .u64 (loN p2.at_), .int .i64 (hiN p2.right), .int .u64 (loN p2.right), .int .i64 (hiN p2.up), .int .u64 (loN p2.up), .int .i64 p2.area, .int .i64 (hiN p3.at_), .int .u64 (loN p3.at_), .int .i64 (hiN p3.right), .int .u64 (loN p3.right), .int .i64 (hiN p3.up), .int .u64 (loN p3.up), .int .i64 p3.area, .int .i64 (hiN p4.at_), .int .u64 (loN p4.at_), .int .i64 (hiN p4.right), .int .u64 (loN p4.right), .int .i64 (hiN p4.up), .int .u64 (loN p4.up), .int .i64 p4.area], 191)] v L) ?_ ?_
      · exact (hR.out.two _ 8 _ _ HW1.out HN1.out rfl).grow _
      clear hR m1 m2 m3 n1 n2 n3 l1 l2 l3
      refine fun w2 h2 => ?_
      have hR := Lib.hid h2
      clear h2
      clear U0 U1 U2 U3 U4
      rw [rounds_succ]
      have m0 := hR.out.rows _ (List.mem_cons_self ..)
      simp only at m0
      have m1 := m0.cell
      have m2 := m0.frozen
      have m3 := m0.lt
      clear m0
      have n0 := hR.out.rows _ (List.mem_cons_of_mem _ (List.mem_cons_self ..))
      simp only at n0
      have n1 := n0.cell
      have n2 := n0.frozen
      have n3 := n0.lt
      clear n0
      have l0 := hR.out.rows _ (List.mem_cons_of_mem _ (List.mem_cons_of_mem _ (List.mem_cons_self ..)))
      simp only at l0
      have l1 := l0.cell
      have l2 := l0.frozen
      have l3 := l0.lt
      clear l0
      go_wp2
      clear m1 m2 m3 n1 n2 n3 l1 l2 l3
      have HP := Lib.hid (show L = fillTo a b c o (S.take k) ++ fillRow a b c o ⟨sy, sx0, sx0⟩ by rw [fillRow_nil _ _ _ _ _ _ _ (Int.le_refl _), List.append_nil]; exact hL.out)
      go_loopw [18, 13] (fun i u wr => ∃ (x : Int) (v : Value) (L : List FrP), sx0 ≤ x ∧ x ≤ sx1 ∧ i = .int .i64 x ∧ u = v ∧ Hid (L = fillTo a b c o (S.take k) ++ fillRow a b c o ⟨sy, sx0, x⟩) ∧ Hid (Hold frK w1 wr 76 [(Bs, #[.int .i64 (hiN (p0.sum x sy)), .int .u64 (loN (p0.sum x sy)), .int .i64 (hiN (p1.sum x sy)), .int .u64 (loN (p1.sum x sy)), .int .i64 (hiN (p2.sum x sy)), .int .u64 (loN (p2.sum x sy)), .int .i64 (hiN (p3.sum x sy)), .int .u64 (loN (p3.sum x sy)), .int .i64 (hiN (p4.sum x sy)), .int .u64 (loN (p4.sum x sy))], 199), (Bsp, #[.int .i64 sy, .int .i64 sx0, .int .i64 sx1], 198), (Bl, #[.int .i64 (hiN p0.at_), .int .u64 (loN p0.at_), .int .i64 (hiN p0.right), .int .u64 (loN p0.right), .int .i64 (hiN p0.up), .int .u64 (loN p0.up), .int .i64 p0.area, .int .i64 (hiN p1.at_), .int .u64 (loN p1.at_), .int .i64 (hiN p1.right), .int .u64 (loN p1.right), .int .i64 (hiN p1.up), .int .u64 (loN p1.up), .int .i64 p1.area, .int .i64 (hiN p2.at_), .int .u64 (loN p2.at_), .int .i64 (hiN p2.right), .int .u64 (loN p2.right), .int .i64 (hiN p2.up), .int .u64 (loN p2.up), .int .i64 p2.area, .int .i64 (hiN p3.at_), .int .u64 (loN p3.at_), .int .i64 (hiN p3.right), .int .u64 (loN p3.right), .int .i64 (hiN p3.up), .int .u64 (loN p3.up), .int .i64 p3.area, .int .i64 (hiN p4.at_), .int .u64 (loN p4.at_), .int .i64 (hiN p4.right), .int .u64 (loN p4.right), .int .i64 (hiN p4.up), .int .u64 (loN p4.up), .int .i64 p4.area], 191)] v L))
        (fun i _ _ => (sx1 - intOf i).toNat)
      case atStart => exact ⟨sx0, v, L, by omega, by omega, rfl, rfl, HP, by rw [G0.out, G1.out, G2.out, G3.out, G4.out]; exact hR⟩
      case round =>
        clear hR hL HP 
        obtain ⟨x, v, L, hx0, hx1, rfl, hv, hL, hR⟩ := hrel
        have hv := hv.symm
        subst hv
        by_cases hl2 : x < sx1
        · obtain ⟨zb0, zb1⟩ := QZ.out x (by omega) hl2
          have P3 := Lib.hid (HFR.out x sy)
          have P2 := Lib.hid (show fillTo a b c o (S.take k) ++ fillRow a b c o ⟨sy, sx0, x + 1⟩ = L ++ [frAt a b c o x sy] by rw [fillRow_snoc _ _ _ _ _ _ _ (by omega), ← List.append_assoc, ← hL.out])
          have le := QP.out x (by omega)
          rw [← hL.out] at le
          have LB1 := Lib.hid (show L.length + 1 ≤ maxLen by unfold maxLen; omega)
          have LB2 := Lib.hid (show (L.length + 1) * 64 ≤ 140737488355328 by omega)
          clear le
          have V0 := Lib.hid (fun w => QV0.out x (by omega) hl2 w)
          have B0 := Lib.hid (fun w => HB0.out x sy ⟨by omega, by omega, by omega, by omega⟩ w)
          have V1 := Lib.hid (fun w => QV1.out x (by omega) hl2 w)
          have B1 := Lib.hid (fun w => HB1.out x sy ⟨by omega, by omega, by omega, by omega⟩ w)
          have V2 := Lib.hid (fun w => QV2.out x (by omega) hl2 w)
          have B2 := Lib.hid (fun w => HB2.out x sy ⟨by omega, by omega, by omega, by omega⟩ w)
          have V3 := Lib.hid (fun w => QV3.out x (by omega) hl2 w)
          have B3 := Lib.hid (fun w => HB3.out x sy ⟨by omega, by omega, by omega, by omega⟩ w)
          have V4 := Lib.hid (fun w => QV4.out x (by omega) hl2 w)
          have B4 := Lib.hid (fun w => HB4.out x sy ⟨by omega, by omega, by omega, by omega⟩ w)
          have E0 := Lib.hid (rfl : p0.sum (x + 1) sy = p0.sum (x + 1) sy)
          obtain ⟨e0, hy0⟩ : ∃ s, p0.sum x sy = s := ⟨_, rfl⟩
          obtain ⟨q0, hq0⟩ : ∃ s, p0.sum (x + 1) sy = s := ⟨_, rfl⟩
          rw [hy0] at V0 B0 hR
          rw [hq0] at B0
          have K0 := Lib.hid hq0
          clear hy0 hq0 E0
          have E1 := Lib.hid (rfl : p1.sum (x + 1) sy = p1.sum (x + 1) sy)
          obtain ⟨e1, hy1⟩ : ∃ s, p1.sum x sy = s := ⟨_, rfl⟩
          obtain ⟨q1, hq1⟩ : ∃ s, p1.sum (x + 1) sy = s := ⟨_, rfl⟩
          rw [hy1] at V1 B1 hR
          rw [hq1] at B1
          have K1 := Lib.hid hq1
          clear hy1 hq1 E1
          have E2 := Lib.hid (rfl : p2.sum (x + 1) sy = p2.sum (x + 1) sy)
          obtain ⟨e2, hy2⟩ : ∃ s, p2.sum x sy = s := ⟨_, rfl⟩
          obtain ⟨q2, hq2⟩ : ∃ s, p2.sum (x + 1) sy = s := ⟨_, rfl⟩
          rw [hy2] at V2 B2 hR
          rw [hq2] at B2
          have K2 := Lib.hid hq2
          clear hy2 hq2 E2
          have E3 := Lib.hid (rfl : p3.sum (x + 1) sy = p3.sum (x + 1) sy)
          obtain ⟨e3, hy3⟩ : ∃ s, p3.sum x sy = s := ⟨_, rfl⟩
          obtain ⟨q3, hq3⟩ : ∃ s, p3.sum (x + 1) sy = s := ⟨_, rfl⟩
          rw [hy3] at V3 B3 hR
          rw [hq3] at B3
          have K3 := Lib.hid hq3
          clear hy3 hq3 E3
          have E4 := Lib.hid (rfl : p4.sum (x + 1) sy = p4.sum (x + 1) sy)
          obtain ⟨e4, hy4⟩ : ∃ s, p4.sum x sy = s := ⟨_, rfl⟩
          obtain ⟨q4, hq4⟩ : ∃ s, p4.sum (x + 1) sy = s := ⟨_, rfl⟩
          rw [hy4] at V4 B4 hR
          rw [hq4] at B4
          have K4 := Lib.hid hq4
          clear hy4 hq4 E4
          obtain ⟨zz, hzz⟩ : ∃ s, Z x sy = s := ⟨_, rfl⟩
          rw [hzz] at V0 P3 zb0 zb1
          clear hzz
          obtain ⟨g0, hg0⟩ : ∃ s, C0 x sy = s := ⟨_, rfl⟩
          rw [hg0] at V1 P3
          clear hg0
          obtain ⟨g1, hg1⟩ : ∃ s, C1 x sy = s := ⟨_, rfl⟩
          rw [hg1] at V2 P3
          clear hg1
          obtain ⟨g2, hg2⟩ : ∃ s, C2 x sy = s := ⟨_, rfl⟩
          rw [hg2] at V3 P3
          clear hg2
          obtain ⟨g3, hg3⟩ : ∃ s, C3 x sy = s := ⟨_, rfl⟩
          rw [hg3] at V4 P3
          clear hg3
          have m0 := hR.out.rows _ (List.mem_cons_self ..)
          simp only at m0
          have m1 := m0.cell
          have m2 := m0.frozen
          have m3 := m0.lt
          clear m0
          have n0 := hR.out.rows _ (List.mem_cons_of_mem _ (List.mem_cons_self ..))
          simp only at n0
          have n1 := n0.cell
          have n2 := n0.frozen
          have n3 := n0.lt
          clear n0
          have l0 := hR.out.rows _ (List.mem_cons_of_mem _ (List.mem_cons_of_mem _ (List.mem_cons_self ..)))
          simp only at l0
          have l1 := l0.cell
          have l2 := l0.frozen
          have l3 := l0.lt
          clear l0
          go_wp2_with (first | (go_at_call 154; (with_reducible refine (V0.out _).mono ?_); rintro _ _ ⟨rfl, X_, rfl⟩))
          clear m1 m2 m3 n1 n2 n3 l1 l2 l3
          have P4 := Lib.hid (show frAt a b c o x sy = ⟨x, sy, (min (max (zz + o) 0) 16777215), g0, g1, g2, g3, 64⟩ by rw [P3.out, show max 0 (min (zz + o) 16777215) = (min (max (zz + o) 0) 16777215) by omega])
          obtain ⟨Bf, hBf⟩ : ∃ B, wr.heap.size = B := ⟨_, rfl⟩
          have hbf : some Bf ≠ v.ownBlock := fun e => by have := (hR.out.own.lt Bf e.symm).2; omega
          have HBF := Lib.hid hbf
          have HW2 := Lib.hid (show w1.heap.size ≤ Bf by have := hR.out.size; omega)
          have hne2 : ∀ r ∈ ([(Bs, #[.int .i64 (hiN e0), .int .u64 (loN e0), .int .i64 (hiN e1), .int .u64 (loN e1), .int .i64 (hiN e2), .int .u64 (loN e2), .int .i64 (hiN e3), .int .u64 (loN e3), .int .i64 (hiN e4), .int .u64 (loN e4)], 199), (Bsp, #[.int .i64 sy, .int .i64 sx0, .int .i64 sx1], 198), (Bl, #[.int .i64 (hiN p0.at_), .int .u64 (loN p0.at_), .int .i64 (hiN p0.right), .int .u64 (loN p0.right), .int .i64 (hiN p0.up), .int .u64 (loN p0.up), .int .i64 p0.area, .int .i64 (hiN p1.at_), .int .u64 (loN p1.at_), .int .i64 (hiN p1.right), .int .u64 (loN p1.right), .int .i64 (hiN p1.up), .int .u64 (loN p1.up), .int .i64 p1.area, .int .i64 (hiN p2.at_), .int .u64 (loN p2.at_), .int .i64 (hiN p2.right), .int .u64 (loN p2.right), .int .i64 (hiN p2.up), .int .u64 (loN p2.up), .int .i64 p2.area, .int .i64 (hiN p3.at_), .int .u64 (loN p3.at_), .int .i64 (hiN p3.right), .int .u64 (loN p3.right), .int .i64 (hiN p3.up), .int .u64 (loN p3.up), .int .i64 p3.area, .int .i64 (hiN p4.at_), .int .u64 (loN p4.at_), .int .i64 (hiN p4.right), .int .u64 (loN p4.right), .int .i64 (hiN p4.up), .int .u64 (loN p4.up), .int .i64 p4.area], 191)] : List (Nat × Array Value × TypeId)), r.1 ≠ Bf := fun r hr => by have := (hR.out.rows r hr).lt; omega
          have HN2 := Lib.hid hne2
          refine wp_abs (F := fun w2 => Row w2 Bf #[.int .i64 x, .int .i64 sy, .int .i64 (min (max (zz + o) 0) 16777215), .int .i64 0, .int .i64 0, .int .i64 0, .int .i64 0, .int .i64 64] 76 ∧ Hold frK w1 w2 76 [(Bs, #[.int .i64 (hiN e0), .int .u64 (loN e0), .int .i64 (hiN e1), .int .u64 (loN e1), .int .i64 (hiN e2), .int .u64 (loN e2), .int .i64 (hiN e3), .int .u64 (loN e3), .int .i64 (hiN e4), .int .u64 (loN e4)], 199), (Bsp, #[.int .i64 sy, .int .i64 sx0, .int .i64 sx1], 198), (Bl, #[.int .i64 (hiN p0.at_), .int .u64 (loN p0.at_), .int .i64 (hiN p0.right), .int .u64 (loN p0.right), .int .i64 (hiN p0.up), .int .u64 (loN p0.up), .int .i64 p0.area, .int .i64 (hiN p1.at_), .int .u64 (loN p1.at_), .int .i64 (hiN p1.right), .int .u64 (loN p1.right), .int .i64 (hiN p1.up), .int .u64 (loN p1.up), .int .i64 p1.area, .int .i64 (hiN p2.at_), .int .u64 (loN p2.at_), .int .i64 (hiN p2.right), .int .u64 (loN p2.right), .int .i64 (hiN p2.up), .int .u64 (loN p2.up), .int .i64 p2.area, .int .i64 (hiN p3.at_), .int .u64 (loN p3.at_), .int .i64 (hiN p3.right), .int .u64 (loN p3.right), .int .i64 (hiN p3.up), .int .u64 (loN p3.up), .int .i64 p3.area, .int .i64 (hiN p4.at_), .int .u64 (loN p4.at_), .int .i64 (hiN p4.right), .int .u64 (loN p4.right), .int .i64 (hiN p4.up), .int .u64 (loN p4.up), .int .i64 p4.area], 191)] v L) ⟨by rw [← hBf]; exact rx_, hR.out.grown (by exact bl_)⟩ ?_
          rw [hBf]
          clear hne2 P3
          clear hR hBf hbf
          rintro w2 ⟨h1, h2⟩
          have hF := Lib.hid h1
          have hR := Lib.hid h2
          clear h1 h2
          refine wp_loop_rounds 5 ?_
          have m0 := hR.out.rows _ (List.mem_cons_self ..)
          simp only at m0
          have m1 := m0.cell
          have m2 := m0.frozen
          have m3 := m0.lt
          clear m0
          have n0 := hR.out.rows _ (List.mem_cons_of_mem _ (List.mem_cons_self ..))
          simp only at n0
          have n1 := n0.cell
          have n2 := n0.frozen
          have n3 := n0.lt
          clear n0
          have l0 := hR.out.rows _ (List.mem_cons_of_mem _ (List.mem_cons_of_mem _ (List.mem_cons_self ..)))
          simp only at l0
          have l1 := l0.cell
          have l2 := l0.frozen
          have l3 := l0.lt
          clear l0
          have f1 := hF.out.cell
          have f2 := hF.out.frozen
          have f3 := hF.out.lt
          rw [rounds_succ]; go_wp2
          refine wp_region_ext_tail 11 (by kernel_rfl) (by kernel_rfl) ?_
          simp only [List.take_succ_cons, List.take_zero, List.drop_succ_cons, List.drop_zero]
          repeat (go_big_quiet_step ((first | (go_at_call 154; with_reducible exact Calls.quiet_ret (V1.out _)))))
          refine wpQuiet_nil ?_
          intro _ hw_ext
          obtain ⟨X, hw_ext⟩ := hw_ext
          subst hw_ext
          go_wp2
          refine rounds_abs (F := fun w2 => Row w2 Bf #[.int .i64 x, .int .i64 sy, .int .i64 (min (max (zz + o) 0) 16777215), .int .i64 g0, .int .i64 0, .int .i64 0, .int .i64 0, .int .i64 64] 76 ∧ Hold frK w1 w2 76 [(Bs, #[.int .i64 (hiN e0), .int .u64 (loN e0), .int .i64 (hiN e1), .int .u64 (loN e1), .int .i64 (hiN e2), .int .u64 (loN e2), .int .i64 (hiN e3), .int .u64 (loN e3), .int .i64 (hiN e4), .int .u64 (loN e4)], 199), (Bsp, #[.int .i64 sy, .int .i64 sx0, .int .i64 sx1], 198), (Bl, #[.int .i64 (hiN p0.at_), .int .u64 (loN p0.at_), .int .i64 (hiN p0.right), .int .u64 (loN p0.right), .int .i64 (hiN p0.up), .int .u64 (loN p0.up), .int .i64 p0.area, .int .i64 (hiN p1.at_), .int .u64 (loN p1.at_), .int .i64 (hiN p1.right), .int .u64 (loN p1.right), .int .i64 (hiN p1.up), .int .u64 (loN p1.up), .int .i64 p1.area, .int .i64 (hiN p2.at_), .int .u64 (loN p2.at_), .int .i64 (hiN p2.right), .int .u64 (loN p2.right), .int .i64 (hiN p2.up), .int .u64 (loN p2.up), .int .i64 p2.area, .int .i64 (hiN p3.at_), .int .u64 (loN p3.at_), .int .i64 (hiN p3.right), .int .u64 (loN p3.right), .int .i64 (hiN p3.up), .int .u64 (loN p3.up), .int .i64 p3.area, .int .i64 (hiN p4.at_), .int .u64 (loN p4.at_), .int .i64 (hiN p4.right), .int .u64 (loN p4.right), .int .i64 (hiN p4.up), .int .u64 (loN p4.up), .int .i64 p4.area], 191)] v L) ⟨by have := (hF.out.set 3 (.int .i64 g0)).ext X; simpa using this, (hR.out.put1 HBF.out HW2.out HN2.out).grow _⟩ ?_
          clear hR hF m1 m2 m3 n1 n2 n3 l1 l2 l3 f1 f2 f3
          rintro w2 ⟨h1, h2⟩
          have hF := Lib.hid h1
          have hR := Lib.hid h2
          clear h1 h2
          have m0 := hR.out.rows _ (List.mem_cons_self ..)
          simp only at m0
          have m1 := m0.cell
          have m2 := m0.frozen
          have m3 := m0.lt
          clear m0
          have n0 := hR.out.rows _ (List.mem_cons_of_mem _ (List.mem_cons_self ..))
          simp only at n0
          have n1 := n0.cell
          have n2 := n0.frozen
          have n3 := n0.lt
          clear n0
          have l0 := hR.out.rows _ (List.mem_cons_of_mem _ (List.mem_cons_of_mem _ (List.mem_cons_self ..)))
          simp only at l0
          have l1 := l0.cell
          have l2 := l0.frozen
          have l3 := l0.lt
          clear l0
          have f1 := hF.out.cell
          have f2 := hF.out.frozen
          have f3 := hF.out.lt
          rw [rounds_succ]; go_wp2
          refine wp_region_ext_tail 11 (by kernel_rfl) (by kernel_rfl) ?_
          simp only [List.take_succ_cons, List.take_zero, List.drop_succ_cons, List.drop_zero]
          repeat (go_big_quiet_step ((first | (go_at_call 154; with_reducible exact Calls.quiet_ret (V2.out _)))))
          refine wpQuiet_nil ?_
          intro _ hw_ext
          obtain ⟨X, hw_ext⟩ := hw_ext
          subst hw_ext
          go_wp2
          refine rounds_abs (F := fun w2 => Row w2 Bf #[.int .i64 x, .int .i64 sy, .int .i64 (min (max (zz + o) 0) 16777215), .int .i64 g0, .int .i64 g1, .int .i64 0, .int .i64 0, .int .i64 64] 76 ∧ Hold frK w1 w2 76 [(Bs, #[.int .i64 (hiN e0), .int .u64 (loN e0), .int .i64 (hiN e1), .int .u64 (loN e1), .int .i64 (hiN e2), .int .u64 (loN e2), .int .i64 (hiN e3), .int .u64 (loN e3), .int .i64 (hiN e4), .int .u64 (loN e4)], 199), (Bsp, #[.int .i64 sy, .int .i64 sx0, .int .i64 sx1], 198), (Bl, #[.int .i64 (hiN p0.at_), .int .u64 (loN p0.at_), .int .i64 (hiN p0.right), .int .u64 (loN p0.right), .int .i64 (hiN p0.up), .int .u64 (loN p0.up), .int .i64 p0.area, .int .i64 (hiN p1.at_), .int .u64 (loN p1.at_), .int .i64 (hiN p1.right), .int .u64 (loN p1.right), .int .i64 (hiN p1.up), .int .u64 (loN p1.up), .int .i64 p1.area, .int .i64 (hiN p2.at_), .int .u64 (loN p2.at_), .int .i64 (hiN p2.right), .int .u64 (loN p2.right), .int .i64 (hiN p2.up), .int .u64 (loN p2.up), .int .i64 p2.area, .int .i64 (hiN p3.at_), .int .u64 (loN p3.at_), .int .i64 (hiN p3.right), .int .u64 (loN p3.right), .int .i64 (hiN p3.up), .int .u64 (loN p3.up), .int .i64 p3.area, .int .i64 (hiN p4.at_), .int .u64 (loN p4.at_), .int .i64 (hiN p4.right), .int .u64 (loN p4.right), .int .i64 (hiN p4.up), .int .u64 (loN p4.up), .int .i64 p4.area], 191)] v L) ⟨by have := (hF.out.set 4 (.int .i64 g1)).ext X; simpa using this, (hR.out.put1 HBF.out HW2.out HN2.out).grow _⟩ ?_
          clear hR hF m1 m2 m3 n1 n2 n3 l1 l2 l3 f1 f2 f3
          rintro w2 ⟨h1, h2⟩
          have hF := Lib.hid h1
          have hR := Lib.hid h2
          clear h1 h2
          have m0 := hR.out.rows _ (List.mem_cons_self ..)
          simp only at m0
          have m1 := m0.cell
          have m2 := m0.frozen
          have m3 := m0.lt
          clear m0
          have n0 := hR.out.rows _ (List.mem_cons_of_mem _ (List.mem_cons_self ..))
          simp only at n0
          have n1 := n0.cell
          have n2 := n0.frozen
          have n3 := n0.lt
          clear n0
          have l0 := hR.out.rows _ (List.mem_cons_of_mem _ (List.mem_cons_of_mem _ (List.mem_cons_self ..)))
          simp only at l0
          have l1 := l0.cell
          have l2 := l0.frozen
          have l3 := l0.lt
          clear l0
          have f1 := hF.out.cell
          have f2 := hF.out.frozen
          have f3 := hF.out.lt
          rw [rounds_succ]; go_wp2
          refine wp_region_ext_tail 11 (by kernel_rfl) (by kernel_rfl) ?_
          simp only [List.take_succ_cons, List.take_zero, List.drop_succ_cons, List.drop_zero]
          repeat (go_big_quiet_step ((first | (go_at_call 154; with_reducible exact Calls.quiet_ret (V3.out _)))))
          refine wpQuiet_nil ?_
          intro _ hw_ext
          obtain ⟨X, hw_ext⟩ := hw_ext
          subst hw_ext
          go_wp2
          refine rounds_abs (F := fun w2 => Row w2 Bf #[.int .i64 x, .int .i64 sy, .int .i64 (min (max (zz + o) 0) 16777215), .int .i64 g0, .int .i64 g1, .int .i64 g2, .int .i64 0, .int .i64 64] 76 ∧ Hold frK w1 w2 76 [(Bs, #[.int .i64 (hiN e0), .int .u64 (loN e0), .int .i64 (hiN e1), .int .u64 (loN e1), .int .i64 (hiN e2), .int .u64 (loN e2), .int .i64 (hiN e3), .int .u64 (loN e3), .int .i64 (hiN e4), .int .u64 (loN e4)], 199), (Bsp, #[.int .i64 sy, .int .i64 sx0, .int .i64 sx1], 198), (Bl, #[.int .i64 (hiN p0.at_), .int .u64 (loN p0.at_), .int .i64 (hiN p0.right), .int .u64 (loN p0.right), .int .i64 (hiN p0.up), .int .u64 (loN p0.up), .int .i64 p0.area, .int .i64 (hiN p1.at_), .int .u64 (loN p1.at_), .int .i64 (hiN p1.right), .int .u64 (loN p1.right), .int .i64 (hiN p1.up), .int .u64 (loN p1.up), .int .i64 p1.area, .int .i64 (hiN p2.at_), .int .u64 (loN p2.at_), .int .i64 (hiN p2.right), .int .u64 (loN p2.right), .int .i64 (hiN p2.up), .int .u64 (loN p2.up), .int .i64 p2.area, .int .i64 (hiN p3.at_), .int .u64 (loN p3.at_), .int .i64 (hiN p3.right), .int .u64 (loN p3.right), .int .i64 (hiN p3.up), .int .u64 (loN p3.up), .int .i64 p3.area, .int .i64 (hiN p4.at_), .int .u64 (loN p4.at_), .int .i64 (hiN p4.right), .int .u64 (loN p4.right), .int .i64 (hiN p4.up), .int .u64 (loN p4.up), .int .i64 p4.area], 191)] v L) ⟨by have := (hF.out.set 5 (.int .i64 g2)).ext X; simpa using this, (hR.out.put1 HBF.out HW2.out HN2.out).grow _⟩ ?_
          clear hR hF m1 m2 m3 n1 n2 n3 l1 l2 l3 f1 f2 f3
          rintro w2 ⟨h1, h2⟩
          have hF := Lib.hid h1
          have hR := Lib.hid h2
          clear h1 h2
          have m0 := hR.out.rows _ (List.mem_cons_self ..)
          simp only at m0
          have m1 := m0.cell
          have m2 := m0.frozen
          have m3 := m0.lt
          clear m0
          have n0 := hR.out.rows _ (List.mem_cons_of_mem _ (List.mem_cons_self ..))
          simp only at n0
          have n1 := n0.cell
          have n2 := n0.frozen
          have n3 := n0.lt
          clear n0
          have l0 := hR.out.rows _ (List.mem_cons_of_mem _ (List.mem_cons_of_mem _ (List.mem_cons_self ..)))
          simp only at l0
          have l1 := l0.cell
          have l2 := l0.frozen
          have l3 := l0.lt
          clear l0
          have f1 := hF.out.cell
          have f2 := hF.out.frozen
          have f3 := hF.out.lt
          rw [rounds_succ]; go_wp2
          refine wp_region_ext_tail 11 (by kernel_rfl) (by kernel_rfl) ?_
          simp only [List.take_succ_cons, List.take_zero, List.drop_succ_cons, List.drop_zero]
          repeat (go_big_quiet_step ((first | (go_at_call 154; with_reducible exact Calls.quiet_ret (V4.out _)))))
          refine wpQuiet_nil ?_
          intro _ hw_ext
          obtain ⟨X, hw_ext⟩ := hw_ext
          subst hw_ext
          go_wp2
          refine rounds_abs (F := fun w2 => Row w2 Bf #[.int .i64 x, .int .i64 sy, .int .i64 (min (max (zz + o) 0) 16777215), .int .i64 g0, .int .i64 g1, .int .i64 g2, .int .i64 g3, .int .i64 64] 76 ∧ Hold frK w1 w2 76 [(Bs, #[.int .i64 (hiN e0), .int .u64 (loN e0), .int .i64 (hiN e1), .int .u64 (loN e1), .int .i64 (hiN e2), .int .u64 (loN e2), .int .i64 (hiN e3), .int .u64 (loN e3), .int .i64 (hiN e4), .int .u64 (loN e4)], 199), (Bsp, #[.int .i64 sy, .int .i64 sx0, .int .i64 sx1], 198), (Bl, #[.int .i64 (hiN p0.at_), .int .u64 (loN p0.at_), .int .i64 (hiN p0.right), .int .u64 (loN p0.right), .int .i64 (hiN p0.up), .int .u64 (loN p0.up), .int .i64 p0.area, .int .i64 (hiN p1.at_), .int .u64 (loN p1.at_), .int .i64 (hiN p1.right), .int .u64 (loN p1.right), .int .i64 (hiN p1.up), .int .u64 (loN p1.up), .int .i64 p1.area, .int .i64 (hiN p2.at_), .int .u64 (loN p2.at_), .int .i64 (hiN p2.right), .int .u64 (loN p2.right), .int .i64 (hiN p2.up), .int .u64 (loN p2.up), .int .i64 p2.area, .int .i64 (hiN p3.at_), .int .u64 (loN p3.at_), .int .i64 (hiN p3.right), .int .u64 (loN p3.right), .int .i64 (hiN p3.up), .int .u64 (loN p3.up), .int .i64 p3.area, .int .i64 (hiN p4.at_), .int .u64 (loN p4.at_), .int .i64 (hiN p4.right), .int .u64 (loN p4.right), .int .i64 (hiN p4.up), .int .u64 (loN p4.up), .int .i64 p4.area], 191)] v L) ⟨by have := (hF.out.set 6 (.int .i64 g3)).ext X; simpa using this, (hR.out.put1 HBF.out HW2.out HN2.out).grow _⟩ ?_
          clear hR hF m1 m2 m3 n1 n2 n3 l1 l2 l3 f1 f2 f3
          rintro w2 ⟨h1, h2⟩
          have hF := Lib.hid h1
          have hR := Lib.hid h2
          clear h1 h2
          have m0 := hR.out.rows _ (List.mem_cons_self ..)
          simp only at m0
          have m1 := m0.cell
          have m2 := m0.frozen
          have m3 := m0.lt
          clear m0
          have n0 := hR.out.rows _ (List.mem_cons_of_mem _ (List.mem_cons_self ..))
          simp only at n0
          have n1 := n0.cell
          have n2 := n0.frozen
          have n3 := n0.lt
          clear n0
          have l0 := hR.out.rows _ (List.mem_cons_of_mem _ (List.mem_cons_of_mem _ (List.mem_cons_self ..)))
          simp only at l0
          have l1 := l0.cell
          have l2 := l0.frozen
          have l3 := l0.lt
          clear l0
          have f1 := hF.out.cell
          have f2 := hF.out.frozen
          have f3 := hF.out.lt
          have hsz := hR.out.size
          rw [rounds_succ]
          go_wp2_with (first
            | (at_builtin; refine wpList_append_own _ rfl _ _ 36 rfl w1.heap.size 76 i0 (.agg #[.int .i64 0, .int .i64 0, .int .i64 0, .int .i64 0, .int .i64 0, .int .i64 0, .int .i64 0, .int .i64 0]) 8 64 Tryz.underlying36 hii hi0 hi1 hi2 rfl (by decide) v L.length (L.flatMap FrP.cells) rfl (hR.out.own.alloc _) ⟨w2.heap.size, 0, none⟩ 1 1 (FrP.cells ⟨x, sy, (min (max (zz + o) 0) 16777215), g0, g1, g2, g3, 64⟩) rfl rfl (cells_newR rfl _ _) (frK.one ⟨x, sy, (min (max (zz + o) 0) 16777215), g0, g1, g2, g3, 64⟩) LB1.out LB2.out (by simp; omega) ?_; intro v' w6 hown hgrow _; have h5 := hR.out.snoc (s := ⟨x, sy, (min (max (zz + o) 0) 16777215), g0, g1, g2, g3, 64⟩) hown hgrow; have H5 := Lib.hid h5; clear hown hgrow h5))
          clear hR hF m1 m2 m3 n1 n2 n3 l1 l2 l3 f1 f2 f3 hsz HBF HW2 HN2
          have hR := H5
          clear H5
          refine wp_loop_rounds 6 ?_
          have m0 := hR.out.rows _ (List.mem_cons_self ..)
          simp only at m0
          have m1 := m0.cell
          have m2 := m0.frozen
          have m3 := m0.lt
          clear m0
          have n0 := hR.out.rows _ (List.mem_cons_of_mem _ (List.mem_cons_self ..))
          simp only at n0
          have n1 := n0.cell
          have n2 := n0.frozen
          have n3 := n0.lt
          clear n0
          have l0 := hR.out.rows _ (List.mem_cons_of_mem _ (List.mem_cons_of_mem _ (List.mem_cons_self ..)))
          simp only at l0
          have l1 := l0.cell
          have l2 := l0.frozen
          have l3 := l0.lt
          clear l0
          rw [rounds_succ]; go_wp2
          refine wp_region_ext_tail 9 (by kernel_rfl) (by kernel_rfl) ?_
          simp only [List.take_succ_cons, List.take_zero, List.drop_succ_cons, List.drop_zero]
          repeat (go_big_quiet_step ((first | (go_at_call 147; with_reducible exact Calls.quiet_ret (B0.out _)))))
          refine wpQuiet_nil ?_
          intro _ hw_ext
          obtain ⟨X, hw_ext⟩ := hw_ext
          subst hw_ext
          go_wp2
          refine rounds_abs (F := fun w2 => Hold frK w1 w2 76 [(Bs, #[.int .i64 (hiN q0), .int .u64 (loN q0), .int .i64 (hiN e1), .int .u64 (loN e1), .int .i64 (hiN e2), .int .u64 (loN e2), .int .i64 (hiN e3), .int .u64 (loN e3), .int .i64 (hiN e4), .int .u64 (loN e4)], 199), (Bsp, #[.int .i64 sy, .int .i64 sx0, .int .i64 sx1], 198), (Bl, #[.int .i64 (hiN p0.at_), .int .u64 (loN p0.at_), .int .i64 (hiN p0.right), .int .u64 (loN p0.right), .int .i64 (hiN p0.up), .int .u64 (loN p0.up), .int .i64 p0.area, .int .i64 (hiN p1.at_), .int .u64 (loN p1.at_), .int .i64 (hiN p1.right), .int .u64 (loN p1.right), .int .i64 (hiN p1.up), .int .u64 (loN p1.up), .int .i64 p1.area, .int .i64 (hiN p2.at_), .int .u64 (loN p2.at_), .int .i64 (hiN p2.right), .int .u64 (loN p2.right), .int .i64 (hiN p2.up), .int .u64 (loN p2.up), .int .i64 p2.area, .int .i64 (hiN p3.at_), .int .u64 (loN p3.at_), .int .i64 (hiN p3.right), .int .u64 (loN p3.right), .int .i64 (hiN p3.up), .int .u64 (loN p3.up), .int .i64 p3.area, .int .i64 (hiN p4.at_), .int .u64 (loN p4.at_), .int .i64 (hiN p4.right), .int .u64 (loN p4.right), .int .i64 (hiN p4.up), .int .u64 (loN p4.up), .int .i64 p4.area], 191)] v' (L ++ [⟨x, sy, (min (max (zz + o) 0) 16777215), g0, g1, g2, g3, 64⟩])) ((hR.out.two _ 0 _ _ HW1.out HN1.out rfl).grow _) ?_
          clear hR m1 m2 m3 n1 n2 n3 l1 l2 l3
          refine fun w2 h2 => ?_
          have hR := Lib.hid h2
          clear h2
          have m0 := hR.out.rows _ (List.mem_cons_self ..)
          simp only at m0
          have m1 := m0.cell
          have m2 := m0.frozen
          have m3 := m0.lt
          clear m0
          have n0 := hR.out.rows _ (List.mem_cons_of_mem _ (List.mem_cons_self ..))
          simp only at n0
          have n1 := n0.cell
          have n2 := n0.frozen
          have n3 := n0.lt
          clear n0
          have l0 := hR.out.rows _ (List.mem_cons_of_mem _ (List.mem_cons_of_mem _ (List.mem_cons_self ..)))
          simp only at l0
          have l1 := l0.cell
          have l2 := l0.frozen
          have l3 := l0.lt
          clear l0
          rw [rounds_succ]; go_wp2
          refine wp_region_ext_tail 9 (by kernel_rfl) (by kernel_rfl) ?_
          simp only [List.take_succ_cons, List.take_zero, List.drop_succ_cons, List.drop_zero]
          repeat (go_big_quiet_step ((first | (go_at_call 147; with_reducible exact Calls.quiet_ret (B1.out _)))))
          refine wpQuiet_nil ?_
          intro _ hw_ext
          obtain ⟨X, hw_ext⟩ := hw_ext
          subst hw_ext
          go_wp2
          refine rounds_abs (F := fun w2 => Hold frK w1 w2 76 [(Bs, #[.int .i64 (hiN q0), .int .u64 (loN q0), .int .i64 (hiN q1), .int .u64 (loN q1), .int .i64 (hiN e2), .int .u64 (loN e2), .int .i64 (hiN e3), .int .u64 (loN e3), .int .i64 (hiN e4), .int .u64 (loN e4)], 199), (Bsp, #[.int .i64 sy, .int .i64 sx0, .int .i64 sx1], 198), (Bl, #[.int .i64 (hiN p0.at_), .int .u64 (loN p0.at_), .int .i64 (hiN p0.right), .int .u64 (loN p0.right), .int .i64 (hiN p0.up), .int .u64 (loN p0.up), .int .i64 p0.area, .int .i64 (hiN p1.at_), .int .u64 (loN p1.at_), .int .i64 (hiN p1.right), .int .u64 (loN p1.right), .int .i64 (hiN p1.up), .int .u64 (loN p1.up), .int .i64 p1.area, .int .i64 (hiN p2.at_), .int .u64 (loN p2.at_), .int .i64 (hiN p2.right), .int .u64 (loN p2.right), .int .i64 (hiN p2.up), .int .u64 (loN p2.up), .int .i64 p2.area, .int .i64 (hiN p3.at_), .int .u64 (loN p3.at_), .int .i64 (hiN p3.right), .int .u64 (loN p3.right), .int .i64 (hiN p3.up), .int .u64 (loN p3.up), .int .i64 p3.area, .int .i64 (hiN p4.at_), .int .u64 (loN p4.at_), .int .i64 (hiN p4.right), .int .u64 (loN p4.right), .int .i64 (hiN p4.up), .int .u64 (loN p4.up), .int .i64 p4.area], 191)] v' (L ++ [⟨x, sy, (min (max (zz + o) 0) 16777215), g0, g1, g2, g3, 64⟩])) ((hR.out.two _ 2 _ _ HW1.out HN1.out rfl).grow _) ?_
          clear hR m1 m2 m3 n1 n2 n3 l1 l2 l3
          refine fun w2 h2 => ?_
          have hR := Lib.hid h2
          clear h2
          have m0 := hR.out.rows _ (List.mem_cons_self ..)
          simp only at m0
          have m1 := m0.cell
          have m2 := m0.frozen
          have m3 := m0.lt
          clear m0
          have n0 := hR.out.rows _ (List.mem_cons_of_mem _ (List.mem_cons_self ..))
          simp only at n0
          have n1 := n0.cell
          have n2 := n0.frozen
          have n3 := n0.lt
          clear n0
          have l0 := hR.out.rows _ (List.mem_cons_of_mem _ (List.mem_cons_of_mem _ (List.mem_cons_self ..)))
          simp only at l0
          have l1 := l0.cell
          have l2 := l0.frozen
          have l3 := l0.lt
          clear l0
          rw [rounds_succ]; go_wp2
          refine wp_region_ext_tail 9 (by kernel_rfl) (by kernel_rfl) ?_
          simp only [List.take_succ_cons, List.take_zero, List.drop_succ_cons, List.drop_zero]
          repeat (go_big_quiet_step ((first | (go_at_call 147; with_reducible exact Calls.quiet_ret (B2.out _)))))
          refine wpQuiet_nil ?_
          intro _ hw_ext
          obtain ⟨X, hw_ext⟩ := hw_ext
          subst hw_ext
          go_wp2
          refine rounds_abs (F := fun w2 => Hold frK w1 w2 76 [(Bs, #[.int .i64 (hiN q0), .int .u64 (loN q0), .int .i64 (hiN q1), .int .u64 (loN q1), .int .i64 (hiN q2), .int .u64 (loN q2), .int .i64 (hiN e3), .int .u64 (loN e3), .int .i64 (hiN e4), .int .u64 (loN e4)], 199), (Bsp, #[.int .i64 sy, .int .i64 sx0, .int .i64 sx1], 198), (Bl, #[.int .i64 (hiN p0.at_), .int .u64 (loN p0.at_), .int .i64 (hiN p0.right), .int .u64 (loN p0.right), .int .i64 (hiN p0.up), .int .u64 (loN p0.up), .int .i64 p0.area, .int .i64 (hiN p1.at_), .int .u64 (loN p1.at_), .int .i64 (hiN p1.right), .int .u64 (loN p1.right), .int .i64 (hiN p1.up), .int .u64 (loN p1.up), .int .i64 p1.area, .int .i64 (hiN p2.at_), .int .u64 (loN p2.at_), .int .i64 (hiN p2.right), .int .u64 (loN p2.right), .int .i64 (hiN p2.up), .int .u64 (loN p2.up), .int .i64 p2.area, .int .i64 (hiN p3.at_), .int .u64 (loN p3.at_), .int .i64 (hiN p3.right), .int .u64 (loN p3.right), .int .i64 (hiN p3.up), .int .u64 (loN p3.up), .int .i64 p3.area, .int .i64 (hiN p4.at_), .int .u64 (loN p4.at_), .int .i64 (hiN p4.right), .int .u64 (loN p4.right), .int .i64 (hiN p4.up), .int .u64 (loN p4.up), .int .i64 p4.area], 191)] v' (L ++ [⟨x, sy, (min (max (zz + o) 0) 16777215), g0, g1, g2, g3, 64⟩])) ((hR.out.two _ 4 _ _ HW1.out HN1.out rfl).grow _) ?_
          clear hR m1 m2 m3 n1 n2 n3 l1 l2 l3
          refine fun w2 h2 => ?_
          have hR := Lib.hid h2
          clear h2
          have m0 := hR.out.rows _ (List.mem_cons_self ..)
          simp only at m0
          have m1 := m0.cell
          have m2 := m0.frozen
          have m3 := m0.lt
          clear m0
          have n0 := hR.out.rows _ (List.mem_cons_of_mem _ (List.mem_cons_self ..))
          simp only at n0
          have n1 := n0.cell
          have n2 := n0.frozen
          have n3 := n0.lt
          clear n0
          have l0 := hR.out.rows _ (List.mem_cons_of_mem _ (List.mem_cons_of_mem _ (List.mem_cons_self ..)))
          simp only at l0
          have l1 := l0.cell
          have l2 := l0.frozen
          have l3 := l0.lt
          clear l0
          rw [rounds_succ]; go_wp2
          refine wp_region_ext_tail 9 (by kernel_rfl) (by kernel_rfl) ?_
          simp only [List.take_succ_cons, List.take_zero, List.drop_succ_cons, List.drop_zero]
          repeat (go_big_quiet_step ((first | (go_at_call 147; with_reducible exact Calls.quiet_ret (B3.out _)))))
          refine wpQuiet_nil ?_
          intro _ hw_ext
          obtain ⟨X, hw_ext⟩ := hw_ext
          subst hw_ext
          go_wp2
          refine rounds_abs (F := fun w2 => Hold frK w1 w2 76 [(Bs, #[.int .i64 (hiN q0), .int .u64 (loN q0), .int .i64 (hiN q1), .int .u64 (loN q1), .int .i64 (hiN q2), .int .u64 (loN q2), .int .i64 (hiN q3), .int .u64 (loN q3), .int .i64 (hiN e4), .int .u64 (loN e4)], 199), (Bsp, #[.int .i64 sy, .int .i64 sx0, .int .i64 sx1], 198), (Bl, #[.int .i64 (hiN p0.at_), .int .u64 (loN p0.at_), .int .i64 (hiN p0.right), .int .u64 (loN p0.right), .int .i64 (hiN p0.up), .int .u64 (loN p0.up), .int .i64 p0.area, .int .i64 (hiN p1.at_), .int .u64 (loN p1.at_), .int .i64 (hiN p1.right), .int .u64 (loN p1.right), .int .i64 (hiN p1.up), .int .u64 (loN p1.up), .int .i64 p1.area, .int .i64 (hiN p2.at_), .int .u64 (loN p2.at_), .int .i64 (hiN p2.right), .int .u64 (loN p2.right), .int .i64 (hiN p2.up), .int .u64 (loN p2.up), .int .i64 p2.area, .int .i64 (hiN p3.at_), .int .u64 (loN p3.at_), .int .i64 (hiN p3.right), .int .u64 (loN p3.right), .int .i64 (hiN p3.up), .int .u64 (loN p3.up), .int .i64 p3.area, .int .i64 (hiN p4.at_), .int .u64 (loN p4.at_), .int .i64 (hiN p4.right), .int .u64 (loN p4.right), .int .i64 (hiN p4.up), .int .u64 (loN p4.up), .int .i64 p4.area], 191)] v' (L ++ [⟨x, sy, (min (max (zz + o) 0) 16777215), g0, g1, g2, g3, 64⟩])) ((hR.out.two _ 6 _ _ HW1.out HN1.out rfl).grow _) ?_
          clear hR m1 m2 m3 n1 n2 n3 l1 l2 l3
          refine fun w2 h2 => ?_
          have hR := Lib.hid h2
          clear h2
          have m0 := hR.out.rows _ (List.mem_cons_self ..)
          simp only at m0
          have m1 := m0.cell
          have m2 := m0.frozen
          have m3 := m0.lt
          clear m0
          have n0 := hR.out.rows _ (List.mem_cons_of_mem _ (List.mem_cons_self ..))
          simp only at n0
          have n1 := n0.cell
          have n2 := n0.frozen
          have n3 := n0.lt
          clear n0
          have l0 := hR.out.rows _ (List.mem_cons_of_mem _ (List.mem_cons_of_mem _ (List.mem_cons_self ..)))
          simp only at l0
          have l1 := l0.cell
          have l2 := l0.frozen
          have l3 := l0.lt
          clear l0
          rw [rounds_succ]; go_wp2
          refine wp_region_ext_tail 9 (by kernel_rfl) (by kernel_rfl) ?_
          simp only [List.take_succ_cons, List.take_zero, List.drop_succ_cons, List.drop_zero]
          repeat (go_big_quiet_step ((first | (go_at_call 147; with_reducible exact Calls.quiet_ret (B4.out _)))))
          refine wpQuiet_nil ?_
          intro _ hw_ext
          obtain ⟨X, hw_ext⟩ := hw_ext
          subst hw_ext
          go_wp2
          refine rounds_abs (F := fun w2 => Hold frK w1 w2 76 [(Bs, #[.int .i64 (hiN q0), .int .u64 (loN q0), .int .i64 (hiN q1), .int .u64 (loN q1), .int .i64 (hiN q2), .int .u64 (loN q2), .int .i64 (hiN q3), .int .u64 (loN q3), .int .i64 (hiN q4), .int .u64 (loN q4)], 199), (Bsp, #[.int .i64 sy, .int .i64 sx0, .int .i64 sx1], 198), (Bl, #[.int .i64 (hiN p0.at_), .int .u64 (loN p0.at_), .int .i64 (hiN p0.right), .int .u64 (loN p0.right), .int .i64 (hiN p0.up), .int .u64 (loN p0.up), .int .i64 p0.area, .int .i64 (hiN p1.at_), .int .u64 (loN p1.at_), .int .i64 (hiN p1.right), .int .u64 (loN p1.right), .int .i64 (hiN p1.up), .int .u64 (loN p1.up), .int .i64 p1.area, .int .i64 (hiN p2.at_), .int .u64 (loN p2.at_), .int .i64 (hiN p2.right), .int .u64 (loN p2.right), .int .i64 (hiN p2.up), .int .u64 (loN p2.up), .int .i64 p2.area, .int .i64 (hiN p3.at_), .int .u64 (loN p3.at_), .int .i64 (hiN p3.right), .int .u64 (loN p3.right), .int .i64 (hiN p3.up), .int .u64 (loN p3.up), .int .i64 p3.area, .int .i64 (hiN p4.at_), .int .u64 (loN p4.at_), .int .i64 (hiN p4.right), .int .u64 (loN p4.right), .int .i64 (hiN p4.up), .int .u64 (loN p4.up), .int .i64 p4.area], 191)] v' (L ++ [⟨x, sy, (min (max (zz + o) 0) 16777215), g0, g1, g2, g3, 64⟩])) ((hR.out.two _ 8 _ _ HW1.out HN1.out rfl).grow _) ?_
          clear hR m1 m2 m3 n1 n2 n3 l1 l2 l3
          refine fun w2 h2 => ?_
          have hR := Lib.hid h2
          clear h2
          rw [rounds_succ]; go_wp2
          go_roundw
          case rel => exact ⟨x + 1, _, L ++ [⟨x, sy, (min (max (zz + o) 0) 16777215), g0, g1, g2, g3, 64⟩], by omega, by omega, rfl, rfl, Lib.hid (by rw [P2.out, P4.out]), by rw [K0.out, K1.out, K2.out, K3.out, K4.out]; exact hR⟩
          case measure => simp [intOf]; omega
        · obtain rfl : x = sx1 := by omega
          have P2 := Lib.hid (show L = fillTo a b c o (S.take (k + 1)) by rw [QT.out]; exact hL.out)
          have m0 := hR.out.rows _ (List.mem_cons_self ..)
          simp only at m0
          have m1 := m0.cell
          have m2 := m0.frozen
          have m3 := m0.lt
          clear m0
          have n0 := hR.out.rows _ (List.mem_cons_of_mem _ (List.mem_cons_self ..))
          simp only at n0
          have n1 := n0.cell
          have n2 := n0.frozen
          have n3 := n0.lt
          clear n0
          have l0 := hR.out.rows _ (List.mem_cons_of_mem _ (List.mem_cons_of_mem _ (List.mem_cons_self ..)))
          simp only at l0
          have l1 := l0.cell
          have l2 := l0.frozen
          have l3 := l0.lt
          clear l0
          go_wp2
          go_roundw
          case rel => exact ⟨k + 1, _, L, HKL.out, by go_num, rfl, P2, Lib.hid (hR.out.with (List.forall_mem_cons.2 ⟨hR.out.rows _ (List.mem_cons_of_mem _ (List.mem_cons_of_mem _ List.mem_cons_self)), by simp⟩) (by simp))⟩
          case measure => have := HKL.out; simp [intOf]; omega
    · obtain rfl : k = S.length := by omega
      go_wp2
      go_ret
      rw [List.take_length] at hL
      obtain ⟨X1, hX1⟩ := hR.out.ext
      obtain ⟨X0, hX0⟩ := HX.out
      refine ⟨_, rfl, ?_, ?_⟩
      · rw [← hL.out]; exact own_recs hR.out.own (by rw [hL.out]; have := HLn.out; omega)
      · rw [hX1, hX0]; exact ⟨_, World.ext_ext⟩
end Go.Proofs.YtbkmgngeahmefaaGreat
