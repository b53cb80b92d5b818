/- Rows of bits, appended; the walks of the reference of layer 2: differences of bits, which are greater. Conditions: the slices read as bits. -/
import Derived.Test.YtmlhbbkgfffmcaaNumB
import Derived.Test.YtmlhbbkgfffmcaaXintM
import Derived.Deep.AppendSrc
import Derived.Room.Entries
namespace Go.Proofs.Ytmlhbbkgfffmcaa
set_option linter.unusedVariables false
set_option linter.unusedSimpArgs false
open Go.RowKit
theorem Rb.cells {w : World} {b off n cap : Nat} {l : List Int} (h : Rb w (.slice (some ⟨b, off, none⟩) n cap) l) : ∀ j u, (l.map (Value.int .u8))[j]? = some u → w.cell? ((⟨b, off, none⟩ : Addr).add j) = some u := by
  obtain ⟨h0, h1, a, cap', e, h2, h3, h4⟩ := h
  intro j u hu
  obtain ⟨d, hd, rfl⟩ : ∃ d, l[j]? = some d ∧ u = Value.int .u8 d := by
    rw [List.getElem?_map] at hu
    cases hl : l[j]? with
    | none => rw [hl] at hu; cases hu
    | some d => rw [hl] at hu; exact ⟨d, rfl, by simpa using hu.symm⟩
  have hj : j < l.length := (List.getElem?_eq_some_iff.1 hd).1
  rcases h4 with rfl | ⟨b', off', rfl, hb, hc⟩
  · simp at hj
  · cases e
    have hadd : (⟨b, off, none⟩ : Addr).add j = ⟨b, off + j, none⟩ := by unfold Addr.add; split <;> simp_all
    rw [hadd, hc j hj, bt, List.getD_eq_getElem?_getD, hd]; rfl
theorem one_u8 (l : List Int) : ∀ u ∈ l.map (Value.int .u8), u.oneCell' = true := fun u hu => by
  obtain ⟨d, -, rfl⟩ := List.mem_map.1 hu; rfl
theorem bin_app {a b : List Int} (ha : Bin a) (hb : Bin b) : Bin (a ++ b) := fun i => by
  have h1 := ha i
  have h2 := hb (i - a.length)
  unfold bt at *
  rw [List.getD_eq_getElem?_getD, List.getElem?_append]
  split
  · rw [List.getD_eq_getElem?_getD] at h1; exact h1
  · rw [List.getD_eq_getElem?_getD] at h2; exact h2
/-- A row of bits, all of it in use, and bits behind it. -/
theorem run_append_bits {w : World} (t ty e : TypeId) (i : TypeInfo) (ht : Try.prog.underlying t = some (.slice e)) (hi : Try.prog.info? e = some i) (hz : i.zero = some (.int .u8 0)) (hs : i.size = 1) (hb : i.bytes = 1)
    {b off n : Nat} {xv : Value} {l1 l2 : List Int} (h1 : Rb w (.slice (some ⟨b, off, none⟩) n n) l1) (h2 : Rb w xv l2) (hl : l1.length + l2.length ≤ 1048576) :
    ∃ v w', (Builtin.append_ #[t, t] ty #[.slice (some ⟨b, off, none⟩) n n, xv]).run Try.prog w = .ok v w' ∧ Rb w' v (l1 ++ l2) ∧ (∃ X, w' = w.ext X) ∧ ∀ q, v.ownBlock = some q → q = b ∨ w.heap.size ≤ q := by
  have B1 := h1.bin
  have B2 := h2.bin
  have C1 := h1.cells
  obtain ⟨a1, cap1, e1, -, -, -⟩ := h1.form
  obtain ⟨rfl, rfl, rfl⟩ : n = l1.length ∧ n = cap1 ∧ a1 = some ⟨b, off, none⟩ := by cases e1; exact ⟨rfl, rfl, rfl⟩
  obtain ⟨a2, cap2, rfl, g1, g2, g3⟩ := h2.form
  by_cases hz2 : l2 = []
  · subst hz2
    have S : Src Try.prog i.size t (.slice a2 0 cap2) 0 [] w := by
      cases a2 with
      | none => exact Src.ofNil w ht cap2
      | some ad => exact Src.ofSlice w ht ad 0 cap2 [] (by simp) (fun j u h => by simp at h) (fun u h => by cases h)
    have hr := run_append_room_src (P := Try.prog) w t t ty e i ht hi b off l1.length l1.length (.slice a2 0 cap2) 0 [] S (by omega) (fun j hj => by simp at hj) (fun j hj => by simp at hj)
    refine ⟨_, _, hr, ?_, ⟨⟨#[], w.drawn⟩, ?_⟩, fun q hq => .inl (by cases hq; rfl)⟩
    · have : w.setCells b (off + l1.length * i.size) [] = w := rfl
      rw [this, List.append_nil]; exact h1
    · have : w.setCells b (off + l1.length * i.size) [] = w := rfl
      rw [this]; simp [World.ext]
  · have hpos : 0 < l2.length := List.length_pos_iff.2 hz2
    rcases g3 with rfl | ⟨b2, off2, rfl, hb2, hc2⟩
    · exact absurd rfl hz2
    have S : Src Try.prog i.size t (.slice (some ⟨b2, off2, none⟩) l2.length cap2) l2.length (l2.map (Value.int .u8)) w :=
      Src.ofSlice w ht _ _ _ _ (by simp [hs]) h2.cells (one_u8 l2)
    have hnx := Room.nextslicecap_le' (need := l1.length + l2.length) (old := l1.length) (by omega)
    have hr := run_append_grow_src (P := Try.prog) w t t ty e i _ ht hi hz (some ⟨b, off, none⟩) l1.length l1.length (l1.map (Value.int .u8))
      (run_firstCells_some w.drew i.size l1.length ⟨b, off, none⟩ l1.length l1.length _ (by simp [hs]) C1) (.slice (some ⟨b2, off2, none⟩) l2.length cap2) l2.length (l2.map (Value.int .u8)) S (by omega) (by omega) (by rw [hb]; omega)
    refine ⟨_, _, hr, ?_, ?_, fun q hq => .inr (by cases hq; exact Nat.le_refl _)⟩
    · have hge := grownCap_ge w (l1.length + l2.length) l1.length e
      have hcm : grownCap w (l1.length + l2.length) l1.length e ≤ maxLen := grownCap_le_maxLen w _ _ e (by unfold maxLen; omega)
      refine ⟨bin_app B1 B2, by simp; omega, _, _, by rw [List.length_append], by simp; omega, hcm, .inr ⟨_, 0, rfl, by simp, fun j hj => ?_⟩⟩
      rw [Nat.zero_add, World.cell?]
      have hn : (w.drew.alloc (.cells ((l1.map (Value.int .u8) ++ l2.map (Value.int .u8)).toArray ++ Builtin.zeroCells (Value.cells (.int .u8 0)) (grownCap w (l1.length + l2.length) l1.length e - (l1.length + l2.length))) e)).heap[w.heap.size]? = some (.cells ((l1.map (Value.int .u8) ++ l2.map (Value.int .u8)).toArray ++ Builtin.zeroCells (Value.cells (.int .u8 0)) (grownCap w (l1.length + l2.length) l1.length e - (l1.length + l2.length))) e) := heap_alloc_new w.drew _
      simp only [hn]
      rw [← List.map_append, Array.getElem?_append_left (by simpa using hj)]
      simp only [List.getElem?_toArray, List.getElem?_map, bt, List.getD_eq_getElem?_getD]
      rw [List.getElem?_eq_getElem hj]; rfl
    · exact (Below.alloc (Below.drew (Below.refl _ _)) (Nat.le_refl _) _).toExt
theorem wp_append_bits {w : World} {o : Oper} {a : Act} {K : Act → World → Prop} {Q : Exit → Act → World → Prop} (s x : Operand) (t e : TypeId) (ho : o.op = .call { callee := .builtin .append, args := #[s, x], argTypes := #[t, t] })
    (i : TypeInfo) (ht : Try.prog.underlying t = some (.slice e)) (hi : Try.prog.info? e = some i) (hz : i.zero = some (.int .u8 0)) (hs : i.size = 1) (hb : i.bytes = 1)
    (b off n : Nat) (l1 l2 : List Int) (es : a.eval s = .slice (some ⟨b, off, none⟩) n n) (h1 : Rb w (.slice (some ⟨b, off, none⟩) n n) l1) (h2 : Rb w (a.eval x) l2) (hl : l1.length + l2.length ≤ 1048576)
    (h : ∀ v w', Rb w' v (l1 ++ l2) → (∃ X, w' = w.ext X) → (∀ q, v.ownBlock = some q → q = b ∨ w.heap.size ≤ q) → K (a.put o.dst v) w') : o.wp Try.prog a w K Q := by
  obtain ⟨v, w', hr, g1, g2, g3⟩ := run_append_bits t o.type e i ht hi hz hs hb h1 h2 hl
  unfold Oper.wp execOp
  simp only [ho, resolve, invoke, builtin, Sem.run_bind, Sem.run_pure, Result.andThen_ok, List.map_toArray, List.map_cons, List.map_nil, es, hr]
  exact h v w' g1 g2 g3
theorem wpList_append_bits {w : World} {ops : Array Oper} {rest : List Oper} {o : Oper} {a : Act} {Q : Exit → Act → World → Prop} (hgd : o.guard = none) (s x : Operand) (t e : TypeId) (ho : o.op = .call { callee := .builtin .append, args := #[s, x], argTypes := #[t, t] })
    (i : TypeInfo) (ht : Try.prog.underlying t = some (.slice e)) (hi : Try.prog.info? e = some i) (hz : i.zero = some (.int .u8 0)) (hs : i.size = 1) (hb : i.bytes = 1)
    (b off n : Nat) (l1 l2 : List Int) (es : a.eval s = .slice (some ⟨b, off, none⟩) n n) (h1 : Rb w (.slice (some ⟨b, off, none⟩) n n) l1) (h2 : Rb w (a.eval x) l2) (hl : l1.length + l2.length ≤ 1048576)
    (h : ∀ v w', Rb w' v (l1 ++ l2) → (∃ X, w' = w.ext X) → (∀ q, v.ownBlock = some q → q = b ∨ w.heap.size ≤ q) → wpList Try.prog ops Q rest (a.put o.dst v) w') : wpList Try.prog ops Q (o :: rest) a w :=
  wpList_plain hgd fun K hK => wp_append_bits s x t e ho i ht hi hz hs hb b off n l1 l2 es h1 h2 hl fun v w' g1 g2 g3 => hK _ _ (h v w' g1 g2 g3)
set_option maxRecDepth 100000 in
set_option maxHeartbeats 4000000 in
theorem less_any (va vb : Value) (a b : List Int) (w : World) (ha : Rb w va a) (hb : Rb w vb b) (la : a.length ≤ 1048000) (hab : bv b ≤ bv a) :
    Calls Try.prog 137 #[va, vb] w (MkB (fun l => bv l = bv a - bv b ∧ l.length = a.length) w) := by
  obtain ⟨i0, hi, hz0, hz1, hz2⟩ := info_parts info_u8
  have HA := Lib.hid ha
  have HB := Lib.hid hb
  obtain ⟨aa, acap, rfl, ac1, ac2, hcell⟩ := ha.form
  obtain ⟨ba, bcap, rfl, -, -, -⟩ := hb.form
  have HCL := Lib.hid hcell
  have BA := ha.bin
  have BB := hb.bin
  clear ha hb hcell
  go_enter Try.func137, Try.ntmps137
  go_wp2
  go_loopw [5, 6, 7] (fun o c i wr => ∃ (v : Value) (l : List Int) (x : Int), o = v ∧ i = .int .i64 l.length ∧ c = .int .u8 x ∧ 0 ≤ x ∧ x ≤ 1 ∧ GB w wr v l ∧ Bin l ∧ l.length ≤ a.length ∧ bv l + bv b % 2 ^ l.length = bv a % 2 ^ l.length + x * 2 ^ l.length)
    (fun o c i _ => a.length - (intOf i).toNat)
  case atStart => exact ⟨_, [], 0, rfl, rfl, rfl, by omega, by omega, GB.nil w, Bin.nil, by simp, by simp [bv, Int.emod_one]⟩
  case round =>
    obtain ⟨v, l, x, rfl, rfl, rfl, x0, x1, G, hbin, hl, he⟩ := hrel
    have HG := Lib.hid G
    have sz := G.bel.size
    have HE := Lib.hid he
    have HBN := Lib.hid hbin
    clear he hbin
    by_cases hlt : l.length < a.length
    · have RB := Lib.hid (HB.out.below G.bel)
      obtain ⟨b1, b1'⟩ := BA l.length
      obtain ⟨b2, b2'⟩ := BB l.length
      have st := less_step (x := 2 + bt a l.length - bt b l.length - x) BA BB x0 x1 HE.out rfl
      obtain ⟨y0, y1, q0, q1, r0, r1, se⟩ := st
      have SE := Lib.hid se
      clear se
      rcases HCL.out with h0 | ⟨b0, off, rfl, hb0, hcell⟩
      · exfalso; simp [h0] at hlt
      have c0 := hcell l.length hlt
      have c1 : wr.cell? ⟨b0, off + l.length, none⟩ = some (.int .u8 (bt a l.length)) := by
        obtain ⟨X, hX⟩ := G.bel.toExt
        rw [hX, World.cell?_ext hb0]; exact c0
      have hb1 : b0 < wr.heap.size := by omega
      clear hcell c0
      clear G
      go_wp2
      refine wp_region_ext (by kernel_rfl) (by kernel_rfl) ?_
      repeat (go_big_quiet_step (((go_at_call 138; with_reducible exact Calls.quiet_ret (bit_ret _ _ _ _ (RB.out.ext _))))))
      refine wpQuiet_nil ?_
      intro _ hw_ext
      obtain ⟨X, hw_ext⟩ := hw_ext
      subst hw_ext
      have HG2 := Lib.hid (HG.out.ext X)
      go_wp2_with (first
          | (at_builtin; refine wpList_append_lies _ rfl _ _ 136 rfl w.heap.size 5 i0 (.int .u8 0) 1 1 Try.underlying136 hi hz0 hz1 hz2 rfl (by decide) _ _ _ rfl (HG2.out.own.alloc _) ⟨wr.heap.size + X.sz, 0, none⟩ 1 1 [.int .u8 ((2 + bt a l.length - bt b l.length - x) % 2)] rfl rfl (cell_one_here (by simp) _ _) (fun x hx => by simp at hx; subst hx; rfl) (by omega) (by unfold maxLen; omega) (by omega) (by simp; omega) (wr.heap.size + X.sz + 1) (by simp) ?_; intro g cap w3 hown hgrow hat hlt3; have G3 := Lib.hid (HG2.out.snoc hown hgrow); clear hown hgrow hat hlt3))
      go_roundw
      case rel => exact ⟨_, l ++ [(2 + bt a l.length - bt b l.length - x) % 2], 1 - (2 + bt a l.length - bt b l.length - x) / 2, rfl, by simp, rfl, q0, q1, G3.out, HBN.out.snoc r0 r1, by simp; omega, by simpa using SE.out⟩
      case measure => simp [intOf]; omega
    · have el : l.length = a.length := by omega
      have hf := less_end BA BB HBN.out el x0 x1 hab HE.out
      clear G
      go_wp2
      go_ret
      exact HG.out.mk' HBN.out (by omega) ⟨hf, el⟩
set_option maxRecDepth 100000 in
set_option maxHeartbeats 4000000 in
theorem above_any (va vb : Value) (a b : List Int) (w : World) (ha : Rb w va a) (hb : Rb w vb b) :
    Calls Try.prog 136 #[va, vb] w (Ret (.int .i64 (sgn (bv a - bv b))) w) := by
  have HA := Lib.hid ha
  have HB := Lib.hid hb
  have la := ha.len
  have lb := hb.len
  obtain ⟨aa, acap, rfl, -, -, -⟩ := ha.form
  obtain ⟨ba, bcap, rfl, -, -, -⟩ := hb.form
  have BA := ha.bin
  have BB := hb.bin
  clear ha hb
  go_enter Try.func136, Try.ntmps136
  go_wp2
  go_loopw [5] (fun i wr => ∃ (j : Nat), i = .int .i64 ((j : Int) - 1) ∧ wr = w ∧ j ≤ max a.length b.length ∧ bv a / 2 ^ j = bv b / 2 ^ j)
    (fun i _ => (intOf i + 1).toNat)
  case atStart => exact ⟨max a.length b.length, by simp; omega, rfl, Nat.le_refl _, by rw [div_all BA (by omega), div_all BB (by omega)]⟩
  case round =>
    obtain ⟨j, rfl, rfl, hj, he⟩ := hrel
    cases j with
    | zero =>
      have e0 : bv a = bv b := by simpa using he
      clear he
      go_wp2
      go_ret
      rw [e0]
      exact Ret.of' (by simp [sgn]) (by (repeat (first | exact Below.refl _ _ | with_reducible refine Below.drew ?_ | with_reducible refine Below.ext ?_ (by first | exact Nat.le_refl _ | (simp; done) | (simp; omega)) _ | with_reducible refine Below.alloc ?_ (by first | exact Nat.le_refl _ | (simp; done) | (simp; omega)) _ | with_reducible refine Below.setCell ?_ (by first | exact Nat.le_refl _ | (simp; done) | (simp; omega)) _)))
    | succ j =>
      have ej : ((j + 1 : Nat) : Int) - 1 = (j : Int) := by omega
      obtain ⟨k1, k2, k3⟩ := above_end BA BB j he
      obtain ⟨b1, b1'⟩ := BA j
      obtain ⟨b2, b2'⟩ := BB j
      rw [ej]
      rcases Int.lt_trichotomy (bt a j) (bt b j) with h | h | h
      · have hs := sgn_neg (z := bv a - bv b) (by have := k1 h; omega)
        have d : (bt a j != bt b j) = true := by simp; omega
        have ea : bt a j = 0 := by omega
        have eb : bt b j = 1 := by omega
        rw [hs]
        have CA := Lib.hid (bit_nat _ _ j _ HA.out)
        have CB := Lib.hid (bit_nat _ _ j _ HB.out)
        rw [ea] at CA d
        rw [eb] at CB d
        clear k1 k2 k3 he h hs
        go_wp2_with (first
          | (go_at_call 138; (with_reducible refine CA.out.mono ?_); rintro _ w4_ ⟨rfl, h4_⟩; obtain rfl := h4_.symm)
          | (go_at_call 138; (with_reducible refine CB.out.mono ?_); rintro _ w4_ ⟨rfl, h4_⟩; obtain rfl := h4_.symm))
        go_ret
        exact Ret.of' (by simp) (by (repeat (first | exact Below.refl _ _ | with_reducible refine Below.drew ?_ | with_reducible refine Below.ext ?_ (by first | exact Nat.le_refl _ | (simp; done) | (simp; omega)) _ | with_reducible refine Below.alloc ?_ (by first | exact Nat.le_refl _ | (simp; done) | (simp; omega)) _ | with_reducible refine Below.setCell ?_ (by first | exact Nat.le_refl _ | (simp; done) | (simp; omega)) _)))
      · have d : (bt a j != bt b j) = false := by simp [h]
        have hn := k3 h
        have CA := Lib.hid (bit_nat _ _ j _ HA.out)
        have CB := Lib.hid (bit_nat _ _ j _ HB.out)
        clear k1 k2 k3 he h
        go_wp2_with (first
          | (go_at_call 138; (with_reducible refine CA.out.mono ?_); rintro _ w4_ ⟨rfl, h4_⟩; obtain rfl := h4_.symm)
          | (go_at_call 138; (with_reducible refine CB.out.mono ?_); rintro _ w4_ ⟨rfl, h4_⟩; obtain rfl := h4_.symm))
        go_roundw
        case rel => exact ⟨j, rfl, by first | rfl | trivial, by omega, hn⟩
        case measure => (simp [intOf]) <;> omega
      · have hs := sgn_pos (z := bv a - bv b) (by have := k2 h; omega)
        have d : (bt a j != bt b j) = true := by simp; omega
        have ea : bt a j = 1 := by omega
        have eb : bt b j = 0 := by omega
        rw [hs]
        have CA := Lib.hid (bit_nat _ _ j _ HA.out)
        have CB := Lib.hid (bit_nat _ _ j _ HB.out)
        rw [ea] at CA d
        rw [eb] at CB d
        clear k1 k2 k3 he h hs
        go_wp2_with (first
          | (go_at_call 138; (with_reducible refine CA.out.mono ?_); rintro _ w4_ ⟨rfl, h4_⟩; obtain rfl := h4_.symm)
          | (go_at_call 138; (with_reducible refine CB.out.mono ?_); rintro _ w4_ ⟨rfl, h4_⟩; obtain rfl := h4_.symm))
        go_ret
        exact Ret.of' (by simp) (by (repeat (first | exact Below.refl _ _ | with_reducible refine Below.drew ?_ | with_reducible refine Below.ext ?_ (by first | exact Nat.le_refl _ | (simp; done) | (simp; omega)) _ | with_reducible refine Below.alloc ?_ (by first | exact Nat.le_refl _ | (simp; done) | (simp; omega)) _ | with_reducible refine Below.setCell ?_ (by first | exact Nat.le_refl _ | (simp; done) | (simp; omega)) _)))
end Go.Proofs.Ytmlhbbkgfffmcaa
