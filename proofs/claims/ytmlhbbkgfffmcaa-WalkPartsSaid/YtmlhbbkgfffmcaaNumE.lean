/- The walks of the reference of layer 2: numbers turned, and added. Conditions: the values read as numbers. -/
import Derived.Test.YtmlhbbkgfffmcaaNumD
namespace Go.Proofs.Ytmlhbbkgfffmcaa
set_option linter.unusedVariables false
set_option linter.unusedSimpArgs false
open Go.RowKit
theorem RN.alloc {w : World} {v : Value} {z : Int} {n : Nat} (h : RN w v z n) (o : Obj) : RN (w.alloc o) v z n := by
  obtain ⟨m, sv, l, h1, h2, h3⟩ := h
  exact ⟨m, sv, l, h1, h2.alloc o, h3⟩
theorem RN.drew {w : World} {v : Value} {z : Int} {n : Nat} (h : RN w v z n) : RN w.drew v z n := by
  obtain ⟨m, sv, l, h1, h2, h3⟩ := h
  exact ⟨m, sv, l, h1, h2.drew, h3⟩
/-- A block that holds no bits is written to. -/
theorem Rb.chg2 {w w1 : World} {v x y : Value} {l : List Int} {p : Nat} {T : TypeId} (h : Rb w v l) (hr : Row w p #[x, y] T) (hx : ∀ d, x ≠ .int .u8 d) (hy : ∀ d, y ≠ .int .u8 d) (C : Chg (fun j => j = p) w w1) : Rb w1 v l := by
  obtain ⟨h0, h1, a, cap, rfl, h2, h3, h4⟩ := h
  refine ⟨h0, h1, a, cap, rfl, h2, h3, ?_⟩
  rcases h4 with h4 | ⟨b, off, rfl, hlt, hc⟩
  · exact .inl h4
  · by_cases hl : l = []
    · exact .inl hl
    · have hpos : 0 < l.length := List.length_pos_iff.2 hl
      have hne : b ≠ p := fun e => by
        subst e
        have c0 := hc 0 hpos
        rw [Nat.add_zero, hr.cell off] at c0
        rcases off with _ | _ | off
        · simp at c0; exact hx _ c0
        · simp at c0; exact hy _ c0
        · simp at c0
      refine .inr ⟨b, off, rfl, Nat.lt_of_lt_of_le hlt C.size, fun i hi => ?_⟩
      rw [C.cell hlt hne]; exact hc i hi
theorem chg_swap {W : World} {o o' : Obj} {X : Xt} : Chg (fun j => j = W.heap.size) ((W.alloc o).ext X) ((W.alloc o').ext X) :=
  ⟨rfl, rfl, rfl, by simp, fun k hk hne => by
    simp only [World.ext, World.alloc, Array.getElem?_append, Array.size_push, Array.getElem?_push, if_neg hne]⟩
/-- A number is put into its place and returned. -/
theorem fin_num {w0 w1 w2 : World} {p : Nat} {m' x : Bool} {sv' y : Value} {z : Int} {n n' : Nat} {T : TypeId} (h : RN w1 (.agg #[.bool m', sv']) z n) (hr : Row w1 p #[.bool x, y] T) (hy : ∀ d, y ≠ .int .u8 d) (C : Chg (fun j => j = p) w1 w2) (hb : Below w0.heap.size w0 w2) (hn : n ≤ n') :
    RetR (fun v w => RN w v z n') w0 (.returned (.agg #[.bool m', sv'])) w2 := by
  refine RetR.of (RN.mono (n := n) ?_ hn) hb
  obtain ⟨m, sv, l, e, h2, h3⟩ := h
  exact ⟨m, sv, l, e, h2.chg2 hr (fun d => by simp) hy C, h3⟩
/-- The same, the place having been made last. -/
theorem fin_swap {w0 W : World} {m' m2 x : Bool} {sv' sv2 : Value} {z : Int} {n n' : Nat} {T : TypeId} {X : Xt} (h : RN ((W.alloc (.cells #[.bool x, .slice none 0 0] T)).ext X) (.agg #[.bool m', sv']) z n) (hb : Below w0.heap.size w0 W) (hn : n ≤ n') :
    RetR (fun v w => RN w v z n') w0 (.returned (.agg #[.bool m', sv'])) ((W.alloc (.cells #[.bool m2, sv2] T)).ext X) :=
  fin_num h (p := W.heap.size) (x := x) (y := .slice none 0 0) (T := T) (Row.ext (row_last rfl) X) (fun d => by simp) chg_swap (Below.ext (Below.alloc hb hb.size _) (by simp; have := hb.size; omega) X) hn
/-- A new block that holds these cells. -/
def srNew (B : Nat) (c : Array Value) (T : TypeId) : SR Grows := ⟨fun v w => ∃ p, v = .pointer (some ⟨p, 0, none⟩) ∧ B ≤ p ∧ Row w p c T, fun v w w' ⟨p, h1, h2, h3⟩ ⟨X, e⟩ => by subst e; exact ⟨p, h1, h2, h3.ext X⟩, fun v => ∃ p, v = .pointer (some ⟨p, 0, none⟩), .pointer (some ⟨0, 0, none⟩), ⟨0, rfl⟩, fun v w ⟨p, h1, _⟩ => ⟨p, h1⟩⟩
theorem new_R {w : World} {B n : Nat} {c : Array Value} {T : TypeId} (hn : w.heap.size = n) (h : B ≤ n) : (srNew B c T).R (.pointer (some ⟨n, 0, none⟩)) (w.alloc (.cells c T)) := ⟨n, rfl, h, row_last hn⟩
theorem new_X {w : World} {o : Obj} : ∃ X, w.alloc o = w.ext X := (Below.alloc (Below.refl _ _) (Nat.le_refl _) _).toExt
/-- A row of bits, all of it in use. -/
def srFull (l : List Int) : SR Grows := ⟨fun v w => (∃ g, v = .slice (some ⟨g, 0, none⟩) l.length l.length) ∧ Rb w v l, fun v w w' ⟨h1, h2⟩ ⟨X, e⟩ => by subst e; exact ⟨h1, h2.ext X⟩, fun v => ∃ g, v = .slice (some ⟨g, 0, none⟩) l.length l.length, .slice (some ⟨0, 0, none⟩) l.length l.length, ⟨0, rfl⟩, fun v w h => h.1⟩
theorem rb_row {w : World} {g : Nat} {l : List Int} {T : TypeId} (h : Row w g (l.map (Value.int .u8)).toArray T) (hb : Bin l) (hl : l.length ≤ 1048576) : Rb w (.slice (some ⟨g, 0, none⟩) l.length l.length) l :=
  ⟨hb, hl, _, l.length, rfl, Nat.le_refl _, by unfold maxLen; omega, .inr ⟨g, 0, rfl, h.lt, fun i hi => by
    rw [Nat.zero_add, h.cell i]
    simp [bt, hi]⟩⟩
theorem Rb.cell {w : World} {b off n cap i : Nat} {l : List Int} (h : Rb w (.slice (some ⟨b, off, none⟩) n cap) l) (hi : i < l.length) : w.cell? ⟨b, off + i, none⟩ = some (.int .u8 (bt l i)) ∧ b < w.heap.size := by
  obtain ⟨h0, h1, a, cap', e, h2, h3, h4⟩ := h
  rcases h4 with rfl | ⟨b', off', rfl, hb, hc⟩
  · simp at hi
  · cases e
    exact ⟨hc i hi, hb⟩
theorem chg_two {w : World} {p : Nat} {u v : Value} : Chg (fun j => j = p) w ((w.setCell ⟨p, 0, none⟩ u).setCell ⟨p, 1, none⟩ v) := (Chg.one w p 0 u).trans (Chg.one _ p 1 v)
theorem Chg.both {p : Nat → Prop} {w w1 : World} (C : Chg p w w1) (hs : w1.heap.size = w.heap.size) (X : Xt) : Chg p (w.ext X) (w1.ext X) :=
  ⟨C.os, C.tape, C.output, by simp [hs], fun k hk hp => by
    simp only [World.ext, Array.getElem?_append, hs]
    split
    · exact C.block k (by assumption) hp
    · rfl⟩
theorem Chg.bothA {p : Nat → Prop} {w w1 : World} (C : Chg p w w1) (hs : w1.heap.size = w.heap.size) (o : Obj) : Chg p (w.alloc o) (w1.alloc o) :=
  ⟨C.os, C.tape, C.output, by simp [World.hp_alloc, hs], fun k hk hp => by
    simp only [World.hp_alloc, Array.getElem?_push, hs]
    split
    · rfl
    · rw [World.hp_alloc, Array.size_push] at hk
      exact C.block k (by omega) hp⟩
theorem size_set (w : World) (a : Addr) (v : Value) : (w.setCell a v).heap.size = w.heap.size := by simp [World.setCell]
theorem make_bits (w : World) (t e : TypeId) (i : TypeInfo) (ht : Try.prog.underlying t = some (.slice e)) (hi : Try.prog.info? e = some i) (hz : i.zero = some (.int .u8 0)) (hs : i.size = 1) (hb : i.bytes = 1) (he : e = 5) (n : Nat) (hn : n ≤ 100000) :
    ∃ w', (Instr.makeSlice t (.int .i64 (n : Int)) (.int .i64 (n : Int))).run Try.prog w = .ok (.slice (some ⟨w.heap.size, 0, none⟩) n n) w' ∧ (srFull (List.replicate n 0)).R (.slice (some ⟨w.heap.size, 0, none⟩) n n) w' ∧ ∃ X, w' = w.ext X := by
  subst he
  obtain ⟨w', h1, h2, h3⟩ := run_makeSlice_full (P := Try.prog) w 0 t 5 i _ 1 ht hi hz hs .i64 .i64 n (by omega) (by rw [hb]; omega) (by unfold maxLen; omega) (by omega)
  refine ⟨w', h1, ⟨⟨w.heap.size, by simp⟩, ?_⟩, ?_⟩
  · refine rb_own (base := 0) (n := n) (fun i => ?_) (by simp; omega) ?_
    · unfold bt; rw [List.getD_eq_getElem?_getD, List.getElem?_replicate]; split <;> decide
    · have e : (madeCells (Value.cells (.int .u8 0)) (n * 1)).toList = (List.replicate n (0 : Int)).map (Value.int .u8) := by
        apply List.ext_getElem
        · simp [madeCells]
        · intro j g1 g2
          simp only [madeCells, Array.toList_map, List.getElem_map, List.getElem_replicate]
          show (#[Value.int .u8 0] : Array Value)[_ % 1]! = _
          rw [Nat.mod_one]; rfl
      rw [← e]; exact h2
  · exact (Below.grown (Below.refl _ _) h3 (Nat.le_refl _) (fun k hk => by cases hk)).toExt
theorem make_128 (w : World) (t e : TypeId) (i : TypeInfo) (ht : Try.prog.underlying t = some (.slice e)) (hi : Try.prog.info? e = some i) (hz : i.zero = some (.int .u8 0)) (hs : i.size = 1) (hb : i.bytes = 1) (he : e = 5) :
    ∃ X : Xt, (Instr.makeSlice t (.int .i64 128) (.int .i64 128)).run Try.prog w = .ok (.slice (some ⟨w.heap.size, 0, none⟩) 128 128) (w.ext X) ∧ Rb (w.ext X) (.slice (some ⟨w.heap.size, 0, none⟩) 128 128) (List.replicate 128 0) := by
  obtain ⟨w', h1, h2, X, rfl⟩ := make_bits w t e i ht hi hz hs hb he 128 (by decide)
  exact ⟨X, h1, h2.2⟩
theorem rb_one {w : World} {n : Nat} {T : TypeId} (hn : w.heap.size = n) : Rb (w.alloc (.cells #[.int .u8 1] T)) (.slice (some ⟨n, 0, none⟩) 1 1) [1] :=
  rb_row (l := [1]) (T := T) (row_last hn) (Bin.nil.cons (by decide) (by decide)) (by decide)
theorem rb_bit {w : World} {n : Nat} {T : TypeId} {b : Int} (h0 : 0 ≤ b) (h1 : b ≤ 1) (hn : w.heap.size = n) : Rb (w.alloc (.cells #[.int .u8 b] T)) (.slice (some ⟨n, 0, none⟩) 1 1) [b] :=
  rb_row (l := [b]) (T := T) (row_last hn) (Bin.nil.cons h0 h1) (by simp)
theorem wpl_abs {ops : Array Oper} {rest : List Oper} {a : Act} {Q : Exit → Act → World → Prop} {w : World} (F : World → Prop) (hF : F w) (h : ∀ wx, F wx → wpList Try.prog ops Q rest a wx) : wpList Try.prog ops Q rest a w := h _ hF
theorem pmv_not {U : Int} {m : Bool} : pmv U (!m) = -pmv U m := by cases m <;> simp [pmv]
set_option maxRecDepth 100000 in
set_option maxHeartbeats 4000000 in
theorem rturn_any (v : Value) (z : Int) (n : Nat) (w : World) (hv : RN w v z n) : Calls Try.prog 121 #[v] w (RetR (fun v w => RN w v (-z) n) w) := by
  obtain ⟨m, sv, l, rfl, hl, hcan, -, rfl, hn⟩ := hv
  have HA := Lib.hid hl
  have HB := Lib.hid hl
  obtain ⟨a, cap, rfl, -⟩ := hl.form
  clear hl
  go_enter Try.func121, Try.ntmps121
  go_wp2_with (first
    | (go_at_call 135; (with_reducible refine (trim_any (!m) (.slice a l.length cap) l _ ?_).mono ?_); (repeat (first | assumption | exact HA.out | exact HB.out | with_reducible refine Rb.ext ?_ _ | with_reducible refine Rb.alloc ?_ _ | with_reducible refine Rb.drew ?_)); rintro _ _ ⟨v1, rfl, h1, ⟨X, rfl⟩⟩; obtain ⟨m1, a1, k1, c1, rfl⟩ := h1.form; have H1 := Lib.hid h1; clear h1))
  refine bodyPost_ret (v := .agg #[.bool m1, .slice a1 k1 c1]) (by simp [results, Try.results121, go_sem]) rfl ?_
  rw [← pmv_not]
  exact fin_swap H1.out (by (repeat (first | exact Below.refl _ _ | with_reducible refine Below.drew ?_ | with_reducible refine Below.ext ?_ (by first | exact Nat.le_refl _ | (simp; done) | (simp; omega)) _ | with_reducible refine Below.alloc ?_ (by first | exact Nat.le_refl _ | (simp; done) | (simp; omega)) _ | with_reducible refine Below.setCell ?_ (by first | exact Nat.le_refl _ | (simp; done) | (simp; omega)) _))) hn
set_option maxRecDepth 100000 in
set_option maxHeartbeats 4000000 in
theorem sum_same (m : Bool) (va vb : Value) (a b : List Int) (w : World) (ha : Rb w va a) (hb : Rb w vb b) (la : a.length ≤ 1048000) (lb : b.length ≤ 1048000) :
    Calls Try.prog 122 #[.agg #[.bool m, va], .agg #[.bool m, vb]] w (RetR (fun v w => RN w v (pmv (bv a + bv b) m) (max a.length b.length + 1)) w) := by
  have HA := Lib.hid ha
  have HB := Lib.hid hb
  obtain ⟨aa, acap, rfl, -⟩ := ha.form
  obtain ⟨ba, bcap, rfl, -⟩ := hb.form
  clear ha hb
  go_enter Try.func122, Try.ntmps122
  go_wp2
  refine wp_region_rel 9 [none, none, none, none, none, none, some ([], srQ fun l => bv l = bv a + bv b ∧ l.length ≤ max a.length b.length + 1), none, some ([6], srN (pmv (bv a + bv b) m) (max a.length b.length + 1))] (by kernel_rfl) (by kernel_rfl) ?_
  simp only [List.take_succ_cons, List.take_zero, List.drop_succ_cons, List.drop_zero]
  (repeat (first | (refine rel_none ?_; intro K_ hK_; go_big_quiet_op; go_big_quiet_on) | simp only [Act.put, List.setIfInBounds_toArray, List.set_cons_zero, List.set_cons_succ]))
  refine rel_some rfl (fun w_ hw_ hk_ K_ hK_ => ?_) (fun v17 f17 => ?_)
  · obtain ⟨X_, rfl⟩ := hw_
    go_simp
    go_at_call 139
    refine (more_any _ _ _ _ _ (by (repeat (first | assumption | exact HA.out | exact HB.out | with_reducible refine Rb.ext ?_ _ | with_reducible refine Rb.alloc ?_ _ | with_reducible refine Rb.drew ?_))) (by (repeat (first | assumption | exact HA.out | exact HB.out | with_reducible refine Rb.ext ?_ _ | with_reducible refine Rb.alloc ?_ _ | with_reducible refine Rb.drew ?_))) la lb).mono ?_
    rintro _ _ ⟨v, rfl, h1, h2⟩
    exact hK_ _ _ h1 h2
  obtain ⟨a17, k17, c17, rfl⟩ := f17
  (repeat (first | (refine rel_none ?_; intro K_ hK_; go_big_quiet_op; go_big_quiet_on) | simp only [Act.put, List.setIfInBounds_toArray, List.set_cons_zero, List.set_cons_succ]))
  refine rel_some rfl (fun w_ hw_ hk_ K_ hK_ => ?_) (fun v19 f19 => ?_)
  · obtain ⟨X_, rfl⟩ := hw_
    obtain ⟨l, h1, h2, h3⟩ := (hk_ (6, _) (by repeat (first | exact List.mem_cons_self | refine List.mem_cons_of_mem _ ?_))) (by simp)
    go_simp
    go_at_call 135
    refine (trim_any _ _ l _ h1).mono ?_
    rintro _ _ ⟨v, rfl, h4, h5⟩
    rw [h2] at h4
    exact hK_ _ _ (RN.mono h4 h3) h5
  refine rel_nil ?_
  intro w_ hw_ k
  obtain ⟨X, rfl⟩ := hw_
  have h1 := (k (8, _) (by repeat (first | exact List.mem_cons_self | refine List.mem_cons_of_mem _ ?_)))
  obtain ⟨m1, a1, k1, c1, rfl⟩ := RN.form h1
  have H1 := Lib.hid h1
  clear h1 k
  go_wp2
  refine bodyPost_ret (v := .agg #[.bool m1, .slice a1 k1 c1]) (by simp [results, Try.results122, go_sem]) rfl ?_
  exact fin_swap H1.out (by (repeat (first | exact Below.refl _ _ | with_reducible refine Below.drew ?_ | with_reducible refine Below.ext ?_ (by first | exact Nat.le_refl _ | (simp; done) | (simp; omega)) _ | with_reducible refine Below.alloc ?_ (by first | exact Nat.le_refl _ | (simp; done) | (simp; omega)) _ | with_reducible refine Below.setCell ?_ (by first | exact Nat.le_refl _ | (simp; done) | (simp; omega)) _))) (Nat.le_refl _)
end Go.Proofs.Ytmlhbbkgfffmcaa
