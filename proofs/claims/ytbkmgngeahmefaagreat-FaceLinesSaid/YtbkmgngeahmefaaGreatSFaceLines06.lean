/- Parts of the proof of FaceLines, laid together. Conditions: at each. -/
import Derived.Deep.AppendLies
import Derived.Laws.AppendOwnNone
import Derived.Test.YtbkmgngeahmefaaGreatSFaceLines01
import Derived.Test.YtbkmgngeahmefaaGreatSFaceLines05
set_option linter.unusedVariables false
set_option linter.unusedSimpArgs false
section
namespace Go.Proofs.YtbkmgngeahmefaaGreat
open Go.RowKit
section
variable {α : Type} {K : RecK α} {P : Program} {w : World}
theorem run_append_recs (base : Nat) (t ty e : TypeId) (i : TypeInfo) (z : Value) (bytes : Nat) (ht : P.underlying t = some (.slice e)) (hi : P.info? e = some i) (hz : i.zero = some z)
    (hsize : i.size = K.k) (hby : i.bytes = bytes) (hzs : z.cells.size = K.k) (v : Value) (L : List α) (hown : w.ownsRow base e K.k v L.length (L.flatMap K.cells)) (x : Value) (M : List α) (hM : Recs K w x M)
    (h63 : L.length + M.length ≤ maxLen) (hbytes : (L.length + M.length) * bytes ≤ 140737488355328) (hbase : base ≤ w.heap.size) :
    ∃ v' w', (Builtin.append_ #[t, t] ty #[v, x]).run P w = .ok v' w' ∧ w'.ownsRow base e K.k v' (L ++ M).length ((L ++ M).flatMap K.cells) ∧ w.grownBy w' v.ownBlock := by
  obtain ⟨h1, a, cap, rfl, h2, h3⟩ := hM
  rw [List.length_append, List.flatMap_append]
  by_cases hne : M = []
  · subst hne
    cases a with
    | some a =>
      obtain ⟨v', w', hr, q1, q2, -⟩ := run_append_own (P := P) w base t ty e i z K.k bytes ht hi hz hsize hby hzs K.pos v L.length _ hown a 0 cap [] (by simp) (fun j u hj => by simp at hj) (fun u hu => by cases hu) h63 hbytes hbase
      exact ⟨v', w', hr, by simpa using q1, q2⟩
    | none =>
      refine ⟨v, w, ?_, by simpa using hown, World.grownBy.refl _ _⟩
      rcases hown.2 with ⟨rfl, h0⟩ | ⟨g, cap', cur, rfl, _, _, hnc, _⟩
      · simp [Builtin.append_, run_underlying ht, sizeOf, typeInfo, hi, Builtin.lenOf, Builtin.firstCells]
      · simp [Builtin.append_, run_underlying ht, sizeOf, typeInfo, hi, Builtin.lenOf, Builtin.firstCells, hnc, storeCells]
  · rcases h3 with h3 | ⟨b, off, rfl, hb, hcl⟩
    · exact absurd h3 hne
    · obtain ⟨v', w', hr, q1, q2, -⟩ := run_append_own (P := P) w base t ty e i z K.k bytes ht hi hz hsize hby hzs K.pos v L.length _ hown ⟨b, off, none⟩ M.length cap (M.flatMap K.cells) (K.flat_len M) (fun j u hj => by
        have hjl : j < M.length * K.k := by rw [← K.flat_len M]; exact (List.getElem?_eq_some_iff.1 hj).1
        have hq : j / K.k < M.length := (Nat.div_lt_iff_lt_mul K.pos).2 hjl
        have hr : j % K.k < (K.cells (M[j / K.k]'hq)).length := by rw [K.len]; exact Nat.mod_lt _ K.pos
        have e1 := K.flat_at M (j / K.k) _ (j % K.k) _ (List.getElem?_eq_getElem hq) (List.getElem?_eq_getElem hr)
        have e2 : j / K.k * K.k + j % K.k = j := by rw [Nat.mul_comm]; exact Nat.div_add_mod _ _
        rw [e2, hj] at e1
        have := hcl (j / K.k) _ (List.getElem?_eq_getElem hq) (j % K.k) u (by rw [List.getElem?_eq_getElem hr, ← e1])
        rw [addr_addR, ← this, Nat.add_assoc, e2]) (K.flat_one M) h63 hbytes hbase
      exact ⟨v', w', hr, q1, q2⟩
theorem wp_append_recs {o : Oper} {a : Act} {C : Act → World → Prop} {Q : Exit → Act → World → Prop} (s x : Operand) (t : TypeId)
    (ho : o.op = .call { callee := .builtin .append, args := #[s, x], argTypes := #[t, t] })
    (base : Nat) (e : TypeId) (i : TypeInfo) (z : Value) (bytes : Nat) (ht : P.underlying t = some (.slice e)) (hi : P.info? e = some i) (hz : i.zero = some z)
    (hsize : i.size = K.k) (hby : i.bytes = bytes) (hzs : z.cells.size = K.k) (v : Value) (L : List α) (hs : a.eval s = v) (hown : w.ownsRow base e K.k v L.length (L.flatMap K.cells)) (xv : Value) (M : List α) (hx : a.eval x = xv) (hM : Recs K w xv M)
    (h63 : L.length + M.length ≤ maxLen) (hbytes : (L.length + M.length) * bytes ≤ 140737488355328) (hbase : base ≤ w.heap.size)
    (h : ∀ v' w', w'.ownsRow base e K.k v' (L ++ M).length ((L ++ M).flatMap K.cells) → w.grownBy w' v.ownBlock → C (a.put o.dst v') w') : o.wp P a w C Q := by
  obtain ⟨v', w', hr, h2, h3⟩ := run_append_recs (P := P) base t o.type e i z bytes ht hi hz hsize hby hzs v L hown xv M hM h63 hbytes hbase
  unfold Oper.wp execOp
  simp only [ho, resolve, invoke, builtin, Sem.run_bind, Sem.run_pure, Result.andThen_ok, List.map_toArray, List.map_cons, List.map_nil, hs, hx, hr]
  exact h v' w' h2 h3
theorem wpList_append_recs {ops : Array Oper} {rest : List Oper} {o : Oper} {a : Act} {Q : Exit → Act → World → Prop} (hgd : o.guard = none) (s x : Operand) (t : TypeId)
    (ho : o.op = .call { callee := .builtin .append, args := #[s, x], argTypes := #[t, t] })
    (base : Nat) (e : TypeId) (i : TypeInfo) (z : Value) (bytes : Nat) (ht : P.underlying t = some (.slice e)) (hi : P.info? e = some i) (hz : i.zero = some z)
    (hsize : i.size = K.k) (hby : i.bytes = bytes) (hzs : z.cells.size = K.k) (v : Value) (L : List α) (hs : a.eval s = v) (hown : w.ownsRow base e K.k v L.length (L.flatMap K.cells)) (xv : Value) (M : List α) (hx : a.eval x = xv) (hM : Recs K w xv M)
    (h63 : L.length + M.length ≤ maxLen) (hbytes : (L.length + M.length) * bytes ≤ 140737488355328) (hbase : base ≤ w.heap.size)
    (h : ∀ v' w', w'.ownsRow base e K.k v' (L ++ M).length ((L ++ M).flatMap K.cells) → w.grownBy w' v.ownBlock → wpList P ops Q rest (a.put o.dst v') w') : wpList P ops Q (o :: rest) a w :=
  wpList_plain hgd fun _ hK => wp_append_recs s x t ho base e i z bytes ht hi hz hsize hby hzs v L hs hown xv M hx hM h63 hbytes hbase fun v' w' h2 h3 => hK _ _ (h v' w' h2 h3)
theorem Hold.more {w wr w1 : World} {E : TypeId} {R : List (Nat × Array Value × TypeId)} {v v' : Value} {L M : List α} (h : Hold K w wr E R v L)
    (hown : w1.ownsRow w.heap.size E K.k v' (L ++ M).length ((L ++ M).flatMap K.cells)) (hg : wr.grownBy w1 v.ownBlock) : Hold K w w1 E R v' (L ++ M) :=
  ⟨fun r hr => (h.rows r hr).keptR hg (row_apart (h.rows r hr) (h.far r hr) h.own), h.far, hown, RowKit.Below.toExt (Below.grown h.below hg h.size fun k hk => (h.own.lt k hk).1)⟩
theorem Recs.apart {w wr w1 : World} {E : TypeId} {v x : Value} {L : List α} {β : Type} {J : RecK β} {M : List β} (h : Recs J wr x M) (hown : wr.ownsRow w.heap.size E K.k v L.length (L.flatMap K.cells)) (hx : ∀ b, x.ownBlock = some b → M ≠ [] → b < w.heap.size) (hg : wr.grownBy w1 v.ownBlock) : Recs J w1 x M :=
  h.keptR hg fun b hb hne e => by have := hx b hb hne; have := (hown.lt b e.symm).1; omega
end
end Go.Proofs.YtbkmgngeahmefaaGreat
end
section
namespace Go.Proofs.YtbkmgngeahmefaaGreat
open Go.RowKit
structure LookP where
  width : Int
  soft : Bool
  dashed : Bool
  p : Int
  r : Int
  c : Int
  size : Int
  kind : Int
  front : Int
  back : Int
  ccw : Bool
  cull : Int
  off : Bool
  factor : Int
  units : Int
abbrev LookP.v (k : LookP) : Value := .agg #[.int .i64 k.width, .bool k.soft, .bool k.dashed, .int .i64 k.p, .int .i64 k.r, .int .i64 k.c, .int .i64 k.size, .int .i64 k.kind, .int .i64 k.front, .int .i64 k.back, .bool k.ccw, .int .i64 k.cull, .bool k.off, .int .i64 k.factor, .int .i64 k.units]
structure LookP.wide (k : LookP) : Prop where
  width : w64 k.width
  p : w64 k.p
  r : w64 k.r
  c : w64 k.c
  size : w64 k.size
  kind : w64 k.kind
  front : w64 k.front
  back : w64 k.back
  cull : w64 k.cull
  factor : w64 k.factor
  units : w64 k.units
def amongP (n l h : Int) : Prop := l ≤ n ∧ n ≤ h
instance (n l h : Int) : Decidable (amongP n l h) := by unfold amongP; exact inferInstance
def LookP.ok (k : LookP) : Prop := amongP k.width 1 64 ∧ amongP k.size 1 64 ∧ amongP k.kind 0 2 ∧ amongP k.front 0 2 ∧ amongP k.back 0 2 ∧ amongP k.cull 0 3 ∧ amongP k.factor (-65536) 65536 ∧ amongP k.units (-16777216) 16777216 ∧ dashP k.p k.r k.c
instance (k : LookP) : Decidable k.ok := by unfold LookP.ok; exact inferInstance
theorem look_dec (k : LookP) : decide k.ok = (decide (amongP k.width 1 64) && (decide (amongP k.size 1 64) && (decide (amongP k.kind 0 2) && (decide (amongP k.front 0 2) && (decide (amongP k.back 0 2) && (decide (amongP k.cull 0 3) && (decide (amongP k.factor (-65536) 65536) && (decide (amongP k.units (-16777216) 16777216) && decide (dashP k.p k.r k.c))))))))) := by
  rw [← Bool.decide_and, ← Bool.decide_and, ← Bool.decide_and, ← Bool.decide_and, ← Bool.decide_and, ← Bool.decide_and, ← Bool.decide_and, ← Bool.decide_and]; exact decide_eq_decide.2 Iff.rfl
theorem first_no (b1 b2 b3 b4 b5 b6 b7 b8 : Bool) : b1 = false ∨ (b1 = true ∧ b2 = false) ∨ (b1 = true ∧ b2 = true ∧ b3 = false) ∨ (b1 = true ∧ b2 = true ∧ b3 = true ∧ b4 = false) ∨ (b1 = true ∧ b2 = true ∧ b3 = true ∧ b4 = true ∧ b5 = false) ∨ (b1 = true ∧ b2 = true ∧ b3 = true ∧ b4 = true ∧ b5 = true ∧ b6 = false) ∨ (b1 = true ∧ b2 = true ∧ b3 = true ∧ b4 = true ∧ b5 = true ∧ b6 = true ∧ b7 = false) ∨ (b1 = true ∧ b2 = true ∧ b3 = true ∧ b4 = true ∧ b5 = true ∧ b6 = true ∧ b7 = true ∧ b8 = false) ∨ (b1 = true ∧ b2 = true ∧ b3 = true ∧ b4 = true ∧ b5 = true ∧ b6 = true ∧ b7 = true ∧ b8 = true) := by
  cases b1 <;> cases b2 <;> cases b3 <;> cases b4 <;> cases b5 <;> cases b6 <;> cases b7 <;> cases b8 <;> simp
set_option maxHeartbeats 2000000 in
theorem among22_any (n l h : Int) (w : World) : Calls Tryz.prog 46 #[.int .i64 n, .int .i64 l, .int .i64 h] w (Ret (.bool (decide (amongP n l h))) w) := by
  go_enter Tryz.func46, Tryz.ntmps46
  go_wp2
  all_goals go_ret
  all_goals refine Ret.of' ?_ (by exact bl_)
  all_goals first
    | (refine bool_t ?_; unfold amongP; omega)
    | (refine bool_f ?_; unfold amongP; omega)
    | (refine bool_d ?_; unfold amongP; omega)
set_option maxHeartbeats 4000000 in
theorem rlook_right (k : LookP) (w : World) : Calls Tryz.prog 14 #[k.v] w (Ret (.bool (decide k.ok)) w) := by
  rw [look_dec]
  have M1 := Lib.hid (fun w => among22_any k.width 1 64 w)
  have M2 := Lib.hid (fun w => among22_any k.size 1 64 w)
  have M3 := Lib.hid (fun w => among22_any k.kind 0 2 w)
  have M4 := Lib.hid (fun w => among22_any k.front 0 2 w)
  have M5 := Lib.hid (fun w => among22_any k.back 0 2 w)
  have M6 := Lib.hid (fun w => among22_any k.cull 0 3 w)
  have M7 := Lib.hid (fun w => among22_any k.factor (-65536) 65536 w)
  have M8 := Lib.hid (fun w => among22_any k.units (-16777216) 16777216 w)
  have M9 := Lib.hid (fun w => rdash_right k.p k.r k.c w)
  generalize decide (amongP k.width 1 64) = b1 at *
  generalize decide (amongP k.size 1 64) = b2 at *
  generalize decide (amongP k.kind 0 2) = b3 at *
  generalize decide (amongP k.front 0 2) = b4 at *
  generalize decide (amongP k.back 0 2) = b5 at *
  generalize decide (amongP k.cull 0 3) = b6 at *
  generalize decide (amongP k.factor (-65536) 65536) = b7 at *
  generalize decide (amongP k.units (-16777216) 16777216) = b8 at *
  generalize decide (dashP k.p k.r k.c) = b9 at *
  rcases first_no b1 b2 b3 b4 b5 b6 b7 b8 with rfl | ⟨rfl, rfl⟩ | ⟨rfl, rfl, rfl⟩ | ⟨rfl, rfl, rfl, rfl⟩ | ⟨rfl, rfl, rfl, rfl, rfl⟩ | ⟨rfl, rfl, rfl, rfl, rfl, rfl⟩ | ⟨rfl, rfl, rfl, rfl, rfl, rfl, rfl⟩ | ⟨rfl, rfl, rfl, rfl, rfl, rfl, rfl, rfl⟩ | ⟨rfl, rfl, rfl, rfl, rfl, rfl, rfl, rfl⟩
  all_goals
    go_enter Tryz.func14, Tryz.ntmps14
    go_wp2_with (first | (go_at_call 46; (with_reducible refine (M1.out _).mono ?_); rintro _ _ ⟨rfl, X_, rfl⟩) | (go_at_call 46; (with_reducible refine (M2.out _).mono ?_); rintro _ _ ⟨rfl, X_, rfl⟩) | (go_at_call 46; (with_reducible refine (M3.out _).mono ?_); rintro _ _ ⟨rfl, X_, rfl⟩) | (go_at_call 46; (with_reducible refine (M4.out _).mono ?_); rintro _ _ ⟨rfl, X_, rfl⟩) | (go_at_call 46; (with_reducible refine (M5.out _).mono ?_); rintro _ _ ⟨rfl, X_, rfl⟩) | (go_at_call 46; (with_reducible refine (M6.out _).mono ?_); rintro _ _ ⟨rfl, X_, rfl⟩) | (go_at_call 46; (with_reducible refine (M7.out _).mono ?_); rintro _ _ ⟨rfl, X_, rfl⟩) | (go_at_call 46; (with_reducible refine (M8.out _).mono ?_); rintro _ _ ⟨rfl, X_, rfl⟩) | (go_at_call 47; (with_reducible refine (M9.out _).mono ?_); rintro _ _ ⟨rfl, X_, rfl⟩))
    go_ret
    exact Ret.of' (by simp) (by exact bl_)
theorem u64_more {n : Int} (h : w64 n) (k : Int) (k0 : 0 ≤ k) (k1 : k < 9223372036854775808) : k < IntKind.u64.wrap n ↔ ¬ (0 ≤ n ∧ n ≤ k) := by
  have := u64_small h k k0 k1
  omega
set_option maxHeartbeats 8000000 in
theorem look_right (k : LookP) (h : k.wide) (w : World) : Calls Tryz.prog 13 #[k.v] w (Ret (.bool (decide k.ok)) w) := by
  obtain ⟨h0, h1, h2, h3, h4, h5, h6, h7, h8, h9, h10⟩ := h
  have z1 := Lib.hid (u64_more h5 2 (by decide) (by decide))
  have z2 := Lib.hid (u64_more h6 2 (by decide) (by decide))
  have z3 := Lib.hid (u64_more h7 2 (by decide) (by decide))
  have z4 := Lib.hid (u64_more h8 3 (by decide) (by decide))
  have DR := fun w => dash_right k.p k.r k.c h1 h3 w
  have E : k.ok ↔ (1 ≤ k.width ∧ k.width ≤ 64) ∧ (1 ≤ k.size ∧ k.size ≤ 64) ∧ (0 ≤ k.kind ∧ k.kind ≤ 2) ∧ (0 ≤ k.front ∧ k.front ≤ 2) ∧ (0 ≤ k.back ∧ k.back ≤ 2) ∧ (0 ≤ k.cull ∧ k.cull ≤ 3) ∧ (-65536 ≤ k.factor ∧ k.factor ≤ 65536) ∧ (-16777216 ≤ k.units ∧ k.units ≤ 16777216) ∧ dashP k.p k.r k.c := Iff.rfl
  have HE := Lib.hid E
  clear E h0 h1 h2 h3 h4 h5 h6 h7 h8 h9 h10
  by_cases hd : dashP k.p k.r k.c
  · simp only [hd, decide_true] at DR
    have HD := Lib.hid DR
    have hd := Lib.hid hd
    clear DR
    go_enter Tryz.func13, Tryz.ntmps13
    go_wp2_with (first | (go_at_call 45; (with_reducible refine (HD.out _).mono ?_); rintro _ _ ⟨rfl, X_, rfl⟩))
    all_goals go_ret
    all_goals refine Ret.of' ?_ (by exact bl_)
    all_goals
      have z1 := z1.out
      have z2 := z2.out
      have z3 := z3.out
      have z4 := z4.out
      first
      | (refine bool_t ?_; rw [HE.out]; exact ⟨by omega, by omega, by omega, by omega, by omega, by omega, by omega, by omega, hd.out⟩)
      | (refine bool_f ?_; rw [HE.out]; omega)
      | (refine bool_d ?_; rw [HE.out]; simp only [hd.out, and_true]; omega)
  · simp only [hd, decide_false] at DR
    have HD := Lib.hid DR
    have hf : decide k.ok = false := decide_eq_false fun q => hd (HE.out.1 q).2.2.2.2.2.2.2.2
    rw [hf]
    clear DR hd hf
    go_enter Tryz.func13, Tryz.ntmps13
    go_wp2_with (first | (go_at_call 45; (with_reducible refine (HD.out _).mono ?_); rintro _ _ ⟨rfl, X_, rfl⟩))
    all_goals go_ret
    all_goals first
      | exact Ret.of' rfl (by exact bl_)
      | exact Ret.of' (by simp) (by exact bl_)
end Go.Proofs.YtbkmgngeahmefaaGreat
end
section
section
namespace Go.Proofs.YtbkmgngeahmefaaGreat
open Go.RowKit
def rightP (x0 y0 x1 y1 : Int) : Prop := (-4194304 ≤ x0 ∧ x0 ≤ 4194304) ∧ (-4194304 ≤ y0 ∧ y0 ≤ 4194304) ∧ (-4194304 ≤ x1 ∧ x1 ≤ 4194304) ∧ (-4194304 ≤ y1 ∧ y1 ≤ 4194304) ∧ x0 < x1 ∧ y0 < y1
instance (x0 y0 x1 y1 : Int) : Decidable (rightP x0 y0 x1 y1) := by unfold rightP; exact inferInstance
def hasP (x0 y0 x1 y1 x y : Int) : Prop := rightP x0 y0 x1 y1 ∧ x0 ≤ x ∧ x < x1 ∧ y0 ≤ y ∧ y < y1
instance (x0 y0 x1 y1 x y : Int) : Decidable (hasP x0 y0 x1 y1 x y) := by unfold hasP; exact inferInstance
abbrev R4 (x0 y0 x1 y1 : Int) : Value := .agg #[.int .i64 x0, .int .i64 y0, .int .i64 x1, .int .i64 y1]
set_option maxHeartbeats 2000000 in
theorem rrect_right (x0 y0 x1 y1 : Int) (w : World) : Calls Tryz.prog 41 #[R4 x0 y0 x1 y1] w (Ret (.bool (decide (rightP x0 y0 x1 y1))) w) := by
  go_enter Tryz.func41, Tryz.ntmps41
  go_wp2
  refine wp_loop_rounds 5 ?_
  iterate 5 try any_goals (rw [rounds_succ]; go_wp2)
  all_goals go_ret
  all_goals refine Ret.of' ?_ (by exact bl_)
  all_goals first
    | (refine bool_t ?_; unfold rightP; omega)
    | (refine bool_f ?_; unfold rightP; omega)
    | (refine bool_d ?_; unfold rightP; omega)
set_option maxHeartbeats 2000000 in
theorem rect_right (x0 y0 x1 y1 : Int) (w : World) : Calls Tryz.prog 49 #[R4 x0 y0 x1 y1] w (Ret (.bool (decide (rightP x0 y0 x1 y1))) w) := by
  go_enter Tryz.func49, Tryz.ntmps49
  go_wp2
  refine wp_loop_rounds 5 ?_
  iterate 5 try any_goals (rw [rounds_succ]; go_wp2)
  all_goals go_ret
  all_goals refine Ret.of' ?_ (by exact bl_)
  all_goals first
    | (refine bool_t ?_; unfold rightP; omega)
    | (refine bool_f ?_; unfold rightP; omega)
    | (refine bool_d ?_; unfold rightP; omega)
theorem rect_has (x0 y0 x1 y1 x y : Int) (w : World) : Calls Tryz.prog 112 #[R4 x0 y0 x1 y1, .int .i64 x, .int .i64 y] w (Ret (.bool (decide (hasP x0 y0 x1 y1 x y))) w) := by
  have hR := fun w => rect_right x0 y0 x1 y1 w
  by_cases hr : rightP x0 y0 x1 y1
  · simp only [hr, decide_true] at hR
    have HR := Lib.hid hR
    have e : hasP x0 y0 x1 y1 x y ↔ (x0 ≤ x ∧ x < x1 ∧ y0 ≤ y ∧ y < y1) := by simp [hasP, hr]
    have HE := Lib.hid e
    clear e hR hr
    go_enter Tryz.func112, Tryz.ntmps112
    go_wp2_with (first | (go_at_call 49; (with_reducible refine (HR.out _).mono ?_); rintro _ _ ⟨rfl, X_, rfl⟩))
    all_goals go_ret
    all_goals refine Ret.of' ?_ (by exact bl_)
    all_goals first
      | (refine bool_t (HE.out.2 ?_); omega)
      | (refine bool_f (fun h => ?_); have h' := HE.out.1 h; omega)
      | (refine bool_d (Iff.trans ?_ HE.out.symm); omega)
  · simp only [hr, decide_false] at hR
    have HR := Lib.hid hR
    clear hR
    go_enter Tryz.func112, Tryz.ntmps112
    go_wp2_with (first | (go_at_call 49; (with_reducible refine (HR.out _).mono ?_); rintro _ _ ⟨rfl, X_, rfl⟩))
    go_ret
    exact Ret.of' (by simp [hasP, hr]) (by exact bl_)
def areaP (x0 y0 x1 y1 : Int) : Int := if rightP x0 y0 x1 y1 then (x1 - x0) * (y1 - y0) else 0
theorem rrect_area (x0 y0 x1 y1 : Int) (w : World) : Calls Tryz.prog 42 #[R4 x0 y0 x1 y1] w (Ret (.int .i64 (areaP x0 y0 x1 y1)) w) := by
  have HR := Lib.hid (fun w => rrect_right x0 y0 x1 y1 w)
  by_cases hr : rightP x0 y0 x1 y1
  · rw [areaP, if_pos hr]
    simp only [hr, decide_true] at HR
    obtain ⟨⟨a0, a1⟩, ⟨b0, b1⟩, ⟨c0, c1⟩, ⟨d0, d1⟩, e0, e1⟩ := hr
    have m : 0 ≤ (x1 - x0) * (y1 - y0) ∧ (x1 - x0) * (y1 - y0) ≤ 8388608 * 8388608 := ⟨Int.mul_nonneg (by omega) (by omega), Int.mul_le_mul (by omega) (by omega) (by omega) (by omega)⟩
    have k : IntKind.i64.wrap ((x1 - x0) * (y1 - y0)) = (x1 - x0) * (y1 - y0) := IntWalk.i64_in _ (by omega)
    clear m
    go_enter Tryz.func42, Tryz.ntmps42
    go_wp2_with (first | (go_at_call 41; (with_reducible refine (HR.out _).mono ?_); rintro _ _ ⟨rfl, X_, rfl⟩))
    go_ret
    exact Ret.of (by exact bl_)
  · rw [areaP, if_neg hr]
    simp only [hr, decide_false] at HR
    clear hr
    go_enter Tryz.func42, Tryz.ntmps42
    go_wp2_with (first | (go_at_call 41; (with_reducible refine (HR.out _).mono ?_); rintro _ _ ⟨rfl, X_, rfl⟩))
    go_ret
    exact Ret.of (by exact bl_)
end Go.Proofs.YtbkmgngeahmefaaGreat
end
end
