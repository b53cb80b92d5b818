/- Parts of the proof of FaceLines, laid together. Conditions: at each. -/
import Derived.Deep.AppendLies
import Derived.OwnWalk
import Derived.Test.YtbkmgngeahmefaaGreatSFaceLines01
import Derived.Test.YtbkmgngeahmefaaGreatSFaceLines04
set_option linter.unusedVariables false
set_option linter.unusedSimpArgs false
section
namespace Go.Proofs.YtbkmgngeahmefaaGreat
open Go.RowKit
set_option maxHeartbeats 2000000 in
theorem rmay17_any (a : WinP) (w : World) : Calls Tryz.prog 60 #[a.v] w (Ret (.bool (decide a.fitsP)) w) := by
  go_enter Tryz.func60, Tryz.ntmps60
  go_wp2
  refine wp_loop_rounds 5 ?_
  iterate 5 try any_goals (rw [rounds_succ]; go_wp2)
  all_goals go_ret
  all_goals refine Ret.of' ?_ (by exact bl_)
  all_goals first
    | (refine bool_t ?_; unfold WinP.fitsP; omega)
    | (refine bool_f ?_; unfold WinP.fitsP; omega)
    | (refine bool_d ?_; unfold WinP.fitsP; omega)
end Go.Proofs.YtbkmgngeahmefaaGreat
end
section
namespace Go.Proofs.YtbkmgngeahmefaaGreat
open Go.RowKit
def w64 (x : Int) : Prop := -9223372036854775808 ≤ x ∧ x ≤ 9223372036854775807
structure WinP.wide (a : WinP) : Prop where
  x : w64 a.x
  y : w64 a.y
  z : w64 a.z
  c0 : w64 a.c0
  c1 : w64 a.c1
  c2 : w64 a.c2
  c3 : w64 a.c3
theorem u64_small {n : Int} (h : w64 n) (k : Int) (k0 : 0 ≤ k) (k1 : k < 9223372036854775808) : IntKind.u64.wrap n ≤ k ↔ (0 ≤ n ∧ n ≤ k) := by
  unfold w64 at h
  have e : IntKind.u64.wrap n = n % 18446744073709551616 := rfl
  rw [e]
  omega
theorem neg_wrap {n : Int} (h : w64 n) : ∃ v, IntKind.i64.wrap (-n) = v ∧ (v = -n ∨ (n = -9223372036854775808 ∧ v = n)) := by
  unfold w64 at h
  by_cases e : n = -9223372036854775808
  · subst e; exact ⟨_, rfl, .inr ⟨rfl, by decide⟩⟩
  · exact ⟨-n, IntWalk.i64_in _ (by omega), .inl rfl⟩
set_option maxHeartbeats 4000000 in
theorem fits17_any (a : WinP) (h : a.wide) (w : World) : Calls Tryz.prog 174 #[a.v] w (Ret (.bool (decide a.fitsP)) w) := by
  obtain ⟨hx, hy, hz, h0, h1, h2, h3⟩ := h
  have z0 := Lib.hid (u64_small hz 16777215 (by decide) (by decide))
  have c0 := Lib.hid (u64_small h0 255 (by decide) (by decide))
  have c1 := Lib.hid (u64_small h1 255 (by decide) (by decide))
  have c2 := Lib.hid (u64_small h2 255 (by decide) (by decide))
  have c3 := Lib.hid (u64_small h3 255 (by decide) (by decide))
  obtain ⟨nx, ex, fx⟩ := neg_wrap hx
  obtain ⟨ny, ey, fy⟩ := neg_wrap hy
  have FX := Lib.hid fx
  have FY := Lib.hid fy
  clear fx fy
  go_enter Tryz.func174, Tryz.ntmps174
  go_wp2
  refine wp_loop_rounds 5 ?_
  iterate 5 try any_goals (rw [rounds_succ]; go_wp2)
  all_goals go_ret
  all_goals refine Ret.of' ?_ (by exact bl_)
  all_goals
    have z0 := z0.out
    have c0 := c0.out
    have c1 := c1.out
    have c2 := c2.out
    have c3 := c3.out
    have fx := FX.out
    have fy := FY.out
    first
    | (refine bool_t ?_; unfold WinP.fitsP; omega)
    | (refine bool_f ?_; unfold WinP.fitsP; omega)
    | (refine bool_d ?_; unfold WinP.fitsP; omega)
def dashP (p r n : Int) : Prop := (0 ≤ p ∧ p ≤ 65535) ∧ (1 ≤ r ∧ r ≤ 256) ∧ 0 ≤ n ∧ n ≤ 1099511627776
instance (p r n : Int) : Decidable (dashP p r n) := by unfold dashP; exact inferInstance
abbrev D3 (p r n : Int) : Value := .agg #[.int .i64 p, .int .i64 r, .int .i64 n]
theorem u64_lt {n : Int} (h : w64 n) : IntKind.u64.wrap n < 65536 ↔ (0 ≤ n ∧ n ≤ 65535) := by
  unfold w64 at h
  have e : IntKind.u64.wrap n = n % 18446744073709551616 := rfl
  rw [e]
  omega
set_option maxHeartbeats 4000000 in
theorem dash_right (p r n : Int) (hp : w64 p) (hn : w64 n) (w : World) : Calls Tryz.prog 45 #[D3 p r n] w (Ret (.bool (decide (dashP p r n))) w) := by
  have z0 := Lib.hid (u64_lt hp)
  have z1 := Lib.hid (u64_small hn 1099511627776 (by decide) (by decide))
  go_enter Tryz.func45, Tryz.ntmps45
  go_wp2
  all_goals go_ret
  all_goals refine Ret.of' ?_ (by exact bl_)
  all_goals
    have z0 := z0.out
    have z1 := z1.out
    first
    | (refine bool_t ?_; unfold dashP; omega)
    | (refine bool_f ?_; unfold dashP; omega)
    | (refine bool_d ?_; unfold dashP; omega)
set_option maxHeartbeats 4000000 in
theorem rdash_right (p r n : Int) (w : World) : Calls Tryz.prog 47 #[D3 p r n] w (Ret (.bool (decide (dashP p r n))) w) := by
  go_enter Tryz.func47, Tryz.ntmps47
  go_wp2
  all_goals go_ret
  all_goals refine Ret.of' ?_ (by exact bl_)
  all_goals
    first
    | (refine bool_t ?_; unfold dashP; omega)
    | (refine bool_f ?_; unfold dashP; omega)
    | (refine bool_d ?_; unfold dashP; omega)
def widthP (n : Int) : Prop := 1 ≤ n ∧ n ≤ 64
instance (n : Int) : Decidable (widthP n) := by unfold widthP; exact inferInstance
def lineP (a b : WinP) (n p r c : Int) : Prop := a.fitsP ∧ b.fitsP ∧ widthP n ∧ dashP p r c
instance (a b : WinP) (n p r c : Int) : Decidable (lineP a b n p r c) := by unfold lineP; exact inferInstance
theorem line_dec (a b : WinP) (n p r c : Int) : decide (lineP a b n p r c) = (decide a.fitsP && (decide b.fitsP && (decide (widthP n) && decide (dashP p r c)))) := by
  rw [← Bool.decide_and, ← Bool.decide_and, ← Bool.decide_and]; exact decide_eq_decide.2 Iff.rfl
set_option maxHeartbeats 4000000 in
theorem wide_right (a b : WinP) (n p r c : Int) (ha : a.wide) (hb : b.wide) (hp : w64 p) (hc : w64 c) (w : World) : Calls Tryz.prog 107 #[a.v, b.v, .int .i64 n, D3 p r c] w (Ret (.bool (decide (lineP a b n p r c))) w) := by
  rw [line_dec]
  have M1 := Lib.hid (fun w => fits17_any a ha w)
  have M2 := Lib.hid (fun w => fits17_any b hb w)
  have M3 := Lib.hid (fun w => dash_right p r c hp hc w)
  clear ha hb hp hc
  obtain ⟨m1, e1⟩ : ∃ l, decide a.fitsP = l := ⟨_, rfl⟩
  obtain ⟨m2, e2⟩ : ∃ l, decide b.fitsP = l := ⟨_, rfl⟩
  obtain ⟨m3, e3⟩ : ∃ l, decide (dashP p r c) = l := ⟨_, rfl⟩
  rw [e1] at M1 ⊢
  rw [e2] at M2 ⊢
  rw [e3] at M3 ⊢
  clear e1 e2 e3
  have W : widthP n ↔ 1 ≤ n ∧ n ≤ 64 := Iff.rfl
  have HW := Lib.hid W
  clear W
  by_cases hn : 1 ≤ n ∧ n ≤ 64
  · rw [show decide (widthP n) = true from decide_eq_true hn]
    obtain ⟨n0, n1⟩ := hn
    cases m1 <;> cases m2 <;> cases m3
    all_goals
      go_enter Tryz.func107, Tryz.ntmps107
      go_wp2_with (first | (go_at_call 174; (with_reducible refine (M1.out _).mono ?_); rintro _ _ ⟨rfl, X_, rfl⟩) | (go_at_call 174; (with_reducible refine (M2.out _).mono ?_); rintro _ _ ⟨rfl, X_, rfl⟩) | (go_at_call 45; (with_reducible refine (M3.out _).mono ?_); rintro _ _ ⟨rfl, X_, rfl⟩))
      go_ret
      exact Ret.of' rfl (by exact bl_)
  · rw [show decide (widthP n) = false from decide_eq_false hn]
    cases m1 <;> cases m2
    all_goals
      go_enter Tryz.func107, Tryz.ntmps107
      go_wp2_with (first | (go_at_call 174; (with_reducible refine (M1.out _).mono ?_); rintro _ _ ⟨rfl, X_, rfl⟩) | (go_at_call 174; (with_reducible refine (M2.out _).mono ?_); rintro _ _ ⟨rfl, X_, rfl⟩) | (go_at_call 45; (with_reducible refine (M3.out _).mono ?_); rintro _ _ ⟨rfl, X_, rfl⟩))
      all_goals first
        | (exfalso; omega)
        | (go_ret; exact Ret.of' rfl (by exact bl_))
set_option maxHeartbeats 4000000 in
theorem rline_right (a b : WinP) (n p r c : Int) (w : World) : Calls Tryz.prog 120 #[a.v, b.v, .int .i64 n, D3 p r c] w (Ret (.bool (decide (lineP a b n p r c))) w) := by
  rw [line_dec]
  have M1 := Lib.hid (fun w => rmay17_any a w)
  have M2 := Lib.hid (fun w => rmay17_any b w)
  have M3 := Lib.hid (fun w => rdash_right p r c w)
  obtain ⟨m1, e1⟩ : ∃ l, decide a.fitsP = l := ⟨_, rfl⟩
  obtain ⟨m2, e2⟩ : ∃ l, decide b.fitsP = l := ⟨_, rfl⟩
  obtain ⟨m3, e3⟩ : ∃ l, decide (dashP p r c) = l := ⟨_, rfl⟩
  rw [e1] at M1 ⊢
  rw [e2] at M2 ⊢
  rw [e3] at M3 ⊢
  clear e1 e2 e3
  by_cases hn : 1 ≤ n ∧ n ≤ 64
  · rw [show decide (widthP n) = true from decide_eq_true hn]
    obtain ⟨n0, n1⟩ := hn
    cases m1 <;> cases m2 <;> cases m3
    all_goals
      go_enter Tryz.func120, Tryz.ntmps120
      go_wp2_with (first | (go_at_call 60; (with_reducible refine (M1.out _).mono ?_); rintro _ _ ⟨rfl, X_, rfl⟩) | (go_at_call 60; (with_reducible refine (M2.out _).mono ?_); rintro _ _ ⟨rfl, X_, rfl⟩) | (go_at_call 47; (with_reducible refine (M3.out _).mono ?_); rintro _ _ ⟨rfl, X_, rfl⟩))
      go_ret
      exact Ret.of' rfl (by exact bl_)
  · rw [show decide (widthP n) = false from decide_eq_false hn]
    cases m1 <;> cases m2
    all_goals
      go_enter Tryz.func120, Tryz.ntmps120
      go_wp2_with (first | (go_at_call 60; (with_reducible refine (M1.out _).mono ?_); rintro _ _ ⟨rfl, X_, rfl⟩) | (go_at_call 60; (with_reducible refine (M2.out _).mono ?_); rintro _ _ ⟨rfl, X_, rfl⟩) | (go_at_call 47; (with_reducible refine (M3.out _).mono ?_); rintro _ _ ⟨rfl, X_, rfl⟩))
      all_goals first
        | (exfalso; omega)
        | (go_ret; exact Ret.of' rfl (by exact bl_))
def smoP (a b : WinP) (n : Int) : Prop := a.fitsP ∧ b.fitsP ∧ widthP n
instance (a b : WinP) (n : Int) : Decidable (smoP a b n) := by unfold smoP; exact inferInstance
theorem smo_line (a b : WinP) (n : Int) : decide (lineP a b n 0 1 0) = decide (smoP a b n) := by
  refine decide_eq_decide.2 ⟨fun h => ⟨h.1, h.2.1, h.2.2.1⟩, fun h => ⟨h.1, h.2.1, h.2.2, by decide⟩⟩
theorem smooth_right (a b : WinP) (n : Int) (ha : a.wide) (hb : b.wide) (w : World) : Calls Tryz.prog 102 #[a.v, b.v, .int .i64 n] w (Ret (.bool (decide (smoP a b n))) w) := by
  have R := Lib.hid (fun w => smo_line a b n ▸ wide_right a b n 0 1 0 ha hb (by unfold w64; decide) (by unfold w64; decide) w)
  clear ha hb
  go_enter Tryz.func102, Tryz.ntmps102
  go_wp2_with (first | (go_at_call 107; (with_reducible refine (R.out _).mono ?_); rintro _ _ ⟨rfl, X_, rfl⟩))
  go_ret
  exact Ret.of (by exact bl_)
theorem rsmooth_right (a b : WinP) (n : Int) (w : World) : Calls Tryz.prog 117 #[a.v, b.v, .int .i64 n] w (Ret (.bool (decide (smoP a b n))) w) := by
  have R := Lib.hid (fun w => smo_line a b n ▸ rline_right a b n 0 1 0 w)
  go_enter Tryz.func117, Tryz.ntmps117
  go_wp2_with (first | (go_at_call 120; (with_reducible refine (R.out _).mono ?_); rintro _ _ ⟨rfl, X_, rfl⟩))
  go_ret
  exact Ret.of (by exact bl_)
end Go.Proofs.YtbkmgngeahmefaaGreat
end
section
namespace Go.Proofs.YtbkmgngeahmefaaGreat
open Go.RowKit
structure RecK (α : Type) where
  k : Nat
  cells : α → List Value
  len : ∀ a, (cells a).length = k
  pos : 0 < k
  one : ∀ a, ∀ u ∈ cells a, u.oneCell' = true
section
variable {α : Type} {K : RecK α}
theorem RecK.flat_at (K : RecK α) : ∀ (L : List α) (i : Nat) (f : α) (j : Nat) (u : Value), L[i]? = some f → (K.cells f)[j]? = some u → (L.flatMap K.cells)[i * K.k + j]? = some u
  | [], _, _, _, _, h, _ => by simp at h
  | g :: L, 0, f, j, u, h, h' => by
    obtain rfl : g = f := by simpa using h
    have hj : j < (K.cells g).length := by rw [List.getElem?_eq_some_iff] at h'; exact h'.1
    rw [List.flatMap_cons, List.getElem?_append_left (by simpa using hj)]
    simpa using h'
  | g :: L, i + 1, f, j, u, h, h' => by
    have e8 : (K.cells g).length = K.k := K.len g
    have e9 : (i + 1) * K.k = i * K.k + K.k := Nat.succ_mul i K.k
    rw [List.flatMap_cons, List.getElem?_append_right (by rw [e8]; omega), e8, show (i + 1) * K.k + j - K.k = i * K.k + j by omega]
    exact RecK.flat_at K L i f j u (by simpa using h) h'
theorem RecK.flat_len (K : RecK α) (L : List α) : (L.flatMap K.cells).length = L.length * K.k := by
  induction L with
  | nil => simp
  | cons g L ih => rw [List.flatMap_cons, List.length_append, K.len, ih, List.length_cons, Nat.succ_mul]; omega
theorem RecK.flat_one (K : RecK α) (L : List α) : ∀ u ∈ L.flatMap K.cells, u.oneCell' = true := by
  intro u hu
  obtain ⟨s, -, hs⟩ := List.mem_flatMap.1 hu
  exact K.one s u hs
def Recs (K : RecK α) (w : World) (v : Value) (L : List α) : Prop :=
  L.length ≤ 1099511627776 ∧ ∃ a cap, v = .slice a L.length cap ∧ L.length ≤ cap ∧
    (L = [] ∨ ∃ b off, a = some ⟨b, off, none⟩ ∧ b < w.heap.size ∧ ∀ i f, L[i]? = some f → ∀ j u, (K.cells f)[j]? = some u → w.cell? ⟨b, off + i * K.k + j, none⟩ = some u)
theorem Recs.chg {p : Nat → Prop} {w w1 : World} {v : Value} {L : List α} (h : Recs K w v L) (hc : Chg p w w1) (hb : ∀ b, v.ownBlock = some b → L ≠ [] → b < w.heap.size → ¬ p b) : Recs K w1 v L := by
  obtain ⟨h1, a, cap, rfl, h2, h3⟩ := h
  refine ⟨h1, a, cap, rfl, h2, ?_⟩
  by_cases hne : L = []
  · exact .inl hne
  rcases h3 with h3 | ⟨b, off, rfl, hb', hcl⟩
  · exact .inl h3
  · exact .inr ⟨b, off, rfl, Nat.lt_of_lt_of_le hb' hc.size, fun i f hi j u hj => by rw [hc.cell hb' (hb b rfl hne hb')]; exact hcl i f hi j u hj⟩
theorem Recs.ext {w : World} {v : Value} {L : List α} (h : Recs K w v L) (X : Xt) : Recs K (w.ext X) v L := h.chg (p := fun _ => False) (Chg.of_ext X) (fun _ _ _ _ h => h)
theorem Recs.alloc {w : World} {v : Value} {L : List α} (h : Recs K w v L) (o : Obj) : Recs K (w.alloc o) v L := h.chg (p := fun _ => False) (Chg.refl.alloc o) (fun _ _ _ _ h => h)
theorem Recs.drew {w : World} {v : Value} {L : List α} (h : Recs K w v L) : Recs K w.drew v L := h.chg (p := fun _ => False) Chg.refl.drew (fun _ _ _ _ h => h)
theorem Recs.below {w w1 : World} {v : Value} {L : List α} (h : Recs K w v L) (hb : Below w.heap.size w w1) : Recs K w1 v L := by
  obtain ⟨X, rfl⟩ := hb.toExt; exact h.ext X
theorem recs_nil (w : World) : Recs K w (.slice none 0 0) [] := ⟨by simp, none, 0, rfl, Nat.le_refl _, .inl rfl⟩
theorem own_recs {wr : World} {base : Nat} {T : TypeId} {vb : Value} {L : List α} (h : wr.ownsRow base T K.k vb L.length (L.flatMap K.cells)) (hl : L.length ≤ 1099511627776) : Recs K wr vb L := by
  obtain ⟨hle, h1⟩ := h
  rcases h1 with ⟨rfl, h0⟩ | ⟨g, cap, cur, rfl, hb, hg, h1, h2, h3, h4⟩
  · obtain rfl : L = [] := List.length_eq_zero_iff.1 h0
    exact ⟨hl, none, 0, rfl, Nat.le_refl _, .inl rfl⟩
  · refine ⟨hl, _, cap, rfl, h1, .inr ⟨g, 0, rfl, (Array.getElem?_eq_some_iff.1 hg).1, fun i f hi j u hj => ?_⟩⟩
    have e := K.flat_at L i f j u hi hj
    rw [← h4, List.getElem?_take] at e
    rw [Nat.zero_add, World.cell?]
    simp only [hg]
    split at e
    · rw [← Array.getElem?_toList]; exact e
    · exact absurd e (by simp)
theorem addr_addR (b o j : Nat) : (⟨b, o, none⟩ : Addr).add j = ⟨b, o + j, none⟩ := by simp [Addr.add]
theorem cells_newR {w : World} {n : Nat} (h : w.heap.size = n) (c : Array Value) (t : TypeId) : ∀ j u, c.toList[j]? = some u → (w.alloc (.cells c t)).cell? ((⟨n, 0, none⟩ : Addr).add j) = some u := by
  subst h
  intro j u hj
  rw [addr_addR, Nat.zero_add, World.cell?]
  simp only [World.hp_alloc, Array.getElem?_push, if_true]
  rw [← Array.getElem?_toList]; exact hj
theorem recs_lit {w : World} {n : Nat} (h : w.heap.size = n) (L : List α) (c : Array Value) (hc : c.toList = L.flatMap K.cells) (T : TypeId) (hl : L.length ≤ 1099511627776) : Recs K (w.alloc (.cells c T)) (.slice (some ⟨n, 0, none⟩) L.length L.length) L := by
  refine ⟨hl, _, L.length, rfl, Nat.le_refl _, .inr ⟨n, 0, rfl, by rw [World.hp_alloc, Array.size_push]; omega, fun i s hi j u hj => ?_⟩⟩
  have := cells_newR h c T (i * K.k + j) u (by rw [hc]; exact K.flat_at L i s j u hi hj)
  rw [addr_addR, Nat.zero_add] at this
  rw [Nat.zero_add]; exact this
def RLists (K : RecK α) (w : World) (L : List α) (e : Ending) (w' : World) : Prop := ∃ v, e = .returned v ∧ Recs K w' v L ∧ ∃ X, w' = w.ext X
theorem own_extR {w : World} {base n size : Nat} {e : TypeId} {v : Value} {xs : List Value} (h : w.ownsRow base e size v n xs) (X : Xt) : (w.ext X).ownsRow base e size v n xs :=
  h.kept (row := none) ⟨rfl, rfl, rfl, by simp, fun k hk _ => World.heap_ext hk⟩ (by cases v.ownBlock <;> simp)
theorem row_apart {wr : World} {c : Array Value} {T E : TypeId} {b : Nat} (h : Row wr b c T) (hT : T ≠ E) {base k s : Nat} {v : Value} {xs : List Value} (hr : wr.ownsRow base E s v k xs) : some b ≠ v.ownBlock := by
  rcases hr.2 with ⟨rfl, _⟩ | ⟨g, cap, cur, rfl, _, hgb, _⟩
  · simp [Value.ownBlock]
  · intro e'
    obtain rfl : b = g := by simpa [Value.ownBlock] using e'
    have := (show wr.heap[b]? = _ from h).symm.trans hgb
    simp at this
    exact hT this.2
theorem row_elder {wr : World} {E : TypeId} {b : Nat} {base k s : Nat} {v : Value} {xs : List Value} (hr : wr.ownsRow base E s v k xs) (hb : b < base) : some b ≠ v.ownBlock := fun e => by
  have := (hr.lt b e.symm).1; omega
theorem Row.keptR {wr w1 : World} {b : Nat} {c : Array Value} {T : TypeId} {row : Option Nat} (h : Row wr b c T) (hg : wr.grownBy w1 row) (hn : some b ≠ row) : Row w1 b c T := by
  unfold Row; rw [hg.block b h.lt hn]; exact h
theorem Recs.keptR {wr w1 : World} {v : Value} {L : List α} {row : Option Nat} (h : Recs K wr v L) (hg : wr.grownBy w1 row) (hn : ∀ b, v.ownBlock = some b → L ≠ [] → some b ≠ row) : Recs K w1 v L := by
  obtain ⟨h1, a, cap, rfl, h2, h3⟩ := h
  refine ⟨h1, a, cap, rfl, h2, ?_⟩
  by_cases hne : L = []
  · exact .inl hne
  rcases h3 with h3 | ⟨b, off, rfl, hb', hcl⟩
  · exact .inl h3
  · refine .inr ⟨b, off, rfl, Nat.lt_of_lt_of_le hb' hg.size, fun i f hi j u hj => ?_⟩
    have e := hcl i f hi j u hj
    have hb := hg.block b hb' (hn b rfl hne)
    simp only [World.cell?] at e ⊢
    rw [hb]; exact e
structure Hold (K : RecK α) (w wr : World) (E : TypeId) (R : List (Nat × Array Value × TypeId)) (v : Value) (L : List α) : Prop where
  rows : ∀ r ∈ R, Row wr r.1 r.2.1 r.2.2
  far : ∀ r ∈ R, r.2.2 ≠ E
  own : wr.ownsRow w.heap.size E K.k v L.length (L.flatMap K.cells)
  ext : ∃ X, wr = w.ext X
theorem Hold.grow {w wr : World} {E : TypeId} {R : List (Nat × Array Value × TypeId)} {v : Value} {L : List α} (h : Hold K w wr E R v L) (X : Xt) : Hold K w (wr.ext X) E R v L :=
  ⟨fun r hr => (h.rows r hr).ext X, h.far, own_extR h.own X, by obtain ⟨Y, rfl⟩ := h.ext; exact ⟨_, World.ext_ext⟩⟩
theorem Hold.grown {w wr w1 : World} {E : TypeId} {R : List (Nat × Array Value × TypeId)} {v : Value} {L : List α} (h : Hold K w wr E R v L) (hb : Below wr.heap.size wr w1) : Hold K w w1 E R v L := by
  obtain ⟨X, rfl⟩ := hb.toExt; exact h.grow X
theorem Hold.size {w wr : World} {E : TypeId} {R : List (Nat × Array Value × TypeId)} {v : Value} {L : List α} (h : Hold K w wr E R v L) : w.heap.size ≤ wr.heap.size := by obtain ⟨X, rfl⟩ := h.ext; simp
theorem Hold.below {w wr : World} {E : TypeId} {R : List (Nat × Array Value × TypeId)} {v : Value} {L : List α} (h : Hold K w wr E R v L) : Below w.heap.size w wr := by obtain ⟨X, rfl⟩ := h.ext; exact (Below.refl _ _).ext (Nat.le_refl _) X
theorem Hold.start {w wr : World} {E : TypeId} {R : List (Nat × Array Value × TypeId)} (hr : ∀ r ∈ R, Row wr r.1 r.2.1 r.2.2) (hf : ∀ r ∈ R, r.2.2 ≠ E) (he : ∃ X, wr = w.ext X) : Hold K w wr E R (.slice none 0 0) [] :=
  ⟨hr, hf, World.ownsRow_nil _ _ _ _, he⟩
theorem Hold.snoc {w wr w1 : World} {E : TypeId} {R : List (Nat × Array Value × TypeId)} {v v' : Value} {L : List α} {s : α} {o : Obj} (h : Hold K w wr E R v L)
    (hown : w1.ownsRow w.heap.size E K.k v' (L.length + 1) (L.flatMap K.cells ++ K.cells s)) (hg : (wr.alloc o).grownBy w1 v.ownBlock) : Hold K w w1 E R v' (L ++ [s]) := by
  refine ⟨fun r hr => ((h.rows r hr).alloc o).keptR hg (row_apart (h.rows r hr) (h.far r hr) h.own), h.far, ?_, ?_⟩
  · have e : (L ++ [s]).length = L.length + 1 := by simp
    rw [e, List.flatMap_append]
    simpa using hown
  · exact RowKit.Below.toExt (Below.grown (h.below.alloc h.size o) hg (by have := h.size; rw [World.hp_alloc, Array.size_push]; omega) fun k hk => (h.own.lt k hk).1)
theorem Hold.with {w wr : World} {E : TypeId} {R R' : List (Nat × Array Value × TypeId)} {v : Value} {L : List α} (h : Hold K w wr E R v L) (hr : ∀ r ∈ R', Row wr r.1 r.2.1 r.2.2) (hf : ∀ r ∈ R', r.2.2 ≠ E) : Hold K w wr E R' v L :=
  ⟨hr, hf, h.own, h.ext⟩
theorem Hold.put {w wr : World} {E : TypeId} {R R' : List (Nat × Array Value × TypeId)} {v : Value} {L : List α} {b k : Nat} {u : Value} (h : Hold K w wr E R v L) (hb : some b ≠ v.ownBlock) (hw : w.heap.size ≤ b)
    (hr : ∀ r ∈ R', Row (wr.setCell ⟨b, k, none⟩ u) r.1 r.2.1 r.2.2) (hf : ∀ r ∈ R', r.2.2 ≠ E) : Hold K w (wr.setCell ⟨b, k, none⟩ u) E R' v L := by
  refine ⟨hr, hf, ?_, World.setCell_new h.ext hw⟩
  refine World.ownsRow.kept (row := some b) h.own ⟨rfl, rfl, rfl, by simp [World.setCell], fun j hj hne => ?_⟩ (.inr hb.symm)
  have : ¬ b = j := fun e => hne (by rw [e])
  simp only [World.setCell, Array.getElem?_modify, if_neg this]
theorem Hold.put1 {w wr : World} {E : TypeId} {R : List (Nat × Array Value × TypeId)} {v : Value} {L : List α} {b k : Nat} {u : Value} (h : Hold K w wr E R v L) (hb : some b ≠ v.ownBlock) (hw : w.heap.size ≤ b)
    (hr : ∀ r ∈ R, r.1 ≠ b) : Hold K w (wr.setCell ⟨b, k, none⟩ u) E R v L :=
  h.put hb hw (fun r hr' => (h.rows r hr').other (hr r hr') _ _) h.far
end
structure FrP where
  x : Int
  y : Int
  z : Int
  c0 : Int
  c1 : Int
  c2 : Int
  c3 : Int
  cov : Int
abbrev FrP.v (f : FrP) : Value := .agg #[.int .i64 f.x, .int .i64 f.y, .int .i64 f.z, .int .i64 f.c0, .int .i64 f.c1, .int .i64 f.c2, .int .i64 f.c3, .int .i64 f.cov]
abbrev FrP.cells (f : FrP) : List Value := [.int .i64 f.x, .int .i64 f.y, .int .i64 f.z, .int .i64 f.c0, .int .i64 f.c1, .int .i64 f.c2, .int .i64 f.c3, .int .i64 f.cov]
def frK : RecK FrP := ⟨8, FrP.cells, fun _ => rfl, by decide, fun a u hu => by simp at hu; rcases hu with rfl | rfl | rfl | rfl | rfl | rfl | rfl | rfl <;> rfl⟩
structure SpP where
  y : Int
  x0 : Int
  x1 : Int
abbrev SpP.cells (f : SpP) : List Value := [.int .i64 f.y, .int .i64 f.x0, .int .i64 f.x1]
def spK : RecK SpP := ⟨3, SpP.cells, fun _ => rfl, by decide, fun a u hu => by simp at hu; rcases hu with rfl | rfl | rfl <;> rfl⟩
def rng (a b : Int) : List Int := (List.range (b - a).toNat).map (fun i : Nat => a + i)
theorem rng_nil {a b : Int} (h : b ≤ a) : rng a b = [] := by
  unfold rng; rw [Int.toNat_of_nonpos (by omega)]; rfl
theorem rng_snoc {a b : Int} (h : a ≤ b) : rng a (b + 1) = rng a b ++ [b] := by
  unfold rng
  rw [show (b + 1 - a).toNat = (b - a).toNat + 1 by omega, List.range_succ, List.map_append]
  simp; omega
theorem rng_mem {a b x : Int} : x ∈ rng a b ↔ a ≤ x ∧ x < b := by
  unfold rng
  simp only [List.mem_map, List.mem_range]
  constructor
  · rintro ⟨i, hi, rfl⟩; omega
  · rintro ⟨h1, h2⟩; exact ⟨(x - a).toNat, by omega, by omega⟩
theorem rng_len (a b : Int) : (rng a b).length = (b - a).toNat := by unfold rng; simp
end Go.Proofs.YtbkmgngeahmefaaGreat
namespace Go.Proofs.YtbkmgngeahmefaaGreat
open Go.RowKit
theorem rc_ {A C : Prop} (h : A) (f : A → C := by intro h_; repeat (first | with_reducible exact h_ | with_reducible refine Recs.ext ?_ _ | with_reducible refine Recs.alloc ?_ _ | with_reducible refine Recs.drew ?_)) : C := f h
end Go.Proofs.YtbkmgngeahmefaaGreat
end
