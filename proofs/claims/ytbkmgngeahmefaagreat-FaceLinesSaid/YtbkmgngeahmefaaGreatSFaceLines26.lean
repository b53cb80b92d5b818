/- Parts of the proof of FaceLines, laid together. Conditions: at each. -/
import Derived.Deep.CutBlock
import Derived.Deep.RegionLawGrows
import Derived.Test.YtbkmgngeahmefaaGreatSFaceLines01
import Derived.Test.YtbkmgngeahmefaaGreatSFaceLines12
import Derived.Test.YtbkmgngeahmefaaGreatSFaceLines14
import Derived.Test.YtbkmgngeahmefaaGreatSFaceLines16
import Derived.Test.YtbkmgngeahmefaaGreatSFaceLines19
set_option linter.unusedVariables false
set_option linter.unusedSimpArgs false
section
namespace Go.Proofs.YtbkmgngeahmefaaGreat
structure MkP where
  k : Int
  m : Int
  f : FrP
def MkP.lt (s t : MkP) : Prop := s.k < t.k ∨ s.k = t.k ∧ s.m < t.m
instance (s t : MkP) : Decidable (s.lt t) := by unfold MkP.lt; exact inferInstance
theorem MkP.lt_irrefl (f : MkP) : ¬ f.lt f := by unfold MkP.lt; omega
theorem MkP.lt_trans {f g h : MkP} (h1 : f.lt g) (h2 : g.lt h) : f.lt h := by unfold MkP.lt at *; omega
theorem rise_extM {L M : List MkP} (hL : L.Pairwise MkP.lt) (hM : M.Pairwise MkP.lt) (h : ∀ f, f ∈ L ↔ f ∈ M) : L = M := by
  induction L generalizing M with
  | nil =>
    cases M with
    | nil => rfl
    | cons g M => exact absurd ((h g).2 List.mem_cons_self) (by simp)
  | cons f L ih =>
    cases M with
    | nil => exact absurd ((h f).1 List.mem_cons_self) (by simp)
    | cons g M =>
      rw [List.pairwise_cons] at hL hM
      have e : f = g := by
        rcases List.mem_cons.1 ((h f).1 List.mem_cons_self) with e | e
        · exact e
        · rcases List.mem_cons.1 ((h g).2 List.mem_cons_self) with e' | e'
          · exact e'.symm
          · exact absurd (MkP.lt_trans (hL.1 g e') (hM.1 f e)) (MkP.lt_irrefl f)
      subst e
      congr 1
      refine ih hL.2 hM.2 fun k => ⟨fun hk => ?_, fun hk => ?_⟩
      · rcases List.mem_cons.1 ((h k).1 (List.mem_cons_of_mem _ hk)) with e | e
        · subst e; exact absurd (hL.1 k hk) (MkP.lt_irrefl k)
        · exact e
      · rcases List.mem_cons.1 ((h k).2 (List.mem_cons_of_mem _ hk)) with e | e
        · subst e; exact absurd (hM.1 k hk) (MkP.lt_irrefl k)
        · exact e
theorem rise_or {G : List MkP} (hG : G.Pairwise MkP.lt) {s t : MkP} (hs : s ∈ G) (ht : t ∈ G) : s = t ∨ s.lt t ∨ t.lt s := by
  induction G with
  | nil => cases hs
  | cons g G ih =>
    rw [List.pairwise_cons] at hG
    rcases List.mem_cons.1 hs with e | hs'
    · rcases List.mem_cons.1 ht with e' | ht'
      · exact .inl (e.trans e'.symm)
      · exact .inr (.inl (e ▸ hG.1 t ht'))
    · rcases List.mem_cons.1 ht with e' | ht'
      · exact .inr (.inr (e' ▸ hG.1 s hs'))
      · exact ih hG.2 hs' ht'
def putM (L : List MkP) (j : Nat) (s : MkP) : List MkP := L.take j ++ s :: L.drop j
theorem putM_mem {L : List MkP} {j : Nat} {s q : MkP} : q ∈ putM L j s ↔ q ∈ L ∨ q = s := by
  unfold putM
  rw [List.mem_append, List.mem_cons]
  have e : q ∈ L ↔ q ∈ L.take j ∨ q ∈ L.drop j := by rw [← List.mem_append, List.take_append_drop]
  rw [e]
  constructor
  · rintro (h | h | h)
    · exact .inl (.inl h)
    · exact .inr h
    · exact .inl (.inr h)
  · rintro ((h | h) | h)
    · exact .inl h
    · exact .inr (.inr h)
    · exact .inr (.inl h)
theorem filter_put {G : List MkP} (hG : G.Pairwise MkP.lt) (p p' : MkP → Bool) (s : MkP) (hs : s ∈ G) (hn : p s = false) (hp : ∀ q ∈ G, p' q = true ↔ (p q = true ∨ q = s)) (j : Nat) (hj : j ≤ (G.filter p).length)
    (h1 : ∀ i q, i < j → (G.filter p)[i]? = some q → q.lt s) (h2 : ∀ q, (G.filter p)[j]? = some q → ¬ q.lt s) : G.filter p' = putM (G.filter p) j s := by
  have hL : (G.filter p).Pairwise MkP.lt := hG.filter _
  have hm : ∀ q ∈ G.filter p, q ∈ G ∧ q ≠ s := fun q hq => by
    obtain ⟨k1, k2⟩ := List.mem_filter.1 hq
    exact ⟨k1, fun e => by rw [e, hn] at k2; cases k2⟩
  refine rise_extM (hG.filter _) ?_ fun q => ?_
  · unfold putM
    rw [List.pairwise_append, List.pairwise_cons]
    refine ⟨hL.sublist (List.take_sublist _ _), ⟨fun q hq => ?_, hL.sublist (List.drop_sublist _ _)⟩, fun t ht q hq => ?_⟩
    · obtain ⟨i, hi⟩ := List.mem_iff_getElem?.1 hq
      rw [List.getElem?_drop] at hi
      have hjl : j < (G.filter p).length := by have := (List.getElem?_eq_some_iff.1 hi).1; omega
      obtain ⟨g, hg⟩ : ∃ g, (G.filter p)[j]? = some g := ⟨_, List.getElem?_eq_getElem hjl⟩
      have hgl := h2 g hg
      have hgm := hm g (List.mem_of_getElem? hg)
      have sg : s.lt g := by
        rcases rise_or hG hgm.1 hs with e | e | e
        · exact absurd e hgm.2
        · exact absurd e hgl
        · exact e
      cases i with
      | zero => rw [Nat.add_zero, hg] at hi; injection hi with hi; subst hi; exact sg
      | succ i =>
        obtain ⟨h3, e3⟩ := List.getElem?_eq_some_iff.1 hi
        obtain ⟨h4, e4⟩ := List.getElem?_eq_some_iff.1 hg
        have := List.pairwise_iff_getElem.1 hL j (j + (i + 1)) h4 h3 (by omega)
        rw [e3, e4] at this
        exact MkP.lt_trans sg this
    · obtain ⟨i, hi⟩ := List.mem_iff_getElem?.1 ht
      rw [List.getElem?_take] at hi
      split at hi
      · rename_i hij
        have ts := h1 i t hij hi
        rcases List.mem_cons.1 hq with rfl | hq
        · exact ts
        · obtain ⟨e, he⟩ := List.mem_iff_getElem?.1 hq
          rw [List.getElem?_drop] at he
          obtain ⟨h3, e3⟩ := List.getElem?_eq_some_iff.1 hi
          obtain ⟨h4, e4⟩ := List.getElem?_eq_some_iff.1 he
          have := List.pairwise_iff_getElem.1 hL i (j + e) h3 h4 (by omega)
          rw [e3, e4] at this
          exact this
      · cases hi
  · rw [putM_mem, List.mem_filter, List.mem_filter]
    constructor
    · rintro ⟨k1, k2⟩
      rcases (hp q k1).1 k2 with k | k
      · exact .inl ⟨k1, k⟩
      · exact .inr k
    · rintro (⟨k1, k2⟩ | rfl)
      · exact ⟨k1, (hp q k1).2 (.inl k2)⟩
      · exact ⟨hs, (hp q hs).2 (.inr rfl)⟩
def mkRow (a b : WinP) (n : Int) (s : St) : List MkP := (List.range n.toNat).map (fun m : Nat => ⟨s.K, m, wdFr a b s m⟩)
def marksL (a b : WinP) (n : Int) (dd : Bool) (p r c x0 y0 x1 y1 : Int) : List MkP := (((coreL a b n).filter (litB dd p r c)).flatMap (mkRow a b n)).filter (fun q => frIn x0 y0 x1 y1 q.f)
theorem marks_map (a b : WinP) (n : Int) (dd : Bool) (p r c x0 y0 x1 y1 : Int) : (marksL a b n dd p r c x0 y0 x1 y1).map (·.f) = wdTo a b n dd p r c x0 y0 x1 y1 := by
  unfold marksL wdTo wdOf
  have : (fun q : MkP => frIn x0 y0 x1 y1 q.f) = frIn x0 y0 x1 y1 ∘ (·.f) := rfl
  rw [this, ← List.filter_map, List.map_flatMap]
  congr 2
  funext s
  unfold mkRow wdRow
  rw [List.map_map]; rfl
section
variable {a b : WinP} {n p r c x0 y0 x1 y1 : Int} {dd : Bool}
theorem marks_mem {q : MkP} : q ∈ marksL a b n dd p r c x0 y0 x1 y1 ↔ ∃ (s : St) (m : Nat), s ∈ coreL a b n ∧ litB dd p r c s = true ∧ (m : Int) < n ∧ q = ⟨s.K, m, wdFr a b s m⟩ ∧ frIn x0 y0 x1 y1 q.f = true := by
  unfold marksL mkRow
  simp only [List.mem_filter, List.mem_flatMap, List.mem_map, List.mem_range]
  constructor
  · rintro ⟨⟨s, ⟨h1, h2⟩, m, h3, rfl⟩, h4⟩; exact ⟨s, m, h1, h2, by omega, rfl, h4⟩
  · rintro ⟨s, m, h1, h2, h3, rfl, h4⟩; exact ⟨⟨s, ⟨h1, h2⟩, m, by omega, rfl⟩, h4⟩
theorem marks_rise : (marksL a b n dd p r c x0 y0 x1 y1).Pairwise MkP.lt := by
  unfold marksL
  refine List.Pairwise.filter _ ?_
  rw [List.pairwise_flatMap]
  refine ⟨fun s _ => ?_, ((core_rise a b n).filter _).imp fun {s t} h f hf g hg => ?_⟩
  · unfold mkRow
    rw [List.pairwise_map]
    exact List.pairwise_lt_range.imp fun {i j} h => .inr ⟨rfl, by simp only; omega⟩
  · unfold mkRow at hf hg
    obtain ⟨i, -, rfl⟩ := List.mem_map.1 hf
    obtain ⟨j, -, rfl⟩ := List.mem_map.1 hg
    exact .inl h
def srcX (a b : WinP) (x m : Int) : Int := if turnP a.x a.y b.x b.y then x - m else x
def srcY (a b : WinP) (y m : Int) : Int := if turnP a.x a.y b.x b.y then y else y - m
def cex (a b : WinP) (n x y : Int) : Prop := exP (corX a b n a.x) (corY a b n a.y) (corX a b n b.x) (corY a b n b.y) x y
def cidx (a b : WinP) (n x y : Int) : Int := idxP (corX a b n a.x) (corY a b n a.y) (corX a b n b.x) (corY a b n b.y) x y
theorem core_mem (s : St) : s ∈ coreL a b n ↔ cex a b n s.X s.Y ∧ s.K = cidx a b n s.X s.Y := by
  by_cases hz : corX a b n a.x = corX a b n b.x ∧ corY a b n a.y = corY a b n b.y
  · have : coreL a b n = [] := by unfold coreL; rw [hz.1, hz.2, lineL_self]
    rw [this]
    constructor
    · intro h; cases h
    · rintro ⟨h, -⟩
      unfold cex at h
      rw [hz.1, hz.2] at h
      exact absurd h (exP_same _ _ _ _)
  · exact mem_line _ _ _ _ hz s
def mkAt (a b : WinP) (n x y m : Int) : MkP := ⟨cidx a b n (srcX a b x m) (srcY a b y m), m, ⟨x, y, (alV a b (srcX a b x m) (srcY a b y m)).1, (alV a b (srcX a b x m) (srcY a b y m)).2.1, (alV a b (srcX a b x m) (srcY a b y m)).2.2.1, (alV a b (srcX a b x m) (srcY a b y m)).2.2.2.1, (alV a b (srcX a b x m) (srcY a b y m)).2.2.2.2, 64⟩⟩
theorem mark_at {q : MkP} {x y : Int} {m : Nat} (hm : (m : Int) < n) (hx : x0 ≤ x ∧ x < x1) (hy : y0 ≤ y ∧ y < y1) :
    (q ∈ marksL a b n dd p r c x0 y0 x1 y1 ∧ q.f.x = x ∧ q.f.y = y ∧ q.m = m) ↔ (cex a b n (srcX a b x m) (srcY a b y m) ∧ litB dd p r c ⟨cidx a b n (srcX a b x m) (srcY a b y m), srcX a b x m, srcY a b y m⟩ = true ∧ q = mkAt a b n x y m) := by
  rw [marks_mem]
  constructor
  · rintro ⟨⟨s, j, h1, h2, h3, rfl, h4⟩, e1, e2, e3⟩
    simp only at e1 e2 e3
    obtain rfl : j = m := by omega
    have k1 : s.X = srcX a b x j ∧ s.Y = srcY a b y j := by
      unfold wdFr at e1 e2
      unfold srcX srcY
      by_cases t : turnP a.x a.y b.x b.y
      · simp only [if_pos t] at e1 e2 ⊢; omega
      · simp only [if_neg t] at e1 e2 ⊢; omega
    obtain ⟨c1, c2⟩ := (core_mem s).1 h1
    rw [k1.1, k1.2] at c1 c2
    refine ⟨c1, ?_, ?_⟩
    · rw [← c2, ← k1.1, ← k1.2]; exact h2
    · unfold mkAt
      rw [← c2, ← k1.1, ← k1.2]
      have : wdFr a b s j = ⟨(wdFr a b s j).x, (wdFr a b s j).y, (alV a b s.X s.Y).1, (alV a b s.X s.Y).2.1, (alV a b s.X s.Y).2.2.1, (alV a b s.X s.Y).2.2.2.1, (alV a b s.X s.Y).2.2.2.2, 64⟩ := rfl
      rw [this, e1, e2]
  · rintro ⟨h1, h2, rfl⟩
    refine ⟨⟨⟨cidx a b n (srcX a b x m) (srcY a b y m), srcX a b x m, srcY a b y m⟩, m, (core_mem _).2 ⟨h1, rfl⟩, h2, hm, ?_, ?_⟩, rfl, rfl, rfl⟩
    · generalize hs : (⟨cidx a b n (srcX a b x m) (srcY a b y m), srcX a b x m, srcY a b y m⟩ : St) = s
      have e0 : s.X = srcX a b x m ∧ s.Y = srcY a b y m ∧ s.K = cidx a b n (srcX a b x m) (srcY a b y m) := by rw [← hs]; exact ⟨rfl, rfl, rfl⟩
      have e1 : (wdFr a b s m).x = x := by
        unfold wdFr
        rw [e0.1]
        unfold srcX
        by_cases t : turnP a.x a.y b.x b.y
        · simp only [if_pos t]; omega
        · simp only [if_neg t]
      have e2 : (wdFr a b s m).y = y := by
        unfold wdFr
        rw [e0.2.1]
        unfold srcY
        by_cases t : turnP a.x a.y b.x b.y
        · simp only [if_pos t]
        · simp only [if_neg t]; omega
      have e3 : wdFr a b s m = ⟨(wdFr a b s m).x, (wdFr a b s m).y, (alV a b s.X s.Y).1, (alV a b s.X s.Y).2.1, (alV a b s.X s.Y).2.2.1, (alV a b s.X s.Y).2.2.2.1, (alV a b s.X s.Y).2.2.2.2, 64⟩ := rfl
      rw [e3, e1, e2, e0.1, e0.2.1, e0.2.2]
      rfl
    · rw [frIn_iff]; unfold mkAt; simp only; omega
def donB (x y m : Int) (q : MkP) : Bool := decide (q.f.x < x ∨ q.f.x = x ∧ (q.f.y < y ∨ q.f.y = y ∧ q.m < m))
def donL (a b : WinP) (n : Int) (dd : Bool) (p r c x0 y0 x1 y1 x y m : Int) : List MkP := (marksL a b n dd p r c x0 y0 x1 y1).filter (donB x y m)
theorem marks_bd {q : MkP} (h : q ∈ marksL a b n dd p r c x0 y0 x1 y1) : (x0 ≤ q.f.x ∧ q.f.x < x1) ∧ (y0 ≤ q.f.y ∧ q.f.y < y1) ∧ 0 ≤ q.m ∧ q.m < n := by
  obtain ⟨s, m, -, -, h3, rfl, h4⟩ := marks_mem.1 h
  have := frIn_iff.1 h4
  simp only at this ⊢
  omega
theorem don_start : donL a b n dd p r c x0 y0 x1 y1 x0 y0 0 = [] := by
  unfold donL
  rw [List.filter_eq_nil_iff]
  intro q hq
  have := marks_bd hq
  unfold donB
  rw [decide_eq_true_eq]
  omega
theorem don_end : donL a b n dd p r c x0 y0 x1 y1 x1 y0 0 = marksL a b n dd p r c x0 y0 x1 y1 := by
  unfold donL
  rw [List.filter_eq_self]
  intro q hq
  have := marks_bd hq
  unfold donB
  rw [decide_eq_true_eq]
  omega
theorem don_y {x y : Int} : donL a b n dd p r c x0 y0 x1 y1 x (y + 1) 0 = donL a b n dd p r c x0 y0 x1 y1 x y n := by
  unfold donL
  refine List.filter_congr fun q hq => decide_eq_decide.2 ?_
  have := marks_bd hq
  omega
theorem don_x {x : Int} : donL a b n dd p r c x0 y0 x1 y1 (x + 1) y0 0 = donL a b n dd p r c x0 y0 x1 y1 x y1 0 := by
  unfold donL
  refine List.filter_congr fun q hq => decide_eq_decide.2 ?_
  have := marks_bd hq
  omega
theorem don_skip {x y : Int} {m : Nat} (hm : (m : Int) < n) (hx : x0 ≤ x ∧ x < x1) (hy : y0 ≤ y ∧ y < y1) (h : ¬ (cex a b n (srcX a b x m) (srcY a b y m) ∧ litB dd p r c ⟨cidx a b n (srcX a b x m) (srcY a b y m), srcX a b x m, srcY a b y m⟩ = true)) :
    donL a b n dd p r c x0 y0 x1 y1 x y (m + 1) = donL a b n dd p r c x0 y0 x1 y1 x y m := by
  unfold donL
  refine List.filter_congr fun q hq => decide_eq_decide.2 ?_
  have : ¬ (q.f.x = x ∧ q.f.y = y ∧ q.m = m) := fun k => by
    obtain ⟨k1, k2, k3⟩ := k
    obtain ⟨c1, c2, -⟩ := (mark_at hm hx hy).1 ⟨hq, k1, k2, k3⟩
    exact h ⟨c1, c2⟩
  omega
theorem don_put {x y : Int} {m : Nat} (hm : (m : Int) < n) (hx : x0 ≤ x ∧ x < x1) (hy : y0 ≤ y ∧ y < y1) (h : cex a b n (srcX a b x m) (srcY a b y m)) (h' : litB dd p r c ⟨cidx a b n (srcX a b x m) (srcY a b y m), srcX a b x m, srcY a b y m⟩ = true)
    (j : Nat) (hj : j ≤ (donL a b n dd p r c x0 y0 x1 y1 x y m).length) (h1 : ∀ i q, i < j → (donL a b n dd p r c x0 y0 x1 y1 x y m)[i]? = some q → q.lt (mkAt a b n x y m)) (h2 : ∀ q, (donL a b n dd p r c x0 y0 x1 y1 x y m)[j]? = some q → ¬ q.lt (mkAt a b n x y m)) :
    donL a b n dd p r c x0 y0 x1 y1 x y (m + 1) = putM (donL a b n dd p r c x0 y0 x1 y1 x y m) j (mkAt a b n x y m) := by
  have hs := (mark_at (q := mkAt a b n x y m) hm hx hy).2 ⟨h, h', rfl⟩
  refine filter_put marks_rise (donB x y m) (donB x y (m + 1)) _ hs.1 ?_ (fun q hq => ?_) j hj h1 h2
  · unfold donB mkAt; simp
  · unfold donB
    rw [decide_eq_true_eq, decide_eq_true_eq]
    constructor
    · intro k
      by_cases e : q.f.x = x ∧ q.f.y = y ∧ q.m = m
      · exact .inr ((mark_at hm hx hy).1 ⟨hq, e.1, e.2.1, e.2.2⟩).2.2
      · exact .inl (by omega)
    · rintro (k | rfl)
      · omega
      · obtain ⟨-, e1, e2, e3⟩ := hs
        omega
theorem don_len {x y m : Int} : (donL a b n dd p r c x0 y0 x1 y1 x y m).length ≤ (wdTo a b n dd p r c x0 y0 x1 y1).length := by
  rw [← marks_map, List.length_map]
  exact List.length_filter_le _ _
end
end Go.Proofs.YtbkmgngeahmefaaGreat
end
section
namespace Go.Proofs.YtbkmgngeahmefaaGreat
open Go.RowKit
abbrev MkP.cells (s : MkP) : List Value := [.int .i64 s.k, .int .i64 s.m, .int .i64 s.f.x, .int .i64 s.f.y, .int .i64 s.f.z, .int .i64 s.f.c0, .int .i64 s.f.c1, .int .i64 s.f.c2, .int .i64 s.f.c3, .int .i64 s.f.cov]
abbrev MkP.v (s : MkP) : Value := .agg #[.int .i64 s.k, .int .i64 s.m, .int .i64 s.f.x, .int .i64 s.f.y, .int .i64 s.f.z, .int .i64 s.f.c0, .int .i64 s.f.c1, .int .i64 s.f.c2, .int .i64 s.f.c3, .int .i64 s.f.cov]
def mkK : RecK MkP := ⟨10, MkP.cells, fun _ => rfl, by decide, fun a u hu => by simp at hu; rcases hu with rfl | rfl | rfl | rfl | rfl | rfl | rfl | rfl | rfl | rfl <;> rfl⟩
theorem info_mk : (Tryz.prog.info? 172).map (fun i => (i.zero, i.size, i.bytes)) = some (some (.agg #[.int .i64 0, .int .i64 0, .int .i64 0, .int .i64 0, .int .i64 0, .int .i64 0, .int .i64 0, .int .i64 0, .int .i64 0, .int .i64 0]), 10, 80) := by kernel_rfl
section
variable {α : Type} {K : RecK α}
theorem own_takeK {w : World} {base n cap g j : Nat} {e : TypeId} {xs : List Value} {s : Nat} (h : w.ownsRow base e s (.slice (some ⟨g, 0, none⟩) n cap) n xs) (hj : j ≤ n) : w.ownsRow base e s (.slice (some ⟨g, 0, none⟩) j cap) j (xs.take (j * s)) := by
  obtain ⟨h1, h2⟩ := h
  rcases h2 with ⟨h2, _⟩ | ⟨g', cap', cur, e1, hb, hg, h3, h4, h5, h6⟩
  · cases h2
  · injection e1 with e1 _ e2
    injection e1 with e1
    injection e1 with e1 _ _
    subst e1 e2
    have hjs : j * s ≤ n * s := Nat.mul_le_mul_right _ hj
    refine ⟨by rw [List.length_take, h1]; omega, .inr ⟨g, cap, cur, rfl, hb, hg, by omega, h4, h5, ?_⟩⟩
    rw [← h6, List.take_take, Nat.min_eq_left hjs]
theorem own_emptyK {w : World} {n base s : Nat} {T : TypeId} (h : w.heap.size = n) (hb : base ≤ n) : (w.alloc (.cells #[] T)).ownsRow base T s (.slice (some ⟨n, 0, none⟩) 0 0) 0 [] :=
  ⟨by simp, .inr ⟨n, 0, #[], rfl, hb, by subst h; rw [World.hp_alloc, Array.getElem?_push, if_pos rfl], Nat.le_refl _, by simp [maxLen], by simp, by simp⟩⟩
theorem flat_take (K : RecK α) (L : List α) (j : Nat) : (L.flatMap K.cells).take (j * K.k) = (L.take j).flatMap K.cells := by
  induction j generalizing L with
  | zero => simp
  | succ j ih =>
    cases L with
    | nil => simp
    | cons a L =>
      rw [List.flatMap_cons, List.take_succ_cons, List.flatMap_cons, Nat.succ_mul, show j * K.k + K.k = (K.cells a).length + j * K.k by rw [K.len]; omega, List.take_length_add_append, ih]
theorem flat_drop (K : RecK α) (L : List α) (j : Nat) : (L.flatMap K.cells).drop (j * K.k) = (L.drop j).flatMap K.cells := by
  induction j generalizing L with
  | zero => simp
  | succ j ih =>
    cases L with
    | nil => simp
    | cons a L =>
      rw [List.flatMap_cons, List.drop_succ_cons, Nat.succ_mul, show j * K.k + K.k = (K.cells a).length + j * K.k by rw [K.len]; omega, List.drop_length_add_append, ih]
theorem own_newsK {w : World} {base n g cap j : Nat} {T : TypeId} {L : List α} (h : w.ownsRow base T K.k (.slice (some ⟨g, 0, none⟩) n cap) n (L.flatMap K.cells)) :
    ∀ i u, ((L.drop j).flatMap K.cells)[i]? = some u → w.cell? ((⟨g, j * K.k, none⟩ : Addr).add i) = some u := by
  intro i u hu
  rw [← flat_drop, List.getElem?_drop] at hu
  have := h.cells (g := g) rfl (j * K.k + i) u hu
  rw [addr_addR] at this ⊢
  rw [Nat.zero_add] at this
  exact this
theorem Hold.both {w wr w0 w1 w2 : World} {E : TypeId} {R : List (Nat × Array Value × TypeId)} {v v0 v1 v2 : Value} {L L' : List α} {k1 : Nat} {xs1 : List Value} (h : Hold K w wr E R v L) (hB : Below wr.heap.size wr w0)
    (h0 : v0.ownBlock = v.ownBlock ∨ v0.ownBlock = none) (hg1 : w0.grownBy w1 v0.ownBlock) (hown1 : w1.ownsRow w.heap.size E K.k v1 k1 xs1) (hg2 : w1.grownBy w2 v1.ownBlock)
    (hown : w2.ownsRow w.heap.size E K.k v2 L'.length (L'.flatMap K.cells)) : Hold K w w2 E R v2 L' := by
  have h' := h.grown hB
  refine ⟨fun r hr => ?_, h.far, hown, ?_⟩
  · have r0 := h'.rows r hr
    have nn : some r.1 ≠ v0.ownBlock := by
      rcases h0 with e | e
      · rw [e]; exact row_apart r0 (h.far r hr) h'.own
      · rw [e]; simp
    have r1 := r0.keptR hg1 nn
    exact r1.keptR hg2 (row_apart r1 (h.far r hr) hown1)
  · have b1 : Below w.heap.size w w1 := Below.grown h'.below hg1 h'.size fun b hb => by
      rcases h0 with e | e
      · rw [e] at hb; exact (h'.own.lt b hb).1
      · rw [e] at hb; cases hb
    exact RowKit.Below.toExt (Below.grown b1 hg2 b1.size fun b hb => (hown1.lt b hb).1)
end
theorem Hold.putM {w wr w0 w1 w2 : World} {E : TypeId} {R : List (Nat × Array Value × TypeId)} {v v0 v1 v2 : Value} {L : List MkP} {j : Nat} {s : MkP} (h : Hold mkK w wr E R v L) (hj : j ≤ L.length) (hB : Below wr.heap.size wr w0)
    (h0 : v0.ownBlock = v.ownBlock ∨ v0.ownBlock = none) (hg1 : w0.grownBy w1 v0.ownBlock) (hown1 : w1.ownsRow w.heap.size E 10 v1 (j + 1) ((L.take j).flatMap MkP.cells ++ MkP.cells s)) (hg2 : w1.grownBy w2 v1.ownBlock)
    (hown : w2.ownsRow w.heap.size E 10 v2 (j + 1 + (L.length - j)) ((L.take j).flatMap MkP.cells ++ MkP.cells s ++ (L.drop j).flatMap MkP.cells)) : Hold mkK w w2 E R v2 (putM L j s) := by
  refine h.both hB h0 hg1 hown1 hg2 ?_
  have e1 : (Go.Proofs.YtbkmgngeahmefaaGreat.putM L j s).length = j + 1 + (L.length - j) := by
    unfold Go.Proofs.YtbkmgngeahmefaaGreat.putM; rw [List.length_append, List.length_take, List.length_cons, List.length_drop]; omega
  have e2 : (Go.Proofs.YtbkmgngeahmefaaGreat.putM L j s).flatMap MkP.cells = (L.take j).flatMap MkP.cells ++ MkP.cells s ++ (L.drop j).flatMap MkP.cells := by
    unfold Go.Proofs.YtbkmgngeahmefaaGreat.putM; rw [List.flatMap_append, List.flatMap_cons, List.append_assoc]
  show w2.ownsRow w.heap.size E 10 v2 (Go.Proofs.YtbkmgngeahmefaaGreat.putM L j s).length ((Go.Proofs.YtbkmgngeahmefaaGreat.putM L j s).flatMap MkP.cells)
  rw [e1, e2]; exact hown
theorem news_keptK {w0 w1 : World} {X : Xt} {d : Nat} {o : Obj} {gb : Nat} {row : Option Nat} {news : List Value} (hc : ∀ i u, news[i]? = some u → (w0.ext X).cell? ((⟨gb, 0, none⟩ : Addr).add i) = some u) (hb : gb < (w0.ext X).heap.size) (hg : ((w0.ext ⟨X.objs, d⟩).alloc o).grownBy w1 row) (hr : some gb ≠ row) :
    ∀ i u, news[i]? = some u → w1.cell? ((⟨gb, 0, none⟩ : Addr).add i) = some u := by
  intro i u hu
  have c := hc i u hu
  have hb : gb < (w0.ext ⟨X.objs, d⟩).heap.size := hb
  have c : (w0.ext ⟨X.objs, d⟩).cell? ((⟨gb, 0, none⟩ : Addr).add i) = some u := c
  rw [addr_addR] at c ⊢
  rw [hg.cell_far _ (by rw [World.hp_alloc, Array.size_push]; exact Nat.lt_succ_of_lt hb) hr, (Chg.refl (p := fun _ => False) |>.alloc o).cell hb (fun h => h)]
  exact c
theorem own_recsM {w : World} {base : Nat} {T : TypeId} {a : Option Addr} {cap : Nat} {L : List MkP} (h : w.ownsRow base T 10 (.slice a L.length cap) L.length (L.flatMap MkP.cells)) (j : Nat) (s : MkP) (hs : L[j]? = some s) :
    ∃ b, a = some ⟨b, 0, none⟩ ∧ b < w.heap.size ∧ w.cell? ⟨b, j * 10, none⟩ = some (.int .i64 s.k) ∧ w.cell? ⟨b, j * 10 + 1, none⟩ = some (.int .i64 s.m) := by
  rcases h.2 with ⟨e, e'⟩ | ⟨g, cap', cur, e, hb, hg, -⟩
  · have : L = [] := List.length_eq_zero_iff.1 e'
    subst this; simp at hs
  · injection e with e1 _ e2
    subst e1 e2
    have k0 := h.cells (g := g) rfl (j * 10 + 0) (.int .i64 s.k) (mkK.flat_at L j s 0 _ hs rfl)
    have k1 := h.cells (g := g) rfl (j * 10 + 1) (.int .i64 s.m) (mkK.flat_at L j s 1 _ hs rfl)
    rw [addr_addR, Nat.zero_add] at k0 k1
    exact ⟨g, rfl, (Array.getElem?_eq_some_iff.1 hg).1, k0, k1⟩
end Go.Proofs.YtbkmgngeahmefaaGreat
end
section
namespace Go.Proofs.YtbkmgngeahmefaaGreat
open Go.RowKit
def Intos (w0 w : World) (R : List (Nat × Array Value × TypeId)) (L : List MkP) (x : MkP) (e : Ending) (w' : World) : Prop :=
  ∃ v' j, e = .returned v' ∧ j ≤ L.length ∧ (∀ i q, i < j → L[i]? = some q → q.lt x) ∧ (∀ q, L[j]? = some q → ¬ q.lt x) ∧ Hold mkK w0 w' 172 R v' (putM L j x)
set_option maxRecDepth 100000 in
set_option maxHeartbeats 16000000 in
theorem into_any (x : MkP) (w0 w : World) (R : List (Nat × Array Value × TypeId)) (v : Value) (L : List MkP) (hH : Hold mkK w0 w 172 R v L) (lL : L.length ≤ 134217728) : Calls Tryz.prog 128 #[v, x.v] w (Intos w0 w R L x) := by
  have H0 := Lib.hid hH
  have hO := Lib.hid (fun g (h : v.ownBlock = some g) => (hH.own.lt g h).2)
  obtain ⟨i0, hii, hi0, hi1, hi2⟩ := info_parts info_mk
  obtain ⟨a, cap, rfl⟩ := own_slice hH.own
  obtain ⟨xk, xm, fx, fy, fz, c0, c1, c2, c3, cov⟩ := x
  have hsz := hH.size
  clear hH
  go_enter Tryz.func128, Tryz.ntmps128
  go_upto_region 1 with fail
  refine wp_abs (F := fun w2 => Row w2 w.heap.size #[.int .i64 xk, .int .i64 xm, .int .i64 fx, .int .i64 fy, .int .i64 fz, .int .i64 c0, .int .i64 c1, .int .i64 c2, .int .i64 c3, .int .i64 cov] 172 ∧ Hold mkK w0 w2 172 R (.slice a L.length cap) L) ⟨by exact rx_, H0.out.grown (by exact bl_)⟩ ?_
  rintro w2 ⟨rs, h2⟩
  have HR2 := Lib.hid h2
  have cs := rs.cell
  have fs := rs.frozen
  have ls := rs.lt
  have hsz2 := h2.size
  have rD : w2.rowD w.heap.size = #[.int .i64 xk, .int .i64 xm, .int .i64 fx, .int .i64 fy, .int .i64 fz, .int .i64 c0, .int .i64 c1, .int .i64 c2, .int .i64 c3, .int .i64 cov] := World.rowD_of rs
  clear rs h2
  go_upto_block 0 with fail
  go_cut [5] (fun t5 wx => ∃ j : Nat, t5 = .int .i64 j ∧ j ≤ L.length ∧ Hid (∀ i (q : MkP), i < j → L[i]? = some q → q.lt ⟨xk, xm, ⟨fx, fy, fz, c0, c1, c2, c3, cov⟩⟩) ∧ Hid (∀ q : MkP, L[j]? = some q → ¬ q.lt ⟨xk, xm, ⟨fx, fy, fz, c0, c1, c2, c3, cov⟩⟩) ∧ ∃ X, wx = w2.ext X)
  case first =>
    go_wp2
    go_loopw [5] (fun i wq => ∃ (j : Nat), j ≤ L.length ∧ i = .int .i64 j ∧ Hid (∀ i (q : MkP), i < j → L[i]? = some q → q.lt ⟨xk, xm, ⟨fx, fy, fz, c0, c1, c2, c3, cov⟩⟩) ∧ ∃ X, wq = w2.ext X)
      (fun i _ => L.length - (intOf i).toNat)
    case atStart => exact ⟨0, by omega, rfl, Lib.hid (fun i q h => by omega), _, ext_self _⟩
    case round =>
      obtain ⟨j, hj, rfl, hjK, X, rfl⟩ := hrel
      by_cases hlj : j < L.length
      · obtain ⟨s, hs⟩ : ∃ s, L[j]? = some s := ⟨L[j], by simp [hlj]⟩
        obtain ⟨b, e1, hb, g0, g1⟩ := own_recsM HR2.out.own j s hs
        subst e1
        have hb' : b ≤ w2.heap.size := by omega
        have hlj' : (j : Int) < L.length := by omega
        have HS := Lib.hid hs
        clear hs
        by_cases hk : s.k < xk
        · have HK := Lib.hid hk
          go_wp2
          refine wp_region_ext (by kernel_rfl) (by kernel_rfl) ?_
          repeat (go_big_quiet_step ((fail)))
          refine wpQuiet_nil ?_
          intro _ hw_ext
          obtain ⟨Y, hw_ext⟩ := hw_ext
          subst hw_ext
          go_wp2
          go_roundw
          case rel => exact ⟨j + 1, by omega, by go_num, Lib.hid (fun i s' h1 h2 => by
            by_cases e : i = j
            · subst e; rw [HS.out] at h2; injection h2 with h2; subst h2; exact .inl HK.out
            · exact hjK.out i s' (by omega) h2), RowKit.Below.toExt (by exact br_)⟩
          case measure => simp [intOf]; omega
        · have z1 : decide (s.k < xk) = false := by simp; omega
          by_cases he : s.k = xk
          · have z2 : (s.k == xk) = true := by simp [he]
            by_cases hm : s.m < xm
            · have HK := Lib.hid (And.intro he hm)
              clear hk he
              go_wp2
              refine wp_region_ext (by kernel_rfl) (by kernel_rfl) ?_
              repeat (go_big_quiet_step ((fail)))
              refine wpQuiet_nil ?_
              intro _ hw_ext
              obtain ⟨Y, hw_ext⟩ := hw_ext
              subst hw_ext
              go_wp2
              go_roundw
              case rel => exact ⟨j + 1, by omega, by go_num, Lib.hid (fun i s' h1 h2 => by
                by_cases e : i = j
                · subst e; rw [HS.out] at h2; injection h2 with h2; subst h2; exact .inr HK.out
                · exact hjK.out i s' (by omega) h2), RowKit.Below.toExt (by exact br_)⟩
              case measure => simp [intOf]; omega
            · have z3 : decide (s.m < xm) = false := by simp; omega
              have HK := Lib.hid (show ¬ s.lt ⟨xk, xm, ⟨fx, fy, fz, c0, c1, c2, c3, cov⟩⟩ by unfold MkP.lt; simp only; omega)
              clear hk he hm
              go_wp2
              refine wp_region_ext (by kernel_rfl) (by kernel_rfl) ?_
              repeat (go_big_quiet_step ((fail)))
              refine wpQuiet_nil ?_
              intro _ hw_ext
              obtain ⟨Y, hw_ext⟩ := hw_ext
              subst hw_ext
              go_wp2
              go_meet
              exact ⟨j, rfl, by omega, hjK, Lib.hid (fun s' h2 => by rw [HS.out] at h2; injection h2 with h2; subst h2; exact HK.out), RowKit.Below.toExt (by exact br_)⟩
          · have z2 : (s.k == xk) = false := by simp [he]
            have HK := Lib.hid (show ¬ s.lt ⟨xk, xm, ⟨fx, fy, fz, c0, c1, c2, c3, cov⟩⟩ by unfold MkP.lt; simp only; omega)
            clear hk he
            go_wp2
            refine wp_region_ext (by kernel_rfl) (by kernel_rfl) ?_
            repeat (go_big_quiet_step ((fail)))
            refine wpQuiet_nil ?_
            intro _ hw_ext
            obtain ⟨Y, hw_ext⟩ := hw_ext
            subst hw_ext
            go_wp2
            go_meet
            exact ⟨j, rfl, by omega, hjK, Lib.hid (fun s' h2 => by rw [HS.out] at h2; injection h2 with h2; subst h2; exact HK.out), RowKit.Below.toExt (by exact br_)⟩
      · have hp2 : decide (j < L.length) = false := by simp; omega
        have hp3 : decide ((j : Int) < (L.length : Int)) = false := by simp; omega
        go_wp2
        refine wp_region_ext (by kernel_rfl) (by kernel_rfl) ?_
        repeat (go_big_quiet_step ((fail)))
        refine wpQuiet_nil ?_
        intro _ hw_ext
        obtain ⟨Y, hw_ext⟩ := hw_ext
        subst hw_ext
        go_wp2
        go_meet
        exact ⟨j, rfl, by omega, hjK, Lib.hid (fun s' h2 => by have := (List.getElem?_eq_some_iff.1 h2).1; omega), RowKit.Below.toExt (by exact br_)⟩
  case rest =>
    obtain ⟨j, rfl, hj, hjK, hjL, X3, rfl⟩ := hcut
    go_upto_region 4 with fail
    go_cut [6] (fun t14 wx => ∃ gb c, t14 = .slice (some ⟨gb, 0, none⟩) (L.length - j) c ∧ Hid (∀ i u, ((L.drop j).flatMap MkP.cells)[i]? = some u → wx.cell? ((⟨gb, 0, none⟩ : Addr).add i) = some u) ∧ Hid (w2.heap.size ≤ gb ∧ gb < wx.heap.size) ∧ ∃ X, wx = w2.ext X)
    case first =>
      rcases HR2.out.own.2 with ⟨hv, hL0⟩ | ⟨g, cap', cur, hv, hbg, hg, hnc, -, -, -⟩
      · injection hv with e1 _ e2
        subst e1 e2
        obtain rfl : L = [] := List.eq_nil_of_length_eq_zero hL0
        obtain rfl : j = 0 := by simpa using hj
        go_wp2
        go_meet
        exact ⟨_, _, rfl, Lib.hid (fun i u h => by simp at h), Lib.hid (by first | (simp; done) | (simp; omega)), RowKit.Below.toExt (by exact br_)⟩
      · injection hv with e1 _ e2
        subst e1 e2
        by_cases hjc : cap = j
        · subst hjc
          have e0 : L.length - cap = 0 := by omega
          have e1 : cap = L.length := by omega
          have e2 : L.drop cap = [] := by rw [e1]; exact List.drop_length
          have E1 := Lib.hid e1
          have E2 := Lib.hid e2
          clear e1 e2
          go_wp2
          go_meet
          exact ⟨_, _, by first | rfl | rw [e0] | simp [e0], Lib.hid (fun i u h => by rw [E2.out] at h; simp at h), Lib.hid (by first | (simp; done) | (simp; omega)), RowKit.Below.toExt (by exact br_)⟩
        · have hOw := own_extR HR2.out.own X3
          have HOw := Lib.hid hOw
          clear hOw hg
          go_wp2_with (first
            | (at_builtin; refine wpList_append_own _ rfl (.tmp 43) (.tmp 46) 167 rfl w2.heap.size 172 i0 (.agg #[.int .i64 0, .int .i64 0, .int .i64 0, .int .i64 0, .int .i64 0, .int .i64 0, .int .i64 0, .int .i64 0, .int .i64 0, .int .i64 0]) 10 80 Tryz.underlying167 hii hi0 hi1 hi2 rfl (by decide) (.slice (some ⟨w2.heap.size + X3.sz, 0, none⟩) 0 0) 0 [] rfl (own_emptyK (by simp) (by omega)) ⟨g, j * 10, none⟩ (L.length - j) (cap - j) ((L.drop j).flatMap MkP.cells) rfl ((mkK.flat_len _).trans (by rw [List.length_drop]; rfl)) (own_newsK (K := mkK) (HOw.out.alloc _)) (mkK.flat_one _) (by simp only [maxLen]; omega) (by omega) (by simp; omega) ?_; intro v' w5 hown hgrow hiff))
          go_meet
          obtain ⟨g', cap', cur', rfl, hb', hg', -, -, -, -⟩ : ∃ g' cap' cur', v' = .slice (some ⟨g', 0, none⟩) (0 + (L.length - j)) cap' ∧ w2.heap.size ≤ g' ∧ w5.heap[g']? = some (.cells cur' 172 (0, 0)) ∧ True ∧ True ∧ True ∧ True := by
            rcases hown.2 with ⟨e, e'⟩ | ⟨g', cap', cur', e, hb', hg', -⟩
            · cases (hiff.1 e).1
            · exact ⟨g', cap', cur', e, hb', hg', trivial, trivial, trivial, trivial⟩
          refine ⟨g', cap', by rw [Nat.zero_add], Lib.hid fun i u h => hown.cells (g := g') rfl i u h, Lib.hid ⟨hb', (Array.getElem?_eq_some_iff.1 hg').1⟩, ?_⟩
          refine RowKit.Below.toExt ?_
          refine Below.grown (w := (w2.ext X3).alloc (.cells #[] 172)) (by exact br_) hgrow (by simp; omega) ?_
          intro b hb
          have : w2.heap.size + X3.sz = b := by simpa [Value.ownBlock] using hb
          omega
    case rest =>
      obtain ⟨gb, c14, rfl, hcl, hab, X4, rfl⟩ := hcut
      go_upto_region 5 with fail
      rcases HR2.out.own.2 with ⟨hv, hL0⟩ | ⟨g, cap', cur, hv, hbg, hg, hnc, -, -, -⟩
      · injection hv with e1 e3 e2
        subst e1 e2
        obtain rfl : j = 0 := by omega
        clear hL0 e3
        go_region_law (first
          | (refine step_append_any _ rfl (.tmp 50) (.tmp 52) 167 rfl w0.heap.size 172 i0 (.agg #[.int .i64 0, .int .i64 0, .int .i64 0, .int .i64 0, .int .i64 0, .int .i64 0, .int .i64 0, .int .i64 0, .int .i64 0, .int .i64 0]) 10 80 Tryz.underlying167 hii hi0 hi1 hi2 rfl (by decide) (.slice none 0 0) 0 ((L.take 0).flatMap MkP.cells) rfl ?_ ⟨w2.heap.size + X4.sz, 0, none⟩ 1 1 (MkP.cells ⟨xk, xm, ⟨fx, fy, fz, c0, c1, c2, c3, cov⟩⟩) rfl rfl ?_ ?_ (by simp only [maxLen]; omega) (by omega) ?_ ?_
             · exact World.ownsRow.alloc (World.ownsRow_nil _ _ _ _) _
             · exact cells_newR (by first | rfl | (simp; done) | (simp; rfl)) _ _
             · exact mkK.one ⟨xk, xm, ⟨fx, fy, fz, c0, c1, c2, c3, cov⟩⟩
             · simp; omega
             intro v1 w6 hown1 hgrow1
             have GR1 := Lib.hid hgrow1
             have OW1 := Lib.hid hown1
             have hz6 := hgrow1.size
             simp at hz6
             clear hgrow1 hown1)
          | (refine step_append_any _ rfl (.tmp 53) (.tmp 54) 167 rfl w0.heap.size 172 i0 (.agg #[.int .i64 0, .int .i64 0, .int .i64 0, .int .i64 0, .int .i64 0, .int .i64 0, .int .i64 0, .int .i64 0, .int .i64 0, .int .i64 0]) 10 80 Tryz.underlying167 hii hi0 hi1 hi2 rfl (by decide) _ (0 + 1) _ rfl OW1.out ⟨gb, 0, none⟩ (L.length - 0) c14 ((L.drop 0).flatMap MkP.cells) rfl ((mkK.flat_len _).trans (by rw [List.length_drop]; rfl)) ?_ (mkK.flat_one _) (by simp only [maxLen]; omega) (by omega) ?_ ?_
             · exact news_keptK hcl.out hab.out.2 GR1.out (by simp [Value.ownBlock])
             · omega
             intro v2 w7 hown2 hgrow2
             have GR2 := Lib.hid hgrow2
             have OW2 := Lib.hid hown2
             clear hgrow2 hown2))
        all_goals go_wp2
        all_goals go_ret
        all_goals exact ⟨_, 0, rfl, Nat.zero_le _, hjK.out, hjL.out, HR2.out.putM (Nat.zero_le _) (by exact br_) (.inr rfl) GR1.out OW1.out GR2.out OW2.out⟩
      · injection hv with e1 _ e2
        subst e1 e2
        have hjc : j ≤ cap := by omega
        have hgs := hO.out g rfl
        clear hg
        have OWN0 := Lib.hid (fun X => show (w2.ext X).ownsRow w0.heap.size 172 10 (.slice (some ⟨g, 0, none⟩) j cap) j ((L.take j).flatMap MkP.cells) by have := own_takeK (own_extR HR2.out.own X) hj; rw [flat_take mkK] at this; exact this)
        by_cases hc0 : cap = 0
        · subst hc0
          have hL0 : L.length = 0 := by omega
          obtain rfl : j = 0 := by omega
          clear hL0 hnc
          go_region_law (first
            | (refine step_append_any _ rfl (.tmp 50) (.tmp 52) 167 rfl w0.heap.size 172 i0 (.agg #[.int .i64 0, .int .i64 0, .int .i64 0, .int .i64 0, .int .i64 0, .int .i64 0, .int .i64 0, .int .i64 0, .int .i64 0, .int .i64 0]) 10 80 Tryz.underlying167 hii hi0 hi1 hi2 rfl (by decide) (.slice (some ⟨g, 0, none⟩) 0 0) 0 ((L.take 0).flatMap MkP.cells) rfl ?_ ⟨w2.heap.size + X4.sz, 0, none⟩ 1 1 (MkP.cells ⟨xk, xm, ⟨fx, fy, fz, c0, c1, c2, c3, cov⟩⟩) rfl rfl ?_ ?_ (by simp only [maxLen]; omega) (by omega) ?_ ?_
               · exact World.ownsRow.alloc (OWN0.out _) _
               · exact cells_newR (by first | rfl | (simp; done) | (simp; rfl)) _ _
               · exact mkK.one ⟨xk, xm, ⟨fx, fy, fz, c0, c1, c2, c3, cov⟩⟩
               · simp; omega
               intro v1 w6 hown1 hgrow1
               have GR1 := Lib.hid hgrow1
               have OW1 := Lib.hid hown1
               have hz6 := hgrow1.size
               simp at hz6
               clear hgrow1 hown1)
            | (refine step_append_any _ rfl (.tmp 53) (.tmp 54) 167 rfl w0.heap.size 172 i0 (.agg #[.int .i64 0, .int .i64 0, .int .i64 0, .int .i64 0, .int .i64 0, .int .i64 0, .int .i64 0, .int .i64 0, .int .i64 0, .int .i64 0]) 10 80 Tryz.underlying167 hii hi0 hi1 hi2 rfl (by decide) _ (0 + 1) _ rfl OW1.out ⟨gb, 0, none⟩ (L.length - 0) c14 ((L.drop 0).flatMap MkP.cells) rfl ((mkK.flat_len _).trans (by rw [List.length_drop]; rfl)) ?_ (mkK.flat_one _) (by simp only [maxLen]; omega) (by omega) ?_ ?_
               · exact news_keptK hcl.out hab.out.2 GR1.out (by have := hab.out.1; simp [Value.ownBlock]; omega)
               · omega
               intro v2 w7 hown2 hgrow2
               have GR2 := Lib.hid hgrow2
               have OW2 := Lib.hid hown2
               clear hgrow2 hown2))
          all_goals go_wp2
          all_goals go_ret
          all_goals exact ⟨_, 0, rfl, Nat.zero_le _, hjK.out, hjL.out, HR2.out.putM (Nat.zero_le _) (by exact br_) (.inl rfl) GR1.out OW1.out GR2.out OW2.out⟩
        have hc1 : 0 < cap := by omega
        clear hnc
        go_region_law (first
          | (refine step_append_any _ rfl (.tmp 50) (.tmp 52) 167 rfl w0.heap.size 172 i0 (.agg #[.int .i64 0, .int .i64 0, .int .i64 0, .int .i64 0, .int .i64 0, .int .i64 0, .int .i64 0, .int .i64 0, .int .i64 0, .int .i64 0]) 10 80 Tryz.underlying167 hii hi0 hi1 hi2 rfl (by decide) (.slice (some ⟨g, 0, none⟩) j cap) j ((L.take j).flatMap MkP.cells) rfl ?_ ⟨w2.heap.size + X4.sz, 0, none⟩ 1 1 (MkP.cells ⟨xk, xm, ⟨fx, fy, fz, c0, c1, c2, c3, cov⟩⟩) rfl rfl ?_ ?_ (by simp only [maxLen]; omega) (by omega) ?_ ?_
             · exact World.ownsRow.alloc (OWN0.out _) _
             · exact cells_newR (by first | rfl | (simp; done) | (simp; rfl)) _ _
             · exact mkK.one ⟨xk, xm, ⟨fx, fy, fz, c0, c1, c2, c3, cov⟩⟩
             · simp; omega
             intro v1 w6 hown1 hgrow1
             have GR1 := Lib.hid hgrow1
             have OW1 := Lib.hid hown1
             have hz6 := hgrow1.size
             simp at hz6
             clear hgrow1 hown1)
          | (refine step_append_any _ rfl (.tmp 53) (.tmp 54) 167 rfl w0.heap.size 172 i0 (.agg #[.int .i64 0, .int .i64 0, .int .i64 0, .int .i64 0, .int .i64 0, .int .i64 0, .int .i64 0, .int .i64 0, .int .i64 0, .int .i64 0]) 10 80 Tryz.underlying167 hii hi0 hi1 hi2 rfl (by decide) _ (j + 1) _ rfl OW1.out ⟨gb, 0, none⟩ (L.length - j) c14 ((L.drop j).flatMap MkP.cells) rfl ((mkK.flat_len _).trans (by rw [List.length_drop]; rfl)) ?_ (mkK.flat_one _) (by simp only [maxLen]; omega) (by omega) ?_ ?_
             · exact news_keptK hcl.out hab.out.2 GR1.out (by have := hab.out.1; simp [Value.ownBlock]; omega)
             · omega
             intro v2 w7 hown2 hgrow2
             have GR2 := Lib.hid hgrow2
             have OW2 := Lib.hid hown2
             clear hgrow2 hown2))
        all_goals go_wp2
        all_goals go_ret
        all_goals exact ⟨_, j, rfl, hj, hjK.out, hjL.out, HR2.out.putM hj (by exact br_) (.inl rfl) GR1.out OW1.out GR2.out OW2.out⟩
end Go.Proofs.YtbkmgngeahmefaaGreat
end
