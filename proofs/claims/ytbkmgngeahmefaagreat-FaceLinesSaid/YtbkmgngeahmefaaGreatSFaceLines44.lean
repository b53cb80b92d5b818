/- Parts of the proof of FaceLines, laid together. Conditions: at each. -/
import Derived.Test.YtbkmgngeahmefaaGreatSFaceLines07
set_option linter.unusedVariables false
set_option linter.unusedSimpArgs false
namespace Go
section
variable {P : Program} {ops : Array Oper} {md : Region.Mode} {C : World → Prop}
def Only (R : Act → World → Prop) : Exit → Act → World → Prop := fun e a w => e = .normal ∧ R a w
theorem only_lets {R : Act → World → Prop} : ¬ LetsOut (Only R) := fun ⟨_, _, h⟩ => by cases h.1
theorem unit_run {s : Sem Unit} {w w' : World} {n : Next} (h : (s >>= fun _ => pure Next.skip : Sem Next).run P w = .ok n w') : n = .skip := by
  rw [Sem.run_bind] at h
  cases hs : s.run P w with
  | ok v w2 => rw [hs] at h; simp [Result.andThen] at h; exact h.1.symm
  | halt x w2 => rw [hs] at h; simp [Result.andThen] at h
def Oper.isStore (o : Oper) : Bool := match o.op with | .store .. => o.dst.isNone && o.guard.isNone | _ => false
def Oper.isExtract (o : Oper) : Bool := match o.op with | .extract .. => o.guard.isNone | _ => false
theorem store_only {s : Oper} (hs : s.isStore = true) {R : Act → World → Prop} {a : Act} {w : World} (h : wpList P ops (Only R) [s] a w) : ∃ w', (execOp a.eval s).run P w = .ok .skip w' ∧ R a w' := by
  obtain ⟨dst, op, type, pos, after, guard⟩ := s
  cases op <;> simp only [Oper.isStore, Bool.false_eq_true, Bool.and_eq_true, Option.isNone_iff_eq_none] at hs
  obtain ⟨rfl, rfl⟩ := hs
  simp only [wpList, Region.wanted, if_true] at h
  rcases h with h | ⟨-, h⟩
  · unfold Oper.wp at h
    cases hr : (execOp a.eval _).run P w with
    | ok n w' =>
      rw [hr] at h
      have : n = .skip := by simp only [execOp] at hr; exact unit_run hr
      subst this
      exact ⟨w', rfl, h.2⟩
    | halt x w' =>
      rw [hr] at h
      cases x <;> simp only [Oper.upon] at h
      cases h.1
  · exact absurd h only_lets
theorem extract_pure {x : Value} {k : Nat} {w w' : World} {v : Value} (h : Oper.quietUpon P C w v ((do pure (Next.value (← Instr.extract x k)) : Sem Next).run P w)) : ((do pure (Next.value (← Instr.extract x k)) : Sem Next).run P w') = .ok (.value v) w' := by
  cases x
  case tuple vs =>
    cases hk : vs[k]? with
    | some u =>
      simp only [Instr.extract, hk, Sem.run_bind, Sem.run_pure, Result.andThen_ok, Oper.quietUpon] at h ⊢
      rw [h.2]
    | none => simp [Instr.extract, hk, stuck, Oper.quietUpon, Sem.run_bind, Result.andThen] at h
  all_goals simp [Instr.extract, stuck, Oper.quietUpon, Sem.run_bind, Result.andThen] at h
theorem extract_any {o : Oper} (ho : o.isExtract = true) {a : Act} {v : Value} {w : World} (hw : C w) (hy : YieldsIn P ops C o v a) (w' : World) : (execOp a.eval o).run P w' = .ok (.value v) w' := by
  obtain ⟨dst, op, type, pos, after, guard⟩ := o
  cases op <;> simp only [Oper.isExtract, Bool.false_eq_true, Option.isNone_iff_eq_none] at ho
  subst ho
  rcases hy with ⟨-, h⟩ | ⟨h, -⟩
  · have := h w hw
    unfold Oper.quietAt at this
    simp only [execOp] at this ⊢
    exact extract_pure this
  · simp [Region.wanted] at h
def floatB (md : Region.Mode) (ops : Array Oper) (n d : Nat) : Bool :=
  decide (ops.size = n + 1) && decide (d < n) && ((List.range n).all fun i => decide (i = d) || Region.waitsFor md ops n i) && ((ops[n]?).map Oper.isStore).getD false && ((ops[d]?).map Oper.isExtract).getD false &&
    (match ops[n]?, ops[d]? with | some s, some o => (match o.dst with | some t => !(s.looksAt ops).contains t | none => false) | _, _ => false)
structure FloatOk (md : Region.Mode) (ops : Array Oper) (n d : Nat) (s o : Oper) : Prop where
  size : ops.size = n + 1
  lt : d < n
  waits : ∀ i, i < n → i ≠ d → Region.waitsFor md ops n i = true
  hs : ops[n]? = some s
  ho : ops[d]? = some o
  st : s.isStore = true
  ex : o.isExtract = true
  apart : ∀ t ∈ s.looksAt ops, o.dst ≠ some t
theorem floatOk_of {n d : Nat} (h : floatB md ops n d = true) : ∃ s o, FloatOk md ops n d s o := by
  simp only [floatB, Bool.and_eq_true, decide_eq_true_eq] at h
  obtain ⟨⟨⟨⟨⟨h1, h2⟩, h3⟩, h4⟩, h5⟩, h6⟩ := h
  cases hs : ops[n]? with
  | none => rw [hs] at h4; cases h4
  | some s =>
    cases ho : ops[d]? with
    | none => rw [ho] at h5; cases h5
    | some o =>
      rw [hs] at h4
      rw [ho] at h5
      rw [hs, ho] at h6
      refine ⟨s, o, h1, h2, fun i hi hne => ?_, hs, ho, h4, h5, fun t ht e => ?_⟩
      · have := List.all_eq_true.1 h3 i (List.mem_range.2 hi)
        simp only [Bool.or_eq_true, decide_eq_true_eq] at this
        exact this.resolve_left hne
      · simp only [e] at h6
        simp only [Bool.not_eq_true', List.contains_eq_mem, decide_eq_false_iff_not] at h6
        exact h6 ht
section
variable {n d : Nat} {s o : Oper} (F : FloatOk md ops n d s o)
theorem FloatOk.waits_ready {listed : Array Bool} (F : FloatOk md ops n d s o) (hr : n ∈ Region.ready md ops listed) {i : Nat} (hi : i < n) (hne : i ≠ d) : listed.getD i false = true := by
  obtain ⟨_, os, hos, hall⟩ := mem_ready.1 hr
  obtain ⟨oj, hoj, e, he, hb, hon⟩ := Region.waitsFor_spec (F.waits i hi hne)
  have : oj = os := Option.some.inj (hoj.symm.trans hos)
  subst this
  have := hall e he hb
  rwa [hon] at this
theorem FloatOk.early (F : FloatOk md ops n d s o) {Q : Exit → Act → World → Prop} {listed : Array Bool} {a : Act} {v : Value} {w w0 : World} (hC : C w0) (hy : YieldsIn P ops C o v a) (hsz : listed.size = ops.size)
    (hn : n ∈ Region.ready md ops listed) (hd : d ∈ Region.ready md ops listed) (h : wpList P ops (Only (Q .normal)) [s] (a.put o.dst v) w) : wpOp P ops Q n (wpAny P md ops Q 1 (listed.setIfInBounds n true)) a w := by
  obtain ⟨w', hrun, hR⟩ := store_only F.st h
  have hsel : ∀ cs b, s.op ≠ .select cs b := fun cs b e => by have := F.st; unfold Oper.isStore at this; rw [e] at this; cases this
  have hag : ∀ t ∈ s.looksAt ops, a.tmps[t]? = (a.put o.dst v).tmps[t]? := fun t ht => by
    have hne := F.apart t ht
    unfold Act.put
    cases hdst : o.dst with
    | none => rfl
    | some q =>
      have : q ≠ t := fun e => hne (by rw [hdst, e])
      simp only [Array.getElem?_setIfInBounds_ne this]
  have hex := exec_agree (ops := ops) hsel hag
  have hdst : s.dst = none := by
    have := F.st; unfold Oper.isStore at this; split at this
    · simp only [Bool.and_eq_true, Option.isNone_iff_eq_none] at this; exact this.1
    · cases this
  have hgs : s.guard = none := by
    have := F.st; unfold Oper.isStore at this; split at this
    · simp only [Bool.and_eq_true, Option.isNone_iff_eq_none] at this; exact this.2
    · cases this
  have hgo : o.guard = none := by
    have := F.ex; unfold Oper.isExtract at this; split at this
    · simpa using this
    · cases this
  have hdn : d ≠ n := by have := F.lt; omega
  unfold wpOp
  simp only [F.hs, Region.wanted, hgs, if_true]
  refine .inl ?_
  unfold Oper.wp
  rw [hex, hrun, Oper.upon_skip, hdst]
  change wpAny P md ops Q 1 (listed.setIfInBounds n true) a w'
  have hd' : d ∈ Region.ready md ops (listed.setIfInBounds n true) := ready_mono hd hdn
  refine ⟨fun h0 => (by rw [h0] at hd'; cases hd'), fun i hi => ?_⟩
  obtain ⟨hun, oi, hoi, -⟩ := mem_ready.1 hi
  have hil : i < ops.size := (Array.getElem?_eq_some_iff.1 hoi).1
  have hin : i ≠ n := fun e => by
    subst e
    have : (listed.setIfInBounds i true).getD i true = true := by
      rw [Array.getD_eq_getD_getElem?, Array.getElem?_setIfInBounds_self_of_lt (by rw [hsz]; exact hil)]; rfl
    rw [this] at hun; cases hun
  have hid : i = d := Classical.byContradiction fun hne => by
    have hi' : i < n := by have := F.size; omega
    have h1 := F.waits_ready hn hi' hne
    rw [getD_set_ne true (Ne.symm hin)] at hun
    have h2 := getD_both hun
    rw [h1] at h2; cases h2
  subst hid
  unfold wpOp
  simp only [F.ho, Region.wanted, hgo, if_true]
  refine .inl ?_
  unfold Oper.wp
  rw [extract_any F.ex hC hy w', Oper.upon_value]
  refine ⟨?_, hR⟩
  refine List.eq_nil_iff_forall_not_mem.2 fun j hj => ?_
  obtain ⟨hju, oj, hoj, -⟩ := mem_ready.1 hj
  have hjl : j < ops.size := (Array.getElem?_eq_some_iff.1 hoj).1
  have hji : j ≠ i := fun e => by
    subst e
    have : ((listed.setIfInBounds n true).setIfInBounds j true).getD j true = true := by
      rw [Array.getD_eq_getD_getElem?, Array.getElem?_setIfInBounds_self_of_lt (by simp; rw [hsz]; exact hjl)]; rfl
    rw [this] at hju; cases hju
  rw [getD_set_ne true (Ne.symm hji)] at hju
  by_cases hjn : j = n
  · subst hjn
    have : (listed.setIfInBounds j true).getD j true = true := by
      rw [Array.getD_eq_getD_getElem?, Array.getElem?_setIfInBounds_self_of_lt (by rw [hsz]; exact hjl)]; rfl
    rw [this] at hju; cases hju
  · rw [getD_set_ne true (Ne.symm hjn)] at hju
    have h1 := F.waits_ready hn (by have := F.size; omega) hji
    have h2 := getD_both hju
    rw [h1] at h2; cases h2
end
def headF (P : Program) (md : Region.Mode) (ops : Array Oper) (C : World → Prop) (n d : Nat) (L : Array Bool → Act → Prop) (E : Array Bool → Act → Prop) : Nat → Array Bool → Act → Prop
  | 0, done, a => L done a
  | f + 1, done, a => Region.ready md ops done ≠ [] ∧ ∀ i ∈ Region.ready md ops done, (i < n ∧ qOp P ops C i (headF P md ops C n d L E f (done.setIfInBounds i true)) a) ∨ (i = n ∧ f = 0 ∧ done.getD d true = false ∧ E done a)
theorem wpAny_of_headF {n d : Nat} {L E : Array Bool → Act → Prop} {Q : Exit → Act → World → Prop} (hL : ∀ done a w, C w → L done a → wpAny P md ops Q 1 done a w)
    (hE : ∀ done a w, C w → E done a → wpOp P ops Q n (wpAny P md ops Q 1 (done.setIfInBounds n true)) a w) (f : Nat) :
    ∀ (done : Array Bool) (a : Act) (w : World), C w → headF P md ops C n d L E f done a → wpAny P md ops Q (f + 1) done a w := by
  induction f with
  | zero => intro done a w hw h; exact hL _ _ _ hw h
  | succ f ih =>
    intro done a w hw h
    refine ⟨fun h0 => absurd h0 h.1, fun i hi => ?_⟩
    rcases h.2 i hi with ⟨_, hq⟩ | ⟨rfl, rfl, _, he⟩
    · exact wpOp_of_qOp hw (fun a' w' hw' h' => ih _ a' w' hw' h') hq
    · exact hE _ _ _ hw he
theorem headF_first {n d i : Nat} {s od o : Oper} {v : Value} {L E : Array Bool → Act → Prop} (F : FloatOk md ops n d s od) (hi : ops[i]? = some o) (hsel : Region.noSelect ops = true) (hin : i < n)
    (hL : ∀ done a, L done a → ∀ j ∈ Region.ready md ops done, n ≤ j)
    (hE : ∀ done a v, HeadInv md ops n done → n ∈ Region.ready md ops done → d ∈ Region.ready md ops done → YieldsIn P ops C od v a → L (done.setIfInBounds d true) (a.put od.dst v) → E done a) (f : Nat) :
    ∀ (done : Array Bool) (a : Act), HeadInv md ops n done →
      (∀ j oj, ops[j]? = some oj → j ≠ i → done.getD j true = false → (∀ e ∈ oj.after, Region.binds md e = true → e.on ≠ i) → o.apart ops oj = true) →
      i ∈ Region.ready md ops done → YieldsIn P ops C o v a → headF P md ops C n d L E f (done.setIfInBounds i true) (a.put o.dst v) → headF P md ops C n d L E (f + 1) done a := by
  have nosel := fun (j : Nat) (o : Oper) cs b (h : ops[j]? = some o) => Region.noSelect_spec hsel j o cs b h
  have hlt : ∀ (done : Array Bool) j, j ∈ Region.ready md ops done → j < n ∨ j = n := fun done j hj => by
    obtain ⟨_, oj, hoj, _⟩ := mem_ready.1 hj
    have := (Array.getElem?_eq_some_iff.1 hoj).1
    have := F.size
    omega
  have hdn := F.lt
  induction f with
  | zero =>
    intro done a inv _ hr hy H
    refine ⟨fun h => (by rw [h] at hr; cases hr), fun j hj => ?_⟩
    rcases hlt done j hj with hjn | hjn
    · by_cases e : j = i
      · subst e; exact .inl ⟨hjn, hy.qOp hi H⟩
      · have := hL _ _ H j (ready_mono hj e); omega
    · subst hjn
      have hid : i = d := Classical.byContradiction fun hne => by
        have h1 := F.waits_ready hj hin hne
        have h2 := getD_both (mem_ready.1 hr).1
        rw [h1] at h2; cases h2
      subst hid
      obtain rfl : o = od := Option.some.inj (hi.symm.trans F.ho)
      exact .inr ⟨rfl, rfl, (mem_ready.1 hr).1, hE _ _ _ inv hj hr hy H⟩
  | succ f ih =>
    intro done a inv hfree hr hy H
    refine ⟨fun h => (by rw [h] at hr; cases hr), fun j hj => ?_⟩
    rcases hlt done j hj with hjn | hjn
    · by_cases e : j = i
      · subst e; exact .inl ⟨hjn, hy.qOp hi H⟩
      · obtain ⟨hjun, oj, hoj, hall⟩ := mem_ready.1 hj
        have hun := (mem_ready.1 hr).1
        have hnot : ∀ e ∈ oj.after, Region.binds md e = true → e.on ≠ i := fun e he hb heq => by
          have h1 := hall e he hb
          rw [heq, getD_both hun] at h1
          cases h1
        rcases H.2 j (ready_mono hj e) with ⟨_, hq⟩ | ⟨hjn', _⟩
        · have h2 := qOp_put hoj (hfree j oj hoj e hjun hnot) (fun cs b => nosel i o cs b hi) (fun cs b => nosel j oj cs b hoj) hy hq
          refine .inl ⟨hjn, qOp_mono (fun a' h3 => ih (done.setIfInBounds j true) a' (inv.set hj hjn) (fun k ok hk hki hku hno => ?_) (ready_mono hr (Ne.symm e)) h3.1 ?_) h2⟩
          · refine hfree k ok hk hki ?_ hno
            by_cases hjk : j = k
            · subst hjk; exact hjun
            · rw [getD_set_ne true hjk] at hku; exact hku
          · rw [Array.setIfInBounds_comm _ _ e]; exact h3.2
        · omega
    · subst hjn
      have hid : i = d := Classical.byContradiction fun hne => by
        have h1 := F.waits_ready hj hin hne
        have h2 := getD_both (mem_ready.1 hr).1
        rw [h1] at h2; cases h2
      subst hid
      have hj' : j ∈ Region.ready md ops (done.setIfInBounds i true) := ready_mono hj (by omega)
      have hil : i < done.size := by rw [inv.size]; exact (Array.getElem?_eq_some_iff.1 hi).1
      have hdd : (done.setIfInBounds i true).getD i true = true := by
        rw [Array.getD_eq_getD_getElem?, Array.getElem?_setIfInBounds_self_of_lt hil]; rfl
      rcases H.2 j hj' with ⟨hjn, _⟩ | ⟨_, _, hk, _⟩
      · omega
      · rw [hdd] at hk; cases hk
theorem headF_lex {n d : Nat} {s od : Oper} {K : Act → Prop} {E : Array Bool → Act → Prop} (F : FloatOk md ops n d s od) (hsel : Region.noSelect ops = true)
    (hE : ∀ done a v, HeadInv md ops n done → n ∈ Region.ready md ops done → d ∈ Region.ready md ops done → YieldsIn P ops C od v a → (Region.seqB md ops 1 n (done.setIfInBounds d true) = true ∧ K (a.put od.dst v)) → E done a) (l : List Oper) :
    ∀ (k : Nat) (done : Array Bool) (a : Act), (∀ j, j < l.length → l[j]? = ops[k + j]?) → k + l.length = n → HeadInv md ops n done →
    Region.lexHead md ops 1 l.length k done = true → wpQuiet P ops C K l a →
    headF P md ops C n d (fun done' a' => Region.seqB md ops 1 n done' = true ∧ K a') E l.length done a := by
  induction l with
  | nil =>
    intro k done a _ hk _ hB h
    obtain rfl : k = n := by simpa using hk
    exact ⟨by simpa [Region.lexHead] using hB, h⟩
  | cons o l ih =>
    intro k done a hl hk inv hB h
    have h0 : ops[k]? = some o := by simpa using (hl 0 (by simp)).symm
    simp only [List.length_cons, Region.lexHead, Bool.and_eq_true] at hB
    obtain ⟨⟨hr, hf⟩, hB'⟩ := hB
    have hkn : k < n := by simp only [List.length_cons] at hk; omega
    have hr' : k ∈ Region.ready md ops done := by simpa using hr
    have hq : qOp P ops C k (wpQuiet P ops C K l) a := by unfold qOp; simp only [h0]; exact h
    obtain ⟨v, hy, hK⟩ := yieldsIn_of_qOp h0 hq
    refine headF_first F h0 hsel hkn (fun done' a' hL => seqB_ready hL.1) hE l.length done a inv (Region.free_spec h0 hf) hr' hy ?_
    exact ih (k + 1) _ _ (fun j hj => by have := hl (j + 1) (by simp; omega); simpa [Nat.add_assoc, Nat.add_comm 1 j] using this) (by simp only [List.length_cons] at hk; omega) (inv.set hr' hkn) hB' hK
def lexFloatB (md : Region.Mode) (ops : Array Oper) (n d : Nat) : Bool := Region.noSelect ops && floatB md ops n d && Region.lexHead md ops 1 n 0 (Array.replicate ops.size false)
theorem wp_region_ext_float {id : Nat} {Q : Exit → Act → World → Prop} {a : Act} {w : World} {l : List Oper} (n d : Nat) (hm : P.follows .mixedOrders = true) (hB : lexFloatB .any l.toArray n d = true)
    (h : wpQuiet P l.toArray (fun w' => ∃ X, w' = w.ext X) (fun a' => ∀ w', (∃ X, w' = w.ext X) → wpList P l.toArray (Only (Q .normal)) (l.drop n) a' w') (l.take n) a) : (Code.region id l.toArray true).wp P Q a w := by
  simp only [lexFloatB, Bool.and_eq_true] at hB
  obtain ⟨⟨hsel, hfl⟩, hlex⟩ := hB
  obtain ⟨s, od, F⟩ := floatOk_of hfl
  have hsz : l.length = n + 1 := by simpa using F.size
  have htl : (l.take n).length = n := by simp; omega
  have hs : l[n]? = some s := by simpa using F.hs
  have hdrop : l.drop n = [s] := by
    have hnl : n < l.length := by omega
    rw [List.drop_eq_getElem_cons hnl]
    have : l[n] = s := by rw [List.getElem?_eq_getElem hnl] at hs; exact Option.some.inj hs
    rw [this, List.drop_eq_nil_of_le (by omega)]
  rw [hdrop] at h
  have hC0 : (fun w' => ∃ X, w' = w.ext X) { w with drawn := w.drawn + 1 } := ⟨⟨#[], w.drawn + 1⟩, by simp [World.ext]⟩
  have inv0 : HeadInv .any l.toArray n (Array.replicate l.toArray.size false) :=
    ⟨by simp, fun j oj _ hl => (by rw [getD_replicate_false] at hl; cases hl), fun t _ ht => getD_in (by simpa using ht) (getD_replicate_false _ _)⟩
  have H := headF_lex (md := .any) (K := fun a' => ∀ w', (∃ X, w' = w.ext X) → wpList P l.toArray (Only (Q .normal)) [s] a' w') (E := fun done a' => ∀ w', (∃ X, w' = w.ext X) → wpOp P l.toArray Q n (wpAny P .any l.toArray Q 1 (done.setIfInBounds n true)) a' w') F hsel
    (fun done a' v inv hn hd hy hL w' hw' => F.early hC0 hy inv.size hn hd (hL.2 w' hw')) (l.take n) 0 _ a (fun j hj => by
    rw [htl] at hj
    simp [hj]) (by simpa using htl) inv0 (by rw [htl]; exact hlex) h
  refine wp_region_any hm ?_
  have := wpAny_of_headF (Q := Q) (fun done a' w' hw' hL => by
    obtain ⟨w2, hrun, hR⟩ := store_only F.st (hL.2 w' hw')
    have hwl : wpList P l.toArray Q [s] a' w' := by
      have hdst : s.dst = none := by
        have := F.st; unfold Oper.isStore at this; split at this
        · simp only [Bool.and_eq_true, Option.isNone_iff_eq_none] at this; exact this.1
        · cases this
      have hgs : s.guard = none := by
        have := F.st; unfold Oper.isStore at this; split at this
        · simp only [Bool.and_eq_true, Option.isNone_iff_eq_none] at this; exact this.2
        · cases this
      simp only [wpList, Region.wanted, hgs, if_true]
      refine .inl ?_
      unfold Oper.wp
      rw [hrun, Oper.upon_skip, hdst]
      exact hR
    exact wpAny_of_seq (md := .any) (Q' := Q) [s] n done a' w' (fun j => by
      cases j with
      | zero => simpa using F.hs.symm
      | succ j => simp; omega) hL.1 hwl) (fun done a' w' hw' hE => hE w' hw') _ _ _ { w with drawn := w.drawn + 1 } hC0 H
  rw [htl, show n + 1 = l.toArray.size by simp; omega] at this
  exact this
end
end Go
