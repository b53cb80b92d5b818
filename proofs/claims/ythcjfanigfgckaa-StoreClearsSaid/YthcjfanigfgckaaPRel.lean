/- Parts of the proofs, laid together: Rel, Loose. Conditions: at each. -/
import Derived.Test.YthcjfanigfgckaaPBase
import Derived.Test.YthcjfanigfgckaaPMix
section
/- A region that draws its order, whose operations read, or yield values of which a relation is known that stays while the world grows: one walk of the text's order serves every order. No condition. -/
namespace Go
set_option linter.unusedVariables false
set_option linter.unusedSimpArgs false
/-- The world grows. -/
def Grows (w w' : World) : Prop := ∃ X, w' = w.ext X
/-- How the world may go on. -/
structure Pre (L : World → World → Prop) : Prop where
  refl : ∀ w, L w w
  trans : ∀ {a b c}, L a b → L b c → L a c
  drew : ∀ w, L w { w with drawn := w.drawn + 1 }
theorem pre_grows : Pre Grows := ⟨fun w => ⟨⟨#[], w.drawn⟩, by simp [World.ext]⟩, fun ⟨X, h⟩ ⟨Y, k⟩ => by subst h; subst k; exact ⟨_, World.ext_ext⟩, fun w => ⟨⟨#[], w.drawn + 1⟩, by simp [World.ext]⟩⟩
/-- A relation of a value that stays while the world goes on. -/
structure SR (L : World → World → Prop) where
  R : Value → World → Prop
  st : ∀ v w w', R v w → L w w' → R v w'
  F : Value → Prop
  dflt : Value
  hd : F dflt
  hF : ∀ v w, R v w → F v
section
variable {P : Program} {ops : Array Oper} {w : World} {L : World → World → Prop}
/-- What an operation yields, or nothing. -/
def yld (o : Oper) (v : Value) : Value := match o.dst with
  | some _ => v
  | none => undef
/-- The walk in the text's order: an operation that has an entry is told of those that it waits for. -/
def okG (ops : Array Oper) (o : Oper) (a : Act) : Prop := Region.wanted o (yielded ops a.tmps) = true
theorem okG_none {o : Oper} {a : Act} (h : o.guard = none) : okG ops o a := by simp [okG, Region.wanted, h]
/-- Each operation waits for elder ones alone. -/
def lowG (ops : Array Oper) : Bool := (List.range ops.size).all fun i => match ops[i]? with
  | some o => o.after.all fun e => !(Region.binds .any e) || decide (e.on < i)
  | none => true
theorem lowG_spec (h : lowG ops = true) {i : Nat} {o : Oper} (ho : ops[i]? = some o) : ∀ e ∈ o.after, Region.binds .any e = true → e.on < i := by
  have hi : i < ops.size := (Array.getElem?_eq_some_iff.1 ho).1
  have := List.all_eq_true.1 h i (List.mem_range.2 hi)
  simp only [ho, Array.all_eq_true', Bool.or_eq_true, Bool.not_eq_true', decide_eq_true_eq] at this
  exact fun e he hb => (this e he).resolve_left (by rw [hb]; exact Bool.noConfusion)
def relWalk (P : Program) (ops : Array Oper) (L : World → World → Prop) (w : World) (K : Act → List (Nat × (World → Prop)) → Prop) : Nat → List Oper → List (Option (List Nat × SR L)) → Act → List (Nat × (World → Prop)) → Prop
  | _, [], _, a, kn => K a kn
  | k, o :: os, none :: T, a, kn => okG ops o a ∧ o.quiet P a (fun w' => L w w') fun a' => relWalk P ops L w K (k + 1) os T a' kn
  | k, o :: os, some (ds, R) :: T, a, kn => okG ops o a ∧ (∀ w', L w w' → (∀ p ∈ kn, p.1 ∈ ds → p.2 w') → o.wp P a w' (fun a1 w1 => ∃ v, a1 = a.put o.dst v ∧ R.R (yld o v) w1 ∧ L w' w1) (fun _ _ _ => False)) ∧
      ∀ v, R.F v → relWalk P ops L w K (k + 1) os T (a.put o.dst v) ((k, R.R v) :: kn)
  | _, _ :: _, [], _, _ => False
/-- It enters nothing. -/
def pureB (o : Oper) : Bool := match o.op with
  | .move _ | .assign _ | .pick .. | .load .. | .fieldAddr .. | .field .. | .build .. | .unOp .. | .binOp .. | .convert .. | .extract .. | .indexAddr .. | .index .. | .slice .. | .makeInterface .. => true
  | _ => false
theorem no_enter {s : Sem Value} {w w' : World} {f : FuncId} {args : Array Value} (h : (do pure (Next.value (← s)) : Sem Next).run P w = .ok (.enter f args) w') : False := by
  rw [Sem.run_bind] at h
  cases e : s.run P w with
  | ok v w1 => rw [e] at h; simp [Result.andThen] at h
  | halt x w1 => rw [e] at h; simp [Result.andThen] at h
theorem pureB_spec {o : Oper} (h : pureB o = true) {ρ : Operand → Value} {w w' : World} {f : FuncId} {args : Array Value} : (execOp ρ o).run P w ≠ .ok (.enter f args) w' := by
  intro he
  unfold pureB at h
  unfold execOp at he
  cases ho : o.op <;> simp only [ho] at h he <;> first
    | (cases h; done)
    | exact no_enter he
    | (simp at he; done)
    | (rename_i c x y; rw [Sem.run_bind] at he; cases e : (asBool (ρ c)).run P w <;> rw [e] at he <;> simp [Result.andThen] at he)
theorem quiet_unique {o : Oper} (hp : pureB o = true) {a a' : Act} {C : World → Prop} {w : World} {v v' : Value} (he : execOp a.eval o = execOp a'.eval o) (h : o.quietAt P a C w v) (h' : o.quietAt P a' C w v') : v = v' := by
  unfold Oper.quietAt at h h'
  rw [he] at h
  have hn := fun f args w' => pureB_spec (P := P) hp (ρ := a'.eval) (w := w) (w' := w') (f := f) (args := args)
  generalize (execOp a'.eval o).run P w = r at *
  unfold Oper.quietUpon at h h'
  split at h
  · simp at h'; exact h.2.symm.trans h'.2
  · simp at h'; rw [h.2, h'.2]
  · exact absurd rfl (hn _ _ _)
  · exact h.elim
/-- What is checked of the operations: no guards; each waits for elder ones; what the head's operations look at is old or waited for; each has a place of its own; an entry has one. -/
def relB (ops : Array Oper) (n : Nat) (m : Nat) (T : List Bool) : Bool :=
  (List.range n).all fun i => match ops[i]? with
    | some o => (T.getD i false || pureB o) && (match o.dst with | some s => decide (s < m) | none => true) &&
        (o.looksAt ops).all (fun s => (List.range n).all fun j => match ops[j]? with
          | some oj => oj.dst != some s || (decide (j < i) && Region.waitsFor .any ops i j)
          | none => true) &&
        (match o.dst with
          | some s => (List.range n).all fun j => match ops[j]? with
            | some oj => decide (j = i) || oj.dst != some s
            | none => true
          | none => true)
    | none => false
structure RelOk (ops : Array Oper) (n m : Nat) (T : List Bool) (i : Nat) (o : Oper) : Prop where
  pure : T.getD i false = false → pureB o = true
  room : ∀ s, o.dst = some s → s < m
  looks : ∀ s ∈ o.looksAt ops, ∀ j oj, j < n → ops[j]? = some oj → oj.dst = some s → j < i ∧ Region.waitsFor .any ops i j = true
  own : ∀ s, o.dst = some s → ∀ j oj, j < n → ops[j]? = some oj → oj.dst = some s → j = i
theorem relB_spec {n m : Nat} {T : List Bool} (h : relB ops n m T = true) {i : Nat} {o : Oper} (hi : i < n) (ho : ops[i]? = some o) : RelOk ops n m T i o := by
  have h1 := List.all_eq_true.1 h i (List.mem_range.2 hi)
  simp only [ho, Bool.and_eq_true] at h1
  obtain ⟨⟨⟨h1, h2⟩, h3⟩, h4⟩ := h1
  refine ⟨fun e => by simpa only [e, Bool.false_or] using h1, fun s e => ?_, fun s hs j oj hj hoj e => ?_, fun s e j oj hj hoj e' => ?_⟩
  · simp only [e, decide_eq_true_eq] at h2; exact h2
  · have := List.all_eq_true.1 (List.all_eq_true.1 h3 s hs) j (List.mem_range.2 hj)
    simp only [hoj, e, bne_self_eq_false, Bool.false_or, Bool.and_eq_true, decide_eq_true_eq] at this
    exact this
  · simp only [e] at h4
    have := List.all_eq_true.1 h4 j (List.mem_range.2 hj)
    simp only [hoj, e', bne_self_eq_false, Bool.or_false, decide_eq_true_eq] at this
    exact this
/-- What a place holds. -/
def hold (o : Oper) (a : Act) : Value := match o.dst with
  | some s => a.tmps.getD s undef
  | none => undef
/-- The frame in a run, so much being done. -/
structure RelInv (P : Program) (L : World → World → Prop) (ops : Array Oper) (n : Nat) (T : List (Option (List Nat × SR L))) (a : Act) (w : World) (d : Nat → Bool) (a' : Act) (w' : World) : Prop where
  size : a'.tmps.size = a.tmps.size
  defers : a'.defers = a.defers
  world : L w w'
  closed : ∀ k, d k = true → ∀ j, Region.waitsFor .any ops k j = true → d j = true
  off : ∀ s, (∀ j o, j < n → ops[j]? = some o → d j = true → o.dst ≠ some s) → a'.tmps[s]? = a.tmps[s]?
  quiet : ∀ k o, k < n → ops[k]? = some o → T[k]? = some none → d k = true → ∀ v, (∀ w'', L w w'' → o.quietAt P a' (fun w' => L w w') w'' v) → ∀ s, o.dst = some s → a'.tmps[s]? = some v
  rel : ∀ k o ds R, k < n → ops[k]? = some o → T[k]? = some (some (ds, R)) → d k = true → R.R (hold o a') w'
/-- The lexical frame ahead of operation k agrees with it. -/
structure LexInv (L : World → World → Prop) (ops : Array Oper) (n : Nat) (T : List (Option (List Nat × SR L))) (a : Act) (d : Nat → Bool) (a' : Act) (k : Nat) (b : Act) (kn : List (Nat × (World → Prop))) : Prop where
  size : b.tmps.size = a.tmps.size
  defers : b.defers = a.defers
  agree : ∀ s, (∀ j o, j < n → ops[j]? = some o → o.dst = some s → j < k ∧ d j = true) → b.tmps[s]? = a'.tmps[s]?
  known : ∀ p ∈ kn, p.1 < k ∧ (d p.1 = true → ∃ o ds R, ops[p.1]? = some o ∧ T[p.1]? = some (some (ds, R)) ∧ p.2 = R.R (hold o a'))
theorem put_get {a : Act} {s : Tmp} {v : Value} (h : s < a.tmps.size) (t : Tmp) : (a.put (some s) v).tmps[t]? = if t = s then some v else a.tmps[t]? := by
  simp only [Act.put, Array.getElem?_setIfInBounds]
  by_cases e : s = t
  · subst e; simp [h]
  · rw [if_neg e, if_neg (Ne.symm e)]
theorem put_size {a : Act} {d : Option Tmp} {v : Value} : (a.put d v).tmps.size = a.tmps.size := by
  cases d <;> simp [Act.put]
theorem put_defers {a : Act} {d : Option Tmp} {v : Value} : (a.put d v).defers = a.defers := by
  cases d <;> simp [Act.put]
section
variable {n : Nat} {T : List (Option (List Nat × SR L))} {a a' : Act} {d : Nat → Bool} {w' : World}
/-- An operation, what it waits for being done, does in the lexical frame what it does in the run. -/
theorem LexInv.exec {k : Nat} {b : Act} {kn : List (Nat × (World → Prop))} {o : Oper} (I : LexInv L ops n T a d a' k b kn) (hb : RelOk ops n a.tmps.size (T.map Option.isSome) k o) (hns : ∀ cs bl, o.op ≠ .select cs bl) (hd : ∀ j, Region.waitsFor .any ops k j = true → d j = true) : execOp b.eval o = execOp a'.eval o := by
  refine exec_agree (ops := ops) hns fun s hs => I.agree s fun j oj hj hoj e => ?_
  obtain ⟨h1, h2⟩ := hb.looks s hs j oj hj hoj e
  exact ⟨h1, hd j h2⟩
theorem LexInv.wanted {k : Nat} {b : Act} {kn : List (Nat × (World → Prop))} {o : Oper} (I : LexInv L ops n T a d a' k b kn) (hb : RelOk ops n a.tmps.size (T.map Option.isSome) k o) (hd : ∀ j, Region.waitsFor .any ops k j = true → d j = true) : Region.wanted o (yielded ops b.tmps) = Region.wanted o (yielded ops a'.tmps) := by
  refine wanted_agree fun s hs => I.agree s fun j oj hj hoj e => ?_
  obtain ⟨h1, h2⟩ := hb.looks s hs j oj hj hoj e
  exact ⟨h1, hd j h2⟩
theorem lex_run {K : Act → List (Nat × (World → Prop)) → Prop} (hsel : Region.noSelect ops = true) (hB : relB ops n a.tmps.size (T.map Option.isSome) = true) (I : RelInv P L ops n T a w d a' w') :
    ∀ (os : List Oper) (Ts : List (Option (List Nat × SR L))) (k : Nat) (b : Act) (kn : List (Nat × (World → Prop))), k + os.length = n → (∀ j, j < os.length → os[j]? = ops[k + j]?) → (∀ j, j < os.length → Ts[j]? = T[k + j]?) → LexInv L ops n T a d a' k b kn → relWalk P ops L w K k os Ts b kn →
      (∀ i, k ≤ i → i < n → ∃ b' kn' o, ops[i]? = some o ∧ okG ops o b' ∧ LexInv L ops n T a d a' i b' kn' ∧ (match T.getD i none with
        | none => ∃ v, ∀ w'', L w w'' → o.quietAt P b' (fun w' => L w w') w'' v
        | some (ds, R) => ∀ w', L w w' → (∀ p ∈ kn', p.1 ∈ ds → p.2 w') → o.wp P b' w' (fun a1 w1 => ∃ v, a1 = b'.put o.dst v ∧ R.R (yld o v) w1 ∧ L w' w1) (fun _ _ _ => False)) ∧ T[i]? = some (T.getD i none)) ∧
      ∃ b' kn', LexInv L ops n T a d a' n b' kn' ∧ K b' kn' := by
  intro os
  induction os with
  | nil =>
    intro Ts k b kn hk _ _ Lx h
    obtain rfl : k = n := by simpa using hk
    exact ⟨fun i h1 h2 => by omega, b, kn, Lx, by cases Ts <;> exact h⟩
  | cons o os ih =>
    intro Ts k b kn hk hl hT Lx h
    simp only [List.length_cons] at hk hl hT
    have ho : ops[k]? = some o := by simpa using (hl 0 (by omega)).symm
    have hkn : k < n := by omega
    have B := relB_spec hB hkn ho
    have ns := fun cs bl => Region.noSelect_spec hsel k o cs bl ho
    cases Ts with
    | nil => exact h.elim
    | cons t Ts =>
      have ht : T[k]? = some t := by simpa using (hT 0 (by omega)).symm
      have htD : T.getD k none = t := by rw [List.getD_eq_getElem?_getD, ht]; rfl
      have hl' : ∀ j, j < os.length → os[j]? = ops[k + 1 + j]? := fun j hj => by
        have := hl (j + 1) (by omega)
        simpa [Nat.add_assoc, Nat.add_comm 1 j] using this
      have hT' : ∀ j, j < os.length → Ts[j]? = T[k + 1 + j]? := fun j hj => by
        have := hT (j + 1) (by omega)
        simpa [Nat.add_assoc, Nat.add_comm 1 j] using this
      -- the next lexical frame
      have next : ∀ v kn', (d k = true → ∀ s, o.dst = some s → a'.tmps[s]? = some v) → (∀ p ∈ kn', p ∈ kn ∨ p.1 = k ∧ (d k = true → ∃ ds R, t = some (ds, R) ∧ p = (k, R.R (hold o a')))) → LexInv L ops n T a d a' (k + 1) (b.put o.dst v) kn' := by
        intro v kn' hv hkn'
        refine ⟨put_size.trans Lx.size, put_defers.trans Lx.defers, fun s hs => ?_, fun p hp => ?_⟩
        · cases hdst : o.dst with
          | none =>
            refine Lx.agree s fun j oj hj hoj e => ?_
            obtain ⟨h1, h2⟩ := hs j oj hj hoj e
            refine ⟨?_, h2⟩
            rcases Nat.lt_or_ge j k with h | h
            · exact h
            · obtain rfl : j = k := by omega
              rw [ho] at hoj; cases hoj; rw [hdst] at e; cases e
          | some s' =>
            rw [put_get (by rw [Lx.size]; exact B.room s' hdst)]
            by_cases e : s = s'
            · subst e
              rw [if_pos rfl, hv (hs k o hkn ho hdst).2 s hdst]
            · rw [if_neg e]
              refine Lx.agree s fun j oj hj hoj e' => ?_
              obtain ⟨h1, h2⟩ := hs j oj hj hoj e'
              refine ⟨?_, h2⟩
              rcases Nat.lt_or_ge j k with h | h
              · exact h
              · obtain rfl : j = k := by omega
                rw [ho] at hoj; cases hoj; rw [hdst] at e'; cases e'; exact absurd rfl e
        · rcases hkn' p hp with h | ⟨hp1, h⟩
          · obtain ⟨h1, h2⟩ := Lx.known p h
            exact ⟨by omega, h2⟩
          · refine ⟨by omega, fun hdp => ?_⟩
            rw [hp1] at hdp
            obtain ⟨ds, R, h1, rfl⟩ := h hdp
            exact ⟨o, ds, R, ho, by rw [← h1]; exact ht, rfl⟩
      cases t with
      | none =>
        obtain ⟨hG, v, hv, hK⟩ := h
        have hpure := B.pure (by simp [List.getD_eq_getElem?_getD, ht])
        obtain ⟨H1, b', kn', H2, H3⟩ := ih Ts (k + 1) _ kn (by omega) hl' hT' (next v kn (fun hd s hs => by
          refine I.quiet k o hkn ho ht hd v (fun w'' hw'' => ?_) s hs
          have e := Lx.exec B ns (I.closed k hd)
          have := hv w'' hw''
          unfold Oper.quietAt at this ⊢
          rwa [← e]) (fun p hp => .inl hp)) hK
        refine ⟨fun i h1 h2 => ?_, b', kn', H2, H3⟩
        rcases Nat.eq_or_lt_of_le h1 with e | e
        · subst e
          exact ⟨b, kn, o, ho, hG, Lx, by rw [htD]; exact ⟨v, hv⟩, by rw [htD]; exact ht⟩
        · exact H1 i e h2
      | some q =>
        obtain ⟨ds, R⟩ := q
        obtain ⟨hG, hw, hK⟩ := h
        obtain ⟨v, hv, hF⟩ : ∃ v, (d k = true → v = hold o a') ∧ R.F v := by
          cases hd : d k with
          | true => exact ⟨_, fun _ => rfl, R.hF _ _ (I.rel k o ds R hkn ho ht hd)⟩
          | false => exact ⟨R.dflt, (fun h => Bool.noConfusion h), R.hd⟩
        obtain ⟨H1, b', kn', H2, H3⟩ := ih Ts (k + 1) _ _ (by omega) hl' hT' (next v ((k, R.R v) :: kn) (fun hd s' hs' => by
          rw [hv hd]
          simp only [hold, hs']
          have hsz : s' < a'.tmps.size := by rw [I.size]; exact B.room s' hs'
          simp [Array.getD_eq_getD_getElem?, hsz]) (fun p hp => by
          rcases List.mem_cons.1 hp with h | h
          · exact .inr ⟨by rw [h], fun hd => ⟨ds, R, rfl, by rw [h, hv hd]⟩⟩
          · exact .inl h)) (hK _ hF)
        refine ⟨fun i h1 h2 => ?_, b', kn', H2, H3⟩
        rcases Nat.eq_or_lt_of_le h1 with e | e
        · subst e
          exact ⟨b, kn, o, ho, hG, Lx, by rw [htD]; exact hw, by rw [htD]; exact ht⟩
        · exact H1 i e h2
def reachB (ops : Array Oper) : Nat → Nat → Nat → Bool
  | 0, _, _ => false
  | f + 1, t, i => Region.waitsFor .any ops t i || (List.range ops.size).any fun j => Region.waitsFor .any ops t j && reachB ops f j i
/-- What an entry is told of is waited for. -/
def depB (ops : Array Oper) (D : List (Option (List Nat))) : Bool := (List.range D.length).all fun i => match D.getD i none with
  | some ds => ds.all fun j => reachB ops ops.size i j
  | none => true
theorem depB_spec (h : depB ops (T.map (Option.map Prod.fst)) = true) {i : Nat} {ds : List Nat} {R : SR L} (hT : T[i]? = some (some (ds, R))) : ∀ j ∈ ds, reachB ops ops.size i j = true := by
  have hi : i < T.length := (List.getElem?_eq_some_iff.1 hT).1
  have := List.all_eq_true.1 h i (List.mem_range.2 (by simpa using hi))
  simp only [List.getD_eq_getElem?_getD, List.getElem?_map, hT, Option.map_some, Option.getD_some] at this
  exact fun j hj => List.all_eq_true.1 this j hj
theorem put_inj {a : Act} {s : Tmp} {v v' : Value} (h : s < a.tmps.size) (e : a.put (some s) v = a.put (some s) v') : v = v' := by
  have h1 := put_get (v := v) h s
  rw [e, put_get h, if_pos rfl, if_pos rfl] at h1
  exact (Option.some.inj h1).symm
theorem wp_transfer {o : Oper} {a b : Act} {w' : World} {R : Value → World → Prop} {K : Act → World → Prop} {Q : Exit → Act → World → Prop} (hb : ∀ s, o.dst = some s → s < b.tmps.size) (he : execOp b.eval o = execOp a.eval o)
    (h : o.wp P b w' (fun a1 w1 => ∃ v, a1 = b.put o.dst v ∧ R (yld o v) w1 ∧ L w' w1) (fun _ _ _ => False)) (hk : ∀ v w1, R (yld o v) w1 → L w' w1 → K (a.put o.dst v) w1) : o.wp P a w' K Q := by
  unfold Oper.wp at h ⊢
  rw [he] at h
  generalize (execOp a.eval o).run P w' = r at *
  have go : ∀ v w1, (∃ v', b.put o.dst v = b.put o.dst v' ∧ R (yld o v') w1 ∧ L w' w1) → K (a.put o.dst v) w1 := by
    rintro v w1 ⟨v', e, h1, h2⟩
    cases hs : o.dst with
    | none =>
      have := hk v' w1 h1 h2
      rw [hs] at this; exact this
    | some s =>
      rw [hs] at e
      have := put_inj (hb s hs) e
      subst this
      have := hk v w1 h1 h2
      rwa [hs] at this
  unfold Oper.upon at h ⊢
  split at h
  · exact go _ _ h
  · exact go _ _ h
  · obtain ⟨v', e, h1, h2⟩ := h
    exfalso
    have := congrArg (fun x => x.defers.length) e
    simp [put_defers] at this
  · refine h.mono fun e w1 he => ?_
    cases e with
    | returned v => exact go _ _ he
    | panicked c => exact he.elim
    | outgrown =>
      obtain ⟨_, _, h⟩ : LetsOut _ := he
      exact h.elim
  · exact h.mono fun v w1 he => go _ _ he
  · exact h.elim
  · exact h.elim
/-- What is behind the head waits for the whole of it. -/
def tailB (ops : Array Oper) (n : Nat) : Bool := (List.range ops.size).all fun t => decide (t < n) || (List.range n).all fun i => reachB ops ops.size t i
theorem reach_done (hc : ∀ k, d k = true → ∀ j, Region.waitsFor .any ops k j = true → d j = true) : ∀ f t i, reachB ops f t i = true → (∀ j, Region.waitsFor .any ops t j = true → d j = true) → d i = true := by
  intro f
  induction f with
  | zero => intro t i h; cases h
  | succ f ih =>
    intro t i h hd
    simp only [reachB, Bool.or_eq_true, List.any_eq_true, Bool.and_eq_true] at h
    rcases h with h | ⟨j, -, h1, h2⟩
    · exact hd i h
    · exact ih j i h2 (hc j (hd j h1))
theorem tail_all (hc : ∀ k, d k = true → ∀ j, Region.waitsFor .any ops k j = true → d j = true) (hB : tailB ops n = true) {t : Nat} (hn : n ≤ t) (ht : t < ops.size) (hd : ∀ j, Region.waitsFor .any ops t j = true → d j = true) : ∀ i, i < n → d i = true := by
  intro i hi
  have := List.all_eq_true.1 hB t (List.mem_range.2 ht)
  simp only [Bool.or_eq_true, decide_eq_true_eq, List.all_eq_true] at this
  rcases this with h | h
  · omega
  · exact reach_done hc _ t i (h i (List.mem_range.2 hi)) hd
theorem exec_put {o : Oper} (hs : ∀ cs b, o.op ≠ .select cs b) {a : Act} {s : Tmp} {v : Value} (hn : s ∉ o.looksAt ops) : execOp (a.put (some s) v).eval o = execOp a.eval o :=
  exec_agree (ops := ops) hs fun t ht => by
    have : ¬ s = t := fun e => hn (e ▸ ht)
    simp [Act.put, Array.getElem?_setIfInBounds, this]
theorem RelInv.next {i : Nat} {o : Oper} {v : Value} {w1 : World} (pre : Pre L) (hsel : Region.noSelect ops = true) (hB : relB ops n a.tmps.size (T.map Option.isSome) = true) (I : RelInv P L ops n T a w d a' w')
    (hi : i < n) (ho : ops[i]? = some o) (hd : d i = false) (hdeps : ∀ j, Region.waitsFor .any ops i j = true → d j = true) (hw : L w' w1)
    (hq : T[i]? = some none → ∀ v', (∀ w'', L w w'' → o.quietAt P a' (fun w' => L w w') w'' v') → v' = v)
    (hr : ∀ ds R, T[i]? = some (some (ds, R)) → R.R (yld o v) w1) : RelInv P L ops n T a w (upd d i) (a'.put o.dst v) w1 := by
  have B := relB_spec hB hi ho
  have u : ∀ k, upd d i k = true → k = i ∨ d k = true := fun k h => by
    unfold upd at h; split at h
    · exact .inl ‹_›
    · exact .inr h
  have u1 : ∀ k, d k = true → upd d i k = true := fun k h => by
    unfold upd; split
    · rfl
    · exact h
  have ui : upd d i i = true := by simp [upd]
  have keep : ∀ k ok, k < n → ops[k]? = some ok → (k = i ∨ d k = true) → execOp (a'.put o.dst v).eval ok = execOp a'.eval ok := fun k ok hk hok h => by
    cases hdst : o.dst with
    | none => rfl
    | some s =>
      refine exec_put (ops := ops) (fun cs b => Region.noSelect_spec hsel k ok cs b hok) fun hs => ?_
      obtain ⟨h1, h2⟩ := (relB_spec hB hk hok).looks s hs i o hi ho hdst
      rcases h with rfl | h
      · omega
      · have := I.closed k h i h2; rw [hd] at this; cases this
  have hsz : ∀ s, o.dst = some s → s < a'.tmps.size := fun s hs => by rw [I.size]; exact B.room s hs
  refine ⟨put_size.trans I.size, put_defers.trans I.defers, ?_, fun k hk j hj => ?_, fun s hs => ?_, fun k ok hk hok hT hdk v' hv' s hs => ?_, fun k ok ds R hk hok hT hdk => ?_⟩
  · exact pre.trans I.world hw
  · rcases u k hk with rfl | h
    · exact u1 _ (hdeps j hj)
    · exact u1 _ (I.closed k h j hj)
  · have h1 := I.off s fun j oj hj hoj hdj => hs j oj hj hoj (u1 j hdj)
    cases hdst : o.dst with
    | none => exact h1
    | some s' =>
      have : s ≠ s' := fun e => hs i o hi ho ui (by rw [hdst, e])
      rw [put_get (hsz s' hdst), if_neg this]; exact h1
  · have e := keep k ok hk hok (u k hdk)
    have hv2 : ∀ w'', L w w'' → ok.quietAt P a' (fun w' => L w w') w'' v' := fun w'' hw'' => by
      have := hv' w'' hw''
      unfold Oper.quietAt at this ⊢
      rwa [← e]
    rcases u k hdk with rfl | h
    · rw [ho] at hok; cases hok
      rw [hq hT v' hv2, hs, put_get (hsz s hs), if_pos rfl]
    · have h1 := I.quiet k ok hk hok hT h v' hv2 s hs
      cases hdst : o.dst with
      | none => exact h1
      | some s' =>
        have : s ≠ s' := fun e => by
          subst e
          have := B.own s hdst k ok hk hok hs
          subst this; rw [hd] at h; cases h
        rw [put_get (hsz s' hdst), if_neg this]; exact h1
  · rcases u k hdk with rfl | h
    · rw [ho] at hok; cases hok
      have hh : hold o (a'.put o.dst v) = yld o v := by
        cases hdst : o.dst with
        | none => simp [hold, yld, hdst]
        | some s => simp [hold, yld, hdst, Array.getD_eq_getD_getElem?, put_get (hsz s hdst)]
      rw [hh]; exact hr ds R hT
    · have hh : hold ok (a'.put o.dst v) = hold ok a' := by
        cases hdst : o.dst with
        | none => rfl
        | some s =>
          cases hk2 : ok.dst with
          | none => simp [hold, hk2]
          | some s' =>
            have : s' ≠ s := fun e => by
              subst e
              have := B.own s' hdst k ok hk hok hk2
              subst this; rw [hd] at h; cases h
            simp [hold, hk2, Array.getD_eq_getD_getElem?, put_get (hsz s hdst), this]
      rw [hh]; exact R.st _ _ _ (I.rel k ok ds R hk hok hT h) hw
/-- So much is done: the head. -/
def headDone (ops : Array Oper) (n : Nat) : Array Bool := ((List.range ops.size).map fun j => decide (j < n)).toArray
theorem wpAny_of_rel {Q : Exit → Act → World → Prop} {K : Act → List (Nat × (World → Prop)) → Prop} {g : Nat} (pre : Pre L) (hsize : ops.size = n + g) (hlen : T.length = n) (hl : lowG ops = true) (hsel : Region.noSelect ops = true) (hB : relB ops n a.tmps.size (T.map Option.isSome) = true) (hT : tailB ops n = true) (hD : depB ops (T.map (Option.map Prod.fst)) = true)
    (hw : relWalk P ops L w K 0 (ops.toList.take n) T a [])
    (hend : ∀ a' w' kn, K a' kn → L w w' → (∀ p ∈ kn, p.2 w') → wpAny P .any ops Q g (headDone ops n) a' w') :
    ∀ (fuel : Nat) (done : Array Bool) (a' : Act) (w' : World), done.size = ops.size → done.toList.count false = fuel → (∀ t, n ≤ t → done.getD t false = false) → RelInv P L ops n T a w (fun j => done.getD j false) a' w' → wpAny P .any ops Q fuel done a' w' := by
  have run := fun {d a' w'} (I : RelInv P L ops n T a w d a' w') => lex_run (K := K) hsel hB I (ops.toList.take n) T 0 a [] (by simp; omega) (fun j hj => by
      simp only [List.length_take, Array.length_toList] at hj
      rw [List.getElem?_take, if_pos (by omega)]; simp) (fun j hj => by simp) ⟨rfl, rfl, fun s hs => (I.off s fun j o hj ho hd e => by have := (hs j o hj ho e).1; omega).symm, fun p hp => by cases hp⟩ hw
  intro fuel
  induction fuel with
  | zero =>
    intro done a' w' hs hc ht I
    have all : ∀ j, j < ops.size → done.getD j false = true := fun j hj => by
      have h1 : false ∉ done.toList := List.count_eq_zero.1 hc
      cases h : done.getD j false with
      | true => rfl
      | false =>
        exfalso
        refine h1 ?_
        have : done[j]'(by omega) = false := by simpa [show j < done.size by omega] using h
        rw [← this]; simp
    have hg : g = 0 := by
      rcases Nat.eq_zero_or_pos g with h | h
      · exact h
      · have h1 := all n (by omega)
        rw [ht n (Nat.le_refl _)] at h1; cases h1
    subst hg
    have hd : done = headDone ops n := by
      apply Array.ext
      · simp [headDone, hs]
      · intro j h1 h2
        have := all j (by omega)
        simp only [headDone, List.getElem_toArray, List.getElem_map, List.getElem_range]
        rw [show decide (j < n) = true by simp; omega]
        simpa [h1] using this
    obtain ⟨-, b', kn', Lx, hK⟩ := run I
    have hb : b' = a' := by
      have : b'.tmps = a'.tmps := by
        apply Array.ext (Lx.size.trans I.size.symm)
        intro j h1 h2
        have := Lx.agree j fun k o hk ho e => ⟨hk, all k (by omega)⟩
        simpa [h1, h2] using this
      have h3 := Lx.defers.trans I.defers.symm
      cases b'; cases a'; simp_all
    subst hb
    rw [hd]
    exact hend _ _ _ hK I.world fun p hp => by
      obtain ⟨h1, h5⟩ := Lx.known p hp
      obtain ⟨o, ds, R, h2, h3, h4⟩ := h5 (all _ (by omega))
      rw [h4]
      exact I.rel p.1 o ds R h1 h2 h3 (all _ (by omega))
  | succ fuel ih =>
    intro done a' w' hs hc ht I
    by_cases hall : ∀ j, j < n → done.getD j false = true
    · obtain ⟨-, b', kn', Lx, hK⟩ := run I
      have hd : done = headDone ops n := by
        apply Array.ext
        · simp [headDone, hs]
        · intro j h1 h2
          simp only [headDone, List.getElem_toArray, List.getElem_map, List.getElem_range]
          by_cases hj : j < n
          · have := hall j hj
            rw [show decide (j < n) = true by simp; omega]
            simpa [h1] using this
          · have := ht j (by omega)
            rw [show decide (j < n) = false by simp; omega]
            simpa [h1] using this
      have hg : fuel + 1 = g := by
        rw [← hc, hd, headDone, hsize]
        simp only [List.range_add, List.map_append, List.map_map]
        rw [List.count_append]
        have e1 : List.count false ((List.range n).map fun j => decide (j < n)) = 0 := List.count_eq_zero.2 fun h => by
          obtain ⟨j, h1, h2⟩ := List.mem_map.1 h
          have := List.mem_range.1 h1
          simp at h2; omega
        have e2 : ((List.range g).map ((fun j => decide (j < n)) ∘ fun x => n + x)) = List.replicate g false := by
          apply List.ext_getElem
          · simp
          · intro j h1 h2; simp
        rw [e1, e2]; simp
      have hb : b' = a' := by
        have : b'.tmps = a'.tmps := by
          apply Array.ext (Lx.size.trans I.size.symm)
          intro j h1 h2
          have := Lx.agree j fun k o hk ho e => ⟨hk, hall k hk⟩
          simpa [h1, h2] using this
        have h3 := Lx.defers.trans I.defers.symm
        cases b'; cases a'; simp_all
      subst hb
      rw [hd, hg]
      exact hend _ _ _ hK I.world fun p hp => by
        obtain ⟨h1, h5⟩ := Lx.known p hp
        obtain ⟨o, ds, R, h2, h3, h4⟩ := h5 (hall _ h1)
        rw [h4]
        exact I.rel p.1 o ds R h1 h2 h3 (hall _ h1)
    · have some_ready : Region.ready .any ops done ≠ [] := fun hr => hall fun j hj => by
        have : ∀ i, i < ops.size → done.getD i false = true := by
          intro i
          induction i using Nat.strongRecOn with
          | _ i ihi =>
            intro hi
            cases hd : done.getD i false with
            | true => rfl
            | false =>
              have hmem : i ∈ Region.ready .any ops done := by
                refine mem_ready.2 ⟨getD_in (by omega) hd, ops[i], by simp [hi], fun e he hb => ?_⟩
                have := lowG_spec hl (show ops[i]? = some ops[i] by simp [hi]) e he hb
                exact ihi e.on this (by omega)
              rw [hr] at hmem; cases hmem
        exact this j (by omega)
      refine ⟨fun hr => absurd hr some_ready, fun i hi => ?_⟩
      obtain ⟨h1, o, ho, haft⟩ := mem_ready.1 hi
      have hsz : i < ops.size := (Array.getElem?_eq_some_iff.1 ho).1
      have hid : i < done.size := by omega
      have hf : done[i] = false := by simpa [hid] using h1
      have deps : ∀ j, Region.waitsFor .any ops i j = true → done.getD j false = true := fun j hj => by
        obtain ⟨o', ho', e, he, hb, hon⟩ := Region.waitsFor_spec hj
        rw [ho] at ho'; cases ho'
        rw [← hon]; exact haft e he hb
      have hin : i < n := by
        rcases Nat.lt_or_ge i n with h | h
        · exact h
        · exact absurd (tail_all (fun k hk j hj => I.closed k hk j hj) hT h hsz deps) hall
      have hwant : Region.wanted o (yielded ops a'.tmps) = true := by
        obtain ⟨H, -⟩ := run I
        obtain ⟨b', kn', o', ho', hG, Lx, -, -⟩ := H i (Nat.zero_le _) hin
        rw [ho] at ho'; cases ho'
        rw [← Lx.wanted (relB_spec hB hin ho) deps]; exact hG
      have hgo : o.wp P a' w' (fun a1 w1 => RelInv P L ops n T a w (upd (fun j => done.getD j false) i) a1 w1) Q := by
        obtain ⟨H, -⟩ := run I
        obtain ⟨b', kn', o', ho', -, Lx, hob, hTi⟩ := H i (Nat.zero_le _) hin
        rw [ho] at ho'; cases ho'
        have B := relB_spec hB hin ho
        have hexec := Lx.exec B (fun cs b => Region.noSelect_spec hsel i o cs b ho) deps
        have next := fun v w1 h2 h3 h4 => RelInv.next (v := v) (w1 := w1) pre hsel hB I hin ho (getD_both h1) deps h2 h3 h4
        cases hc : T.getD i none with
        | none =>
          rw [hc] at hob hTi
          obtain ⟨v, hv⟩ := hob
          have hp := B.pure (by simp [List.getD_eq_getElem?_getD, hTi])
          have hv1 := hv w' I.world
          have hN := next v w' (pre.refl _) (fun _ v' hv' => (quiet_unique hp hexec hv1 (hv' w' I.world)).symm) (fun ds R h => by rw [hTi] at h; cases h)
          unfold Oper.quietAt at hv1
          rw [hexec] at hv1
          have hne := fun f args w'' => pureB_spec (P := P) hp (ρ := a'.eval) (w := w') (w' := w'') (f := f) (args := args)
          unfold Oper.wp
          generalize (execOp a'.eval o).run P w' = r at *
          unfold Oper.quietUpon at hv1
          split at hv1
          · obtain ⟨rfl, rfl⟩ := hv1; exact hN
          · obtain ⟨rfl, rfl⟩ := hv1; exact hN
          · exact absurd rfl (hne _ _ _)
          · exact hv1.elim
        | some q =>
          obtain ⟨ds, R⟩ := q
          rw [hc] at hob hTi
          have hstep := hob w' I.world fun p hp hpd => by
            have hdp : done.getD p.1 false = true := reach_done (d := fun j => done.getD j false) (fun k hk j hj => I.closed k hk j hj) _ i p.1 (depB_spec hD hTi p.1 hpd) deps
            obtain ⟨h5, h9⟩ := Lx.known p hp
            obtain ⟨o5, ds5, R5, h6, h7, h8⟩ := h9 hdp
            rw [h8]
            exact I.rel p.1 o5 ds5 R5 (by omega) h6 h7 hdp
          refine wp_transfer (fun s hs => by rw [Lx.size]; exact B.room s hs) hexec hstep fun v w1 h2 h3 => ?_
          exact next v w1 h3 (fun h => by rw [hTi] at h; cases h) (fun ds' R' h => by rw [hTi] at h; cases h; exact h2)
      unfold wpOp
      simp only [ho, hwant, if_true]
      refine .inl (Oper.wp_mono (fun a1 w1 h => ?_) hgo)
      refine ih _ a1 w1 (by simpa using hs) ?_ ?_ ?_
      · have h0 : done.toList[i]'(by simpa using hid) = false := by simpa using hf
        rw [Array.toList_setIfInBounds, List.count_set (by simpa using hid), h0, hc]
        simp
      · intro t ht'
        rw [getD_set_ne false (by omega)]; exact ht t ht'
      · have e : (fun j => (done.setIfInBounds i true).getD j false) = upd (fun j => done.getD j false) i := by
          funext j
          unfold upd
          by_cases hj : j = i
          · subst hj; simp [hid]
          · rw [if_neg hj, getD_set_ne false (Ne.symm hj)]
        rw [e]; exact h
/-- A region that draws its order: a head whose operations read or yield what a relation is known of, and a tail in one forced order. -/
theorem wp_region_rel {id : Nat} {Q : Exit → Act → World → Prop} {a : Act} {w : World} {l : List Oper} (n : Nat) (T : List (Option (List Nat × SR Grows))) (hm : P.follows .mixedOrders = true)
    (hB : (lowG l.toArray && Region.noSelect l.toArray && relB l.toArray n a.tmps.size (T.map Option.isSome) && tailB l.toArray n && depB l.toArray (T.map (Option.map Prod.fst)) && decide (T.length = n) && decide (n ≤ l.length) && Region.seqB .any l.toArray (l.length - n) n (headDone l.toArray n)) = true)
    (h : relWalk P l.toArray Grows w (fun a' kn => ∀ w', (∃ X, w' = w.ext X) → (∀ p ∈ kn, p.2 w') → wpList P l.toArray Q (l.drop n) a' w') 0 (l.take n) T a []) : (Code.region id l.toArray true).wp P Q a w := by
  simp only [Bool.and_eq_true, decide_eq_true_eq] at hB
  obtain ⟨⟨⟨⟨⟨⟨⟨h1, h2⟩, h3⟩, h4⟩, h5⟩, h6⟩, h7⟩, h8⟩ := hB
  refine wp_region_any hm (wpAny_of_rel (L := Grows) (n := n) (g := l.length - n) (T := T) (w := w) (a := a) pre_grows (by simp; omega) h6 h1 h2 h3 h4 h5 h (fun a' w' kn hK hw' hkn => ?_) _ _ _ _ (by simp) (by simp) (fun t _ => getD_replicate_false _ _) ?_)
  · have hdl : (l.drop n).length = l.length - n := by simp
    have := wpAny_of_seq (md := .any) (Q' := Q) (l.drop n) n (headDone l.toArray n) a' w' (fun j => by simp [List.getElem?_drop]) (by rw [hdl]; exact h8) (hK w' hw' hkn)
    rwa [hdl] at this
  · have no : ∀ {j : Nat} {p : Prop}, (Array.replicate l.toArray.size false).getD j false = true → p := fun hj => by rw [getD_replicate_false] at hj; cases hj
    exact ⟨rfl, rfl, pre_grows.drew w, fun k hk => no hk, fun s _ => rfl, fun k o _ _ _ hk => no hk, fun k o ds R _ _ _ hk => no hk⟩
/-- A region that draws its order, each operation with an entry or reading. -/
theorem wp_region_relL {id : Nat} {Q : Exit → Act → World → Prop} {a : Act} {w : World} {l : List Oper} (pre : Pre L) (T : List (Option (List Nat × SR L))) (hm : P.follows .mixedOrders = true)
    (hB : (lowG l.toArray && Region.noSelect l.toArray && relB l.toArray l.length a.tmps.size (T.map Option.isSome) && depB l.toArray (T.map (Option.map Prod.fst)) && decide (T.length = l.length)) = true)
    (h : relWalk P l.toArray L w (fun a' kn => ∀ w', L w w' → (∀ p ∈ kn, p.2 w') → Q .normal a' w') 0 l T a []) : (Code.region id l.toArray true).wp P Q a w := by
  simp only [Bool.and_eq_true, decide_eq_true_eq] at hB
  obtain ⟨⟨⟨⟨h1, h2⟩, h3⟩, h5⟩, h6⟩ := hB
  have h4 : tailB l.toArray l.length = true := by
    unfold tailB
    rw [List.all_eq_true]
    intro t ht
    have := List.mem_range.1 ht
    simp at this ⊢
    exact .inl this
  have hx : relWalk P l.toArray L w (fun a' kn => ∀ w', L w w' → (∀ p ∈ kn, p.2 w') → Q .normal a' w') 0 (l.toArray.toList.take l.length) T a [] := by
    have e : l.toArray.toList.take l.length = l := by simp
    rw [e]; exact h
  refine wp_region_any hm (wpAny_of_rel (L := L) (n := l.length) (g := 0) (T := T) (w := w) (a := a) pre (by simp) h6 h1 h2 h3 h4 h5 hx (fun a' w' kn hK hw' hkn => ?_) _ _ _ _ (by simp) (by simp) (fun t _ => getD_replicate_false _ _) ?_)
  · refine ⟨?_, hK w' hw' hkn⟩
    have : ∀ j ∈ Region.ready .any l.toArray (headDone l.toArray l.length), False := fun j hj => by
      obtain ⟨h7, o, ho, -⟩ := mem_ready.1 hj
      have hj2 : j < l.length := by simpa using (Array.getElem?_eq_some_iff.1 ho).1
      simp [headDone, hj2] at h7
    exact List.eq_nil_iff_forall_not_mem.2 fun j hj => this j hj
  · have no : ∀ {j : Nat} {p : Prop}, (Array.replicate l.toArray.size false).getD j false = true → p := fun hj => by rw [getD_replicate_false] at hj; cases hj
    exact ⟨rfl, rfl, pre.drew w, fun k hk => no hk, fun s _ => rfl, fun k o _ _ _ hk => no hk, fun k o ds R _ _ _ hk => no hk⟩
theorem rel_none {K : Act → List (Nat × (World → Prop)) → Prop} {k : Nat} {o : Oper} {os : List Oper} {T : List (Option (List Nat × SR Grows))} {a : Act} {kn : List (Nat × (World → Prop))}
    (h : ∀ K' : Act → Prop, (∀ a', relWalk P ops Grows w K (k + 1) os T a' kn → K' a') → o.quiet P a (fun w' => ∃ X, w' = w.ext X) K') (hg : okG ops o a := by first | exact okG_none rfl | (unfold okG; simp [Region.wanted, yielded]; done)) : relWalk P ops Grows w K k (o :: os) (none :: T) a kn := ⟨hg, h _ fun _ h => h⟩
theorem rel_some {K : Act → List (Nat × (World → Prop)) → Prop} {k : Nat} {o : Oper} {os : List Oper} {T : List (Option (List Nat × SR Grows))} {a : Act} {kn : List (Nat × (World → Prop))} {ds : List Nat} {R : SR Grows} (hs : o.dst.isSome = true)
    (h : ∀ w', (∃ X, w' = w.ext X) → (∀ p ∈ kn, p.1 ∈ ds → p.2 w') → ∀ K' : Act → World → Prop, (∀ v w1, R.R v w1 → (∃ X, w1 = w'.ext X) → K' (a.put o.dst v) w1) → o.wp P a w' K' (fun _ _ _ => False))
    (h2 : ∀ v, R.F v → relWalk P ops Grows w K (k + 1) os T (a.put o.dst v) ((k, R.R v) :: kn)) (hg : okG ops o a := by first | exact okG_none rfl | (unfold okG; simp [Region.wanted, yielded]; done)) : relWalk P ops Grows w K k (o :: os) (some (ds, R) :: T) a kn :=
  ⟨hg, fun w' hw' hk => h w' hw' hk _ fun v w1 h1 h2 => ⟨v, rfl, by
    cases e : o.dst with
    | none => rw [e] at hs; cases hs
    | some s => simpa [yld, e] using h1, h2⟩, h2⟩
/-- The same, the world going on in any way that is told. -/
theorem relL_some {K : Act → List (Nat × (World → Prop)) → Prop} {k : Nat} {o : Oper} {os : List Oper} {T : List (Option (List Nat × SR L))} {a : Act} {kn : List (Nat × (World → Prop))} {ds : List Nat} {R : SR L} (hs : o.dst.isSome = true)
    (h : ∀ w', L w w' → (∀ p ∈ kn, p.1 ∈ ds → p.2 w') → ∀ K' : Act → World → Prop, (∀ v w1, R.R v w1 → L w' w1 → K' (a.put o.dst v) w1) → o.wp P a w' K' (fun _ _ _ => False))
    (h2 : ∀ v, R.F v → relWalk P ops L w K (k + 1) os T (a.put o.dst v) ((k, R.R v) :: kn)) (hg : okG ops o a := by first | exact okG_none rfl | (unfold okG; simp [Region.wanted, yielded]; done)) : relWalk P ops L w K k (o :: os) (some (ds, R) :: T) a kn :=
  ⟨hg, fun w' hw' hk => h w' hw' hk _ fun v w1 h1 h2 => ⟨v, rfl, by
    cases e : o.dst with
    | none => rw [e] at hs; cases hs
    | some s => simpa [yld, e] using h1, h2⟩, h2⟩
theorem relL_store {K : Act → List (Nat × (World → Prop)) → Prop} {k : Nat} {o : Oper} {os : List Oper} {T : List (Option (List Nat × SR L))} {a : Act} {kn : List (Nat × (World → Prop))} {ds : List Nat} {R : SR L} (hs : o.dst = none)
    (h : ∀ w', L w w' → (∀ p ∈ kn, p.1 ∈ ds → p.2 w') → ∀ K' : Act → World → Prop, (∀ w1, R.R undef w1 → L w' w1 → K' a w1) → o.wp P a w' K' (fun _ _ _ => False))
    (h2 : ∀ v, R.F v → relWalk P ops L w K (k + 1) os T a ((k, R.R v) :: kn)) (hg : okG ops o a := by first | exact okG_none rfl | (unfold okG; simp [Region.wanted, yielded]; done)) : relWalk P ops L w K k (o :: os) (some (ds, R) :: T) a kn :=
  ⟨hg, fun w' hw' hk => h w' hw' hk _ fun w1 h1 h2 => ⟨undef, by rw [hs]; rfl, by simpa [yld, hs] using h1, h2⟩, fun v hv => by rw [hs]; exact h2 v hv⟩
theorem rel_nil {K : Act → List (Nat × (World → Prop)) → Prop} {k : Nat} {T : List (Option (List Nat × SR L))} {a : Act} {kn : List (Nat × (World → Prop))} (h : K a kn) : relWalk P ops L w K k [] T a kn := by
  cases T <;> exact h
/-- It returns what such is known of; what was there stays. -/
def RetR (R : Value → World → Prop) (w : World) (e : Ending) (w' : World) : Prop := ∃ v, e = .returned v ∧ R v w' ∧ ∃ X, w' = w.ext X
end
end
end Go
end
section
/- A region that draws its order, by an invariant: the frame's part of it, for any operations that yield (their slots: σ) and any that do not. No condition. -/
namespace Go
set_option linter.unusedVariables false
set_option linter.unusedSimpArgs false
/-- The frame while operations 0 .. m - 1 (those that yield) are done as d says: val i stands in slot σ i. -/
structure Fr (a : Act) (σ : Nat → Tmp) (m : Nat) (val : Nat → Value) (d : Nat → Bool) (a' : Act) : Prop where
  size : a'.tmps.size = a.tmps.size
  defers : a'.defers = a.defers
  off : ∀ s, (∀ i, i < m → σ i ≠ s) → a'.tmps[s]? = a.tmps[s]?
  on : ∀ i, i < m → d i = true → a'.tmps[σ i]? = some (val i)
section
variable {a a' : Act} {σ : Nat → Tmp} {m : Nat} {val : Nat → Value} {d : Nat → Bool}
theorem Fr.start : Fr a σ m val (fun _ => false) a := ⟨rfl, rfl, fun _ _ => rfl, fun _ _ h => by cases h⟩
def vset (val : Nat → Value) (i : Nat) (v : Value) : Nat → Value := fun j => if j = i then v else val j
theorem vset_at (val : Nat → Value) (i : Nat) (v : Value) : vset val i v i = v := if_pos rfl
theorem vset_ne (val : Nat → Value) {i j : Nat} (v : Value) (h : j ≠ i) : vset val i v j = val j := if_neg h
theorem Fr.put (h : Fr a σ m val d a') (hinj : ∀ i j, i < m → j < m → σ i = σ j → i = j) (hlt : ∀ i, i < m → σ i < a.tmps.size) (i : Nat) (hi : i < m) (v : Value) :
    Fr a σ m (vset val i v) (upd d i) (a'.put (some (σ i)) v) := by
  refine ⟨by rw [← h.size]; simp [Act.put], by rw [← h.defers]; rfl, fun s hs => ?_, fun j hj hd => ?_⟩
  · rw [Act.put_at rfl, if_neg (hs i hi)]; exact h.off s hs
  · by_cases hji : j = i
    · subst hji
      have hs : σ j < a'.tmps.size := by rw [h.size]; exact hlt j hj
      rw [Act.put_at rfl, if_pos rfl, vset_at]
      simp [hs]
    · rw [Act.put_at rfl, if_neg fun he => hji (hinj _ _ hi hj he).symm, vset_ne _ _ hji]
      unfold upd at hd
      rw [if_neg hji] at hd
      exact h.on j hj hd
theorem Fr.skip (h : Fr a σ m val d a') {i : Nat} (hi : m ≤ i) : Fr a σ m val (upd d i) a' :=
  ⟨h.size, h.defers, h.off, fun j hj hd => h.on j hj (by unfold upd at hd; rwa [if_neg (by omega)] at hd)⟩
theorem Fr.eval (h : Fr a σ m val d a') {i : Nat} (hi : i < m) (hd : d i = true) : a'.eval (.tmp (σ i)) = val i := by
  have := h.on i hi hd
  simp [Act.eval, this]
theorem Fr.evalo (h : Fr a σ m val d a') {s : Tmp} (hs : ∀ i, i < m → σ i ≠ s) : a'.eval (.tmp s) = a.eval (.tmp s) := by
  have := h.off s hs
  simp [Act.eval, this]
/-- All are done: the frame. -/
def putsTo (σ : Nat → Tmp) (val : Nat → Value) (a : Act) : Nat → Act
  | 0 => a
  | k + 1 => (putsTo σ val a k).put (some (σ k)) (val k)
theorem putsTo_size (k : Nat) : (putsTo σ val a k).tmps.size = a.tmps.size := by
  induction k with
  | zero => rfl
  | succ k ih => rw [putsTo, ← ih]; simp [Act.put]
theorem putsTo_defers (k : Nat) : (putsTo σ val a k).defers = a.defers := by
  induction k with
  | zero => rfl
  | succ k ih => rw [putsTo, ← ih]; rfl
theorem putsTo_off (k : Nat) (s : Tmp) (hs : ∀ i, i < k → σ i ≠ s) : (putsTo σ val a k).tmps[s]? = a.tmps[s]? := by
  induction k with
  | zero => rfl
  | succ k ih => rw [putsTo, Act.put_at rfl, if_neg (hs k (by omega))]; exact ih fun i hi => hs i (by omega)
theorem putsTo_on (hinj : ∀ i j, i < m → j < m → σ i = σ j → i = j) (hlt : ∀ i, i < m → σ i < a.tmps.size) (k : Nat) (hk : k ≤ m) (i : Nat) (hi : i < k) : (putsTo σ val a k).tmps[σ i]? = some (val i) := by
  induction k with
  | zero => omega
  | succ k ih =>
    rw [putsTo, Act.put_at rfl]
    by_cases e : i = k
    · subst e
      have hs : σ i < (putsTo σ val a i).tmps.size := by rw [putsTo_size]; exact hlt i (by omega)
      rw [if_pos rfl]; simp [hs]
    · rw [if_neg fun he => e (hinj _ _ (by omega) (by omega) he).symm]; exact ih (by omega) (by omega)
theorem Fr.done (h : Fr a σ m val d a') (hinj : ∀ i j, i < m → j < m → σ i = σ j → i = j) (hlt : ∀ i, i < m → σ i < a.tmps.size) (hd : ∀ i, i < m → d i = true) : a' = putsTo σ val a m := by
  refine act_ext (by rw [h.size, putsTo_size]) (by rw [h.defers, putsTo_defers]) fun s => ?_
  by_cases hs : ∃ i, i < m ∧ σ i = s
  · obtain ⟨i, hi, rfl⟩ := hs
    rw [h.on i hi (hd i hi), putsTo_on hinj hlt m (Nat.le_refl _) i hi]
  · have hs' : ∀ i, i < m → σ i ≠ s := fun i hi e => hs ⟨i, hi, e⟩
    rw [h.off s hs', putsTo_off m s hs']
end
theorem upd_self (d : Nat → Bool) (i : Nat) : upd d i i = true := if_pos rfl
theorem upd_other (d : Nat → Bool) {i j : Nat} (h : j ≠ i) : upd d i j = d j := if_neg h
end Go
end
