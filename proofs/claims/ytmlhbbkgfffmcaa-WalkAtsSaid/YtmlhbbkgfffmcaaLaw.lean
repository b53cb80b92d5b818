/- From a law's walk to its row, once for all laws: a call that returns true and leaves what was there makes the row hold. Condition: the parameters' types read as data. -/
import Derived.Test.YtmlhbbkgfffmcaaBase
import Derived.JoinedAt
namespace Go.Proofs.Ytmlhbbkgfffmcaa
set_option linter.unusedVariables false
set_option linter.unusedSimpArgs false
open Go.RowKit Go.ChangeShapes Go.WideShapes Go.ChangeAt
theorem own : ownKnob Try.prog.godebug = none := by kernel_rfl
theorem laidOut : laidOutB Try.prog = true := by kernel_rfl
theorem trodAll_below {H : Type} {enc : TypeId × Value → H} {W W' : World} (hb : Below W.heap.size W W') (ts : List TypeId) :
    ∀ (vs : List Value) (ds : List (DataW H)) (ps : List MemPlace),
      ts.all (fun t => Try.prog.readableRec t && decide (t < Try.prog.types.size)) = true → DataW.TrodAll enc Try.prog W 0 (fun _ => true) true ts vs ds ps → (∀ x ∈ ps, x.block < W.heap.size) →
      DataW.TrodAll enc Try.prog W' 0 (fun b => decide (b < W.heap.size)) true ts vs ds ps := by
  induction ts with
  | nil =>
    intro vs ds ps _ h _
    obtain ⟨rfl, rfl, rfl⟩ := trodAll_nil h
    rfl
  | cons t ts ih =>
    intro vs ds ps hr h hlt
    obtain ⟨v, vs', d, ds', p, q, rfl, rfl, rfl, h1, h2⟩ := trodAll_cons h
    rw [List.all_cons, Bool.and_eq_true, Bool.and_eq_true, decide_eq_true_eq] at hr
    exact ⟨p, q, Below.trod laidOut hr.1.1 hr.1.2 h1 hb (fun x hx => hlt x (List.mem_append.2 (.inl hx))), ih _ _ _ hr.2 h2 (fun x hx => hlt x (List.mem_append.2 (.inr hx))), rfl⟩
theorem trodAll_length {H : Type} {enc : TypeId × Value → H} {W : World} (ts : List TypeId) : ∀ (vs : List Value) (ds : List (DataW H)) (ps : List MemPlace),
    DataW.TrodAll enc Try.prog W 0 (fun _ => true) true ts vs ds ps → ds.length = ts.length := by
  induction ts with
  | nil =>
    intro vs ds ps h
    obtain ⟨rfl, rfl, rfl⟩ := trodAll_nil h
    rfl
  | cons t ts ih =>
    intro vs ds ps h
    obtain ⟨v, vs', d, ds', p, q, rfl, rfl, rfl, h1, h2⟩ := trodAll_cons h
    simp [ih _ _ _ h2]
/-- What a law's walk may lean on: its arguments read as data, and have their types' outer forms. -/
def Args (fn : Func) (W : World) (args : Array Value) : Prop :=
  ∃ (H : Type) (enc : TypeId × Value → H) (ds : List (DataW H)) (ps : List MemPlace) (base : Nat),
    DataW.TrodAll enc Try.prog W 0 (fun _ => true) true fn.params.toList args.toList ds ps ∧
    (∀ (j : Nat) t v, fn.params[j]? = some t → args[j]? = some v → Value.okWide Try.prog W .any base t v) ∧ (∀ x ∈ ps, x.block < W.heap.size) ∧ W.noneFrozen ps
set_option maxRecDepth 100000 in
theorem law_lifted (spec : ChangeSpec) (f : FuncId) (fn : Func) (hin : Try.prog.inits.idxOf? f = none) (hf : Try.prog.funcs[f]? = some fn) (hvars : spec.vars = []) (hres : fn.resultTypes = #[4])
    (hspec : ∀ (H : Type) (ds : List (DataW H)), ds.length = fn.params.toList.length → (spec.fn H ds).results = [.lit (.bool true)] ∧ (spec.fn H ds).args = ds ∧ (spec.fn H ds).vars = [])
    (hread : fn.params.toList.all (fun t => Try.prog.readableRec t && decide (t < Try.prog.types.size)) = true)
    (walk : ∀ (W : World) (args : Array Value), Args fn W args → Calls Try.prog f args W (Ret (.bool true) W))
    (os : Os) (started : os.Started) (H : Type) (enc : TypeId × Value → H)
    (wit : ∃ (w : World) (tape : Nat → Question → Nat) (i : Input), w.os = os ∧ World.Shaped Try.checked.prog (w.forCall tape i) ∧ i.vars = [] ∧ Input.okWide Try.checked.prog (w.forCall tape i) Reach.any w.heap.size f i ∧
      ChangeSpec.pre6 enc Try.checked.prog fn spec [] false (w.forCall tape i).memory i.args ∧ ({} : Assume).holds Try.checked.prog (lone (Frame.enter Try.checked.prog f i.args CallKind.normal) [] (w.forCall tape i))) :
    ReturnsInHanded {} Try.checked os f .any (spec.pre6 enc Try.prog fn [] false) (spec.post enc Try.prog fn false true false false) := by
  refine returnsInHanded_of_change (C := Try.checked) own started hin hf wit ?_
  intro W base args ds gs before hval hW _ _
  have hlt : ∀ x ∈ before, x.block < W.heap.size := fun x hx => by simpa using hW.lt x hx
  have hW' := hW
  obtain ⟨p, q, hA, hV, rfl, hfz, _⟩ := hW
  have hA' : DataW.TrodAll enc Try.prog W 0 (fun _ => true) true fn.params.toList args.toList ds p := hA
  rw [hvars] at hV
  obtain ⟨rfl, rfl⟩ := trodVars_none hV
  have hl := trodAll_length _ _ _ _ hA'
  obtain ⟨e1, e2, e3⟩ := hspec H ds hl
  rw [List.append_nil] at hlt hfz
  refine (walk W args ⟨H, enc, ds, p, base, hA', hval, hlt, hfz⟩).mono fun e W' hr => ?_
  obtain ⟨rfl, X, rfl⟩ := hr
  have hb : Below W.heap.size W (W.ext X) := (Below.refl _ _).ext (Nat.le_refl _) X
  refine ⟨_, rfl, ds, [], p ++ [], [], p, [], hW', ?_, ?_, ?_, hb.frame _, fun h => by cases h⟩
  · rw [List.append_nil, e1, hres]
    exact trodAll_mk1 (shut_bool Try.underlying4 true)
  · rw [List.append_nil, e2]
    exact trodAll_below hb _ _ _ _ hread hA' hlt
  · rw [List.append_nil, e3, hvars]
    rfl
end Go.Proofs.Ytmlhbbkgfffmcaa
