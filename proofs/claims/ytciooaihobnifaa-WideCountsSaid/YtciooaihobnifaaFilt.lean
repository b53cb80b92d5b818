/- Parts of lists that are chosen by a test: where an element stands. No condition. -/
import Derived.Test.YtciooaihobnifaaRecs
namespace Go.Proofs.Ytciooaihobnifaa
set_option linter.unusedVariables false
set_option linter.unusedSimpArgs false
theorem filter_get {α : Type} (p : α → Bool) (L : List α) (k : Nat) (f : α) (hf : L[k]? = some f) (hp : p f = true) : (L.filter p)[((L.take k).filter p).length]? = some f := by
  obtain ⟨hk, rfl⟩ := List.getElem?_eq_some_iff.1 hf
  have e : L = L.take k ++ L[k] :: L.drop (k + 1) := by rw [← List.drop_eq_getElem_cons hk, List.take_append_drop]
  have e2 : L.filter p = (L.take k).filter p ++ L[k] :: (L.drop (k + 1)).filter p := by
    have := congrArg (List.filter p) e
    rw [List.filter_append, List.filter_cons_of_pos hp] at this
    exact this
  rw [e2, List.getElem?_append_right (Nat.le_refl _), Nat.sub_self]; rfl
theorem filter_next {α : Type} (p : α → Bool) (L : List α) (k : Nat) (f : α) (hf : L[k]? = some f) : ((L.take (k + 1)).filter p).length = ((L.take k).filter p).length + (if p f then 1 else 0) := by
  obtain ⟨hk, rfl⟩ := List.getElem?_eq_some_iff.1 hf
  rw [List.take_add_one, List.getElem?_eq_getElem hk, List.filter_append, List.length_append]
  by_cases h : p L[k] = true
  · simp [h]
  · simp [h]
theorem filter_full {α : Type} (p : α → Bool) (L : List α) : ((L.take L.length).filter p).length = (L.filter p).length := by rw [List.take_length]
end Go.Proofs.Ytciooaihobnifaa
