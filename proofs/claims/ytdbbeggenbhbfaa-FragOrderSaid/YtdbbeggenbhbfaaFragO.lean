/- The plain law of FragOrder: the order of fragments of unlike pixels doesn't matter. No condition. -/
import Derived.Test.YtdbbeggenbhbfaaFragF
import Derived.Test.YtdbbeggenbhbfaaPut
namespace Go.Proofs.Ytdbbeggenbhbfaa
set_option linter.unusedVariables false
set_option linter.unusedSimpArgs false
open Go.RowKit
/-- Are two fragments of unlike pixels? -/
def unlike (f g : FrP) : Prop := ¬ (f.x = g.x ∧ f.y = g.y)
theorem elt_far (l : List Int) {i j : Nat} (v : Int) (h : j ≠ i) : elt (l.set j v) i = elt l i := by
  simp [elt, List.getElem?_set, h]
theorem gotC_far (fn : Int → Int) (W H : Int) (l : List Int) {j : Nat} (v : Int) {x y : Int} (h : inB W H x y → j ≠ (y * W + x).toNat) : gotC fn W H (l.set j v) x y = gotC fn W H l x y := by
  unfold gotC
  by_cases hi : inB W H x y
  · rw [if_pos hi, if_pos hi, elt_far _ _ (h hi)]
  · rw [if_neg hi, if_neg hi]
theorem ix_ne {W H x y x' y' : Int} (h : inB W H x y) (h' : inB W H x' y') (hne : ¬ (x = x' ∧ y = y')) : (y * W + x).toNat ≠ (y' * W + x').toNat := by
  intro e
  have a := kth_of h
  have b := kth_of h'
  rw [e] at a
  exact hne ⟨a.1.symm.trans b.1, a.2.symm.trans b.2⟩
theorem oneZ_form (o : OpsP) (g : FrP) (W H : Int) (Z : List Int) : oneZ o g W H Z = Z ∨ (inB W H g.x g.y ∧ oneZ o g W H Z = Z.set (g.y * W + g.x).toNat g.z) := by
  unfold oneZ putZ
  by_cases h : (oneB o g W H Z && (o.deep && o.keep)) = true
  · rw [if_pos h]
    by_cases hi : inB W H g.x g.y
    · rw [if_pos hi]; exact .inr ⟨hi, rfl⟩
    · rw [if_neg hi]; exact .inl rfl
  · rw [if_neg h]; exact .inl rfl
theorem oneC_form (o : OpsP) (g : FrP) (W H : Int) (C Z : List Int) : oneC o g W H C Z = C ∨ (inB W H g.x g.y ∧ ∃ v, oneC o g W H C Z = C.set (g.y * W + g.x).toNat v) := by
  unfold oneC putC
  by_cases h : oneB o g W H Z = true
  · rw [if_pos h]
    by_cases hi : inB W H g.x g.y
    · rw [if_pos hi]; exact .inr ⟨hi, _, rfl⟩
    · rw [if_neg hi]; exact .inl rfl
  · rw [if_neg h]; exact .inl rfl
theorem gotZ_one (fn : Int → Int) (o : OpsP) {f g : FrP} (h : unlike f g) (W H : Int) (Z : List Int) : gotC fn W H (oneZ o g W H Z) f.x f.y = gotC fn W H Z f.x f.y := by
  rcases oneZ_form o g W H Z with e | ⟨hg, e⟩
  · rw [e]
  · rw [e]; exact gotC_far _ _ _ _ _ fun hf => (ix_ne hf hg h).symm
theorem gotC_one (fn : Int → Int) (o : OpsP) {f g : FrP} (h : unlike f g) (W H : Int) (C Z : List Int) : gotC fn W H (oneC o g W H C Z) f.x f.y = gotC fn W H C f.x f.y := by
  rcases oneC_form o g W H C Z with e | ⟨hg, v, e⟩
  · rw [e]
  · rw [e]; exact gotC_far _ _ _ _ _ fun hf => (ix_ne hf hg h).symm
theorem oneB_one (o : OpsP) {f g : FrP} (h : unlike f g) (W H : Int) (Z : List Int) : oneB o f W H (oneZ o g W H Z) = oneB o f W H Z := by
  unfold oneB ref? OpsP.pass
  rw [gotZ_one _ _ h]
theorem kol_one (o : OpsP) {f g : FrP} (h : unlike f g) (W H : Int) (C Z : List Int) (s a : Int) (fn : Int → Int) : kol o W H (oneC o g W H C Z) f.x f.y s a fn = kol o W H C f.x f.y s a fn := by
  unfold kol
  rw [gotC_one _ _ h]
theorem putZ_putZ {f g : FrP} (h : unlike f g) (W H : Int) (Z : List Int) (u v : Int) : putZ W H (putZ W H Z g.x g.y v) f.x f.y u = putZ W H (putZ W H Z f.x f.y u) g.x g.y v := by
  unfold putZ
  by_cases hf : inB W H f.x f.y <;> by_cases hg : inB W H g.x g.y <;> simp only [hf, hg, if_true, if_false]
  exact List.set_comm _ _ (ix_ne hf hg h).symm
theorem putC_putC {f g : FrP} (h : unlike f g) (W H : Int) (C : List Int) (a b c d a' b' c' d' : Int) (m0 m1 m2 m3 : Bool) : putC W H (putC W H C g.x g.y a' b' c' d' m0 m1 m2 m3) f.x f.y a b c d m0 m1 m2 m3 = putC W H (putC W H C f.x f.y a b c d m0 m1 m2 m3) g.x g.y a' b' c' d' m0 m1 m2 m3 := by
  unfold putC
  by_cases hf : inB W H f.x f.y <;> by_cases hg : inB W H g.x g.y <;> simp only [hf, hg, if_true, if_false]
  have hne := ix_ne hf hg h
  rw [elt_far _ _ hne.symm, elt_far _ _ hne]
  exact List.set_comm _ _ hne.symm
theorem unlike.symm {f g : FrP} (h : unlike f g) : unlike g f := fun e => h ⟨e.1.symm, e.2.symm⟩
theorem step_comm (o : OpsP) (W H : Int) {f g : FrP} (h : unlike f g) (s : List Int × List Int × Int) : stepF o W H (stepF o W H s g) f = stepF o W H (stepF o W H s f) g := by
  obtain ⟨C, Z, n⟩ := s
  have k := h.symm
  have bf := oneB_one o h W H Z
  have bg := oneB_one o k W H Z
  have cf := kol_one o h W H C Z
  have cg := kol_one o k W H C Z
  unfold stepF
  simp only [bf, bg]
  have e1 : oneZ o f W H (oneZ o g W H Z) = oneZ o g W H (oneZ o f W H Z) := by
    have a : oneZ o f W H (oneZ o g W H Z) = if oneB o f W H Z && (o.deep && o.keep) then putZ W H (oneZ o g W H Z) f.x f.y f.z else oneZ o g W H Z := by
      conv => lhs; unfold oneZ
      rw [show oneB o f W H (if oneB o g W H Z && (o.deep && o.keep) then putZ W H Z g.x g.y g.z else Z) = oneB o f W H Z from bf]; rfl
    have b : oneZ o g W H (oneZ o f W H Z) = if oneB o g W H Z && (o.deep && o.keep) then putZ W H (oneZ o f W H Z) g.x g.y g.z else oneZ o f W H Z := by
      conv => lhs; unfold oneZ
      rw [show oneB o g W H (if oneB o f W H Z && (o.deep && o.keep) then putZ W H Z f.x f.y f.z else Z) = oneB o g W H Z from bg]; rfl
    rw [a, b]
    unfold oneZ
    cases oneB o f W H Z && (o.deep && o.keep) <;> cases oneB o g W H Z && (o.deep && o.keep) <;> simp only [if_true, Bool.false_eq_true, if_false]
    exact putZ_putZ h W H Z _ _
  have e2 : oneC o f W H (oneC o g W H C Z) (oneZ o g W H Z) = oneC o g W H (oneC o f W H C Z) (oneZ o f W H Z) := by
    have a : oneC o f W H (oneC o g W H C Z) (oneZ o g W H Z) = if oneB o f W H Z then putC W H (oneC o g W H C Z) f.x f.y (kol o W H C f.x f.y f.c0 f.a up0) (kol o W H C f.x f.y f.c1 f.a up1) (kol o W H C f.x f.y f.c2 f.a up2) (kol o W H C f.x f.y f.a f.a up3) o.m0 o.m1 o.m2 o.m3 else oneC o g W H C Z := by
      conv => lhs; rw [oneC, bf, cf, cf, cf, cf]
    have b : oneC o g W H (oneC o f W H C Z) (oneZ o f W H Z) = if oneB o g W H Z then putC W H (oneC o f W H C Z) g.x g.y (kol o W H C g.x g.y g.c0 g.a up0) (kol o W H C g.x g.y g.c1 g.a up1) (kol o W H C g.x g.y g.c2 g.a up2) (kol o W H C g.x g.y g.a g.a up3) o.m0 o.m1 o.m2 o.m3 else oneC o f W H C Z := by
      conv => lhs; rw [oneC, bg, cg, cg, cg, cg]
    rw [a, b]
    unfold oneC
    cases oneB o f W H Z <;> cases oneB o g W H Z <;> simp only [if_true, Bool.false_eq_true, if_false]
    exact putC_putC h W H C _ _ _ _ _ _ _ _ _ _ _ _
  rw [e1, e2]
  cases oneB o f W H Z <;> cases oneB o g W H Z <;> simp
theorem fold_comm (o : OpsP) (W H : Int) (g : FrP) : ∀ (L : List FrP) (s : List Int × List Int × Int), (∀ f ∈ L, unlike f g) → L.foldl (stepF o W H) (stepF o W H s g) = stepF o W H (L.foldl (stepF o W H) s) g := by
  intro L
  induction L with
  | nil => intro s _; rfl
  | cons f L ih =>
    intro s hs
    rw [List.foldl_cons, List.foldl_cons, step_comm o W H (hs f (by simp)), ih _ fun x hx => hs x (by simp [hx])]
theorem all_back (o : OpsP) (W H : Int) (C Z : List Int) (L : List FrP) (h : L.Pairwise unlike) : allF o W H C Z L.reverse = allF o W H C Z L := by
  unfold allF
  generalize (C, Z, (0 : Int)) = s
  induction L generalizing s with
  | nil => rfl
  | cons f L ih =>
    rw [List.pairwise_cons] at h
    rw [List.reverse_cons, List.foldl_append, List.foldl_cons, List.foldl_nil, ih h.2, List.foldl_cons, fold_comm o W H f L s fun x hx => (h.1 x hx).symm]
theorem unlike_of {L : List FrP} (h : ∀ i, i < L.length → ∀ k, k < i → ∀ (hi : i < L.length) (hk : k < L.length), unlike L[k] L[i]) : L.Pairwise unlike := by
  rw [List.pairwise_iff_getElem]
  intro k i hk hi hlt
  exact h i hi k hlt hi hk
end Go.Proofs.Ytdbbeggenbhbfaa
