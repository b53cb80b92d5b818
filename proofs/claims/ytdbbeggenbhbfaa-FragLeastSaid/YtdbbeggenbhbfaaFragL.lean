/- The plain law of FragLeast: what stands at a pixel behind fragments is the least of what stood there and what came. Condition: Func is 1 or 3, kept, not cut. -/
import Derived.Test.YtdbbeggenbhbfaaFragF
import Derived.Test.YtdbbeggenbhbfaaPut
namespace Go.Proofs.Ytdbbeggenbhbfaa
set_option linter.unusedVariables false
set_option linter.unusedSimpArgs false
open Go.RowKit
/-- Does a fragment that may be come to the i-th pixel? -/
def atP (W : Int) (i : Nat) (f : FrP) : Prop := f.x = (i : Int) % W ∧ f.y = (i : Int) / W ∧ f.fits
instance (W : Int) (i : Nat) (f : FrP) : Decidable (atP W i f) := by unfold atP; exact inferInstance
def minF (W : Int) (i : Nat) (z : Int) (f : FrP) : Int := if atP W i f then min z f.z else z
def leastF (W : Int) (i : Nat) (z : Int) (L : List FrP) : Int := L.foldl (minF W i) z
structure Keeps (o : OpsP) : Prop where
  right : o.right
  cut : o.cut = false
  deep : o.deep = true
  keep : o.keep = true
  fn : o.fn = 1 ∨ o.fn = 3
theorem putZ_at' {W H : Int} {C Z0 Z : List Int} (h : ImOk W H C Z0) (hl : Z.length = C.length) {x y u : Int} (k : Nat) (hk : k < C.length) : elt (putZ W H Z x y u) k = if x = (k : Int) % W ∧ y = (k : Int) / W then u else elt Z k := by
  obtain ⟨h1, h2⟩ := kth h hk
  unfold putZ
  by_cases hx : x = (k : Int) % W ∧ y = (k : Int) / W
  · obtain ⟨rfl, rfl⟩ := hx
    rw [if_pos h1, h2, elt_set _ _ _ _ (by simp; omega), if_pos (by simp)]
    simp
  · rw [if_neg hx]
    split
    · rename_i hi
      have := (ix_lt h hi).1
      rw [elt_set _ _ _ _ (by omega), if_neg]
      intro e; subst e; have := kth_of hi; exact hx ⟨this.1.symm, this.2.symm⟩
    · rfl
theorem got_at {W H : Int} {C Z0 Z : List Int} (h : ImOk W H C Z0) (k : Nat) (hk : k < C.length) : gotC id W H Z ((k : Int) % W) ((k : Int) / W) = elt Z k := by
  obtain ⟨h1, h2⟩ := kth h hk
  unfold gotC; rw [if_pos h1, h2]; simp
theorem oneZ_min {o : OpsP} (ho : Keeps o) {W H : Int} {C Z0 Z : List Int} (h : ImOk W H C Z0) (hl : Z.length = C.length) (f : FrP) (k : Nat) (hk : k < C.length) : elt (oneZ o f W H Z) k = minF W k (elt Z k) f := by
  obtain ⟨h1, h2⟩ := kth h hk
  obtain ⟨hr, hc, hd, hkp, hfn⟩ := ho
  unfold oneZ minF
  have hb : oneB o f W H Z = (decide f.fits && (decide (inB W H f.x f.y) && decide (passP o.fn f.z (gotC id W H Z f.x f.y)))) := by
    unfold oneB ref? refB OpsP.has OpsP.pass
    simp [hr, hc, hd]
  by_cases ha : atP W k f
  · rw [if_pos ha]
    obtain ⟨ax, ay, af⟩ := ha
    have hi : inB W H f.x f.y := by rw [ax, ay]; exact h1
    have hg : gotC id W H Z f.x f.y = elt Z k := by rw [ax, ay]; exact got_at h k hk
    rw [hg] at hb
    rw [hb]
    by_cases hp : passP o.fn f.z (elt Z k)
    · simp only [af, hi, hp, hd, hkp, decide_true, Bool.and_self, if_true]
      rw [putZ_at' h hl k hk, if_pos ⟨ax, ay⟩]
      unfold passP at hp; omega
    · simp only [hp, decide_false, Bool.and_false, Bool.false_and, Bool.false_eq_true, if_false]
      unfold passP at hp; omega
  · rw [if_neg ha]
    split
    · rename_i hx
      have hf : f.fits := by
        rw [hb] at hx; simp at hx; exact hx.1.1
      rw [putZ_at' h hl k hk, if_neg fun hx => ha ⟨hx.1, hx.2, hf⟩]
    · rfl
theorem least_all {o : OpsP} (ho : Keeps o) {W H : Int} {C Z0 : List Int} (h : ImOk W H C Z0) (k : Nat) (hk : k < C.length) (L : List FrP) :
    ∀ (s : List Int × List Int × Int), s.2.1.length = C.length → elt (L.foldl (stepF o W H) s).2.1 k = leastF W k (elt s.2.1 k) L := by
  induction L with
  | nil => intro s _; rfl
  | cons f L ih =>
    intro s hs
    rw [List.foldl_cons, ih _ (by unfold stepF; simp only; rw [show (oneZ o f W H s.2.1).length = s.2.1.length from by unfold oneZ putZ; split <;> (try split) <;> simp]; exact hs)]
    unfold leastF
    rw [List.foldl_cons]
    congr 1
    exact oneZ_min ho h hs f k hk
theorem leastF_snoc (W : Int) (i : Nat) (z : Int) (L : List FrP) (k : Nat) (hk : k < L.length) : leastF W i z (L.take (k + 1)) = minF W i (leastF W i z (L.take k)) L[k] := by
  unfold leastF
  rw [List.take_succ_eq_append_getElem hk, List.foldl_append]; rfl
end Go.Proofs.Ytdbbeggenbhbfaa
