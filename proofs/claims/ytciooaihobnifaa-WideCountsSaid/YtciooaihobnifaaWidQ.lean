/- The plain laws behind WideParts and WideCounts. No condition. -/
import Derived.Test.YtciooaihobnifaaPWidA
namespace Go.Proofs.Ytciooaihobnifaa
set_option linter.unusedVariables false
set_option linter.unusedSimpArgs false
theorem win_fits {x y : Int} (hx : -268435456 ≤ x ∧ x ≤ 268435456) (hy : -268435456 ≤ y ∧ y ≤ 268435456) : (⟨x, y, 0, 0, 0, 0, 0⟩ : WinP).fitsP := by
  unfold WinP.fitsP
  simp only
  omega
theorem right400 : rightP (-400) (-400) 400 400 := by unfold rightP; omega
theorem next_dash {dd : Bool} {p r q : Int} (h : dashP p r q) (k : Nat) : dashP p r (nextC dd r q k) ∧ (dd = false → nextC dd r q k = q) := by
  obtain ⟨h1, ⟨h2, h3⟩, h4⟩ := h
  unfold nextC
  cases dd
  · exact ⟨⟨h1, ⟨h2, h3⟩, h4⟩, fun _ => rfl⟩
  · have a := Int.emod_nonneg (q + k) (show r * 16 ≠ 0 by omega)
    have b := Int.emod_lt_of_pos (q + k) (show 0 < r * 16 by omega)
    exact ⟨⟨h1, ⟨h2, h3⟩, by simp only [if_true]; omega⟩, by simp⟩
theorem parts17_plain (a0 a1 d0 d1 m k n p r q : Int) (dd : Bool) (a00 : -32768 ≤ a0 ∧ a0 ≤ 32767) (a10 : -32768 ≤ a1 ∧ a1 ≤ 32767) (m0 : 0 ≤ m) (k0 : 0 ≤ k) (b0 : -3968 ≤ m * d0 ∧ m * d0 ≤ 3937) (b1 : -3968 ≤ m * d1 ∧ m * d1 ≤ 3937) (b2 : -3968 ≤ k * d0 ∧ k * d0 ≤ 3937) (b3 : -3968 ≤ k * d1 ∧ k * d1 ≤ 3937) (hn : 1 ≤ n ∧ n ≤ 64) (hd : dashP p r q) :
    ∃ (X Y Z : List FrP) (ce cd : Int),
      wdL ⟨a0, a1, 0, 0, 0, 0, 0⟩ ⟨a0 + m * d0 + k * d0, a1 + m * d1 + k * d1, 0, 0, 0, 0, 0⟩ n dd p r q (-400) (-400) 400 400 = X ∧
      (if lineP ⟨a0, a1, 0, 0, 0, 0, 0⟩ ⟨a0 + m * d0 + k * d0, a1 + m * d1 + k * d1, 0, 0, 0, 0, 0⟩ n p r q then nextC dd r q (coreL ⟨a0, a1, 0, 0, 0, 0, 0⟩ ⟨a0 + m * d0 + k * d0, a1 + m * d1 + k * d1, 0, 0, 0, 0, 0⟩ n).length else q) = cd ∧
      wdL ⟨a0, a1, 0, 0, 0, 0, 0⟩ ⟨a0 + m * d0, a1 + m * d1, 0, 0, 0, 0, 0⟩ n dd p r q (-400) (-400) 400 400 = Y ∧
      (if lineP ⟨a0, a1, 0, 0, 0, 0, 0⟩ ⟨a0 + m * d0, a1 + m * d1, 0, 0, 0, 0, 0⟩ n p r q then nextC dd r q (coreL ⟨a0, a1, 0, 0, 0, 0, 0⟩ ⟨a0 + m * d0, a1 + m * d1, 0, 0, 0, 0, 0⟩ n).length else q) = ce ∧
      wdL ⟨a0 + m * d0, a1 + m * d1, 0, 0, 0, 0, 0⟩ ⟨a0 + m * d0 + k * d0, a1 + m * d1 + k * d1, 0, 0, 0, 0, 0⟩ n dd p r ce (-400) (-400) 400 400 = Z ∧
      (if lineP ⟨a0 + m * d0, a1 + m * d1, 0, 0, 0, 0, 0⟩ ⟨a0 + m * d0 + k * d0, a1 + m * d1 + k * d1, 0, 0, 0, 0, 0⟩ n p r ce then nextC dd r ce (coreL ⟨a0 + m * d0, a1 + m * d1, 0, 0, 0, 0, 0⟩ ⟨a0 + m * d0 + k * d0, a1 + m * d1 + k * d1, 0, 0, 0, 0, 0⟩ n).length else ce) = cd ∧
      X.length = Y.length + Z.length ∧ X.length ≤ 102400 ∧ (dd = false → ce = q ∧ cd = q) ∧ dashP p r ce ∧
      (∀ i f, X[i]? = some f → (∀ g, Y[i]? = some g → g.x = f.x ∧ g.y = f.y) ∧ ∀ g, Y.length ≤ i → Z[i - Y.length]? = some g → g.x = f.x ∧ g.y = f.y) := by
  have P : Parts ⟨a0, a1, 0, 0, 0, 0, 0⟩ ⟨a0 + m * d0, a1 + m * d1, 0, 0, 0, 0, 0⟩ ⟨a0 + m * d0 + k * d0, a1 + m * d1 + k * d1, 0, 0, 0, 0, 0⟩ d0 d1 m k := ⟨m0, k0, rfl, rfl, rfl, rfl⟩
  have fa : (⟨a0, a1, 0, 0, 0, 0, 0⟩ : WinP).fitsP := win_fits (by omega) (by omega)
  have fc : (⟨a0 + m * d0, a1 + m * d1, 0, 0, 0, 0, 0⟩ : WinP).fitsP := win_fits (by omega) (by omega)
  have fb : (⟨a0 + m * d0 + k * d0, a1 + m * d1 + k * d1, 0, 0, 0, 0, 0⟩ : WinP).fitsP := win_fits (by omega) (by omega)
  generalize (⟨a0, a1, 0, 0, 0, 0, 0⟩ : WinP) = A at *
  generalize (⟨a0 + m * d0, a1 + m * d1, 0, 0, 0, 0, 0⟩ : WinP) = C at *
  generalize (⟨a0 + m * d0 + k * d0, a1 + m * d1 + k * d1, 0, 0, 0, 0, 0⟩ : WinP) = B at *
  obtain ⟨hd1, hd2⟩ := next_dash (dd := dd) hd (coreL A C n).length
  have l1 : lineP A B n p r q := ⟨fa, fb, hn, hd⟩
  have l2 : lineP A C n p r q := ⟨fa, fc, hn, hd⟩
  have l3 : lineP C B n p r (nextC dd r q (coreL A C n).length) := ⟨fc, fb, hn, hd1⟩
  have hr1 : 1 ≤ r := hd.2.1.1
  refine ⟨_, _, _, _, _, rfl, rfl, rfl, rfl, rfl, ?_, ?_, ?_, ?_, ?_, ?_⟩
  · rw [if_pos l1, if_pos l2, if_pos l3]
    exact P.next
  · rw [if_pos l2]
    unfold wdL
    rw [if_pos (And.intro l1 right400), if_pos (And.intro l2 right400), if_pos (And.intro l3 right400)]
    exact P.len hr1
  · unfold wdL
    rw [if_pos (And.intro l1 right400)]
    have := wdTo_len (a := A) (b := B) (n := n) (dd := dd) (p := p) (r := r) (c := q) (x0 := -400) (y0 := -400) (x1 := 400) (y1 := 400) (by omega) 800 (by omega) (by omega) (by omega) (by omega)
    have h2 : 800 * n.toNat ≤ 800 * 64 := Nat.mul_le_mul_left _ (by omega)
    omega
  · intro h
    rw [if_pos l1, if_pos l2]
    exact ⟨hd2 h, (next_dash (dd := dd) hd _).2 h⟩
  · rw [if_pos l2]; exact hd1
  · intro i f hf
    rw [if_pos l2]
    unfold wdL at *
    rw [if_pos (And.intro l1 right400)] at hf
    refine ⟨fun g hg => ?_, fun g hi hg => ?_⟩
    · rw [if_pos (And.intro l2 right400)] at hg
      exact P.first hr1 i f g hf hg
    · rw [if_pos (And.intro l2 right400)] at hi hg
      rw [if_pos (And.intro l3 right400)] at hg
      exact P.second hr1 i f g hi hf hg
/-- A short line: its core, and how many fragments it has. -/
theorem counts17_plain (a b : WinP) (n p r c u v : Int) (h : lineP a b n p r c) (hx : -4000 < b.x - a.x ∧ b.x - a.x < 4000) (hy : -4000 < b.y - a.y ∧ b.y - a.y < 4000) (hu : -256 < a.x - 256 * u ∧ a.x - 256 * u < 256) (hv : -256 < a.y - 256 * v ∧ a.y - 256 * v < 256) :
    ∃ (N : Nat) (F : Nat → Nat), (coreL a b n).length = N ∧ N ≤ 80 ∧ F 0 = 0 ∧ (∀ k, k < N → F (k + 1) = F k + if litP p r c k then 1 else 0) ∧ (∀ k, k ≤ N → F k ≤ k) ∧
      ((wdL a b n false p r c (u - 150) (v - 150) (u + 150) (v + 150)).length : Int) = N * n ∧ ((wdL a b n true p r c (u - 150) (v - 150) (u + 150) (v + 150)).length : Int) = F N * n := by
  obtain ⟨fa, fb, hn, hd⟩ := h
  have hn' := hn
  unfold widthP at hn'
  obtain ⟨H, hN⟩ := core_near hn hx hy
  have hr : rightP (u - 150) (v - 150) (u + 150) (v + 150) := by
    unfold WinP.fitsP at fa
    unfold rightP; omega
  have hin : ∀ s ∈ coreL a b n, (u - 150 ≤ s.X ∧ s.X + n ≤ u + 150) ∧ v - 150 ≤ s.Y ∧ s.Y + n ≤ v + 150 := fun s hs => by
    have := H s hs
    omega
  have e1 := wdTo_full (dd := false) (p := p) (r := r) (c := c) hin hn'.1
  have e2 := wdTo_full (dd := true) (p := p) (r := r) (c := c) hin hn'.1
  refine ⟨_, fun k => (((coreL a b n).take k).filter (litB true p r c)).length, rfl, hN, rfl, fun k hk => lit_next hk, fun k _ => ?_, ?_, ?_⟩
  · refine Nat.le_trans (List.length_filter_le _ _) ?_
    rw [List.length_take]; omega
  · unfold wdL
    rw [if_pos ⟨⟨fa, fb, hn, hd⟩, hr⟩, e1, Int.natCast_mul, Int.toNat_of_nonneg (by omega)]
    rw [List.filter_eq_self.2 (fun s _ => (rfl : litB false p r c s = true))]
  · unfold wdL
    rw [if_pos ⟨⟨fa, fb, hn, hd⟩, hr⟩, e2, Int.natCast_mul, Int.toNat_of_nonneg (by omega)]
    simp only [List.take_length]
theorem wdL_self (a : WinP) (n : Int) (dd : Bool) (p r c x0 y0 x1 y1 : Int) : wdL a a n dd p r c x0 y0 x1 y1 = [] := by
  unfold wdL
  split
  · unfold wdTo
    rw [coreL_same n rfl rfl]; rfl
  · rfl
end Go.Proofs.Ytciooaihobnifaa
