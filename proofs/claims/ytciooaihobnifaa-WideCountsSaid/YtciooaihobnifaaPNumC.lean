/- Parts of the proofs, laid together: NumN, NumO, NumP, NumR. Conditions: at each. -/
import Derived.Test.YtciooaihobnifaaNumK
import Derived.Test.YtciooaihobnifaaPLerpA
section
/- The walks of the reference of layer 2: its products, and what is small. Conditions: 64 and 128 bits. -/
namespace Go.Proofs.Ytciooaihobnifaa
set_option linter.unusedVariables false
set_option linter.unusedSimpArgs false
open Go.RowKit
/-- An Int in its place. -/
abbrev I2z : Array Value := #[.int .i64 0, .int .u64 0]
end Go.Proofs.Ytciooaihobnifaa
end
section
/- The walks of the reference of layer 2: order, sums, differences, products of numbers of 128 bits. Conditions: 64 and 128 bits. -/
namespace Go.Proofs.Ytciooaihobnifaa
set_option linter.unusedVariables false
set_option linter.unusedSimpArgs false
open Go.RowKit
/-- One value. -/
def srV (c : Value) : SR Grows := ⟨fun v w => v = c, fun v w w' h _ => h, fun v => v = c, c, rfl, fun v w h => h⟩
theorem rn_zero {w : World} : RN w (.agg #[.bool false, .slice none 0 0]) 0 0 := ⟨false, _, [], rfl, Rb.nil, ⟨Bin.nil, fun h => by simp at h⟩, by simp, by simp [pmv, bv], by simp⟩
end Go.Proofs.Ytciooaihobnifaa
end
section
/- The walks of the reference of layer 2: differences, quotients. Conditions: 64 and 128 bits. -/
namespace Go.Proofs.Ytciooaihobnifaa
set_option linter.unusedVariables false
set_option linter.unusedSimpArgs false
open Go.RowKit
end Go.Proofs.Ytciooaihobnifaa
end
section
/- The walk of the reference's root, of layer 2. Condition: 128 bits. -/
namespace Go.Proofs.Ytciooaihobnifaa
set_option linter.unusedVariables false
set_option linter.unusedSimpArgs false
open Go.RowKit
theorem p126 : (2 : Int) ^ 126 = 85070591730234615865843651857942052864 := by decide
theorem step_facts {P y : Int} (h0 : 0 ≤ y) (hP : 0 < P) (hb : y + 2 * P ≤ 9223372036854775808) : wrap64 P = P ∧ wrap64 (y + P) = y + P ∧ sml (y + P) := by
  unfold wrap64 sml; omega
theorem can_126 {l : List Int} (h : Can l) : l.length ≤ 126 ↔ bv l < 85070591730234615865843651857942052864 := by
  rw [← p126]
  constructor
  · intro hl
    have := (bv_bd h.1).2
    have := pow_mono hl
    omega
  · intro hv
    apply Classical.byContradiction
    intro hn
    have := h.low (by omega)
    have := pow_mono (show 126 ≤ l.length - 1 by omega)
    omega
end Go.Proofs.Ytciooaihobnifaa
end
