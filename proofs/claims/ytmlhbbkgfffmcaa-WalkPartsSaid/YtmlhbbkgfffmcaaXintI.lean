/- The walks of math/bits.Len64 and LeadingZeros64 at this program. Condition: 64 bits. -/
import Derived.Test.YtmlhbbkgfffmcaaXintA
import Derived.Lib.Strings
import Derived.Lib.Slices
import Derived.Lib.Small
import Derived.Lib.Walk
import Derived.Lib.BitFns
import Derived.Lib.Tables
namespace Go.Proofs.Ytmlhbbkgfffmcaa
set_option linter.unusedVariables false
set_option linter.unusedSimpArgs false
open Go.RowKit
theorem tab (y : Int) (h : y.toNat < Lib.len8tab.size) : ((Lib.len8tab[y.toNat]'h).toNat : Int) = Lib.bitLen y.toNat := by
  have hs := Lib.len8tab_size
  have e := Lib.len8_eq ⟨y.toNat, by omega⟩
  simp only [Lib.len8, Int.toNat_natCast] at e
  rw [← e, ByteArray.getElem?_lt' _ _ h, Option.getD_some]
theorem le8 (n : Nat) (h : n < 256) : Lib.bitLen n ≤ 8 := Lib.bitLen_le8 ⟨n, h⟩
theorem bit_spec : ∀ (k x : Nat), x < 2 ^ k → k ≤ 64 → Lib.bitLen x ≤ k ∧ x < 2 ^ Lib.bitLen x ∧ (x ≠ 0 → 2 ^ (Lib.bitLen x - 1) ≤ x ∧ 1 ≤ Lib.bitLen x)
  | 0, x, h, _ => by
    obtain rfl : x = 0 := by omega
    exact ⟨by decide, by decide, fun h => absurd rfl h⟩
  | k + 1, x, h, hk => by
    by_cases h0 : x = 0
    · subst h0; exact ⟨by have : Lib.bitLen 0 = 0 := by decide
                          omega, by decide, fun h => absurd rfl h⟩
    · have h2 : x / 2 < 2 ^ k := by rw [Nat.pow_succ] at h; omega
      obtain ⟨a, b, c⟩ := bit_spec k (x / 2) h2 (by omega)
      have hp : (2 : Nat) ^ (k + 1) ≤ 2 ^ 64 := Nat.pow_le_pow_right (by decide) hk
      have e := Lib.bitLen_half x h0 (by omega)
      rw [e]
      refine ⟨by omega, ?_, fun _ => ⟨?_, by omega⟩⟩
      · rw [Nat.add_comm, Nat.pow_succ]; omega
      · by_cases h1 : x / 2 = 0
        · rw [h1]; have : Lib.bitLen 0 = 0 := by decide
          rw [this]; simp; omega
        · obtain ⟨c1, c2⟩ := c h1
          rw [show 1 + Lib.bitLen (x / 2) - 1 = (Lib.bitLen (x / 2) - 1) + 1 by omega, Nat.pow_succ]; omega
theorem wrap_add8 (k n m : Nat) (hk : k ≤ 56) (l : n ≤ 8) (s : m = k + n) : wrap64 ((k : Int) + wrap64 (n : Int)) = (m : Int) := by unfold wrap64; omega
theorem wrap_wrap8 (n : Nat) (l : n ≤ 8) : wrap64 (wrap64 (n : Int)) = (n : Int) := by unfold wrap64; omega
set_option maxHeartbeats 4000000 in
set_option maxRecDepth 100000 in
theorem len64_any (x : Int) (w : World) (h0 : 0 ≤ x) (h1 : x ≤ 18446744073709551615) :
    Calls Try.prog 144 #[.int .u64 x] w fun e w' => e = .returned (.int .i64 (Lib.bitLen x.toNat)) ∧ w' = w := by
  have u9 := Try.underlying9
  go_enter Try.func144, Try.ntmps144
  go_wp2
  all_goals first
    | (go_ret; refine ⟨congrArg Ending.returned (congrArg (Value.int IntKind.i64) ?_), rfl⟩)
    | (exfalso; have hs := Lib.len8tab_size; omega)
  all_goals have hs := Lib.len8tab_size
  all_goals first
    | (rw [tab (x / 4294967296 / 65536 / 256) _]
       have e : (x / 4294967296 / 65536 / 256).toNat = x.toNat / 72057594037927936 := by omega
       have l := le8 (x / 4294967296 / 65536 / 256).toNat (by omega)
       have s := Lib.bitLen_shift56 x.toNat (by omega) (by omega)
       rw [e] at l ⊢
       exact wrap_add8 56 _ _ (by decide) l s)
    | (rw [tab (x / 4294967296 / 65536) _]
       have e : (x / 4294967296 / 65536).toNat = x.toNat / 281474976710656 := by omega
       have l := le8 (x / 4294967296 / 65536).toNat (by omega)
       have s := Lib.bitLen_shift48 x.toNat (by omega) (by omega)
       rw [e] at l ⊢
       exact wrap_add8 48 _ _ (by decide) l s)
    | (rw [tab (x / 4294967296 / 256) _]
       have e : (x / 4294967296 / 256).toNat = x.toNat / 1099511627776 := by omega
       have l := le8 (x / 4294967296 / 256).toNat (by omega)
       have s := Lib.bitLen_shift40 x.toNat (by omega) (by omega)
       rw [e] at l ⊢
       exact wrap_add8 40 _ _ (by decide) l s)
    | (rw [tab (x / 4294967296) _]
       have e : (x / 4294967296).toNat = x.toNat / 4294967296 := by omega
       have l := le8 (x / 4294967296).toNat (by omega)
       have s := Lib.bitLen_shift32 x.toNat (by omega) (by omega)
       rw [e] at l ⊢
       exact wrap_add8 32 _ _ (by decide) l s)
    | (rw [tab (x / 65536 / 256) _]
       have e : (x / 65536 / 256).toNat = x.toNat / 16777216 := by omega
       have l := le8 (x / 65536 / 256).toNat (by omega)
       have s := Lib.bitLen_shift24 x.toNat (by omega) (by omega)
       rw [e] at l ⊢
       exact wrap_add8 24 _ _ (by decide) l s)
    | (rw [tab (x / 65536) _]
       have e : (x / 65536).toNat = x.toNat / 65536 := by omega
       have l := le8 (x / 65536).toNat (by omega)
       have s := Lib.bitLen_shift16 x.toNat (by omega) (by omega)
       rw [e] at l ⊢
       exact wrap_add8 16 _ _ (by decide) l s)
    | (rw [tab (x / 256) _]
       have e : (x / 256).toNat = x.toNat / 256 := by omega
       have l := le8 (x / 256).toNat (by omega)
       have s := Lib.bitLen_shift8 x.toNat (by omega) (by omega)
       rw [e] at l ⊢
       exact wrap_add8 8 _ _ (by decide) l s)
    | (rw [tab x _]
       have l := le8 x.toNat (by omega)
       exact wrap_wrap8 _ l)
theorem zeros_any (x : Int) (w : World) (h0 : 0 ≤ x) (h1 : x ≤ 18446744073709551615) :
    Calls Try.prog 134 #[.int .u64 x] w fun e w' => e = .returned (.int .i64 (64 - (Lib.bitLen x.toNat : Int))) ∧ w' = w := by
  have hl : (Lib.bitLen x.toNat : Int) ≤ 64 := by
    have s := bit_spec 64 x.toNat (by omega) (by omega)
    omega
  go_enter Try.func134, Try.ntmps134
  go_wp2_with (go_at_call 144; refine (len64_any x _ h0 h1).mono ?_; rintro _ _ ⟨rfl, rfl⟩)
  go_ret
  exact ⟨rfl, rfl⟩
end Go.Proofs.Ytmlhbbkgfffmcaa
