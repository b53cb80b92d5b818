/- The walks of the reference of layer 2: sums of bits. Conditions: the slices read as bits. -/
import Derived.Test.YtmlhbbkgfffmcaaNumA
namespace Go.Proofs.Ytmlhbbkgfffmcaa
set_option linter.unusedVariables false
set_option linter.unusedSimpArgs false
open Go.RowKit
set_option maxRecDepth 100000 in
set_option maxHeartbeats 4000000 in
theorem more_any (va vb : Value) (a b : List Int) (w : World) (ha : Rb w va a) (hb : Rb w vb b) (la : a.length ≤ 1048000) (lb : b.length ≤ 1048000) :
    Calls Try.prog 139 #[va, vb] w (MkB (fun l => bv l = bv a + bv b ∧ l.length ≤ max a.length b.length + 1) w) := by
  obtain ⟨i0, hi, hz0, hz1, hz2⟩ := info_parts info_u8
  have HA := Lib.hid ha
  have HB := Lib.hid hb
  obtain ⟨aa, acap, rfl, -, -, -⟩ := ha.form
  obtain ⟨ba, bcap, rfl, -, -, -⟩ := hb.form
  have BA := ha.bin
  have BB := hb.bin
  clear ha hb
  go_enter Try.func139, Try.ntmps139
  go_wp2
  go_loopw [5, 6, 7] (fun o c i wr => ∃ (v : Value) (l : List Int) (x : Int), o = v ∧ i = .int .i64 l.length ∧ c = .int .u8 x ∧ 0 ≤ x ∧ x ≤ 1 ∧ GB w wr v l ∧ Bin l ∧ l.length ≤ max a.length b.length + 1 ∧ (l.length = max a.length b.length + 1 → x = 0) ∧ bv l + x * 2 ^ l.length = bv a % 2 ^ l.length + bv b % 2 ^ l.length)
    (fun o c i _ => max a.length b.length + 2 - (intOf i).toNat)
  case atStart => exact ⟨_, [], 0, rfl, rfl, rfl, by omega, by omega, GB.nil w, Bin.nil, by simp, by simp, by simp [bv, Int.emod_one]⟩
  case round =>
    obtain ⟨v, l, x, rfl, rfl, rfl, x0, x1, G, hbin, hl, hx, he⟩ := hrel
    have HG := Lib.hid G
    have sz := G.bel.size
    have HE := Lib.hid he
    have HX := Lib.hid hx
    have HBN := Lib.hid hbin
    clear he hx hbin
    by_cases hlt : l.length < a.length ∨ l.length < b.length ∨ 0 < x
    · have hlm : l.length ≤ max a.length b.length := by have := HX.out; omega
      have RA := Lib.hid (HA.out.below G.bel)
      have RB := Lib.hid (HB.out.below G.bel)
      clear G
      have b1 := BA l.length
      have b2 := BB l.length
      obtain ⟨b1, b1'⟩ := b1
      obtain ⟨b2, b2'⟩ := b2
      have st := more_step (x := bt a l.length + bt b l.length + x) BA BB x0 x1 HE.out rfl
      obtain ⟨q0, q1, r0, r1, se⟩ := st
      have SE := Lib.hid se
      clear se
      obtain ⟨X, hX⟩ : ∃ X, X = bt a l.length + bt b l.length + x := ⟨_, rfl⟩
      have l64 : l.length ≤ 1048577 := by omega
      have HC : (l ++ [(bt a l.length + bt b l.length + x) % 2]).length = max a.length b.length + 1 → (bt a l.length + bt b l.length + x) / 2 = 0 := fun h => by
        simp only [List.length_append, List.length_cons, List.length_nil] at h
        rw [bt_out (show a.length ≤ l.length by omega), bt_out (show b.length ≤ l.length by omega)]; omega
      rcases (show l.length < a.length ∨ (¬ l.length < a.length ∧ l.length < b.length) ∨ (¬ l.length < a.length ∧ ¬ l.length < b.length ∧ 0 < x) by omega) with l1 | ⟨l1, l2⟩ | ⟨l1, l2, l3⟩
      all_goals
        clear hlt
        go_wp2_with (first
          | (go_at_call 138; (with_reducible refine (bit_nat _ _ _ _ RA.out).mono ?_); rintro _ w4_ ⟨rfl, h4_⟩; obtain rfl := h4_.symm)
          | (go_at_call 138; (with_reducible refine (bit_nat _ _ _ _ RB.out).mono ?_); rintro _ w4_ ⟨rfl, h4_⟩; obtain rfl := h4_.symm)
          | (at_builtin; refine wpList_append_lies _ rfl _ _ 136 rfl w.heap.size 5 i0 (.int .u8 0) 1 1 Try.underlying136 hi hz0 hz1 hz2 rfl (by decide) _ _ _ rfl (HG.out.own.alloc _) ⟨wr.heap.size, 0, none⟩ 1 1 [.int .u8 ((bt a l.length + bt b l.length + x) % 2)] rfl rfl (cell_one_new _ _ _) (fun x hx => by simp at hx; subst hx; rfl) (by omega) (by unfold maxLen; omega) (by omega) (by rw [World.hp_alloc, Array.size_push]; omega) (wr.heap.size + 1) (by simp) ?_; intro g cap w3 hown hgrow hat hlt3; have G3 := Lib.hid (HG.out.snoc hown hgrow); clear hown hgrow hat hlt3))
        go_roundw
        case rel => exact ⟨_, l ++ [(bt a l.length + bt b l.length + x) % 2], (bt a l.length + bt b l.length + x) / 2, rfl, by simp, rfl, q0, q1, G3.out, HBN.out.snoc r0 r1, by simp; omega, HC, by simpa using SE.out⟩
        case measure => simp [intOf]; omega
    · obtain rfl : x = 0 := by omega
      have hf := more_end BA BB (by omega) (by omega) rfl HE.out
      clear G
      go_wp2
      go_ret
      exact HG.out.mk' HBN.out (by omega) ⟨hf, by omega⟩
end Go.Proofs.Ytmlhbbkgfffmcaa
