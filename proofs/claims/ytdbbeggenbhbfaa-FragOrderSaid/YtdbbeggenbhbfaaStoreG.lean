/- The document's example of layer 23 (store). No condition. -/
import Derived.Test.YtdbbeggenbhbfaaStoreF
namespace Go.Proofs.Ytdbbeggenbhbfaa
set_option linter.unusedVariables false
set_option linter.unusedSimpArgs false
open Go.RowKit
theorem Rd.alloc {w : World} {v : Value} {zs : List Int} (h : Rd w v zs) (o : Obj) : Rd (w.alloc o) v zs := by
  obtain ⟨h0, h1, a, cap, rfl, h2, h3⟩ := h
  refine ⟨h0, h1, a, cap, rfl, h2, ?_⟩
  rcases h3 with h3 | ⟨b, off, rfl, hb, hc⟩
  · exact .inl h3
  · refine .inr ⟨b, off, rfl, by rw [World.hp_alloc, Array.size_push]; omega, fun i hi => ?_⟩
    rw [← hc i hi]
    simp only [World.cell?, World.hp_alloc, Array.getElem?_push, if_neg (show ¬ b = w.heap.size by omega)]
theorem Rd.drew {w : World} {v : Value} {zs : List Int} (h : Rd w v zs) : Rd w.drew v zs := h
theorem rd_row {w : World} {p n : Nat} {l : List Int} {T : TypeId} (h : Row w p (ints l) T) (hl : l.length = n) (hn : n ≤ 9223372036854775807) (hb : ∀ z ∈ l, -9223372036854775808 ≤ z ∧ z ≤ 9223372036854775807) :
    Rd w (.slice (some ⟨p, 0, none⟩) n n) l := by
  subst hl
  refine ⟨hb, hn, _, _, rfl, Nat.le_refl _, .inr ⟨p, 0, rfl, h.lt, fun i hi => ?_⟩⟩
  rw [Nat.zero_add, h.cell, ints_at, List.getElem?_eq_getElem hi]
  simp [elt, hi]
theorem im_ok6 : ImOk 2 3 (List.replicate 6 0) (List.replicate 6 16777215) :=
  ⟨by decide, by decide, by decide, by decide, by decide, by decide, by decide, by decide⟩
set_option maxHeartbeats 2000000 in
theorem awake23 (w : World) : Calls Try.prog 26 #[] w (Ret (.bool true) w) := by
  go_enter Try.func26, Try.ntmps26
  go_wp2_with (first
    | (go_at_call 32; (with_reducible refine (new_ok 2 3 6 _ (by decide) (by decide) (by decide) (by decide) (by decide)).mono ?_); rintro _ _ ⟨pc, pz, rfl, ⟨X, rfl⟩, g1, g2, g3, r1, r2⟩; have R1 := rd_row r1 (n := 6) rfl (by decide) (by decide); have R2 := rd_row r2 (n := 6) rfl (by decide) (by decide); clear r1 r2 g3)
    | (go_at_call 37; (with_reducible refine (get_in 2 3 _ _ (List.replicate 6 0) (List.replicate 6 16777215) 1 2 _ ?_ ?_ im_ok6 (by decide)).mono ?_); (repeat (first | assumption | with_reducible refine Rd.ext ?_ _ | with_reducible refine Rd.alloc ?_ _ | with_reducible refine Rd.drew ?_)); (repeat (first | assumption | with_reducible refine Rd.ext ?_ _ | with_reducible refine Rd.alloc ?_ _ | with_reducible refine Rd.drew ?_)); rintro _ _ ⟨rfl, ⟨Y, rfl⟩⟩; simp only [show elt (List.replicate 6 16777215) ((2 : Int) * 2 + 1).toNat = 16777215 from rfl])
    | (go_at_call 28; (with_reducible refine (pack_any 1 2 3 4 ⟨by decide, by decide, by decide, by decide, by decide, by decide, by decide, by decide⟩ _).mono ?_); rintro _ _ ⟨rfl, ⟨T, rfl⟩⟩; simp only [show pk 1 2 3 4 = 16909060 from rfl])
    | (go_at_call 34; (with_reducible refine (right_yes 2 3 _ _ (List.replicate 6 0) (List.replicate 6 16777215) _ ?_ ?_ im_ok6).mono ?_); (repeat (first | assumption | with_reducible refine Rd.ext ?_ _ | with_reducible refine Rd.alloc ?_ _ | with_reducible refine Rd.drew ?_)); (repeat (first | assumption | with_reducible refine Rd.ext ?_ _ | with_reducible refine Rd.alloc ?_ _ | with_reducible refine Rd.drew ?_)); rintro _ _ ⟨rfl, ⟨Z, rfl⟩⟩))
  go_ret
  exact Ret.of (by (repeat (first | exact Below.refl _ _ | with_reducible refine Below.drew ?_ | with_reducible refine Below.ext ?_ (by first | exact Nat.le_refl _ | (simp; done) | (simp; omega)) _ | with_reducible refine Below.alloc ?_ (by first | exact Nat.le_refl _ | (simp; done) | (simp; omega)) _ | with_reducible refine Below.setCell ?_ (by first | exact Nat.le_refl _ | (simp; done) | (simp; omega)) _)))
end Go.Proofs.Ytdbbeggenbhbfaa
