/- The laws of layer 23 (store) where the image is not small or may not be, or the pen may not be: they return true. Conditions: just that. (Written by gen_guard23.py.) -/
import Derived.Test.YtdbbeggenbhbfaaImg
import Derived.Test.YtdbbeggenbhbfaaStoreD
import Derived.Test.YtdbbeggenbhbfaaOpen
namespace Go.Proofs.Ytdbbeggenbhbfaa
set_option linter.unusedVariables false
set_option linter.unusedSimpArgs false
open Go.RowKit
theorem right_b (W H : Int) (C Z : List Int) : ∃ b : Bool, b = true ↔ ImOk W H C Z := by
  by_cases h : ImOk W H C Z
  · exact ⟨true, by simp [h]⟩
  · exact ⟨false, by simp [h]⟩
theorem Rd.of_ints {w : World} {v : Value} {zs : List Int} (h : Ints w v zs) : Rd w v zs := by
  obtain ⟨h0, h1, a, cap, rfl, h2, h3, h4⟩ := h
  exact ⟨h0, by simp only [maxLen] at h1; omega, a, cap, rfl, h2, h4⟩
/-- A pen's value. -/
abbrev Pn (x y z a b c d : Int) (m0 m1 m2 m3 : Bool) : Value := .agg #[.int .i64 x, .int .i64 y, .int .i64 z, .int .i64 a, .int .i64 b, .int .i64 c, .int .i64 d, .bool m0, .bool m1, .bool m2, .bool m3]
/-- What a law of a pen asks. -/
def Asked (W H : Int) (C Z : List Int) (z a b c d : Int) : Prop := (C.length ≤ 400 ∧ Z.length ≤ 400) ∧ ImOk W H C Z ∧ May a b c d ∧ 0 ≤ z ∧ z ≤ 16777215
theorem puts_big (W H : Int) (c z : Value) (C Z : List Int) (x y u pa pb pc pd : Int) (m0 m1 m2 m3 : Bool) (w : World) (hc : Rd w c C) (hz : Rd w z Z) (hs : ¬ (C.length ≤ 400 ∧ Z.length ≤ 400)) :
    Calls Try.prog 9 #[Im W H c z, Pn x y u pa pb pc pd m0 m1 m2 m3] w (Ret (.bool true) w) := by
  have HC := hc
  have HZ := hz
  obtain ⟨-, -, a, cap, rfl, -, -⟩ := hc
  obtain ⟨-, -, a', cap', rfl, -, -⟩ := hz
  go_enter Try.func9, Try.ntmps9
  go_wp2_with (first | (go_at_call 31; (with_reducible refine (small_no W H _ _ C Z _ ?_ ?_ hs).mono ?_); (repeat (first | assumption | with_reducible refine Rd.ext ?_ _ | with_reducible refine Rd.alloc ?_ _ | with_reducible refine Rd.drew ?_)); (repeat (first | assumption | with_reducible refine Rd.ext ?_ _ | with_reducible refine Rd.alloc ?_ _ | with_reducible refine Rd.drew ?_)); rintro _ _ ⟨rfl, X_, rfl⟩) | (go_at_call 26; (with_reducible refine (awake23 _).mono ?_); rintro _ _ ⟨rfl, X_, rfl⟩))
  go_ret
  exact Ret.of (by (repeat (first | exact Below.refl _ _ | with_reducible refine Below.drew ?_ | with_reducible refine Below.ext ?_ (by first | exact Nat.le_refl _ | (simp; done) | (simp; omega)) _ | with_reducible refine Below.alloc ?_ (by first | exact Nat.le_refl _ | (simp; done) | (simp; omega)) _ | with_reducible refine Below.setCell ?_ (by first | exact Nat.le_refl _ | (simp; done) | (simp; omega)) _)))
theorem puts_wrong (W H : Int) (c z : Value) (C Z : List Int) (x y u pa pb pc pd : Int) (m0 m1 m2 m3 : Bool) (w : World) (hc : Rd w c C) (hz : Rd w z Z) (lc : C.length ≤ 400) (lz : Z.length ≤ 400) (hr : ¬ ImOk W H C Z) :
    Calls Try.prog 9 #[Im W H c z, Pn x y u pa pb pc pd m0 m1 m2 m3] w (Ret (.bool true) w) := by
  have HC := hc
  have HZ := hz
  obtain ⟨-, -, a, cap, rfl, -, -⟩ := hc
  obtain ⟨-, -, a', cap', rfl, -, -⟩ := hz
  go_enter Try.func9, Try.ntmps9
  go_wp2_with (first | (go_at_call 31; (with_reducible refine (small_yes W H _ _ C Z _ ?_ ?_ lc lz).mono ?_); (repeat (first | assumption | with_reducible refine Rd.ext ?_ _ | with_reducible refine Rd.alloc ?_ _ | with_reducible refine Rd.drew ?_)); (repeat (first | assumption | with_reducible refine Rd.ext ?_ _ | with_reducible refine Rd.alloc ?_ _ | with_reducible refine Rd.drew ?_)); rintro _ _ ⟨rfl, X_, rfl⟩) | (go_at_call 35; (with_reducible refine (rright_no W H _ _ C Z _ ?_ ?_ hr).mono ?_); (repeat (first | assumption | with_reducible refine Rd.ext ?_ _ | with_reducible refine Rd.alloc ?_ _ | with_reducible refine Rd.drew ?_)); (repeat (first | assumption | with_reducible refine Rd.ext ?_ _ | with_reducible refine Rd.alloc ?_ _ | with_reducible refine Rd.drew ?_)); rintro _ _ ⟨rfl, X_, rfl⟩) | (go_at_call 26; (with_reducible refine (awake23 _).mono ?_); rintro _ _ ⟨rfl, X_, rfl⟩))
  go_ret
  exact Ret.of (by (repeat (first | exact Below.refl _ _ | with_reducible refine Below.drew ?_ | with_reducible refine Below.ext ?_ (by first | exact Nat.le_refl _ | (simp; done) | (simp; omega)) _ | with_reducible refine Below.alloc ?_ (by first | exact Nat.le_refl _ | (simp; done) | (simp; omega)) _ | with_reducible refine Below.setCell ?_ (by first | exact Nat.le_refl _ | (simp; done) | (simp; omega)) _)))
theorem puts_color (W H : Int) (c z : Value) (C Z : List Int) (x y u pa pb pc pd : Int) (m0 m1 m2 m3 : Bool) (w : World) (hc : Rd w c C) (hz : Rd w z Z) (lc : C.length ≤ 400) (lz : Z.length ≤ 400) (hr : ImOk W H C Z) (hm : ¬ May pa pb pc pd) :
    Calls Try.prog 9 #[Im W H c z, Pn x y u pa pb pc pd m0 m1 m2 m3] w (Ret (.bool true) w) := by
  have HC := hc
  have HZ := hz
  obtain ⟨-, -, a, cap, rfl, -, -⟩ := hc
  obtain ⟨-, -, a', cap', rfl, -, -⟩ := hz
  go_enter Try.func9, Try.ntmps9
  go_wp2_with (first | (go_at_call 31; (with_reducible refine (small_yes W H _ _ C Z _ ?_ ?_ lc lz).mono ?_); (repeat (first | assumption | with_reducible refine Rd.ext ?_ _ | with_reducible refine Rd.alloc ?_ _ | with_reducible refine Rd.drew ?_)); (repeat (first | assumption | with_reducible refine Rd.ext ?_ _ | with_reducible refine Rd.alloc ?_ _ | with_reducible refine Rd.drew ?_)); rintro _ _ ⟨rfl, X_, rfl⟩) | (go_at_call 35; (with_reducible refine (rright_yes W H _ _ C Z _ ?_ ?_ hr).mono ?_); (repeat (first | assumption | with_reducible refine Rd.ext ?_ _ | with_reducible refine Rd.alloc ?_ _ | with_reducible refine Rd.drew ?_)); (repeat (first | assumption | with_reducible refine Rd.ext ?_ _ | with_reducible refine Rd.alloc ?_ _ | with_reducible refine Rd.drew ?_)); rintro _ _ ⟨rfl, X_, rfl⟩) | (go_at_call 29; (with_reducible refine (may23_no _ _ _ _ hm _).mono ?_); rintro _ _ ⟨rfl, X_, rfl⟩) | (go_at_call 26; (with_reducible refine (awake23 _).mono ?_); rintro _ _ ⟨rfl, X_, rfl⟩))
  go_ret
  exact Ret.of (by (repeat (first | exact Below.refl _ _ | with_reducible refine Below.drew ?_ | with_reducible refine Below.ext ?_ (by first | exact Nat.le_refl _ | (simp; done) | (simp; omega)) _ | with_reducible refine Below.alloc ?_ (by first | exact Nat.le_refl _ | (simp; done) | (simp; omega)) _ | with_reducible refine Below.setCell ?_ (by first | exact Nat.le_refl _ | (simp; done) | (simp; omega)) _)))
theorem puts_deep (W H : Int) (c z : Value) (C Z : List Int) (x y u pa pb pc pd : Int) (m0 m1 m2 m3 : Bool) (w : World) (hc : Rd w c C) (hz : Rd w z Z) (lc : C.length ≤ 400) (lz : Z.length ≤ 400) (hr : ImOk W H C Z) (hm : May pa pb pc pd) (hu : ¬ (0 ≤ u ∧ u ≤ 16777215)) :
    Calls Try.prog 9 #[Im W H c z, Pn x y u pa pb pc pd m0 m1 m2 m3] w (Ret (.bool true) w) := by
  have HC := hc
  have HZ := hz
  obtain ⟨-, -, a, cap, rfl, -, -⟩ := hc
  obtain ⟨-, -, a', cap', rfl, -, -⟩ := hz
  by_cases u0 : 0 ≤ u
  · have u1 : 16777215 < u := by omega
    clear hu
    go_enter Try.func9, Try.ntmps9
    go_wp2_with (first | (go_at_call 31; (with_reducible refine (small_yes W H _ _ C Z _ ?_ ?_ lc lz).mono ?_); (repeat (first | assumption | with_reducible refine Rd.ext ?_ _ | with_reducible refine Rd.alloc ?_ _ | with_reducible refine Rd.drew ?_)); (repeat (first | assumption | with_reducible refine Rd.ext ?_ _ | with_reducible refine Rd.alloc ?_ _ | with_reducible refine Rd.drew ?_)); rintro _ _ ⟨rfl, X_, rfl⟩) | (go_at_call 35; (with_reducible refine (rright_yes W H _ _ C Z _ ?_ ?_ hr).mono ?_); (repeat (first | assumption | with_reducible refine Rd.ext ?_ _ | with_reducible refine Rd.alloc ?_ _ | with_reducible refine Rd.drew ?_)); (repeat (first | assumption | with_reducible refine Rd.ext ?_ _ | with_reducible refine Rd.alloc ?_ _ | with_reducible refine Rd.drew ?_)); rintro _ _ ⟨rfl, X_, rfl⟩) | (go_at_call 29; (with_reducible refine (may23_yes _ _ _ _ hm _).mono ?_); rintro _ _ ⟨rfl, X_, rfl⟩) | (go_at_call 26; (with_reducible refine (awake23 _).mono ?_); rintro _ _ ⟨rfl, X_, rfl⟩))
    go_ret
    exact Ret.of (by (repeat (first | exact Below.refl _ _ | with_reducible refine Below.drew ?_ | with_reducible refine Below.ext ?_ (by first | exact Nat.le_refl _ | (simp; done) | (simp; omega)) _ | with_reducible refine Below.alloc ?_ (by first | exact Nat.le_refl _ | (simp; done) | (simp; omega)) _ | with_reducible refine Below.setCell ?_ (by first | exact Nat.le_refl _ | (simp; done) | (simp; omega)) _)))
  · clear hu
    go_enter Try.func9, Try.ntmps9
    go_wp2_with (first | (go_at_call 31; (with_reducible refine (small_yes W H _ _ C Z _ ?_ ?_ lc lz).mono ?_); (repeat (first | assumption | with_reducible refine Rd.ext ?_ _ | with_reducible refine Rd.alloc ?_ _ | with_reducible refine Rd.drew ?_)); (repeat (first | assumption | with_reducible refine Rd.ext ?_ _ | with_reducible refine Rd.alloc ?_ _ | with_reducible refine Rd.drew ?_)); rintro _ _ ⟨rfl, X_, rfl⟩) | (go_at_call 35; (with_reducible refine (rright_yes W H _ _ C Z _ ?_ ?_ hr).mono ?_); (repeat (first | assumption | with_reducible refine Rd.ext ?_ _ | with_reducible refine Rd.alloc ?_ _ | with_reducible refine Rd.drew ?_)); (repeat (first | assumption | with_reducible refine Rd.ext ?_ _ | with_reducible refine Rd.alloc ?_ _ | with_reducible refine Rd.drew ?_)); rintro _ _ ⟨rfl, X_, rfl⟩) | (go_at_call 29; (with_reducible refine (may23_yes _ _ _ _ hm _).mono ?_); rintro _ _ ⟨rfl, X_, rfl⟩) | (go_at_call 26; (with_reducible refine (awake23 _).mono ?_); rintro _ _ ⟨rfl, X_, rfl⟩))
    go_ret
    exact Ret.of (by (repeat (first | exact Below.refl _ _ | with_reducible refine Below.drew ?_ | with_reducible refine Below.ext ?_ (by first | exact Nat.le_refl _ | (simp; done) | (simp; omega)) _ | with_reducible refine Below.alloc ?_ (by first | exact Nat.le_refl _ | (simp; done) | (simp; omega)) _ | with_reducible refine Below.setCell ?_ (by first | exact Nat.le_refl _ | (simp; done) | (simp; omega)) _)))
theorem puts_not (W H : Int) (c z : Value) (C Z : List Int) (x y u pa pb pc pd : Int) (m0 m1 m2 m3 : Bool) (w : World) (hc : Rd w c C) (hz : Rd w z Z) (h : ¬ Asked W H C Z u pa pb pc pd) :
    Calls Try.prog 9 #[Im W H c z, Pn x y u pa pb pc pd m0 m1 m2 m3] w (Ret (.bool true) w) := by
  by_cases hs : C.length ≤ 400 ∧ Z.length ≤ 400
  case neg => exact puts_big W H c z C Z x y u pa pb pc pd m0 m1 m2 m3 w hc hz hs
  by_cases hr : ImOk W H C Z
  case neg => exact puts_wrong W H c z C Z x y u pa pb pc pd m0 m1 m2 m3 w hc hz hs.1 hs.2 hr
  by_cases hm : May pa pb pc pd
  case neg => exact puts_color W H c z C Z x y u pa pb pc pd m0 m1 m2 m3 w hc hz hs.1 hs.2 hr hm
  exact puts_deep W H c z C Z x y u pa pb pc pd m0 m1 m2 m3 w hc hz hs.1 hs.2 hr hm fun hu => h ⟨hs, hr, hm, hu⟩
set_option maxRecDepth 100000 in
set_option maxHeartbeats 2000000 in
theorem alone_big (W H : Int) (c z : Value) (C Z : List Int) (x y u pa pb pc pd : Int) (m0 m1 m2 m3 : Bool) (w : World) (hc : Rd w c C) (hz : Rd w z Z) (hs : ¬ (C.length ≤ 400 ∧ Z.length ≤ 400)) :
    Calls Try.prog 10 #[Im W H c z, Pn x y u pa pb pc pd m0 m1 m2 m3] w (Ret (.bool true) w) := by
  have HC := hc
  have HZ := hz
  obtain ⟨-, -, a, cap, rfl, -, -⟩ := hc
  obtain ⟨-, -, a', cap', rfl, -, -⟩ := hz
  go_enter Try.func10, Try.ntmps10
  go_wp2_with (first | (go_at_call 31; (with_reducible refine (small_no W H _ _ C Z _ ?_ ?_ hs).mono ?_); (repeat (first | assumption | with_reducible refine Rd.ext ?_ _ | with_reducible refine Rd.alloc ?_ _ | with_reducible refine Rd.drew ?_)); (repeat (first | assumption | with_reducible refine Rd.ext ?_ _ | with_reducible refine Rd.alloc ?_ _ | with_reducible refine Rd.drew ?_)); rintro _ _ ⟨rfl, X_, rfl⟩) | (go_at_call 26; (with_reducible refine (awake23 _).mono ?_); rintro _ _ ⟨rfl, X_, rfl⟩))
  go_ret
  exact Ret.of (by (repeat (first | exact Below.refl _ _ | with_reducible refine Below.drew ?_ | with_reducible refine Below.ext ?_ (by first | exact Nat.le_refl _ | (simp; done) | (simp; omega)) _ | with_reducible refine Below.alloc ?_ (by first | exact Nat.le_refl _ | (simp; done) | (simp; omega)) _ | with_reducible refine Below.setCell ?_ (by first | exact Nat.le_refl _ | (simp; done) | (simp; omega)) _)))
set_option maxRecDepth 100000 in
set_option maxHeartbeats 2000000 in
theorem alone_wrong (W H : Int) (c z : Value) (C Z : List Int) (x y u pa pb pc pd : Int) (m0 m1 m2 m3 : Bool) (w : World) (hc : Rd w c C) (hz : Rd w z Z) (lc : C.length ≤ 400) (lz : Z.length ≤ 400) (hr : ¬ ImOk W H C Z) :
    Calls Try.prog 10 #[Im W H c z, Pn x y u pa pb pc pd m0 m1 m2 m3] w (Ret (.bool true) w) := by
  have HC := hc
  have HZ := hz
  obtain ⟨-, -, a, cap, rfl, -, -⟩ := hc
  obtain ⟨-, -, a', cap', rfl, -, -⟩ := hz
  go_enter Try.func10, Try.ntmps10
  go_wp2_with (first | (go_at_call 31; (with_reducible refine (small_yes W H _ _ C Z _ ?_ ?_ lc lz).mono ?_); (repeat (first | assumption | with_reducible refine Rd.ext ?_ _ | with_reducible refine Rd.alloc ?_ _ | with_reducible refine Rd.drew ?_)); (repeat (first | assumption | with_reducible refine Rd.ext ?_ _ | with_reducible refine Rd.alloc ?_ _ | with_reducible refine Rd.drew ?_)); rintro _ _ ⟨rfl, X_, rfl⟩) | (go_at_call 35; (with_reducible refine (rright_no W H _ _ C Z _ ?_ ?_ hr).mono ?_); (repeat (first | assumption | with_reducible refine Rd.ext ?_ _ | with_reducible refine Rd.alloc ?_ _ | with_reducible refine Rd.drew ?_)); (repeat (first | assumption | with_reducible refine Rd.ext ?_ _ | with_reducible refine Rd.alloc ?_ _ | with_reducible refine Rd.drew ?_)); rintro _ _ ⟨rfl, X_, rfl⟩) | (go_at_call 26; (with_reducible refine (awake23 _).mono ?_); rintro _ _ ⟨rfl, X_, rfl⟩))
  go_ret
  exact Ret.of (by (repeat (first | exact Below.refl _ _ | with_reducible refine Below.drew ?_ | with_reducible refine Below.ext ?_ (by first | exact Nat.le_refl _ | (simp; done) | (simp; omega)) _ | with_reducible refine Below.alloc ?_ (by first | exact Nat.le_refl _ | (simp; done) | (simp; omega)) _ | with_reducible refine Below.setCell ?_ (by first | exact Nat.le_refl _ | (simp; done) | (simp; omega)) _)))
set_option maxRecDepth 100000 in
set_option maxHeartbeats 2000000 in
theorem alone_color (W H : Int) (c z : Value) (C Z : List Int) (x y u pa pb pc pd : Int) (m0 m1 m2 m3 : Bool) (w : World) (hc : Rd w c C) (hz : Rd w z Z) (lc : C.length ≤ 400) (lz : Z.length ≤ 400) (hr : ImOk W H C Z) (hm : ¬ May pa pb pc pd) :
    Calls Try.prog 10 #[Im W H c z, Pn x y u pa pb pc pd m0 m1 m2 m3] w (Ret (.bool true) w) := by
  have HC := hc
  have HZ := hz
  obtain ⟨-, -, a, cap, rfl, -, -⟩ := hc
  obtain ⟨-, -, a', cap', rfl, -, -⟩ := hz
  go_enter Try.func10, Try.ntmps10
  go_wp2_with (first | (go_at_call 31; (with_reducible refine (small_yes W H _ _ C Z _ ?_ ?_ lc lz).mono ?_); (repeat (first | assumption | with_reducible refine Rd.ext ?_ _ | with_reducible refine Rd.alloc ?_ _ | with_reducible refine Rd.drew ?_)); (repeat (first | assumption | with_reducible refine Rd.ext ?_ _ | with_reducible refine Rd.alloc ?_ _ | with_reducible refine Rd.drew ?_)); rintro _ _ ⟨rfl, X_, rfl⟩) | (go_at_call 35; (with_reducible refine (rright_yes W H _ _ C Z _ ?_ ?_ hr).mono ?_); (repeat (first | assumption | with_reducible refine Rd.ext ?_ _ | with_reducible refine Rd.alloc ?_ _ | with_reducible refine Rd.drew ?_)); (repeat (first | assumption | with_reducible refine Rd.ext ?_ _ | with_reducible refine Rd.alloc ?_ _ | with_reducible refine Rd.drew ?_)); rintro _ _ ⟨rfl, X_, rfl⟩) | (go_at_call 29; (with_reducible refine (may23_no _ _ _ _ hm _).mono ?_); rintro _ _ ⟨rfl, X_, rfl⟩) | (go_at_call 26; (with_reducible refine (awake23 _).mono ?_); rintro _ _ ⟨rfl, X_, rfl⟩))
  go_ret
  exact Ret.of (by (repeat (first | exact Below.refl _ _ | with_reducible refine Below.drew ?_ | with_reducible refine Below.ext ?_ (by first | exact Nat.le_refl _ | (simp; done) | (simp; omega)) _ | with_reducible refine Below.alloc ?_ (by first | exact Nat.le_refl _ | (simp; done) | (simp; omega)) _ | with_reducible refine Below.setCell ?_ (by first | exact Nat.le_refl _ | (simp; done) | (simp; omega)) _)))
set_option maxRecDepth 100000 in
set_option maxHeartbeats 2000000 in
theorem alone_deep (W H : Int) (c z : Value) (C Z : List Int) (x y u pa pb pc pd : Int) (m0 m1 m2 m3 : Bool) (w : World) (hc : Rd w c C) (hz : Rd w z Z) (lc : C.length ≤ 400) (lz : Z.length ≤ 400) (hr : ImOk W H C Z) (hm : May pa pb pc pd) (hu : ¬ (0 ≤ u ∧ u ≤ 16777215)) :
    Calls Try.prog 10 #[Im W H c z, Pn x y u pa pb pc pd m0 m1 m2 m3] w (Ret (.bool true) w) := by
  have HC := hc
  have HZ := hz
  obtain ⟨-, -, a, cap, rfl, -, -⟩ := hc
  obtain ⟨-, -, a', cap', rfl, -, -⟩ := hz
  by_cases u0 : 0 ≤ u
  · have u1 : 16777215 < u := by omega
    clear hu
    go_enter Try.func10, Try.ntmps10
    go_wp2_with (first | (go_at_call 31; (with_reducible refine (small_yes W H _ _ C Z _ ?_ ?_ lc lz).mono ?_); (repeat (first | assumption | with_reducible refine Rd.ext ?_ _ | with_reducible refine Rd.alloc ?_ _ | with_reducible refine Rd.drew ?_)); (repeat (first | assumption | with_reducible refine Rd.ext ?_ _ | with_reducible refine Rd.alloc ?_ _ | with_reducible refine Rd.drew ?_)); rintro _ _ ⟨rfl, X_, rfl⟩) | (go_at_call 35; (with_reducible refine (rright_yes W H _ _ C Z _ ?_ ?_ hr).mono ?_); (repeat (first | assumption | with_reducible refine Rd.ext ?_ _ | with_reducible refine Rd.alloc ?_ _ | with_reducible refine Rd.drew ?_)); (repeat (first | assumption | with_reducible refine Rd.ext ?_ _ | with_reducible refine Rd.alloc ?_ _ | with_reducible refine Rd.drew ?_)); rintro _ _ ⟨rfl, X_, rfl⟩) | (go_at_call 29; (with_reducible refine (may23_yes _ _ _ _ hm _).mono ?_); rintro _ _ ⟨rfl, X_, rfl⟩) | (go_at_call 26; (with_reducible refine (awake23 _).mono ?_); rintro _ _ ⟨rfl, X_, rfl⟩))
    go_ret
    exact Ret.of (by (repeat (first | exact Below.refl _ _ | with_reducible refine Below.drew ?_ | with_reducible refine Below.ext ?_ (by first | exact Nat.le_refl _ | (simp; done) | (simp; omega)) _ | with_reducible refine Below.alloc ?_ (by first | exact Nat.le_refl _ | (simp; done) | (simp; omega)) _ | with_reducible refine Below.setCell ?_ (by first | exact Nat.le_refl _ | (simp; done) | (simp; omega)) _)))
  · clear hu
    go_enter Try.func10, Try.ntmps10
    go_wp2_with (first | (go_at_call 31; (with_reducible refine (small_yes W H _ _ C Z _ ?_ ?_ lc lz).mono ?_); (repeat (first | assumption | with_reducible refine Rd.ext ?_ _ | with_reducible refine Rd.alloc ?_ _ | with_reducible refine Rd.drew ?_)); (repeat (first | assumption | with_reducible refine Rd.ext ?_ _ | with_reducible refine Rd.alloc ?_ _ | with_reducible refine Rd.drew ?_)); rintro _ _ ⟨rfl, X_, rfl⟩) | (go_at_call 35; (with_reducible refine (rright_yes W H _ _ C Z _ ?_ ?_ hr).mono ?_); (repeat (first | assumption | with_reducible refine Rd.ext ?_ _ | with_reducible refine Rd.alloc ?_ _ | with_reducible refine Rd.drew ?_)); (repeat (first | assumption | with_reducible refine Rd.ext ?_ _ | with_reducible refine Rd.alloc ?_ _ | with_reducible refine Rd.drew ?_)); rintro _ _ ⟨rfl, X_, rfl⟩) | (go_at_call 29; (with_reducible refine (may23_yes _ _ _ _ hm _).mono ?_); rintro _ _ ⟨rfl, X_, rfl⟩) | (go_at_call 26; (with_reducible refine (awake23 _).mono ?_); rintro _ _ ⟨rfl, X_, rfl⟩))
    go_ret
    exact Ret.of (by (repeat (first | exact Below.refl _ _ | with_reducible refine Below.drew ?_ | with_reducible refine Below.ext ?_ (by first | exact Nat.le_refl _ | (simp; done) | (simp; omega)) _ | with_reducible refine Below.alloc ?_ (by first | exact Nat.le_refl _ | (simp; done) | (simp; omega)) _ | with_reducible refine Below.setCell ?_ (by first | exact Nat.le_refl _ | (simp; done) | (simp; omega)) _)))
theorem alone_not (W H : Int) (c z : Value) (C Z : List Int) (x y u pa pb pc pd : Int) (m0 m1 m2 m3 : Bool) (w : World) (hc : Rd w c C) (hz : Rd w z Z) (h : ¬ Asked W H C Z u pa pb pc pd) :
    Calls Try.prog 10 #[Im W H c z, Pn x y u pa pb pc pd m0 m1 m2 m3] w (Ret (.bool true) w) := by
  by_cases hs : C.length ≤ 400 ∧ Z.length ≤ 400
  case neg => exact alone_big W H c z C Z x y u pa pb pc pd m0 m1 m2 m3 w hc hz hs
  by_cases hr : ImOk W H C Z
  case neg => exact alone_wrong W H c z C Z x y u pa pb pc pd m0 m1 m2 m3 w hc hz hs.1 hs.2 hr
  by_cases hm : May pa pb pc pd
  case neg => exact alone_color W H c z C Z x y u pa pb pc pd m0 m1 m2 m3 w hc hz hs.1 hs.2 hr hm
  exact alone_deep W H c z C Z x y u pa pb pc pd m0 m1 m2 m3 w hc hz hs.1 hs.2 hr hm fun hu => h ⟨hs, hr, hm, hu⟩
end Go.Proofs.Ytdbbeggenbhbfaa
