/- StoreMakes: whatever the input, the law returns true and leaves its arguments as they read. No condition. -/
import Derived.Test.YtdbbeggenbhbfaaStoreC
import Derived.Test.YtdbbeggenbhbfaaStoreD
import Derived.Test.YtdbbeggenbhbfaaStoreJ
import Derived.Test.YtdbbeggenbhbfaaEStoreMakes
namespace Go.Proofs.Ytdbbeggenbhbfaa
set_option linter.unusedVariables false
set_option linter.unusedSimpArgs false
open Go.RowKit
theorem Rd.of_ints {w : World} {v : Value} {zs : List Int} (h : Ints w v zs) : Rd w v zs := by
  obtain ⟨h0, h1, a, cap, rfl, h2, h3, h4⟩ := h
  exact ⟨h0, by simp only [maxLen] at h1; omega, a, cap, rfl, h2, h4⟩
theorem right_is (W H : Int) (c z : Value) (C Z : List Int) (b : Bool) (w : World) (hc : Rd w c C) (hz : Rd w z Z) (h : b = true ↔ ImOk W H C Z) : Calls Try.prog 34 #[Im W H c z] w (Ret (.bool b) w) := by
  cases b
  · exact right_no W H c z C Z w hc hz fun h' => by cases h.2 h'
  · exact right_yes W H c z C Z w hc hz (h.1 rfl)
theorem rright_is (W H : Int) (c z : Value) (C Z : List Int) (b : Bool) (w : World) (hc : Rd w c C) (hz : Rd w z Z) (h : b = true ↔ ImOk W H C Z) : Calls Try.prog 35 #[Im W H c z] w (Ret (.bool b) w) := by
  cases b
  · exact rright_no W H c z C Z w hc hz fun h' => by cases h.2 h'
  · exact rright_yes W H c z C Z w hc hz (h.1 rfl)
theorem rd_nil (w : World) : Rd w (.slice none 0 0) [] := ⟨by simp, by simp, none, 0, rfl, Nat.le_refl _, .inl rfl⟩
set_option maxHeartbeats 4000000 in
theorem makes_big (W H : Int) (c z : Value) (C Z : List Int) (x y : Int) (w : World) (hc : Rd w c C) (hz : Rd w z Z) (h : ¬ (C.length ≤ 400 ∧ Z.length ≤ 400)) :
    Calls Try.prog 8 #[Im W H c z, .int .i64 x, .int .i64 y] w (Ret (.bool true) w) := by
  have HC := hc
  have HZ := hz
  obtain ⟨-, -, a, cap, rfl, -, -⟩ := hc
  obtain ⟨-, -, a', cap', rfl, -, -⟩ := hz
  go_enter Try.func8, Try.ntmps8
  go_wp2_with (first | (go_at_call 31; (with_reducible refine (small_no W H _ _ C Z _ ?_ ?_ h).mono ?_); (repeat (first | assumption | with_reducible refine Rd.ext ?_ _ | with_reducible refine Rd.alloc ?_ _ | with_reducible refine Rd.drew ?_)); (repeat (first | assumption | with_reducible refine Rd.ext ?_ _ | with_reducible refine Rd.alloc ?_ _ | with_reducible refine Rd.drew ?_)); rintro _ _ ⟨rfl, X_, rfl⟩) | (go_at_call 26; (with_reducible refine (awake23 _).mono ?_); rintro _ _ ⟨rfl, X_, rfl⟩))
  go_ret
  exact Ret.of (by (repeat (first | exact Below.refl _ _ | with_reducible refine Below.drew ?_ | with_reducible refine Below.ext ?_ (by first | exact Nat.le_refl _ | (simp; done) | (simp; omega)) _ | with_reducible refine Below.alloc ?_ (by first | exact Nat.le_refl _ | (simp; done) | (simp; omega)) _ | with_reducible refine Below.setCell ?_ (by first | exact Nat.le_refl _ | (simp; done) | (simp; omega)) _)))
set_option maxHeartbeats 4000000 in
theorem makes_wide (W H : Int) (c z : Value) (C Z : List Int) (x y : Int) (w : World) (hc : Rd w c C) (hz : Rd w z Z) (lc : C.length ≤ 400) (lz : Z.length ≤ 400)
    (x0 : 1 ≤ x) (x1 : x ≤ 1024) (y0 : 1 ≤ y) (y1 : y ≤ 1024) (h : 4000 < x * y) :
    Calls Try.prog 8 #[Im W H c z, .int .i64 x, .int .i64 y] w (Ret (.bool true) w) := by
  have HC := hc
  have HZ := hz
  obtain ⟨a0, a1⟩ := area_01 x0 x1 y0 y1
  obtain ⟨-, -, a, cap, rfl, -, -⟩ := hc
  obtain ⟨-, -, a', cap', rfl, -, -⟩ := hz
  go_enter Try.func8, Try.ntmps8
  go_wp2_with (first | (go_at_call 31; (with_reducible refine (small_yes W H _ _ C Z _ ?_ ?_ lc lz).mono ?_); (repeat (first | assumption | with_reducible refine Rd.ext ?_ _ | with_reducible refine Rd.alloc ?_ _ | with_reducible refine Rd.drew ?_)); (repeat (first | assumption | with_reducible refine Rd.ext ?_ _ | with_reducible refine Rd.alloc ?_ _ | with_reducible refine Rd.drew ?_)); rintro _ _ ⟨rfl, X_, rfl⟩) | (go_at_call 26; (with_reducible refine (awake23 _).mono ?_); rintro _ _ ⟨rfl, X_, rfl⟩))
  go_ret
  exact Ret.of (by (repeat (first | exact Below.refl _ _ | with_reducible refine Below.drew ?_ | with_reducible refine Below.ext ?_ (by first | exact Nat.le_refl _ | (simp; done) | (simp; omega)) _ | with_reducible refine Below.alloc ?_ (by first | exact Nat.le_refl _ | (simp; done) | (simp; omega)) _ | with_reducible refine Below.setCell ?_ (by first | exact Nat.le_refl _ | (simp; done) | (simp; omega)) _)))
set_option maxHeartbeats 4000000 in
theorem makes_fit (W H : Int) (c z : Value) (C Z : List Int) (x y : Int) (n : Nat) (b : Bool) (w : World) (hc : Rd w c C) (hz : Rd w z Z) (lc : C.length ≤ 400) (lz : Z.length ≤ 400)
    (x0 : 1 ≤ x) (x1 : x ≤ 1024) (y0 : 1 ≤ y) (y1 : y ≤ 1024) (h : x * y ≤ 4000) (hn : x * y = n) (hb : b = true ↔ ImOk W H C Z) :
    Calls Try.prog 8 #[Im W H c z, .int .i64 x, .int .i64 y] w (Ret (.bool true) w) := by
  have HC := hc
  have HZ := hz
  obtain ⟨a0, a1⟩ := area_01 x0 x1 y0 y1
  have n1 : n ≤ 4000 := by omega
  have lr0 : (List.replicate n (0 : Int)).length ≤ 1048576 := by simp; omega
  have lr1 : (List.replicate n (16777215 : Int)).length ≤ 1048576 := by simp; omega
  have HN := Lib.hid hn
  clear hn
  obtain ⟨-, -, a, cap, rfl, -, -⟩ := hc
  obtain ⟨-, -, a', cap', rfl, -, -⟩ := hz
  go_enter Try.func8, Try.ntmps8
  go_wp2_with (first
    | (go_at_call 31; (with_reducible refine (small_yes W H _ _ C Z _ ?_ ?_ lc lz).mono ?_); (repeat (first | assumption | with_reducible refine Rd.ext ?_ _ | with_reducible refine Rd.alloc ?_ _ | with_reducible refine Rd.drew ?_)); (repeat (first | assumption | with_reducible refine Rd.ext ?_ _ | with_reducible refine Rd.alloc ?_ _ | with_reducible refine Rd.drew ?_)); rintro _ _ ⟨rfl, X_, rfl⟩)
    | (go_at_call 32; (with_reducible refine (new_makes x y n _ x0 x1 y0 y1 HN.out).mono ?_); rintro _ _ ⟨vc, vz, rfl, ⟨X, rfl⟩, R1, R2⟩; have K1 := R1; have K2 := R2; obtain ⟨-, -, c1, k1, rfl, -, -⟩ := K1; obtain ⟨-, -, c2, k2, rfl, -, -⟩ := K2; simp only [List.length_replicate] at R1 R2 ⊢)
    | (go_at_call 33; (with_reducible refine (rnew_ok x y n _ x0 x1 y0 y1 HN.out).mono ?_); rintro _ _ ⟨vc, vz, rfl, ⟨Y, rfl⟩, R3, R4⟩; have K1 := R3; have K2 := R4; obtain ⟨-, -, c3, k3, rfl, -, -⟩ := K1; obtain ⟨-, -, c4, k4, rfl, -, -⟩ := K2; simp only [List.length_replicate] at R3 R4 ⊢))
  refine wp_region_ext (by kernel_rfl) (by kernel_rfl) ?_
  repeat (go_big_quiet_step ((first | (go_at_call 26; with_reducible exact Calls.quiet_ret (awake23 _)) | (go_at_call 34; (with_reducible refine Calls.quiet_ret (right_is W H _ _ C Z b _ ?_ ?_ hb)); (repeat (first | assumption | with_reducible refine Rd.ext ?_ _ | with_reducible refine Rd.alloc ?_ _ | with_reducible refine Rd.drew ?_)); (repeat (first | assumption | with_reducible refine Rd.ext ?_ _ | with_reducible refine Rd.alloc ?_ _ | with_reducible refine Rd.drew ?_))) | (go_at_call 35; (with_reducible refine Calls.quiet_ret (rright_is W H _ _ C Z b _ ?_ ?_ hb)); (repeat (first | assumption | with_reducible refine Rd.ext ?_ _ | with_reducible refine Rd.alloc ?_ _ | with_reducible refine Rd.drew ?_)); (repeat (first | assumption | with_reducible refine Rd.ext ?_ _ | with_reducible refine Rd.alloc ?_ _ | with_reducible refine Rd.drew ?_))) | (go_at_call 36; (with_reducible refine Calls.quiet_ret (same_yes x y _ _ _ _ (List.replicate n 0) (List.replicate n 16777215) _ ?_ ?_ ?_ ?_ lr0 lr1)); (repeat (first | assumption | with_reducible refine Rd.ext ?_ _ | with_reducible refine Rd.alloc ?_ _ | with_reducible refine Rd.drew ?_)); (repeat (first | assumption | with_reducible refine Rd.ext ?_ _ | with_reducible refine Rd.alloc ?_ _ | with_reducible refine Rd.drew ?_)); (repeat (first | assumption | with_reducible refine Rd.ext ?_ _ | with_reducible refine Rd.alloc ?_ _ | with_reducible refine Rd.drew ?_)); (repeat (first | assumption | with_reducible refine Rd.ext ?_ _ | with_reducible refine Rd.alloc ?_ _ | with_reducible refine Rd.drew ?_))))))
  refine wpQuiet_nil ?_
  intro _ hw_ext
  obtain ⟨Q, hw_ext⟩ := hw_ext
  subst hw_ext
  go_wp2
  go_ret
  exact Ret.of' (by simp) (by (repeat (first | exact Below.refl _ _ | with_reducible refine Below.drew ?_ | with_reducible refine Below.ext ?_ (by first | exact Nat.le_refl _ | (simp; done) | (simp; omega)) _ | with_reducible refine Below.alloc ?_ (by first | exact Nat.le_refl _ | (simp; done) | (simp; omega)) _ | with_reducible refine Below.setCell ?_ (by first | exact Nat.le_refl _ | (simp; done) | (simp; omega)) _)))
set_option maxHeartbeats 4000000 in
theorem makes_out (W H : Int) (c z : Value) (C Z : List Int) (x y : Int) (b : Bool) (w : World) (hc : Rd w c C) (hz : Rd w z Z) (lc : C.length ≤ 400) (lz : Z.length ≤ 400)
    (ho : ¬ (1 ≤ x ∧ x ≤ 1024 ∧ 1 ≤ y ∧ y ≤ 1024)) (hb : b = true ↔ ImOk W H C Z) :
    Calls Try.prog 8 #[Im W H c z, .int .i64 x, .int .i64 y] w (Ret (.bool true) w) := by
  have HC := hc
  have HZ := hz
  have HO := ho
  have lr : ([] : List Int).length ≤ 1048576 := by simp
  obtain ⟨-, -, a, cap, rfl, -, -⟩ := hc
  obtain ⟨-, -, a', cap', rfl, -, -⟩ := hz
  by_cases x0 : 1 ≤ x
  · by_cases x1 : x ≤ 1024
    · by_cases y0 : 1 ≤ y
      · have y1 : ¬ y ≤ 1024 := by omega
        clear ho
        go_enter Try.func8, Try.ntmps8
        go_wp2_with (first
          | (go_at_call 31; (with_reducible refine (small_yes W H _ _ C Z _ ?_ ?_ lc lz).mono ?_); (repeat (first | assumption | with_reducible refine Rd.ext ?_ _ | with_reducible refine Rd.alloc ?_ _ | with_reducible refine Rd.drew ?_)); (repeat (first | assumption | with_reducible refine Rd.ext ?_ _ | with_reducible refine Rd.alloc ?_ _ | with_reducible refine Rd.drew ?_)); rintro _ _ ⟨rfl, X_, rfl⟩)
          | (go_at_call 32; (with_reducible refine (new_no x y _ HO).mono ?_); rintro _ _ ⟨rfl, X_, rfl⟩)
          | (go_at_call 33; (with_reducible refine (rnew_no x y _ HO).mono ?_); rintro _ _ ⟨rfl, X_, rfl⟩))
        refine wp_region_ext (by kernel_rfl) (by kernel_rfl) ?_
        repeat (go_big_quiet_step ((first | (go_at_call 26; with_reducible exact Calls.quiet_ret (awake23 _)) | (go_at_call 34; (with_reducible refine Calls.quiet_ret (right_is W H _ _ C Z b _ ?_ ?_ hb)); (repeat (first | assumption | with_reducible refine Rd.ext ?_ _ | with_reducible refine Rd.alloc ?_ _ | with_reducible refine Rd.drew ?_)); (repeat (first | assumption | with_reducible refine Rd.ext ?_ _ | with_reducible refine Rd.alloc ?_ _ | with_reducible refine Rd.drew ?_))) | (go_at_call 35; (with_reducible refine Calls.quiet_ret (rright_is W H _ _ C Z b _ ?_ ?_ hb)); (repeat (first | assumption | with_reducible refine Rd.ext ?_ _ | with_reducible refine Rd.alloc ?_ _ | with_reducible refine Rd.drew ?_)); (repeat (first | assumption | with_reducible refine Rd.ext ?_ _ | with_reducible refine Rd.alloc ?_ _ | with_reducible refine Rd.drew ?_))) | (go_at_call 36; (with_reducible refine Calls.quiet_ret (same_yes 0 0 _ _ _ _ [] [] _ ?_ ?_ ?_ ?_ lr lr)); all_goals exact rd_nil _))))
        refine wpQuiet_nil ?_
        intro _ hw_ext
        obtain ⟨Q, hw_ext⟩ := hw_ext
        subst hw_ext
        go_wp2
        go_ret
        exact Ret.of' (by simp) (by (repeat (first | exact Below.refl _ _ | with_reducible refine Below.drew ?_ | with_reducible refine Below.ext ?_ (by first | exact Nat.le_refl _ | (simp; done) | (simp; omega)) _ | with_reducible refine Below.alloc ?_ (by first | exact Nat.le_refl _ | (simp; done) | (simp; omega)) _ | with_reducible refine Below.setCell ?_ (by first | exact Nat.le_refl _ | (simp; done) | (simp; omega)) _)))
      · clear ho
        go_enter Try.func8, Try.ntmps8
        go_wp2_with (first
          | (go_at_call 31; (with_reducible refine (small_yes W H _ _ C Z _ ?_ ?_ lc lz).mono ?_); (repeat (first | assumption | with_reducible refine Rd.ext ?_ _ | with_reducible refine Rd.alloc ?_ _ | with_reducible refine Rd.drew ?_)); (repeat (first | assumption | with_reducible refine Rd.ext ?_ _ | with_reducible refine Rd.alloc ?_ _ | with_reducible refine Rd.drew ?_)); rintro _ _ ⟨rfl, X_, rfl⟩)
          | (go_at_call 32; (with_reducible refine (new_no x y _ HO).mono ?_); rintro _ _ ⟨rfl, X_, rfl⟩)
          | (go_at_call 33; (with_reducible refine (rnew_no x y _ HO).mono ?_); rintro _ _ ⟨rfl, X_, rfl⟩))
        refine wp_region_ext (by kernel_rfl) (by kernel_rfl) ?_
        repeat (go_big_quiet_step ((first | (go_at_call 26; with_reducible exact Calls.quiet_ret (awake23 _)) | (go_at_call 34; (with_reducible refine Calls.quiet_ret (right_is W H _ _ C Z b _ ?_ ?_ hb)); (repeat (first | assumption | with_reducible refine Rd.ext ?_ _ | with_reducible refine Rd.alloc ?_ _ | with_reducible refine Rd.drew ?_)); (repeat (first | assumption | with_reducible refine Rd.ext ?_ _ | with_reducible refine Rd.alloc ?_ _ | with_reducible refine Rd.drew ?_))) | (go_at_call 35; (with_reducible refine Calls.quiet_ret (rright_is W H _ _ C Z b _ ?_ ?_ hb)); (repeat (first | assumption | with_reducible refine Rd.ext ?_ _ | with_reducible refine Rd.alloc ?_ _ | with_reducible refine Rd.drew ?_)); (repeat (first | assumption | with_reducible refine Rd.ext ?_ _ | with_reducible refine Rd.alloc ?_ _ | with_reducible refine Rd.drew ?_))) | (go_at_call 36; (with_reducible refine Calls.quiet_ret (same_yes 0 0 _ _ _ _ [] [] _ ?_ ?_ ?_ ?_ lr lr)); all_goals exact rd_nil _))))
        refine wpQuiet_nil ?_
        intro _ hw_ext
        obtain ⟨Q, hw_ext⟩ := hw_ext
        subst hw_ext
        go_wp2
        go_ret
        exact Ret.of' (by simp) (by (repeat (first | exact Below.refl _ _ | with_reducible refine Below.drew ?_ | with_reducible refine Below.ext ?_ (by first | exact Nat.le_refl _ | (simp; done) | (simp; omega)) _ | with_reducible refine Below.alloc ?_ (by first | exact Nat.le_refl _ | (simp; done) | (simp; omega)) _ | with_reducible refine Below.setCell ?_ (by first | exact Nat.le_refl _ | (simp; done) | (simp; omega)) _)))
    · by_cases y0 : 1 ≤ y
      · clear ho
        go_enter Try.func8, Try.ntmps8
        go_wp2_with (first
          | (go_at_call 31; (with_reducible refine (small_yes W H _ _ C Z _ ?_ ?_ lc lz).mono ?_); (repeat (first | assumption | with_reducible refine Rd.ext ?_ _ | with_reducible refine Rd.alloc ?_ _ | with_reducible refine Rd.drew ?_)); (repeat (first | assumption | with_reducible refine Rd.ext ?_ _ | with_reducible refine Rd.alloc ?_ _ | with_reducible refine Rd.drew ?_)); rintro _ _ ⟨rfl, X_, rfl⟩)
          | (go_at_call 32; (with_reducible refine (new_no x y _ HO).mono ?_); rintro _ _ ⟨rfl, X_, rfl⟩)
          | (go_at_call 33; (with_reducible refine (rnew_no x y _ HO).mono ?_); rintro _ _ ⟨rfl, X_, rfl⟩))
        refine wp_region_ext (by kernel_rfl) (by kernel_rfl) ?_
        repeat (go_big_quiet_step ((first | (go_at_call 26; with_reducible exact Calls.quiet_ret (awake23 _)) | (go_at_call 34; (with_reducible refine Calls.quiet_ret (right_is W H _ _ C Z b _ ?_ ?_ hb)); (repeat (first | assumption | with_reducible refine Rd.ext ?_ _ | with_reducible refine Rd.alloc ?_ _ | with_reducible refine Rd.drew ?_)); (repeat (first | assumption | with_reducible refine Rd.ext ?_ _ | with_reducible refine Rd.alloc ?_ _ | with_reducible refine Rd.drew ?_))) | (go_at_call 35; (with_reducible refine Calls.quiet_ret (rright_is W H _ _ C Z b _ ?_ ?_ hb)); (repeat (first | assumption | with_reducible refine Rd.ext ?_ _ | with_reducible refine Rd.alloc ?_ _ | with_reducible refine Rd.drew ?_)); (repeat (first | assumption | with_reducible refine Rd.ext ?_ _ | with_reducible refine Rd.alloc ?_ _ | with_reducible refine Rd.drew ?_))) | (go_at_call 36; (with_reducible refine Calls.quiet_ret (same_yes 0 0 _ _ _ _ [] [] _ ?_ ?_ ?_ ?_ lr lr)); all_goals exact rd_nil _))))
        refine wpQuiet_nil ?_
        intro _ hw_ext
        obtain ⟨Q, hw_ext⟩ := hw_ext
        subst hw_ext
        go_wp2
        go_ret
        exact Ret.of' (by simp) (by (repeat (first | exact Below.refl _ _ | with_reducible refine Below.drew ?_ | with_reducible refine Below.ext ?_ (by first | exact Nat.le_refl _ | (simp; done) | (simp; omega)) _ | with_reducible refine Below.alloc ?_ (by first | exact Nat.le_refl _ | (simp; done) | (simp; omega)) _ | with_reducible refine Below.setCell ?_ (by first | exact Nat.le_refl _ | (simp; done) | (simp; omega)) _)))
      · clear ho
        go_enter Try.func8, Try.ntmps8
        go_wp2_with (first
          | (go_at_call 31; (with_reducible refine (small_yes W H _ _ C Z _ ?_ ?_ lc lz).mono ?_); (repeat (first | assumption | with_reducible refine Rd.ext ?_ _ | with_reducible refine Rd.alloc ?_ _ | with_reducible refine Rd.drew ?_)); (repeat (first | assumption | with_reducible refine Rd.ext ?_ _ | with_reducible refine Rd.alloc ?_ _ | with_reducible refine Rd.drew ?_)); rintro _ _ ⟨rfl, X_, rfl⟩)
          | (go_at_call 32; (with_reducible refine (new_no x y _ HO).mono ?_); rintro _ _ ⟨rfl, X_, rfl⟩)
          | (go_at_call 33; (with_reducible refine (rnew_no x y _ HO).mono ?_); rintro _ _ ⟨rfl, X_, rfl⟩))
        refine wp_region_ext (by kernel_rfl) (by kernel_rfl) ?_
        repeat (go_big_quiet_step ((first | (go_at_call 26; with_reducible exact Calls.quiet_ret (awake23 _)) | (go_at_call 34; (with_reducible refine Calls.quiet_ret (right_is W H _ _ C Z b _ ?_ ?_ hb)); (repeat (first | assumption | with_reducible refine Rd.ext ?_ _ | with_reducible refine Rd.alloc ?_ _ | with_reducible refine Rd.drew ?_)); (repeat (first | assumption | with_reducible refine Rd.ext ?_ _ | with_reducible refine Rd.alloc ?_ _ | with_reducible refine Rd.drew ?_))) | (go_at_call 35; (with_reducible refine Calls.quiet_ret (rright_is W H _ _ C Z b _ ?_ ?_ hb)); (repeat (first | assumption | with_reducible refine Rd.ext ?_ _ | with_reducible refine Rd.alloc ?_ _ | with_reducible refine Rd.drew ?_)); (repeat (first | assumption | with_reducible refine Rd.ext ?_ _ | with_reducible refine Rd.alloc ?_ _ | with_reducible refine Rd.drew ?_))) | (go_at_call 36; (with_reducible refine Calls.quiet_ret (same_yes 0 0 _ _ _ _ [] [] _ ?_ ?_ ?_ ?_ lr lr)); all_goals exact rd_nil _))))
        refine wpQuiet_nil ?_
        intro _ hw_ext
        obtain ⟨Q, hw_ext⟩ := hw_ext
        subst hw_ext
        go_wp2
        go_ret
        exact Ret.of' (by simp) (by (repeat (first | exact Below.refl _ _ | with_reducible refine Below.drew ?_ | with_reducible refine Below.ext ?_ (by first | exact Nat.le_refl _ | (simp; done) | (simp; omega)) _ | with_reducible refine Below.alloc ?_ (by first | exact Nat.le_refl _ | (simp; done) | (simp; omega)) _ | with_reducible refine Below.setCell ?_ (by first | exact Nat.le_refl _ | (simp; done) | (simp; omega)) _)))
  · clear ho
    go_enter Try.func8, Try.ntmps8
    go_wp2_with (first
      | (go_at_call 31; (with_reducible refine (small_yes W H _ _ C Z _ ?_ ?_ lc lz).mono ?_); (repeat (first | assumption | with_reducible refine Rd.ext ?_ _ | with_reducible refine Rd.alloc ?_ _ | with_reducible refine Rd.drew ?_)); (repeat (first | assumption | with_reducible refine Rd.ext ?_ _ | with_reducible refine Rd.alloc ?_ _ | with_reducible refine Rd.drew ?_)); rintro _ _ ⟨rfl, X_, rfl⟩)
      | (go_at_call 32; (with_reducible refine (new_no x y _ HO).mono ?_); rintro _ _ ⟨rfl, X_, rfl⟩)
      | (go_at_call 33; (with_reducible refine (rnew_no x y _ HO).mono ?_); rintro _ _ ⟨rfl, X_, rfl⟩))
    refine wp_region_ext (by kernel_rfl) (by kernel_rfl) ?_
    repeat (go_big_quiet_step ((first | (go_at_call 26; with_reducible exact Calls.quiet_ret (awake23 _)) | (go_at_call 34; (with_reducible refine Calls.quiet_ret (right_is W H _ _ C Z b _ ?_ ?_ hb)); (repeat (first | assumption | with_reducible refine Rd.ext ?_ _ | with_reducible refine Rd.alloc ?_ _ | with_reducible refine Rd.drew ?_)); (repeat (first | assumption | with_reducible refine Rd.ext ?_ _ | with_reducible refine Rd.alloc ?_ _ | with_reducible refine Rd.drew ?_))) | (go_at_call 35; (with_reducible refine Calls.quiet_ret (rright_is W H _ _ C Z b _ ?_ ?_ hb)); (repeat (first | assumption | with_reducible refine Rd.ext ?_ _ | with_reducible refine Rd.alloc ?_ _ | with_reducible refine Rd.drew ?_)); (repeat (first | assumption | with_reducible refine Rd.ext ?_ _ | with_reducible refine Rd.alloc ?_ _ | with_reducible refine Rd.drew ?_))) | (go_at_call 36; (with_reducible refine Calls.quiet_ret (same_yes 0 0 _ _ _ _ [] [] _ ?_ ?_ ?_ ?_ lr lr)); all_goals exact rd_nil _))))
    refine wpQuiet_nil ?_
    intro _ hw_ext
    obtain ⟨Q, hw_ext⟩ := hw_ext
    subst hw_ext
    go_wp2
    go_ret
    exact Ret.of' (by simp) (by (repeat (first | exact Below.refl _ _ | with_reducible refine Below.drew ?_ | with_reducible refine Below.ext ?_ (by first | exact Nat.le_refl _ | (simp; done) | (simp; omega)) _ | with_reducible refine Below.alloc ?_ (by first | exact Nat.le_refl _ | (simp; done) | (simp; omega)) _ | with_reducible refine Below.setCell ?_ (by first | exact Nat.le_refl _ | (simp; done) | (simp; omega)) _)))
theorem StoreMakes_all : StoreMakes_stmt := by
  intro W H c z x y w hI _ _
  obtain ⟨-, -, ⟨C, hC⟩, ⟨Z, hZ⟩⟩ := hI
  have hc := Rd.of_ints hC
  have hz := Rd.of_ints hZ
  by_cases hs : C.length ≤ 400 ∧ Z.length ≤ 400
  · obtain ⟨b, hb⟩ : ∃ b : Bool, b = true ↔ ImOk W H C Z := by
      by_cases h : ImOk W H C Z
      · exact ⟨true, by simp [h]⟩
      · exact ⟨false, by simp [h]⟩
    by_cases hd : 1 ≤ x ∧ x ≤ 1024 ∧ 1 ≤ y ∧ y ≤ 1024
    · obtain ⟨x0, x1, y0, y1⟩ := hd
      obtain ⟨a0, a1⟩ := area_01 x0 x1 y0 y1
      by_cases hw : x * y ≤ 4000
      · exact makes_fit W H c z C Z x y (x * y).toNat b w hc hz hs.1 hs.2 x0 x1 y0 y1 hw (by omega) hb
      · exact makes_wide W H c z C Z x y w hc hz hs.1 hs.2 x0 x1 y0 y1 (by omega)
    · exact makes_out W H c z C Z x y b w hc hz hs.1 hs.2 hd hb
  · exact makes_big W H c z C Z x y w hc hz hs
theorem StoreMakes_holds : Rows.StoreMakesSaid := StoreMakes_end StoreMakes_all
end Go.Proofs.Ytdbbeggenbhbfaa
