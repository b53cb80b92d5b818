/- The walks of the references of layers 13 and 14: In, Exits, wide, ahead, number. Conditions: bounds of points and pixels. -/
import Derived.Test.YtmlhbbkgfffmcaaWalkQ
import Derived.Test.YtmlhbbkgfffmcaaLineF
import Derived.Deep.DeepCutAuto
namespace Go.Proofs.Ytmlhbbkgfffmcaa
set_option linter.unusedVariables false
set_option linter.unusedSimpArgs false
open Go.RowKit
set_option maxHeartbeats 4000000 in
theorem rexits_any (ax ay bx y2 x y : Int) (ha : MayP ax ay) (hb : MayP bx y2) (hx : FarP x y) (w : World) :
    Calls Try.prog 55 #[P2 ax ay, P2 bx y2, .int .i64 x, .int .i64 y] w (Ret (.bool (decide (exP ax ay bx y2 x y))) w) := by
  have HM := Lib.hid (fun w => rmeets_any ax ay bx y2 x y ha hb hx w)
  have HI := Lib.hid (fun w => rinside_any bx y2 x y hb hx w)
  have e : decide (exP ax ay bx y2 x y) = (decide (mtP (ax - 256 * x - 128) (ay - 256 * y - 128) (bx - 256 * x - 128) (y2 - 256 * y - 128)) && !decide (insP (bx - 256 * x - 128) (y2 - 256 * y - 128))) := by
    rw [Bool.eq_iff_iff]; simp [exP]; exact decide_eq_true_iff
  rw [e]
  clear e
  obtain ⟨m, hm⟩ : ∃ m, decide (mtP (ax - 256 * x - 128) (ay - 256 * y - 128) (bx - 256 * x - 128) (y2 - 256 * y - 128)) = m := ⟨_, rfl⟩
  obtain ⟨n, hn⟩ : ∃ m, decide (insP (bx - 256 * x - 128) (y2 - 256 * y - 128)) = m := ⟨_, rfl⟩
  rw [hm] at HM ⊢
  rw [hn] at HI ⊢
  clear hm hn
  cases m
  all_goals cases n
  all_goals
    go_enter Try.func55, Try.ntmps55
    go_wp2_with (first | (go_at_call 114; (with_reducible refine (HM.out _).mono ?_); rintro _ _ ⟨rfl, X_, rfl⟩) | (go_at_call 115; (with_reducible refine (HI.out _).mono ?_); rintro _ _ ⟨rfl, X_, rfl⟩))
    go_ret
    exact Ret.of' rfl (by (repeat (first | exact Below.refl _ _ | with_reducible refine Below.drew ?_ | with_reducible refine Below.ext ?_ (by first | exact Nat.le_refl _ | (simp; done) | (simp; omega)) _ | with_reducible refine Below.alloc ?_ (by first | exact Nat.le_refl _ | (simp; done) | (simp; omega)) _ | with_reducible refine Below.setCell ?_ (by first | exact Nat.le_refl _ | (simp; done) | (simp; omega)) _)))
set_option maxHeartbeats 4000000 in
theorem rin_any (x y : Int) (h : MayP x y) (w : World) : Calls Try.prog 133 #[P2 x y] w (Ret (In3 x y) w) := by
  have HI := Lib.hid (fun i k w (hf : FarP i k) => rinside_any x y i k h hf w)
  have hin := Lib.hid (fun i k => in_ins x y i k)
  have hx1 : inOk x y = true → x / 256 - 1 ≤ inX x y ∧ inX x y ≤ x / 256 := fun e => by unfold inX; rw [if_pos e]; split <;> omega
  have hy1 : inOk x y = true → inY x y = y / 256 := fun e => by unfold inY; rw [if_pos e]
  have hx2 : inOk x y = false → inX x y = 0 ∧ inY x y = 0 := fun e => by unfold inX inY; rw [e]; exact ⟨rfl, rfl⟩
  have tx := tdiv_near x
  have ty := tdiv_near y
  obtain ⟨x0, x1, y0, y1⟩ := h
  obtain ⟨a, ha⟩ : ∃ a, inX x y = a := ⟨_, rfl⟩
  obtain ⟨b, hb⟩ : ∃ b, inY x y = b := ⟨_, rfl⟩
  obtain ⟨o, ho⟩ : ∃ o, inOk x y = o := ⟨_, rfl⟩
  simp only [In3, ha, hb, ho] at *
  obtain ⟨p, hp⟩ : ∃ p, x.tdiv 256 = p := ⟨_, rfl⟩
  obtain ⟨q, hq⟩ : ∃ p, y.tdiv 256 = p := ⟨_, rfl⟩
  rw [hp] at tx
  rw [hq] at ty
  have pb : -2097154 ≤ p ∧ p ≤ 2097154 := by omega
  have qb : -2097154 ≤ q ∧ q ≤ 2097154 := by omega
  have A1 : o = true → p - 2 ≤ a ∧ a ≤ p + 2 := fun e => by have := hx1 e; omega
  have B1 : o = true → q - 2 ≤ b ∧ b ≤ q + 2 := fun e => by have := hy1 e; omega
  have HA := Lib.hid A1
  have HB := Lib.hid B1
  have HO := Lib.hid hx2
  obtain ⟨pb0, pb1⟩ := pb
  obtain ⟨qb0, qb1⟩ := qb
  clear hx1 hy1 hx2 tx ty A1 B1 ha hb ho
  go_enter Try.func133, Try.ntmps133
  go_wp2
  go_loopw [5] (fun i wr => ∃ (k : Int) (X : Xt), p - 2 ≤ k ∧ k ≤ p + 3 ∧ Hid (o = true → k ≤ a) ∧ i = .int .i64 k ∧ wr = (w.alloc (.cells #[.int .i64 x, .int .i64 y] 50)).ext X)
    (fun i _ => (p + 3 - intOf i).toNat)
  case atStart => exact ⟨p - 2, _, by omega, by omega, Lib.hid fun e => (HA.out e).1, rfl, ext_self _⟩
  case round =>
    obtain ⟨k, X, k0, k1, ka, rfl, rfl⟩ := hrel
    by_cases hlt : k ≤ p + 2
    · go_wp2
      go_loopw [6] (fun i wr => ∃ (j : Int) (Y : Xt), q - 2 ≤ j ∧ j ≤ q + 3 ∧ Hid (o = true → a = k → j ≤ b) ∧ i = .int .i64 j ∧ wr = (w.alloc (.cells #[.int .i64 x, .int .i64 y] 50)).ext Y)
        (fun i _ => (q + 3 - intOf i).toNat)
      case atStart => exact ⟨q - 2, _, by omega, by omega, Lib.hid fun e _ => (HB.out e).1, rfl, rfl⟩
      case round =>
        obtain ⟨j, Y, j0, j1, jb, rfl, rfl⟩ := hrel
        by_cases hl2 : j ≤ q + 2
        · obtain ⟨s, hs⟩ : ∃ s, decide (insP (x - 256 * k - 128) (y - 256 * j - 128)) = s := ⟨_, rfl⟩
          have HI1 := Lib.hid (fun w => hs ▸ HI.out k j w ⟨by omega, by omega, by omega, by omega⟩)
          have HN := Lib.hid ((hin.out k j).trans (by rw [← decide_eq_true_iff (p := insP _ _), hs]))
          clear hs
          cases s
          · go_wp2_with (first | (go_at_call 115; (with_reducible refine (HI1.out _).mono ?_); rintro _ _ ⟨rfl, X_, rfl⟩))
            go_roundw
            case rel => exact ⟨j + 1, _, by omega, by omega, Lib.hid fun e f => by
              have := jb.out e f
              have : b ≠ j := fun g => by cases HN.out.1 ⟨e, f, g⟩
              omega, rfl, World.ext_ext⟩
            case measure => simp [intOf]; omega
          · go_wp2_with (first | (go_at_call 115; (with_reducible refine (HI1.out _).mono ?_); rintro _ _ ⟨rfl, X_, rfl⟩))
            go_ret3
            obtain ⟨e1, e2, e3⟩ := HN.out.2 (by trivial)
            exact Ret.of' (by rw [e1, e2, e3]; rfl) (by (repeat (first | exact Below.refl _ _ | with_reducible refine Below.drew ?_ | with_reducible refine Below.ext ?_ (by first | exact Nat.le_refl _ | (simp; done) | (simp; omega)) _ | with_reducible refine Below.alloc ?_ (by first | exact Nat.le_refl _ | (simp; done) | (simp; omega)) _ | with_reducible refine Below.setCell ?_ (by first | exact Nat.le_refl _ | (simp; done) | (simp; omega)) _)))
        · go_wp2
          go_roundw
          case rel => exact ⟨k + 1, _, by omega, by omega, Lib.hid fun e => by
            have := ka.out e
            have h2 := (HB.out e).2
            have : a ≠ k := fun f => by have := jb.out e f; omega
            omega, rfl, rfl⟩
          case measure => simp [intOf]; omega
    · go_wp2
      go_ret3
      have e : o = false := by
        cases o
        · rfl
        · have h1 := ka.out rfl
          have h2 := (HA.out rfl).2
          omega
      obtain ⟨e1, e2⟩ := HO.out e
      exact Ret.of' (by rw [e, e1, e2]; rfl) (by (repeat (first | exact Below.refl _ _ | with_reducible refine Below.drew ?_ | with_reducible refine Below.ext ?_ (by first | exact Nat.le_refl _ | (simp; done) | (simp; omega)) _ | with_reducible refine Below.alloc ?_ (by first | exact Nat.le_refl _ | (simp; done) | (simp; omega)) _ | with_reducible refine Below.setCell ?_ (by first | exact Nat.le_refl _ | (simp; done) | (simp; omega)) _)))
theorem rwide_any (ax ay bx y2 : Int) (ha : MayP ax ay) (hb : MayP bx y2) (w : World) : Calls Try.prog 98 #[P2 ax ay, P2 bx y2] w (Ret (.bool (!decide (turnP ax ay bx y2))) w) := by
  obtain ⟨a0, a1, a2, a3⟩ := ha
  obtain ⟨b0, b1, b2, b3⟩ := hb
  go_enter Try.func98, Try.ntmps98
  go_wp2
  refine wp_region_ext (by kernel_rfl) (by kernel_rfl) ?_
  repeat (go_big_quiet_step ((fail)))
  refine wpQuiet_nil ?_
  intro _ hw_ext
  obtain ⟨X, hw_ext⟩ := hw_ext
  subst hw_ext
  go_wp2
  go_ret
  exact Ret.of' (by rw [← decide_not]; refine bool_d ?_; unfold turnP; omega) (by (repeat (first | exact Below.refl _ _ | with_reducible refine Below.drew ?_ | with_reducible refine Below.ext ?_ (by first | exact Nat.le_refl _ | (simp; done) | (simp; omega)) _ | with_reducible refine Below.alloc ?_ (by first | exact Nat.le_refl _ | (simp; done) | (simp; omega)) _ | with_reducible refine Below.setCell ?_ (by first | exact Nat.le_refl _ | (simp; done) | (simp; omega)) _)))
theorem rahead_any (u : Int) (h0 : -536870912 ≤ u) (h1 : u ≤ 536870912) (w : World) : Calls Try.prog 132 #[.int .i64 u] w (Ret (.int .i64 (leastC u)) w) := by
  have t := tdiv_near u
  have L := leastC_is u
  obtain ⟨n, hn⟩ : ∃ n, leastC u = n := ⟨_, rfl⟩
  rw [hn] at L ⊢
  obtain ⟨p, hp⟩ : ∃ p, u.tdiv 256 = p := ⟨_, rfl⟩
  rw [hp] at t
  obtain ⟨L0, L1⟩ := L
  have pb : -2097154 ≤ p ∧ p ≤ 2097154 := by omega
  have pn : p - 3 ≤ n ∧ n ≤ p + 3 := by omega
  obtain ⟨pb0, pb1⟩ := pb
  clear hn t
  go_enter Try.func132, Try.ntmps132
  go_wp2
  go_loop [3] (fun i => ∃ k : Int, p - 3 ≤ k ∧ k ≤ n ∧ i = .int .i64 k) (fun i => (n - intOf i).toNat)
  case atStart => exact ⟨p - 3, by omega, by omega, rfl⟩
  case round =>
    obtain ⟨k, k0, k1, rfl⟩ := hrel
    by_cases hlt : 256 * k + 128 < u
    · go_wp2
      go_round
      case rel => exact ⟨k + 1, by omega, by omega, rfl⟩
      case measure => simp [intOf]; omega
    · go_wp2
      go_ret
      exact Ret.of' (congrArg (Value.int .i64) (by omega)) (by (repeat (first | exact Below.refl _ _ | with_reducible refine Below.drew ?_ | with_reducible refine Below.ext ?_ (by first | exact Nat.le_refl _ | (simp; done) | (simp; omega)) _ | with_reducible refine Below.alloc ?_ (by first | exact Nat.le_refl _ | (simp; done) | (simp; omega)) _ | with_reducible refine Below.setCell ?_ (by first | exact Nat.le_refl _ | (simp; done) | (simp; omega)) _)))
abbrev Ln.w (l : Ln) : Value := .agg #[.int .i64 l.From, .int .i64 l.To, .int .i64 l.X, .int .i64 l.Y, .bool l.Extra]
structure Ln.Ok (l : Ln) : Prop where
  f0 : -8388608 ≤ l.From
  f1 : l.From ≤ 8388608
theorem rnumber_any (l : Ln) (ok : l.Ok) (x y u : Int) (u0 : -8388608 ≤ u) (u1 : u ≤ 8388608) (w : World) : Calls Try.prog 99 #[l.w, .int .i64 x, .int .i64 y, .int .i64 u] w (Ret (.int .i64 (numL l x y u)) w) := by
  obtain ⟨f0, f1⟩ := ok
  obtain ⟨Z, hZ⟩ : ∃ Z, Z = numL l x y u := ⟨_, rfl⟩
  rw [← hZ]
  unfold numL at hZ
  cases l with
  | mk F T X Y E =>
  simp only [Ln.w] at *
  have HZ := Lib.hid hZ
  clear hZ
  by_cases c : T < F
  all_goals
    cases E
    · go_enter Try.func99, Try.ntmps99
      go_wp2
      go_ret
      exact Ret.of' (congrArg (Value.int .i64) (by rw [HZ.out]; simp; omega)) (by (repeat (first | exact Below.refl _ _ | with_reducible refine Below.drew ?_ | with_reducible refine Below.ext ?_ (by first | exact Nat.le_refl _ | (simp; done) | (simp; omega)) _ | with_reducible refine Below.alloc ?_ (by first | exact Nat.le_refl _ | (simp; done) | (simp; omega)) _ | with_reducible refine Below.setCell ?_ (by first | exact Nat.le_refl _ | (simp; done) | (simp; omega)) _)))
    · by_cases c1 : x = X
      · by_cases c2 : y = Y
        · have z1 : (x == X) = true := by simp [c1]
          have z2 : (y == Y) = true := by simp [c2]
          have C1 := Lib.hid c1
          have C2 := Lib.hid c2
          clear c1 c2
          go_enter Try.func99, Try.ntmps99
          go_wp2
          go_ret
          exact Ret.of' (congrArg (Value.int .i64) (by rw [HZ.out]; simp [C1.out, C2.out])) (by (repeat (first | exact Below.refl _ _ | with_reducible refine Below.drew ?_ | with_reducible refine Below.ext ?_ (by first | exact Nat.le_refl _ | (simp; done) | (simp; omega)) _ | with_reducible refine Below.alloc ?_ (by first | exact Nat.le_refl _ | (simp; done) | (simp; omega)) _ | with_reducible refine Below.setCell ?_ (by first | exact Nat.le_refl _ | (simp; done) | (simp; omega)) _)))
        · have z1 : (x == X) = true := by simp [c1]
          have z2 : (y == Y) = false := by simp [c2]
          have C1 := Lib.hid c1
          have C2 := Lib.hid c2
          clear c1 c2
          go_enter Try.func99, Try.ntmps99
          go_wp2
          go_ret
          exact Ret.of' (congrArg (Value.int .i64) (by rw [HZ.out]; simp [C2.out]; omega)) (by (repeat (first | exact Below.refl _ _ | with_reducible refine Below.drew ?_ | with_reducible refine Below.ext ?_ (by first | exact Nat.le_refl _ | (simp; done) | (simp; omega)) _ | with_reducible refine Below.alloc ?_ (by first | exact Nat.le_refl _ | (simp; done) | (simp; omega)) _ | with_reducible refine Below.setCell ?_ (by first | exact Nat.le_refl _ | (simp; done) | (simp; omega)) _)))
      · have z1 : (x == X) = false := by simp [c1]
        have C1 := Lib.hid c1
        clear c1
        go_enter Try.func99, Try.ntmps99
        go_wp2
        go_ret
        exact Ret.of' (congrArg (Value.int .i64) (by rw [HZ.out]; simp [C1.out]; omega)) (by (repeat (first | exact Below.refl _ _ | with_reducible refine Below.drew ?_ | with_reducible refine Below.ext ?_ (by first | exact Nat.le_refl _ | (simp; done) | (simp; omega)) _ | with_reducible refine Below.alloc ?_ (by first | exact Nat.le_refl _ | (simp; done) | (simp; omega)) _ | with_reducible refine Below.setCell ?_ (by first | exact Nat.le_refl _ | (simp; done) | (simp; omega)) _)))
end Go.Proofs.Ytmlhbbkgfffmcaa
