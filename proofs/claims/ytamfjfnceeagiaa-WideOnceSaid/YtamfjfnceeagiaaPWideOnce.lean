/- WideOnce: whatever the input, the law returns true and leaves its arguments as they read. No condition. -/
import Derived.Test.YtamfjfnceeagiaaWidP
import Derived.Test.YtamfjfnceeagiaaEWideOnce
namespace Go.Proofs.Ytamfjfnceeagiaa
set_option linter.unusedVariables false
set_option linter.unusedSimpArgs false
open Go.RowKit
set_option maxRecDepth 100000 in
set_option maxHeartbeats 4000000 in
theorem once17_no (a b : WinP) (n : Int) (dd : Bool) (p r c x0 y0 x1 y1 : Int) (h : ¬ rightP x0 y0 x1 y1 ∨ 600 < areaP x0 y0 x1 y1 ∨ 40 < x1 - x0 ∨ 40 < y1 - y0) (w : World) : Calls Try.prog 16 #[wlineV a b n dd p r c x0 y0 x1 y1] w (Ret (.bool true) w) := by
  have R := fun w => rrect_right x0 y0 x1 y1 w
  have A := Lib.hid (fun w => rrect_area x0 y0 x1 y1 w)
  by_cases hr : rightP x0 y0 x1 y1
  · simp only [hr, decide_true] at R
    have h1 := h.resolve_left fun k => k hr
    unfold rightP at hr
    obtain ⟨⟨r0, r1⟩, ⟨r2, r3⟩, ⟨r4, r5⟩, ⟨r6, r7⟩, rx, ry⟩ := hr
    generalize areaP x0 y0 x1 y1 = ar at *
    have HR := Lib.hid R
    clear R h
    by_cases c1 : 600 < ar
    · clear h1
      go_enter Try.func16, Try.ntmps16
      go_wp2_with (first | (go_at_call 35; (with_reducible refine (HR.out _).mono ?_); rintro _ _ ⟨rfl, X_, rfl⟩) | (go_at_call 36; (with_reducible refine (A.out _).mono ?_); rintro _ _ ⟨rfl, X_, rfl⟩) | (go_at_call 43; (with_reducible refine (awake17 _).mono ?_); rintro _ _ ⟨rfl, X_, rfl⟩))
      go_ret
      exact Ret.of' rfl (by (repeat (first | exact Below.refl _ _ | with_reducible refine Below.drew ?_ | with_reducible refine Below.ext ?_ (by first | exact Nat.le_refl _ | (simp; done) | (simp; omega)) _ | with_reducible refine Below.alloc ?_ (by first | exact Nat.le_refl _ | (simp; done) | (simp; omega)) _ | with_reducible refine Below.setCell ?_ (by first | exact Nat.le_refl _ | (simp; done) | (simp; omega)) _)))
    by_cases c2 : 40 < x1 - x0
    · clear h1
      go_enter Try.func16, Try.ntmps16
      go_wp2_with (first | (go_at_call 35; (with_reducible refine (HR.out _).mono ?_); rintro _ _ ⟨rfl, X_, rfl⟩) | (go_at_call 36; (with_reducible refine (A.out _).mono ?_); rintro _ _ ⟨rfl, X_, rfl⟩) | (go_at_call 43; (with_reducible refine (awake17 _).mono ?_); rintro _ _ ⟨rfl, X_, rfl⟩))
      go_ret
      exact Ret.of' rfl (by (repeat (first | exact Below.refl _ _ | with_reducible refine Below.drew ?_ | with_reducible refine Below.ext ?_ (by first | exact Nat.le_refl _ | (simp; done) | (simp; omega)) _ | with_reducible refine Below.alloc ?_ (by first | exact Nat.le_refl _ | (simp; done) | (simp; omega)) _ | with_reducible refine Below.setCell ?_ (by first | exact Nat.le_refl _ | (simp; done) | (simp; omega)) _)))
    have c3 : 40 < y1 - y0 := by omega
    clear h1
    go_enter Try.func16, Try.ntmps16
    go_wp2_with (first | (go_at_call 35; (with_reducible refine (HR.out _).mono ?_); rintro _ _ ⟨rfl, X_, rfl⟩) | (go_at_call 36; (with_reducible refine (A.out _).mono ?_); rintro _ _ ⟨rfl, X_, rfl⟩) | (go_at_call 43; (with_reducible refine (awake17 _).mono ?_); rintro _ _ ⟨rfl, X_, rfl⟩))
    go_ret
    exact Ret.of' rfl (by (repeat (first | exact Below.refl _ _ | with_reducible refine Below.drew ?_ | with_reducible refine Below.ext ?_ (by first | exact Nat.le_refl _ | (simp; done) | (simp; omega)) _ | with_reducible refine Below.alloc ?_ (by first | exact Nat.le_refl _ | (simp; done) | (simp; omega)) _ | with_reducible refine Below.setCell ?_ (by first | exact Nat.le_refl _ | (simp; done) | (simp; omega)) _)))
  · simp only [hr, decide_false] at R
    have HR := Lib.hid R
    clear R hr h
    go_enter Try.func16, Try.ntmps16
    go_wp2_with (first | (go_at_call 35; (with_reducible refine (HR.out _).mono ?_); rintro _ _ ⟨rfl, X_, rfl⟩) | (go_at_call 43; (with_reducible refine (awake17 _).mono ?_); rintro _ _ ⟨rfl, X_, rfl⟩))
    go_ret
    exact Ret.of' rfl (by (repeat (first | exact Below.refl _ _ | with_reducible refine Below.drew ?_ | with_reducible refine Below.ext ?_ (by first | exact Nat.le_refl _ | (simp; done) | (simp; omega)) _ | with_reducible refine Below.alloc ?_ (by first | exact Nat.le_refl _ | (simp; done) | (simp; omega)) _ | with_reducible refine Below.setCell ?_ (by first | exact Nat.le_refl _ | (simp; done) | (simp; omega)) _)))
theorem wdL_some {a b : WinP} {n : Int} {dd : Bool} {p r c x0 y0 x1 y1 : Int} (h : wdL a b n dd p r c x0 y0 x1 y1 ≠ []) (h1 : x1 - x0 ≤ 40) (h2 : y1 - y0 ≤ 40) : (1 ≤ n ∧ n ≤ 64) ∧ (((wdL a b n dd p r c x0 y0 x1 y1).length : Nat) : Int) ≤ max (x1 - x0) (y1 - y0) * n ∧ 0 ≤ max (x1 - x0) (y1 - y0) * n ∧ max (x1 - x0) (y1 - y0) * n ≤ 2560 := by
  unfold wdL at *
  split at h
  · rename_i k
    rw [if_pos k]
    obtain ⟨⟨-, -, ⟨n0, n1⟩, -⟩, hr⟩ := k
    unfold rightP at hr
    have := wdTo_len (a := a) (b := b) (n := n) (dd := dd) (p := p) (r := r) (c := c) (x0 := x0) (y0 := y0) (x1 := x1) (y1 := y1) (by omega) (max (x1 - x0) (y1 - y0)).toNat (by omega) (by omega) (by omega) (by omega)
    have e : (((max (x1 - x0) (y1 - y0)).toNat * n.toNat : Nat) : Int) = max (x1 - x0) (y1 - y0) * n := by rw [Int.natCast_mul, Int.toNat_of_nonneg (by omega), Int.toNat_of_nonneg (by omega)]
    have b1 : max (x1 - x0) (y1 - y0) * n ≤ 40 * 64 := Int.mul_le_mul (by omega) n1 (by omega) (by omega)
    have b0 : 0 ≤ max (x1 - x0) (y1 - y0) * n := Int.mul_nonneg (by omega) (by omega)
    exact ⟨⟨n0, n1⟩, by omega, b0, by omega⟩
  · exact absurd rfl h
theorem wdL_each {a b : WinP} {n : Int} {dd : Bool} {p r c x0 y0 x1 y1 : Int} {f : FrP} (h : f ∈ wdL a b n dd p r c x0 y0 x1 y1) : f.cov = 64 ∧ min a.z b.z ≤ f.z ∧ f.z ≤ max a.z b.z := by
  unfold wdL at h
  split at h
  · obtain ⟨-, s, m, -, -, rfl⟩ := wdTo_mem h
    exact ⟨rfl, mid_mm a.z b.z _ _⟩
  · cases h
theorem wdL_once (a b : WinP) (n : Int) (dd : Bool) (p r c x0 y0 x1 y1 : Int) : (wdL a b n dd p r c x0 y0 x1 y1).Pairwise FrP.off := by
  unfold wdL
  split
  · exact wdTo_once ..
  · exact List.Pairwise.nil
theorem wdL_len (a b : WinP) (n : Int) (dd : Bool) (p r c x0 y0 x1 y1 : Int) (har : areaP x0 y0 x1 y1 ≤ 1048576) : (wdL a b n dd p r c x0 y0 x1 y1).length ≤ 134217728 := by
  unfold wdL
  split
  · rename_i k
    obtain ⟨⟨-, -, ⟨n0, n1⟩, -⟩, hr⟩ := k
    have hs := side_of hr har
    unfold rightP at hr
    have h1 := wdTo_len (a := a) (b := b) (n := n) (dd := dd) (p := p) (r := r) (c := c) (x0 := x0) (y0 := y0) (x1 := x1) (y1 := y1) (by omega) ((x1 - x0).toNat + (y1 - y0).toNat) (by omega) (by omega) (by omega) (by omega)
    have h2 : ((x1 - x0).toNat + (y1 - y0).toNat) * n.toNat ≤ ((x1 - x0).toNat + (y1 - y0).toNat) * 64 := Nat.mul_le_mul_left _ (by omega)
    omega
  · simp
set_option maxRecDepth 100000 in
set_option maxHeartbeats 8000000 in
theorem once17_in (a b : WinP) (n : Int) (dd : Bool) (p r c x0 y0 x1 y1 : Int) (ha : a.wide) (hb : b.wide) (hp : w64 p) (hc : w64 c) (hr : rightP x0 y0 x1 y1) (har : areaP x0 y0 x1 y1 ≤ 600) (hw : x1 - x0 ≤ 40) (hh : y1 - y0 ≤ 40) (w : World) : Calls Try.prog 16 #[wlineV a b n dd p r c x0 y0 x1 y1] w (Ret (.bool true) w) := by
  have R := fun w => rrect_right x0 y0 x1 y1 w
  simp only [hr, decide_true] at R
  have HR := Lib.hid R
  have A := Lib.hid (fun w => rrect_area x0 y0 x1 y1 w)
  have W1 := Lib.hid (fun w => wline_any a b n dd p r c x0 y0 x1 y1 ha hb hp hc (by omega) w)
  have HEa := Lib.hid (fun f (hf : f ∈ wdL a b n dd p r c x0 y0 x1 y1) => wdL_each hf)
  have HOn := Lib.hid (wdL_once a b n dd p r c x0 y0 x1 y1)
  have HSo := Lib.hid (fun h => wdL_some (a := a) (b := b) (n := n) (dd := dd) (p := p) (r := r) (c := c) (x0 := x0) (y0 := y0) (x1 := x1) (y1 := y1) h hw hh)
  have hLn := wdL_len a b n dd p r c x0 y0 x1 y1 (by omega)
  unfold rightP at hr
  obtain ⟨⟨r0, r1⟩, ⟨r2, r3⟩, ⟨r4, r5⟩, ⟨r6, r7⟩, rx, ry⟩ := hr
  generalize wdL a b n dd p r c x0 y0 x1 y1 = L at *
  generalize wdC a b n dd p r c = cc at *
  generalize areaP x0 y0 x1 y1 = ar at *
  clear R ha hb hp hc
  go_enter Try.func16, Try.ntmps16
  go_upto_region 3 with (first | (go_at_call 35; (with_reducible refine (HR.out _).mono ?_); rintro _ _ ⟨rfl, X_, rfl⟩) | (go_at_call 36; (with_reducible refine (A.out _).mono ?_); rintro _ _ ⟨rfl, X_, rfl⟩))
  refine wp_abs (F := fun w1 => Row w1 w.heap.size #[.int .i64 a.x, .int .i64 a.y, .int .i64 a.z, .int .i64 a.c0, .int .i64 a.c1, .int .i64 a.c2, .int .i64 a.c3, .int .i64 b.x, .int .i64 b.y, .int .i64 b.z, .int .i64 b.c0, .int .i64 b.c1, .int .i64 b.c2, .int .i64 b.c3, .int .i64 n, .bool dd, .int .i64 p, .int .i64 r, .int .i64 c, .int .i64 x0, .int .i64 y0, .int .i64 x1, .int .i64 y1] 73 ∧ ∃ X, w1 = w.ext X) ⟨by (repeat (first | assumption | with_reducible refine Row.ext ?_ _ | with_reducible refine row_drew ?_ | (with_reducible refine row_last ?_; first | rfl | (simp; done)) | with_reducible refine Row.alloc ?_ _)), RowKit.Below.toExt (by (repeat (first | exact Below.refl _ _ | with_reducible refine Below.drew ?_ | with_reducible refine Below.ext ?_ (by first | exact Nat.le_refl _ | (simp; done) | (simp; omega)) _ | with_reducible refine Below.alloc ?_ (by first | exact Nat.le_refl _ | (simp; done) | (simp; omega)) _ | with_reducible refine Below.setCell ?_ (by first | exact Nat.le_refl _ | (simp; done) | (simp; omega)) _)))⟩ ?_
  rintro w1 ⟨Rl, hX⟩
  have HX := Lib.hid hX
  have HRl := Lib.hid Rl
  have cl := Rl.cell
  have fl := Rl.frozen
  have ll := Rl.lt
  clear Rl hX
  go_upto_region 4 with (first
    | (go_at_call 44; (with_reducible refine (W1.out _).mono ?_); rintro _ _ ⟨v1, rfl, hv1, ⟨XF, rfl⟩⟩; have HV1 := Lib.hid hv1; obtain ⟨-, av, cap, rfl, -, -⟩ := hv1))
  refine wp_abs (F := fun w2 => Row w2 w.heap.size #[.int .i64 a.x, .int .i64 a.y, .int .i64 a.z, .int .i64 a.c0, .int .i64 a.c1, .int .i64 a.c2, .int .i64 a.c3, .int .i64 b.x, .int .i64 b.y, .int .i64 b.z, .int .i64 b.c0, .int .i64 b.c1, .int .i64 b.c2, .int .i64 b.c3, .int .i64 n, .bool dd, .int .i64 p, .int .i64 r, .int .i64 c, .int .i64 x0, .int .i64 y0, .int .i64 x1, .int .i64 y1] 73 ∧ Recs frK w2 (.slice av L.length cap) L ∧ ∃ X, w2 = w.ext X) ⟨by (repeat (first | with_reducible exact HRl.out | with_reducible refine Row.ext ?_ _ | with_reducible refine row_drew ?_ | with_reducible refine Row.alloc ?_ _)), HV1.out.alloc _, by obtain ⟨X0, hX0⟩ := HX.out; subst hX0; exact RowKit.Below.toExt (by (repeat (first | with_reducible assumption | with_reducible exact Below.refl _ _ | with_reducible refine Below.drew ?_ | with_reducible refine Below.ext ?_ (by first | exact Nat.le_refl _ | omega | (simp; done) | (simp; omega)) _ | with_reducible refine Below.alloc ?_ (by first | exact Nat.le_refl _ | omega | (simp; done) | (simp; omega)) _ | with_reducible refine Below.setCell ?_ (by first | exact Nat.le_refl _ | omega | (simp; done) | (simp; omega)) _)))⟩ ?_
  clear cl fl ll HRl HX HV1 W1
  rintro w2 ⟨Rl, ⟨-, av', cap', hq, -, hcl⟩, hX⟩
  obtain ⟨rfl, rfl⟩ : av = av' ∧ cap = cap' := by simpa using hq
  have HX := Lib.hid hX
  have HCL := Lib.hid hcl
  have cl := Rl.cell
  have fl := Rl.frozen
  have ll := Rl.lt
  have ll' : w.heap.size ≤ w2.heap.size := by omega
  clear Rl hX hq hcl
  go_cut [79] from 54 to 79 (fun t wx => t = .bool false ∧ wx = w2)
  case first =>
    by_cases hL : L = []
    · have z0 : L.length = 0 := by rw [hL]; rfl
      have z1 : decide (0 < L.length) = false := by simp [z0]
      have z2 : decide ((0 : Int) < (L.length : Int)) = false := by simp [z0]
      clear hL
      go_wp2
      go_meet
      exact ⟨rfl, rfl⟩
    · obtain ⟨⟨n0, n1⟩, q0, q1, q2⟩ := HSo.out hL
      have z0 : 0 < L.length := List.length_pos_iff.2 hL
      have z1 : decide (0 < L.length) = true := by simp [z0]
      have z2 : (0 : Int) < (L.length : Int) := by omega
      have z3 : decide (max (x1 - x0) (y1 - y0) * n < (L.length : Int)) = false := by simp; omega
      clear hL
      go_wp2
      go_meet
      exact ⟨rfl, rfl⟩
  case rest =>
    obtain ⟨rfl, rfl⟩ := hcut
    obtain ⟨w2, rfl⟩ : ∃ w2, w2 = wc := ⟨_, rfl⟩
    go_wp2
    go_loopw [5] (fun i wr => ∃ (k : Nat), k ≤ L.length ∧ i = .int .i64 k ∧ ∃ X, wr = w2.ext X)
      (fun i _ => L.length - (intOf i).toNat)
    case atStart => exact ⟨0, by omega, rfl, _, ext_self _⟩
    case round =>
      obtain ⟨k, hk, rfl, X, rfl⟩ := hrel
      by_cases hlt : k < L.length
      · have HKL := Lib.hid (show k + 1 ≤ L.length from hlt)
        obtain ⟨f, hf, hfm⟩ : ∃ f, L[k]? = some f ∧ f ∈ L := ⟨L[k]'hlt, List.getElem?_eq_getElem hlt, List.getElem_mem hlt⟩
        rcases HCL.out with rfl | ⟨lb, lo, rfl, hlb, hcl⟩
        · simp at hlt
        have g0 : w2.cell? ⟨lb, lo + k * 8, none⟩ = some (.int .i64 f.x) := hcl k _ hf 0 _ rfl
        have g1 : w2.cell? ⟨lb, lo + k * 8 + 1, none⟩ = some (.int .i64 f.y) := hcl k _ hf 1 _ rfl
        have g2 : w2.cell? ⟨lb, lo + k * 8 + 2, none⟩ = some (.int .i64 f.z) := hcl k _ hf 2 _ rfl
        have g7 : w2.cell? ⟨lb, lo + k * 8 + 7, none⟩ = some (.int .i64 f.cov) := hcl k _ hf 7 _ rfl
        obtain ⟨v0, v1, v2⟩ := HEa.out f hfm
        have hlb' : lb ≤ w2.heap.size := by omega
        have hki : (k : Int) < L.length := by omega
        have HOf := Lib.hid (fun (j : Nat) (g : FrP) (hg : L[j]? = some g) (hjk : j < k) => (by
          obtain ⟨h1, e1⟩ := List.getElem?_eq_some_iff.1 hg
          obtain ⟨h2, e2⟩ := List.getElem?_eq_some_iff.1 hf
          have := List.pairwise_iff_getElem.1 HOn.out j k h1 h2 hjk
          rw [e1, e2] at this
          exact this : g.off f))
        have HCc := Lib.hid hcl
        rw [v0] at g7
        clear hf hfm hcl v0
        obtain ⟨fx, fy, fz, q1', q2', q3', q4', q5'⟩ := f
        simp only at g0 g1 g2 g7 v1 v2 HOf
        go_wp2
        go_loopw [6] (fun i wr => ∃ (j : Nat), j ≤ k ∧ i = .int .i64 j ∧ ∃ X, wr = w2.ext X)
          (fun i _ => k - (intOf i).toNat)
        case atStart => exact ⟨0, by omega, rfl, _, rfl⟩
        case round =>
          obtain ⟨j, hj, rfl, X, rfl⟩ := hrel
          by_cases hjk : j < k
          · have HJK := Lib.hid (show j + 1 ≤ k from hjk)
            obtain ⟨g, hg⟩ : ∃ g, L[j]? = some g := ⟨_, List.getElem?_eq_getElem (show j < L.length by omega)⟩
            have hof := HOf.out j g hg hjk
            have d0 : w2.cell? ⟨lb, lo + j * 8, none⟩ = some (.int .i64 g.x) := HCc.out j _ hg 0 _ rfl
            have d1 : w2.cell? ⟨lb, lo + j * 8 + 1, none⟩ = some (.int .i64 g.y) := HCc.out j _ hg 1 _ rfl
            have hji : (j : Int) < k := by omega
            have hjl : (j : Int) < L.length := by omega
            obtain ⟨gx, gy, gz, p1', p2', p3', p4', p5'⟩ := g
            unfold FrP.off at hof
            simp only at d0 d1 hof
            clear hg
            by_cases e : fx = gx
            · have z1 : (fx == gx) = true := by simp [e]
              have z2 : (fy == gy) = false := by simp; intro e'; exact hof ⟨e.symm, e'.symm⟩
              clear hof e
              go_wp2
              refine wp_region_ext (by kernel_rfl) (by kernel_rfl) ?_
              repeat (go_big_quiet_step ((fail)))
              refine wpQuiet_nil ?_
              intro _ hw_ext
              obtain ⟨Y, hw_ext⟩ := hw_ext
              subst hw_ext
              go_wp2
              go_roundw
              case rel => exact ⟨j + 1, HJK.out, by go_num, RowKit.Below.toExt (by (repeat (first | with_reducible assumption | with_reducible exact Below.refl _ _ | with_reducible refine Below.drew ?_ | with_reducible refine Below.ext ?_ (by first | exact Nat.le_refl _ | omega | (simp; done) | (simp; omega)) _ | with_reducible refine Below.alloc ?_ (by first | exact Nat.le_refl _ | omega | (simp; done) | (simp; omega)) _ | with_reducible refine Below.setCell ?_ (by first | exact Nat.le_refl _ | omega | (simp; done) | (simp; omega)) _)))⟩
              case measure => have := HJK.out; simp [intOf]; omega
            · have z1 : (fx == gx) = false := by simp [e]
              clear hof e
              go_wp2
              refine wp_region_ext (by kernel_rfl) (by kernel_rfl) ?_
              repeat (go_big_quiet_step ((fail)))
              refine wpQuiet_nil ?_
              intro _ hw_ext
              obtain ⟨Y, hw_ext⟩ := hw_ext
              subst hw_ext
              go_wp2
              go_roundw
              case rel => exact ⟨j + 1, HJK.out, by go_num, RowKit.Below.toExt (by (repeat (first | with_reducible assumption | with_reducible exact Below.refl _ _ | with_reducible refine Below.drew ?_ | with_reducible refine Below.ext ?_ (by first | exact Nat.le_refl _ | omega | (simp; done) | (simp; omega)) _ | with_reducible refine Below.alloc ?_ (by first | exact Nat.le_refl _ | omega | (simp; done) | (simp; omega)) _ | with_reducible refine Below.setCell ?_ (by first | exact Nat.le_refl _ | omega | (simp; done) | (simp; omega)) _)))⟩
              case measure => have := HJK.out; simp [intOf]; omega
          · obtain rfl : j = k := by omega
            have t1 : decide (fz < min a.z b.z) = false := by simp; omega
            have t2 : decide (max a.z b.z < fz) = false := by simp; omega
            go_wp2
            refine wp_region_ext (by kernel_rfl) (by kernel_rfl) ?_
            repeat (go_big_quiet_step ((fail)))
            refine wpQuiet_nil ?_
            intro _ hw_ext
            obtain ⟨Y, hw_ext⟩ := hw_ext
            subst hw_ext
            go_wp2
            go_roundw
            case rel => exact ⟨j + 1, HKL.out, by go_num, RowKit.Below.toExt (by (repeat (first | with_reducible assumption | with_reducible exact Below.refl _ _ | with_reducible refine Below.drew ?_ | with_reducible refine Below.ext ?_ (by first | exact Nat.le_refl _ | omega | (simp; done) | (simp; omega)) _ | with_reducible refine Below.alloc ?_ (by first | exact Nat.le_refl _ | omega | (simp; done) | (simp; omega)) _ | with_reducible refine Below.setCell ?_ (by first | exact Nat.le_refl _ | omega | (simp; done) | (simp; omega)) _)))⟩
            case measure => have := HKL.out; simp [intOf]; omega
      · obtain rfl : k = L.length := by omega
        go_wp2_with (first | (go_at_call 43; (with_reducible refine (awake17 _).mono ?_); rintro _ _ ⟨rfl, X_, rfl⟩))
        go_ret
        obtain ⟨X0, hX0⟩ := HX.out
        subst hX0
        exact Ret.of' rfl (by (repeat (first | with_reducible assumption | with_reducible exact Below.refl _ _ | with_reducible refine Below.drew ?_ | with_reducible refine Below.ext ?_ (by first | exact Nat.le_refl _ | omega | (simp; done) | (simp; omega)) _ | with_reducible refine Below.alloc ?_ (by first | exact Nat.le_refl _ | omega | (simp; done) | (simp; omega)) _ | with_reducible refine Below.setCell ?_ (by first | exact Nat.le_refl _ | omega | (simp; done) | (simp; omega)) _)))
theorem WideOnce_all : WideOnce_stmt := by
  rintro aX aY aZ aC0 aC1 aC2 aC3 bX bY bZ bC0 bC1 bC2 bC3 n dd p r c x0 y0 x1 y1 w ⟨h1, h2, h3, h4, h5, h6, h7, g1, g2, g3, g4, g5, g6, g7, -, e1, e2, e3, -⟩
  by_cases h : ¬ rightP x0 y0 x1 y1 ∨ 600 < areaP x0 y0 x1 y1 ∨ 40 < x1 - x0 ∨ 40 < y1 - y0
  · exact once17_no ⟨aX, aY, aZ, aC0, aC1, aC2, aC3⟩ ⟨bX, bY, bZ, bC0, bC1, bC2, bC3⟩ n dd p r c x0 y0 x1 y1 h w
  · exact once17_in ⟨aX, aY, aZ, aC0, aC1, aC2, aC3⟩ ⟨bX, bY, bZ, bC0, bC1, bC2, bC3⟩ n dd p r c x0 y0 x1 y1 ⟨h1, h2, h3, h4, h5, h6, h7⟩ ⟨g1, g2, g3, g4, g5, g6, g7⟩ e1 e3 (Classical.byContradiction fun k => h (.inl k)) (by omega) (by omega) (by omega) w
theorem WideOnce_holds : Rows.WideOnceSaid := WideOnce_end WideOnce_all
end Go.Proofs.Ytamfjfnceeagiaa
