/- The walks of layer 22: is it a face; the reference's. Conditions: the corners' numbers are of 64 bits. -/
import Derived.Test.YtciooaihobnifaaGreatFacB
namespace Go.Proofs.YtciooaihobnifaaGreat
set_option linter.unusedVariables false
set_option linter.unusedSimpArgs false
open Go.RowKit
theorem dot_right1 (a : WinP) (h : a.wide) (w : World) : Calls Tryz.prog 91 #[a.v, .int .i64 1, .int .i64 0] w (Ret (.bool (decide a.fitsP)) w) := by
  have e : decide (lineP a a 1 0 1 0) = decide a.fitsP := decide_eq_decide.2 ⟨fun q => q.1, fun q => ⟨q, q, by decide, by decide⟩⟩
  have R := Lib.hid (fun w => e ▸ wide_right a a 1 0 1 0 h h (by unfold w64; decide) (by unfold w64; decide) w)
  clear e h
  go_enter Tryz.func91, Tryz.ntmps91
  go_wp2_with (first | (go_at_call 110; (with_reducible refine (R.out _).mono ?_); rintro _ _ ⟨rfl, X_, rfl⟩))
  go_ret
  exact Ret.of' (by first | rfl | simp) (by (repeat (first | exact Below.refl _ _ | with_reducible refine Below.drew ?_ | with_reducible refine Below.ext ?_ (by first | exact Nat.le_refl _ | (simp; done) | (simp; omega)) _ | with_reducible refine Below.alloc ?_ (by first | exact Nat.le_refl _ | (simp; done) | (simp; omega)) _ | with_reducible refine Below.setCell ?_ (by first | exact Nat.le_refl _ | (simp; done) | (simp; omega)) _)))
/-- Is it a face? -/
def mayP (L : List WinP) (B : List Bool) : Prop := 3 ≤ L.length ∧ B.length = L.length ∧ ∀ a ∈ L, a.fitsP
instance (L : List WinP) (B : List Bool) : Decidable (mayP L B) := by unfold mayP; exact inferInstance
abbrev fcV (v ev : Value) (k : LookP) (x0 y0 x1 y1 : Int) : Value := .agg #[v, ev, .int .i64 k.width, .bool k.soft, .bool k.dashed, .int .i64 k.p, .int .i64 k.r, .int .i64 k.c, .int .i64 k.size, .int .i64 k.kind, .int .i64 k.front, .int .i64 k.back, .bool k.ccw, .int .i64 k.cull, .bool k.off, .int .i64 k.factor, .int .i64 k.units, .int .i64 x0, .int .i64 y0, .int .i64 x1, .int .i64 y1]
theorem take_fits {L : List WinP} {j : Nat} {a : WinP} (h : ∀ i f, i < j → L[i]? = some f → f.fitsP) (ha : L[j]? = some a) (hf : a.fitsP) : ∀ i f, i < j + 1 → L[i]? = some f → f.fitsP := fun i f hi hf' => by
  by_cases e : i = j
  · subst e; rw [ha] at hf'; cases hf'; exact hf
  · exact h i f (by omega) hf'
theorem all_fits {L : List WinP} (h : ∀ i f, i < L.length → L[i]? = some f → f.fitsP) : ∀ a ∈ L, a.fitsP := fun a ha => by
  obtain ⟨i, hi, rfl⟩ := List.mem_iff_getElem.1 ha
  exact h i _ hi (List.getElem?_eq_getElem hi)
set_option maxRecDepth 100000 in
set_option maxHeartbeats 4000000 in
theorem face_may (v ev : Value) (L : List WinP) (B : List Bool) (k : LookP) (x0 y0 x1 y1 : Int) (w : World) (hv : Recs wnK w v L) (he : Recs boK w ev B) (hw : ∀ a ∈ L, a.wide) : Calls Tryz.prog 52 #[fcV v ev k x0 y0 x1 y1] w (Ret (.bool (decide (mayP L B))) w) := by
  have HV := Lib.hid hv
  have HW := Lib.hid hw
  obtain ⟨hl, av, cap, rfl, hcap, -⟩ := hv
  obtain ⟨hl2, ev, ecap, rfl, -, -⟩ := he
  clear hw
  by_cases h3 : L.length < 3
  · have h3i : (L.length : Int) < 3 := by omega
    have hf : decide (mayP L B) = false := decide_eq_false fun q => by unfold mayP at q; omega
    rw [hf]
    clear hf
    go_enter Tryz.func52, Tryz.ntmps52
    go_wp2
    go_ret
    exact Ret.of' rfl (by (repeat (first | exact Below.refl _ _ | with_reducible refine Below.drew ?_ | with_reducible refine Below.ext ?_ (by first | exact Nat.le_refl _ | (simp; done) | (simp; omega)) _ | with_reducible refine Below.alloc ?_ (by first | exact Nat.le_refl _ | (simp; done) | (simp; omega)) _ | with_reducible refine Below.setCell ?_ (by first | exact Nat.le_refl _ | (simp; done) | (simp; omega)) _)))
  have h3i : ¬ ((L.length : Int) < 3) := by omega
  by_cases hb : B.length = L.length
  case neg =>
    have hbi : ((B.length : Int) != (L.length : Int)) = true := by simp; omega
    have hf : decide (mayP L B) = false := decide_eq_false fun q => hb q.2.1
    rw [hf]
    clear hf hb
    go_enter Tryz.func52, Tryz.ntmps52
    go_wp2
    go_ret
    exact Ret.of' rfl (by (repeat (first | exact Below.refl _ _ | with_reducible refine Below.drew ?_ | with_reducible refine Below.ext ?_ (by first | exact Nat.le_refl _ | (simp; done) | (simp; omega)) _ | with_reducible refine Below.alloc ?_ (by first | exact Nat.le_refl _ | (simp; done) | (simp; omega)) _ | with_reducible refine Below.setCell ?_ (by first | exact Nat.le_refl _ | (simp; done) | (simp; omega)) _)))
  have hbi : ((B.length : Int) != (L.length : Int)) = false := by simp; omega
  have HB := Lib.hid hb
  clear hb
  obtain ⟨Z, hZ⟩ : ∃ Z, decide (mayP L B) = Z := ⟨_, rfl⟩
  rw [hZ]
  have HZ := Lib.hid hZ
  clear hZ
  obtain ⟨nb, hnb⟩ : ∃ n, B.length = n := ⟨_, rfl⟩
  rw [hnb] at hbi HB hl2 ⊢
  go_enter Tryz.func52, Tryz.ntmps52
  go_upto_region 3 with fail
  refine wp_abs (F := fun w1 => Row w1 w.heap.size #[.slice av L.length cap, .slice ev nb ecap, .int .i64 k.width, .bool k.soft, .bool k.dashed, .int .i64 k.p, .int .i64 k.r, .int .i64 k.c, .int .i64 k.size, .int .i64 k.kind, .int .i64 k.front, .int .i64 k.back, .bool k.ccw, .int .i64 k.cull, .bool k.off, .int .i64 k.factor, .int .i64 k.units, .int .i64 x0, .int .i64 y0, .int .i64 x1, .int .i64 y1] 92 ∧ Recs wnK w1 (.slice av L.length cap) L ∧ ∃ X, w1 = w.ext X) ⟨by (repeat (first | assumption | with_reducible refine Row.ext ?_ _ | with_reducible refine row_drew ?_ | (with_reducible refine row_last ?_; first | rfl | (simp; done)) | with_reducible refine Row.alloc ?_ _)), by first | exact (HV.out.alloc _) | exact ((HV.out.alloc _).drew), RowKit.Below.toExt (by (repeat (first | exact Below.refl _ _ | with_reducible refine Below.drew ?_ | with_reducible refine Below.ext ?_ (by first | exact Nat.le_refl _ | (simp; done) | (simp; omega)) _ | with_reducible refine Below.alloc ?_ (by first | exact Nat.le_refl _ | (simp; done) | (simp; omega)) _ | with_reducible refine Below.setCell ?_ (by first | exact Nat.le_refl _ | (simp; done) | (simp; omega)) _)))⟩ ?_
  rintro w1 ⟨Rl, hv1, hX⟩
  have HX := Lib.hid hX
  have cl := Rl.cell
  have fl := Rl.frozen
  have ll := Rl.lt
  obtain ⟨-, av', cap', hq, -, hcl⟩ := hv1
  obtain ⟨rfl, rfl⟩ : av = av' ∧ cap = cap' := by simpa using hq
  rcases hcl with e | ⟨lb, lo, rfl, hlb, hcl⟩
  · rw [e] at h3; simp at h3
  have HCL := Lib.hid hcl
  clear hq hX hcl Rl
  go_wp2
  go_loopw [21] (fun i wr => ∃ (j : Nat), j ≤ L.length ∧ i = .int .i64 j ∧ Hid (∀ i f, i < j → L[i]? = some f → f.fitsP) ∧ ∃ X, wr = w1.ext X)
    (fun i _ => L.length - (intOf i).toNat)
  case atStart => exact ⟨0, by omega, rfl, Lib.hid (fun i f hi => by omega), _, (ext_none' _).symm⟩
  case round =>
    obtain ⟨j, hj, rfl, hF, X, rfl⟩ := hrel
    by_cases hlt : j < L.length
    · have HJ := Lib.hid (show j + 1 ≤ L.length from hlt)
      have hji : (j : Int) < L.length := by omega
      obtain ⟨a, ha⟩ : ∃ f, L[j]? = some f := ⟨_, List.getElem?_eq_getElem hlt⟩
      have hcl := HCL.out
      have pa0 : w1.cell? ⟨lb, lo + j * 7, none⟩ = some (.int .i64 a.x) := hcl j _ ha 0 _ rfl
      have pa1 : w1.cell? ⟨lb, lo + j * 7 + 1, none⟩ = some (.int .i64 a.y) := hcl j _ ha 1 _ rfl
      have pa2 : w1.cell? ⟨lb, lo + j * 7 + 2, none⟩ = some (.int .i64 a.z) := hcl j _ ha 2 _ rfl
      have pa3 : w1.cell? ⟨lb, lo + j * 7 + 3, none⟩ = some (.int .i64 a.c0) := hcl j _ ha 3 _ rfl
      have pa4 : w1.cell? ⟨lb, lo + j * 7 + 4, none⟩ = some (.int .i64 a.c1) := hcl j _ ha 4 _ rfl
      have pa5 : w1.cell? ⟨lb, lo + j * 7 + 5, none⟩ = some (.int .i64 a.c2) := hcl j _ ha 5 _ rfl
      have pa6 : w1.cell? ⟨lb, lo + j * 7 + 6, none⟩ = some (.int .i64 a.c3) := hcl j _ ha 6 _ rfl
      have D := fun w => dot_right1 a (HW.out a (List.mem_of_getElem? ha)) w
      have HA := Lib.hid ha
      clear hcl ha
      by_cases hf : a.fitsP
      · simp only [hf, decide_true] at D
        have HD := Lib.hid D
        have nxt := Lib.hid (take_fits hF.out HA.out hf)
        clear D hf hF HA
        go_wp2_with (first | (go_at_call 91; (with_reducible refine (HD.out _).mono ?_); rintro _ _ ⟨rfl, X_, rfl⟩))
        go_roundw
        case rel => exact ⟨j + 1, HJ.out, by go_num, nxt, RowKit.Below.toExt (by (repeat (first | with_reducible assumption | with_reducible exact Below.refl _ _ | with_reducible refine Below.drew ?_ | with_reducible refine Below.ext ?_ (by first | exact Nat.le_refl _ | omega | (simp; done) | (simp; omega)) _ | with_reducible refine Below.alloc ?_ (by first | exact Nat.le_refl _ | omega | (simp; done) | (simp; omega)) _ | with_reducible refine Below.setCell ?_ (by first | exact Nat.le_refl _ | omega | (simp; done) | (simp; omega)) _)))⟩
        case measure => have := HJ.out; simp [intOf]; omega
      · simp only [hf, decide_false] at D
        have HD := Lib.hid D
        have hff : decide (mayP L B) = false := decide_eq_false fun q => hf (q.2.2 a (List.mem_of_getElem? HA.out))
        have e := HZ.out
        rw [hff] at e
        subst e
        clear D hf hF HA hff HZ
        go_wp2_with (first | (go_at_call 91; (with_reducible refine (HD.out _).mono ?_); rintro _ _ ⟨rfl, X_, rfl⟩))
        go_ret
        obtain ⟨X0, hX0⟩ := HX.out
        subst hX0
        exact Ret.of' rfl (by (repeat (first | with_reducible assumption | with_reducible exact Below.refl _ _ | with_reducible refine Below.drew ?_ | with_reducible refine Below.ext ?_ (by first | exact Nat.le_refl _ | omega | (simp; done) | (simp; omega)) _ | with_reducible refine Below.alloc ?_ (by first | exact Nat.le_refl _ | omega | (simp; done) | (simp; omega)) _ | with_reducible refine Below.setCell ?_ (by first | exact Nat.le_refl _ | omega | (simp; done) | (simp; omega)) _)))
    · obtain rfl : j = L.length := by omega
      have ht : decide (mayP L B) = true := decide_eq_true ⟨by omega, by rw [hnb]; exact HB.out, all_fits hF.out⟩
      have e := HZ.out
      rw [ht] at e
      subst e
      clear ht HZ
      go_wp2
      go_ret
      obtain ⟨X0, hX0⟩ := HX.out
      subst hX0
      exact Ret.of' rfl (by (repeat (first | with_reducible assumption | with_reducible exact Below.refl _ _ | with_reducible refine Below.drew ?_ | with_reducible refine Below.ext ?_ (by first | exact Nat.le_refl _ | omega | (simp; done) | (simp; omega)) _ | with_reducible refine Below.alloc ?_ (by first | exact Nat.le_refl _ | omega | (simp; done) | (simp; omega)) _ | with_reducible refine Below.setCell ?_ (by first | exact Nat.le_refl _ | omega | (simp; done) | (simp; omega)) _)))
set_option maxRecDepth 100000 in
set_option maxHeartbeats 4000000 in
theorem rface_may (v ev : Value) (L : List WinP) (B : List Bool) (w : World) (hv : Recs wnK w v L) (he : Recs boK w ev B) : Calls Tryz.prog 22 #[v, ev] w (Ret (.bool (decide (mayP L B))) w) := by
  have HV := Lib.hid hv
  obtain ⟨hl, av, cap, rfl, hcap, hcl⟩ := hv
  obtain ⟨hl2, ev, ecap, rfl, -, -⟩ := he
  have HCL := Lib.hid hcl
  obtain ⟨Z, hZ⟩ : ∃ Z, decide (mayP L B) = Z := ⟨_, rfl⟩
  rw [hZ]
  have HZ := Lib.hid hZ
  clear hZ
  obtain ⟨nb, hnb⟩ : ∃ n, B.length = n := ⟨_, rfl⟩
  rw [hnb] at hl2 ⊢
  have HNB := Lib.hid hnb
  clear hcl hnb
  go_enter Tryz.func22, Tryz.ntmps22
  go_wp2
  go_loopw [5] (fun i wr => ∃ (j : Nat), j ≤ L.length ∧ i = .int .i64 j ∧ Hid (∀ i f, i < j → L[i]? = some f → f.fitsP) ∧ ∃ X, wr = w.ext X)
    (fun i _ => L.length - (intOf i).toNat)
  case atStart => exact ⟨0, by omega, rfl, Lib.hid (fun i f hi => by omega), _, (ext_none' _).symm⟩
  case round =>
    obtain ⟨j, hj, rfl, hF, X, rfl⟩ := hrel
    by_cases hlt : j < L.length
    · have HJ := Lib.hid (show j + 1 ≤ L.length from hlt)
      have hji : (j : Int) < L.length := by omega
      obtain ⟨a, ha⟩ : ∃ f, L[j]? = some f := ⟨_, List.getElem?_eq_getElem hlt⟩
      rcases HCL.out with e | ⟨lb, lo, rfl, hlb, hcl⟩
      · rw [e] at hlt; simp at hlt
      have pa0 : w.cell? ⟨lb, lo + j * 7, none⟩ = some (.int .i64 a.x) := hcl j _ ha 0 _ rfl
      have pa1 : w.cell? ⟨lb, lo + j * 7 + 1, none⟩ = some (.int .i64 a.y) := hcl j _ ha 1 _ rfl
      have pa2 : w.cell? ⟨lb, lo + j * 7 + 2, none⟩ = some (.int .i64 a.z) := hcl j _ ha 2 _ rfl
      have pa3 : w.cell? ⟨lb, lo + j * 7 + 3, none⟩ = some (.int .i64 a.c0) := hcl j _ ha 3 _ rfl
      have pa4 : w.cell? ⟨lb, lo + j * 7 + 4, none⟩ = some (.int .i64 a.c1) := hcl j _ ha 4 _ rfl
      have pa5 : w.cell? ⟨lb, lo + j * 7 + 5, none⟩ = some (.int .i64 a.c2) := hcl j _ ha 5 _ rfl
      have pa6 : w.cell? ⟨lb, lo + j * 7 + 6, none⟩ = some (.int .i64 a.c3) := hcl j _ ha 6 _ rfl
      have D := fun w => rmay17_any a w
      have HA := Lib.hid ha
      clear hcl ha HCL
      by_cases hf : a.fitsP
      · simp only [hf, decide_true] at D
        have HD := Lib.hid D
        have nxt := Lib.hid (take_fits hF.out HA.out hf)
        clear D hf hF HA
        go_wp2_with (first | (go_at_call 64; (with_reducible refine (HD.out _).mono ?_); rintro _ _ ⟨rfl, X_, rfl⟩))
        go_roundw
        case rel => exact ⟨j + 1, HJ.out, by go_num, nxt, RowKit.Below.toExt (by (repeat (first | with_reducible assumption | with_reducible exact Below.refl _ _ | with_reducible refine Below.drew ?_ | with_reducible refine Below.ext ?_ (by first | exact Nat.le_refl _ | omega | (simp; done) | (simp; omega)) _ | with_reducible refine Below.alloc ?_ (by first | exact Nat.le_refl _ | omega | (simp; done) | (simp; omega)) _ | with_reducible refine Below.setCell ?_ (by first | exact Nat.le_refl _ | omega | (simp; done) | (simp; omega)) _)))⟩
        case measure => have := HJ.out; simp [intOf]; omega
      · simp only [hf, decide_false] at D
        have HD := Lib.hid D
        have hff : decide (mayP L B) = false := decide_eq_false fun q => hf (q.2.2 a (List.mem_of_getElem? HA.out))
        have e := HZ.out
        rw [hff] at e
        subst e
        clear D hf hF HA hff HZ
        go_wp2_with (first | (go_at_call 64; (with_reducible refine (HD.out _).mono ?_); rintro _ _ ⟨rfl, X_, rfl⟩))
        go_ret
        exact Ret.of' rfl (by (repeat (first | with_reducible assumption | with_reducible exact Below.refl _ _ | with_reducible refine Below.drew ?_ | with_reducible refine Below.ext ?_ (by first | exact Nat.le_refl _ | omega | (simp; done) | (simp; omega)) _ | with_reducible refine Below.alloc ?_ (by first | exact Nat.le_refl _ | omega | (simp; done) | (simp; omega)) _ | with_reducible refine Below.setCell ?_ (by first | exact Nat.le_refl _ | omega | (simp; done) | (simp; omega)) _)))
    · obtain rfl : j = L.length := by omega
      by_cases h3 : L.length < 3
      · have hff : decide (mayP L B) = false := decide_eq_false fun q => by unfold mayP at q; omega
        have h3i : ¬ ((3 : Int) ≤ L.length) := by omega
        have e := HZ.out
        rw [hff] at e
        subst e
        clear hff HZ
        go_wp2
        go_ret
        exact Ret.of' rfl (by (repeat (first | with_reducible assumption | with_reducible exact Below.refl _ _ | with_reducible refine Below.drew ?_ | with_reducible refine Below.ext ?_ (by first | exact Nat.le_refl _ | omega | (simp; done) | (simp; omega)) _ | with_reducible refine Below.alloc ?_ (by first | exact Nat.le_refl _ | omega | (simp; done) | (simp; omega)) _ | with_reducible refine Below.setCell ?_ (by first | exact Nat.le_refl _ | omega | (simp; done) | (simp; omega)) _)))
      · have h3i : (3 : Int) ≤ L.length := by omega
        by_cases hb : nb = L.length
        · have ht : decide (mayP L B) = true := decide_eq_true ⟨by omega, by rw [HNB.out]; exact hb, all_fits hF.out⟩
          have hbi : ((nb : Int) == (L.length : Int)) = true := by simp; omega
          have e := HZ.out
          rw [ht] at e
          subst e
          clear ht hb HZ
          go_wp2
          go_ret
          exact Ret.of' (by first | rfl | simp) (by (repeat (first | with_reducible assumption | with_reducible exact Below.refl _ _ | with_reducible refine Below.drew ?_ | with_reducible refine Below.ext ?_ (by first | exact Nat.le_refl _ | omega | (simp; done) | (simp; omega)) _ | with_reducible refine Below.alloc ?_ (by first | exact Nat.le_refl _ | omega | (simp; done) | (simp; omega)) _ | with_reducible refine Below.setCell ?_ (by first | exact Nat.le_refl _ | omega | (simp; done) | (simp; omega)) _)))
        · have ht : decide (mayP L B) = false := decide_eq_false fun q => hb (by rw [← HNB.out]; exact q.2.1)
          have hbi : ((nb : Int) == (L.length : Int)) = false := by simp; omega
          have e := HZ.out
          rw [ht] at e
          subst e
          clear ht hb HZ
          go_wp2
          go_ret
          exact Ret.of' (by first | rfl | simp) (by (repeat (first | with_reducible assumption | with_reducible exact Below.refl _ _ | with_reducible refine Below.drew ?_ | with_reducible refine Below.ext ?_ (by first | exact Nat.le_refl _ | omega | (simp; done) | (simp; omega)) _ | with_reducible refine Below.alloc ?_ (by first | exact Nat.le_refl _ | omega | (simp; done) | (simp; omega)) _ | with_reducible refine Below.setCell ?_ (by first | exact Nat.le_refl _ | omega | (simp; done) | (simp; omega)) _)))
end Go.Proofs.YtciooaihobnifaaGreat
