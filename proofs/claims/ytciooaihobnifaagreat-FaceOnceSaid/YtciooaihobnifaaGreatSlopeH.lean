/- The walk of the reference of layer 21: three products together, divided, rounded down. Conditions: 64 bits; small numbers. -/
import Derived.Test.YtciooaihobnifaaGreatPSlopeB
import Derived.Test.YtciooaihobnifaaGreatSumR
namespace Go.Proofs.YtciooaihobnifaaGreat
set_option linter.unusedVariables false
set_option linter.unusedSimpArgs false
open Go.RowKit
attribute [local go_sem ↓] Go.wp_at_zero Go.wp_at_succ
theorem rounds_abs {b : Code} {Q : Exit → Act → World → Prop} {n : Nat} {a : Act} {w : World} (F : World → Prop) (hF : F w) (h : ∀ wx, F wx → Code.rounds Tryz.prog b Q n a wx) : Code.rounds Tryz.prog b Q n a w := h _ hF
/-- A number put into a place for one. -/
theorem num_put {w : World} {b n : Nat} {z : Int} {m m' : Bool} {s' : Value} {a : Option Addr} {l c : Nat} (hr : Row w b #[.bool m, s'] 111) (hs : isSl s') (h : RN w (.agg #[.bool m', .slice a l c]) z n) :
    Row ((w.setCell ⟨b, 0, none⟩ (.bool m')).setCell ⟨b, 1, none⟩ (.slice a l c)) b #[.bool m', .slice a l c] 111 ∧ RN ((w.setCell ⟨b, 0, none⟩ (.bool m')).setCell ⟨b, 1, none⟩ (.slice a l c)) (.agg #[.bool m', .slice a l c]) z n := by
  have C : Chg (fun j => j = b) w ((w.setCell ⟨b, 0, none⟩ (.bool m')).setCell ⟨b, 1, none⟩ (.slice a l c)) := chg_two
  refine ⟨?_, h.chgs C (fun p e => by subst e; exact ⟨m, s', hr, hs⟩)⟩
  have := (hr.set 0 (.bool m')).set 1 (.slice a l c)
  simpa using this
/-- What the reference's sum has in memory. -/
def SumAt (w : World) (u v t p q r z : Int) (n : Nat) (w1 : World) : Prop :=
  ∃ m a l c, Row w1 w.heap.size #[.int .i64 u, .int .i64 v, .int .i64 t] 184 ∧ Row w1 (w.heap.size + 1) #[.int .i64 p, .int .i64 q, .int .i64 r] 184 ∧ Row w1 (w.heap.size + 1 + 1) #[.bool m, .slice a l c] 111 ∧ RN w1 (.agg #[.bool m, .slice a l c]) z n ∧ ∃ X, w1 = w.ext X
theorem isSl_mk {a : Option Addr} {l c : Nat} : isSl (.slice a l c) := ⟨_, _, _, rfl⟩
set_option maxRecDepth 100000 in
set_option maxHeartbeats 8000000 in
theorem rsum21_any (u v t p q r d : Int) (hu : sml u) (hv : sml v) (ht : sml t) (hp : sml25 p) (hq : sml25 q) (hr : sml25 r) (d1 : 1 ≤ d) (hd : sml d) (w : World) :
    Calls Tryz.prog 167 #[A3 u v t, A3 p q r, .int .i64 d] w (Ret (.int .i64 (smlV (dot3 u v t p q r / d))) w) := by
  have db := dot3_88 hu hv ht hp hq hr
  have M1 := Lib.hid (fun w => rmul_any u p hu (by unfold sml25 at hp; unfold sml; omega) w)
  have M2 := Lib.hid (fun w => rmul_any v q hv (by unfold sml25 at hq; unfold sml; omega) w)
  have M3 := Lib.hid (fun w => rmul_any t r ht (by unfold sml25 at hr; unfold sml; omega) w)
  have F1 := Lib.hid (fun w => from_any (u * p) (mul_in hu (by unfold sml25 at hp; unfold sml; omega)) w)
  have F2 := Lib.hid (fun w => from_any (v * q) (mul_in hv (by unfold sml25 at hq; unfold sml; omega)) w)
  have F3 := Lib.hid (fun w => from_any (t * r) (mul_in ht (by unfold sml25 at hr; unfold sml; omega)) w)
  have O := Lib.hid (fun w => rof_any d hd w)
  have F4 := Lib.hid (fun w => from_any d (sml_in hd) w)
  unfold dot3 at db ⊢
  generalize u * p = x1 at *
  generalize v * q = x2 at *
  generalize t * r = x3 at *
  have ib : inR ((x1 + x2 + x3) / d) := div_in (by unfold inR; omega) d1
  have TO := Lib.hid (fun v (k : Nat) w h => to_any v ((x1 + x2 + x3) / d) k w h)
  rw [i2b_yes ib] at TO
  have SM := Lib.hid (fun w => rsmall_any ((x1 + x2 + x3) / d) ib w)
  have FL := Lib.hid (fun v u (j k : Nat) w h1 h2 h3 => floor_any v u (x1 + x2 + x3) d j k w h1 h2 d1 h3)
  generalize (x1 + x2 + x3) / d = Z at *
  clear db ib hu hv ht hp hq hr
  go_enter Tryz.func167, Tryz.ntmps167
  go_wp2
  refine wp_abs (F := SumAt w u v t p q r 0 0) ⟨_, _, _, _, by (repeat (first | assumption | with_reducible refine Row.ext ?_ _ | with_reducible refine row_drew ?_ | (with_reducible refine row_last ?_; first | rfl | (simp; done)) | with_reducible refine Row.alloc ?_ _)), by (repeat (first | assumption | with_reducible refine Row.ext ?_ _ | with_reducible refine row_drew ?_ | (with_reducible refine row_last ?_; first | rfl | (simp; done)) | with_reducible refine Row.alloc ?_ _)), by (repeat (first | assumption | with_reducible refine Row.ext ?_ _ | with_reducible refine row_drew ?_ | (with_reducible refine row_last ?_; first | rfl | (simp; done)) | with_reducible refine Row.alloc ?_ _)), rn_zero, RowKit.Below.toExt (by (repeat (first | exact Below.refl _ _ | with_reducible refine Below.drew ?_ | with_reducible refine Below.ext ?_ (by first | exact Nat.le_refl _ | (simp; done) | (simp; omega)) _ | with_reducible refine Below.alloc ?_ (by first | exact Nat.le_refl _ | (simp; done) | (simp; omega)) _ | with_reducible refine Below.setCell ?_ (by first | exact Nat.le_refl _ | (simp; done) | (simp; omega)) _)))⟩ ?_
  refine fun w1 S1 => ?_
  have HS := Lib.hid S1
  clear S1
  refine wp_loop_rounds 4 ?_
  obtain ⟨m0, a0, l0, c0, r1, r2, r3, hN, hX⟩ := HS.out
  clear HS
  have HR := Lib.hid r3
  have HR1 := Lib.hid r1
  have HR2 := Lib.hid r2
  have HX := Lib.hid hX
  have HN := Lib.hid hN
  have e1 := r1.cell
  have f1 := r1.frozen
  have k1 := r1.lt
  have e2 := r2.cell
  have f2 := r2.frozen
  have k2 := r2.lt
  have e3 := r3.cell
  have f3 := r3.frozen
  have k3 := r3.lt
  clear r1 r2 r3 hX hN
  rw [rounds_succ]; go_wp2
  refine wp_region_rel 10 [none, none, none, none, none, none, none, some ([], srV (I2 x1)), some ([7], srN (x1) 129), some ([8], srN (0 + x1) 130)] (by kernel_rfl) (by kernel_rfl) ?_
  simp only [List.take_succ_cons, List.take_zero, List.drop_succ_cons, List.drop_zero]
  (repeat (first | (refine rel_none ?_; intro K_ hK_; go_big_quiet_op; go_big_quiet_on) | simp only [Act.put, List.setIfInBounds_toArray, List.set_cons_zero, List.set_cons_succ]))
  refine rel_some rfl (fun w_ hw_ hk_ K_ hK_ => ?_) (fun v7 f7 => ?_)
  · obtain ⟨X_, rfl⟩ := hw_
    go_simp
    go_at_call 97
    refine (M1.out _).mono ?_
    rintro _ _ ⟨rfl, hX⟩
    exact hK_ _ _ rfl hX
  obtain rfl := f7
  (repeat (first | (refine rel_none ?_; intro K_ hK_; go_big_quiet_op; go_big_quiet_on) | simp only [Act.put, List.setIfInBounds_toArray, List.set_cons_zero, List.set_cons_succ]))
  refine rel_some rfl (fun w_ hw_ hk_ K_ hK_ => ?_) (fun v8 f8 => ?_)
  · obtain ⟨X_, rfl⟩ := hw_
    go_simp
    go_at_call 70
    refine (F1.out _).mono ?_
    rintro _ _ ⟨v, rfl, h1, h2⟩
    exact hK_ _ _ h1 h2
  obtain ⟨m8, a8, l8, c8, rfl⟩ := f8
  (repeat (first | (refine rel_none ?_; intro K_ hK_; go_big_quiet_op; go_big_quiet_on) | simp only [Act.put, List.setIfInBounds_toArray, List.set_cons_zero, List.set_cons_succ]))
  refine rel_some rfl (fun w_ hw_ hk_ K_ hK_ => ?_) (fun v9 f9 => ?_)
  · obtain ⟨X_, rfl⟩ := hw_
    have h8 := (hk_ (8, _) (by repeat (first | exact List.mem_cons_self | refine List.mem_cons_of_mem _ ?_))) (by simp)
    go_simp
    go_at_call 69
    refine (sum_any _ _ (0) x1 0 129 _ (by first | exact HN.out.ext _ | exact HN.out.drew.ext _) h8 (by decide) (by decide)).mono ?_
    rintro _ _ ⟨v, rfl, h1, h2⟩
    exact hK_ _ _ h1 h2
  obtain ⟨m9, a9, l9, c9, rfl⟩ := f9
  (repeat (first | (refine rel_none ?_; intro K_ hK_; go_big_quiet_op; go_big_quiet_on) | simp only [Act.put, List.setIfInBounds_toArray, List.set_cons_zero, List.set_cons_succ]))
  refine rel_nil ?_
  intro w_ hw_ kk
  obtain ⟨X, rfl⟩ := hw_
  have h9 := (kk (9, _) (by repeat (first | exact List.mem_cons_self | refine List.mem_cons_of_mem _ ?_)))
  have H9 := Lib.hid h9
  clear h9 kk
  go_wp2
  refine rounds_abs (F := SumAt w u v t p q r (0 + x1) 130) ?_ ?_
  · have P := num_put (HR.out.ext X) isSl_mk H9.out
    rw [World.setCell_ext k3, World.setCell_ext (by simpa [World.setCell] using k3)] at P
    refine ⟨_, _, _, _, ((HR1.out.other (by omega) 0 _).other (by omega) 1 _).ext X, ((HR2.out.other (by omega) 0 _).other (by omega) 1 _).ext X, P.1, P.2, ?_⟩
    obtain ⟨X0, hX0⟩ := HX.out
    subst hX0
    exact RowKit.Below.toExt (by (repeat (first | with_reducible assumption | with_reducible exact Below.refl _ _ | with_reducible refine Below.drew ?_ | with_reducible refine Below.ext ?_ (by first | exact Nat.le_refl _ | omega | (simp; done) | (simp; omega)) _ | with_reducible refine Below.alloc ?_ (by first | exact Nat.le_refl _ | omega | (simp; done) | (simp; omega)) _ | with_reducible refine Below.setCell ?_ (by first | exact Nat.le_refl _ | omega | (simp; done) | (simp; omega)) _)))
  clear HR HR1 HR2 HX HN e1 f1 k1 e2 f2 k2 e3 f3 k3 H9
  refine fun w1 S1 => ?_
  have HS := Lib.hid S1
  clear S1
  obtain ⟨m0, a0, l0, c0, r1, r2, r3, hN, hX⟩ := HS.out
  clear HS
  have HR := Lib.hid r3
  have HR1 := Lib.hid r1
  have HR2 := Lib.hid r2
  have HX := Lib.hid hX
  have HN := Lib.hid hN
  have e1 := r1.cell
  have f1 := r1.frozen
  have k1 := r1.lt
  have e2 := r2.cell
  have f2 := r2.frozen
  have k2 := r2.lt
  have e3 := r3.cell
  have f3 := r3.frozen
  have k3 := r3.lt
  clear r1 r2 r3 hX hN
  rw [rounds_succ]; go_wp2
  refine wp_region_rel 10 [none, none, none, none, none, none, none, some ([], srV (I2 x2)), some ([7], srN (x2) 129), some ([8], srN (0 + x1 + x2) 131)] (by kernel_rfl) (by kernel_rfl) ?_
  simp only [List.take_succ_cons, List.take_zero, List.drop_succ_cons, List.drop_zero]
  (repeat (first | (refine rel_none ?_; intro K_ hK_; go_big_quiet_op; go_big_quiet_on) | simp only [Act.put, List.setIfInBounds_toArray, List.set_cons_zero, List.set_cons_succ]))
  refine rel_some rfl (fun w_ hw_ hk_ K_ hK_ => ?_) (fun v7 f7 => ?_)
  · obtain ⟨X_, rfl⟩ := hw_
    go_simp
    go_at_call 97
    refine (M2.out _).mono ?_
    rintro _ _ ⟨rfl, hX⟩
    exact hK_ _ _ rfl hX
  obtain rfl := f7
  (repeat (first | (refine rel_none ?_; intro K_ hK_; go_big_quiet_op; go_big_quiet_on) | simp only [Act.put, List.setIfInBounds_toArray, List.set_cons_zero, List.set_cons_succ]))
  refine rel_some rfl (fun w_ hw_ hk_ K_ hK_ => ?_) (fun v8 f8 => ?_)
  · obtain ⟨X_, rfl⟩ := hw_
    go_simp
    go_at_call 70
    refine (F2.out _).mono ?_
    rintro _ _ ⟨v, rfl, h1, h2⟩
    exact hK_ _ _ h1 h2
  obtain ⟨m8, a8, l8, c8, rfl⟩ := f8
  (repeat (first | (refine rel_none ?_; intro K_ hK_; go_big_quiet_op; go_big_quiet_on) | simp only [Act.put, List.setIfInBounds_toArray, List.set_cons_zero, List.set_cons_succ]))
  refine rel_some rfl (fun w_ hw_ hk_ K_ hK_ => ?_) (fun v9 f9 => ?_)
  · obtain ⟨X_, rfl⟩ := hw_
    have h8 := (hk_ (8, _) (by repeat (first | exact List.mem_cons_self | refine List.mem_cons_of_mem _ ?_))) (by simp)
    go_simp
    go_at_call 69
    refine (sum_any _ _ (0 + x1) x2 130 129 _ (by first | exact HN.out.ext _ | exact HN.out.drew.ext _) h8 (by decide) (by decide)).mono ?_
    rintro _ _ ⟨v, rfl, h1, h2⟩
    exact hK_ _ _ h1 h2
  obtain ⟨m9, a9, l9, c9, rfl⟩ := f9
  (repeat (first | (refine rel_none ?_; intro K_ hK_; go_big_quiet_op; go_big_quiet_on) | simp only [Act.put, List.setIfInBounds_toArray, List.set_cons_zero, List.set_cons_succ]))
  refine rel_nil ?_
  intro w_ hw_ kk
  obtain ⟨X, rfl⟩ := hw_
  have h9 := (kk (9, _) (by repeat (first | exact List.mem_cons_self | refine List.mem_cons_of_mem _ ?_)))
  have H9 := Lib.hid h9
  clear h9 kk
  go_wp2
  refine rounds_abs (F := SumAt w u v t p q r (0 + x1 + x2) 131) ?_ ?_
  · have P := num_put (HR.out.ext X) isSl_mk H9.out
    rw [World.setCell_ext k3, World.setCell_ext (by simpa [World.setCell] using k3)] at P
    refine ⟨_, _, _, _, ((HR1.out.other (by omega) 0 _).other (by omega) 1 _).ext X, ((HR2.out.other (by omega) 0 _).other (by omega) 1 _).ext X, P.1, P.2, ?_⟩
    obtain ⟨X0, hX0⟩ := HX.out
    subst hX0
    exact RowKit.Below.toExt (by (repeat (first | with_reducible assumption | with_reducible exact Below.refl _ _ | with_reducible refine Below.drew ?_ | with_reducible refine Below.ext ?_ (by first | exact Nat.le_refl _ | omega | (simp; done) | (simp; omega)) _ | with_reducible refine Below.alloc ?_ (by first | exact Nat.le_refl _ | omega | (simp; done) | (simp; omega)) _ | with_reducible refine Below.setCell ?_ (by first | exact Nat.le_refl _ | omega | (simp; done) | (simp; omega)) _)))
  clear HR HR1 HR2 HX HN e1 f1 k1 e2 f2 k2 e3 f3 k3 H9
  refine fun w1 S1 => ?_
  have HS := Lib.hid S1
  clear S1
  obtain ⟨m0, a0, l0, c0, r1, r2, r3, hN, hX⟩ := HS.out
  clear HS
  have HR := Lib.hid r3
  have HR1 := Lib.hid r1
  have HR2 := Lib.hid r2
  have HX := Lib.hid hX
  have HN := Lib.hid hN
  have e1 := r1.cell
  have f1 := r1.frozen
  have k1 := r1.lt
  have e2 := r2.cell
  have f2 := r2.frozen
  have k2 := r2.lt
  have e3 := r3.cell
  have f3 := r3.frozen
  have k3 := r3.lt
  clear r1 r2 r3 hX hN
  rw [rounds_succ]; go_wp2
  refine wp_region_rel 10 [none, none, none, none, none, none, none, some ([], srV (I2 x3)), some ([7], srN (x3) 129), some ([8], srN (0 + x1 + x2 + x3) 132)] (by kernel_rfl) (by kernel_rfl) ?_
  simp only [List.take_succ_cons, List.take_zero, List.drop_succ_cons, List.drop_zero]
  (repeat (first | (refine rel_none ?_; intro K_ hK_; go_big_quiet_op; go_big_quiet_on) | simp only [Act.put, List.setIfInBounds_toArray, List.set_cons_zero, List.set_cons_succ]))
  refine rel_some rfl (fun w_ hw_ hk_ K_ hK_ => ?_) (fun v7 f7 => ?_)
  · obtain ⟨X_, rfl⟩ := hw_
    go_simp
    go_at_call 97
    refine (M3.out _).mono ?_
    rintro _ _ ⟨rfl, hX⟩
    exact hK_ _ _ rfl hX
  obtain rfl := f7
  (repeat (first | (refine rel_none ?_; intro K_ hK_; go_big_quiet_op; go_big_quiet_on) | simp only [Act.put, List.setIfInBounds_toArray, List.set_cons_zero, List.set_cons_succ]))
  refine rel_some rfl (fun w_ hw_ hk_ K_ hK_ => ?_) (fun v8 f8 => ?_)
  · obtain ⟨X_, rfl⟩ := hw_
    go_simp
    go_at_call 70
    refine (F3.out _).mono ?_
    rintro _ _ ⟨v, rfl, h1, h2⟩
    exact hK_ _ _ h1 h2
  obtain ⟨m8, a8, l8, c8, rfl⟩ := f8
  (repeat (first | (refine rel_none ?_; intro K_ hK_; go_big_quiet_op; go_big_quiet_on) | simp only [Act.put, List.setIfInBounds_toArray, List.set_cons_zero, List.set_cons_succ]))
  refine rel_some rfl (fun w_ hw_ hk_ K_ hK_ => ?_) (fun v9 f9 => ?_)
  · obtain ⟨X_, rfl⟩ := hw_
    have h8 := (hk_ (8, _) (by repeat (first | exact List.mem_cons_self | refine List.mem_cons_of_mem _ ?_))) (by simp)
    go_simp
    go_at_call 69
    refine (sum_any _ _ (0 + x1 + x2) x3 131 129 _ (by first | exact HN.out.ext _ | exact HN.out.drew.ext _) h8 (by decide) (by decide)).mono ?_
    rintro _ _ ⟨v, rfl, h1, h2⟩
    exact hK_ _ _ h1 h2
  obtain ⟨m9, a9, l9, c9, rfl⟩ := f9
  (repeat (first | (refine rel_none ?_; intro K_ hK_; go_big_quiet_op; go_big_quiet_on) | simp only [Act.put, List.setIfInBounds_toArray, List.set_cons_zero, List.set_cons_succ]))
  refine rel_nil ?_
  intro w_ hw_ kk
  obtain ⟨X, rfl⟩ := hw_
  have h9 := (kk (9, _) (by repeat (first | exact List.mem_cons_self | refine List.mem_cons_of_mem _ ?_)))
  have H9 := Lib.hid h9
  clear h9 kk
  go_wp2
  refine rounds_abs (F := SumAt w u v t p q r (0 + x1 + x2 + x3) 132) ?_ ?_
  · have P := num_put (HR.out.ext X) isSl_mk H9.out
    rw [World.setCell_ext k3, World.setCell_ext (by simpa [World.setCell] using k3)] at P
    refine ⟨_, _, _, _, ((HR1.out.other (by omega) 0 _).other (by omega) 1 _).ext X, ((HR2.out.other (by omega) 0 _).other (by omega) 1 _).ext X, P.1, P.2, ?_⟩
    obtain ⟨X0, hX0⟩ := HX.out
    subst hX0
    exact RowKit.Below.toExt (by (repeat (first | with_reducible assumption | with_reducible exact Below.refl _ _ | with_reducible refine Below.drew ?_ | with_reducible refine Below.ext ?_ (by first | exact Nat.le_refl _ | omega | (simp; done) | (simp; omega)) _ | with_reducible refine Below.alloc ?_ (by first | exact Nat.le_refl _ | omega | (simp; done) | (simp; omega)) _ | with_reducible refine Below.setCell ?_ (by first | exact Nat.le_refl _ | omega | (simp; done) | (simp; omega)) _)))
  clear HR HR1 HR2 HX HN e1 f1 k1 e2 f2 k2 e3 f3 k3 H9
  refine fun w1 S1 => ?_
  have HS := Lib.hid S1
  clear S1
  obtain ⟨m0, a0, l0, c0, r1, r2, r3, hN, hX⟩ := HS.out
  simp only [Int.zero_add] at hN
  clear HS r1 r2
  have HR := Lib.hid r3
  have HX := Lib.hid hX
  have HN := Lib.hid hN
  have e3 := r3.cell
  have f3 := r3.frozen
  have k3 := r3.lt
  clear r3 hX hN
  rw [rounds_succ]; go_wp2
  refine sum_region (.agg #[.bool m0, .slice a0 l0 c0]) d Z ((x1 + x2 + x3) % d) 134 133 (by kernel_rfl) (by kernel_rfl) (by kernel_rfl) (by kernel_rfl) ?_ ?_
  · intro i o ho val dn a' w' F S hd hw hcl hlt'
    rcases i with _ | _ | _ | _ | _ | _ | _ | _ | _ | _ | _ | _ | i
    · simp at ho
      have hp : a'.eval (.tmp 7) = .pointer (some ⟨w.heap.size + 1 + 1, 0, none⟩) := F.evalo (by decide)
      obtain ⟨X0, hX0⟩ := S.ext
      have hrow : Row w' (w.heap.size + 1 + 1) #[.bool m0, .slice a0 l0 c0] 111 := by rw [hX0]; exact HR.out.ext X0
      subst ho
      refine wp_load_row 111 (.tmp 7) rfl (w.heap.size + 1 + 1) hp 111 _ (0, 0) _ hrow Tryz.underlying111 rfl (by kernel_rfl) ?_
      exact ⟨_, F.put sgS_inj hlt' 0 (by decide) _, S.more 0 (by decide) _ hd (fun _ => rfl) (fun h => nomatch h) (fun h => nomatch h) (fun h => nomatch h) (fun h => nomatch h) (fun h => nomatch h) (fun h => nomatch h) (fun h => nomatch h)⟩
    · simp at ho
      have hp : a'.eval (.tmp 2) = .int .i64 d := F.evalo (by decide)
      have ex : (execOp a'.eval o).run Tryz.prog w' = .ok (.value (.int .i64 d)) w' := by subst ho; simp only [execOp, hp]; rfl
      have hdst : o.dst = some (sgS 1) := by subst ho; rfl
      unfold Oper.wp
      rw [ex, Oper.upon_value, hdst]
      exact ⟨_, F.put sgS_inj hlt' 1 (by decide) _, S.more 1 (by decide) _ hd (fun h => nomatch h) (fun _ => rfl) (fun h => nomatch h) (fun h => nomatch h) (fun h => nomatch h) (fun h => nomatch h) (fun h => nomatch h) (fun h => nomatch h)⟩
    · simp at ho
      have d1' : dn 1 = true := hw { on := 1, ground := .data } (by subst ho; simp) rfl
      have hp : a'.eval (.tmp 32) = val 1 := F.eval (i := 1) (by decide) d1'
      rw [S.f1 d1'] at hp
      have ex : (execOp a'.eval o).run Tryz.prog w' = .ok (.enter 71 #[.int .i64 d]) w' := by
        subst ho; simp only [execOp, resolve, List.map_toArray, List.map_cons, List.map_nil, hp]; kernel_rfl
      have hdst : o.dst = some (sgS 2) := by subst ho; rfl
      unfold Oper.wp
      rw [ex, Oper.upon_enter]
      refine (O.out _).mono ?_
      rintro _ _ ⟨rfl, X, rfl⟩
      rw [hdst]
      exact ⟨_, F.put sgS_inj hlt' 2 (by decide) _, (S.grow X).more 2 (by decide) _ hd (fun h => nomatch h) (fun h => nomatch h) (fun _ => rfl) (fun h => nomatch h) (fun h => nomatch h) (fun h => nomatch h) (fun h => nomatch h) (fun h => nomatch h)⟩
    · simp at ho
      have d2' : dn 2 = true := hw { on := 2, ground := .data } (by subst ho; simp) rfl
      have hp : a'.eval (.tmp 33) = val 2 := F.eval (i := 2) (by decide) d2'
      rw [S.f2 d2'] at hp
      have ex : (execOp a'.eval o).run Tryz.prog w' = .ok (.enter 70 #[I2 d]) w' := by
        subst ho; simp only [execOp, resolve, List.map_toArray, List.map_cons, List.map_nil, hp]; kernel_rfl
      have hdst : o.dst = some (sgS 3) := by subst ho; rfl
      unfold Oper.wp
      rw [ex, Oper.upon_enter]
      refine (F4.out _).mono ?_
      rintro _ _ ⟨v3, rfl, h3, X, rfl⟩
      rw [hdst]
      exact ⟨_, F.put sgS_inj hlt' 3 (by decide) _, (S.grow X).more 3 (by decide) _ hd (fun h => nomatch h) (fun h => nomatch h) (fun h => nomatch h) (fun _ => h3) (fun h => nomatch h) (fun h => nomatch h) (fun h => nomatch h) (fun h => nomatch h)⟩
    · simp at ho
      have d0' : dn 0 = true := hw { on := 0, ground := .data } (by subst ho; simp) rfl
      have d3' : dn 3 = true := hw { on := 3, ground := .data } (by subst ho; simp) rfl
      have hp : a'.eval (.tmp 31) = val 0 := F.eval (i := 0) (by decide) d0'
      have hq : a'.eval (.tmp 34) = val 3 := F.eval (i := 3) (by decide) d3'
      rw [S.f0 d0'] at hp
      have n3 := S.f3 d3'
      obtain ⟨X0, hX0⟩ := S.ext
      have n0 : RN w' (.agg #[.bool m0, .slice a0 l0 c0]) (x1 + x2 + x3) 132 := by rw [hX0]; exact HN.out.ext X0
      have ex : (execOp a'.eval o).run Tryz.prog w' = .ok (.enter 96 #[.agg #[.bool m0, .slice a0 l0 c0], val 3]) w' := by
        subst ho; simp only [execOp, resolve, List.map_toArray, List.map_cons, List.map_nil, hp, hq]; kernel_rfl
      have hdst : o.dst = some (sgS 4) := by subst ho; rfl
      have n5 : dn 5 = false := by
        cases h5 : dn 5 with
        | false => rfl
        | true => exact absurd (hcl 5 _ rfl h5 { on := 4, ground := .data } (by simp) rfl) (by rw [hd]; decide)
      have n6 : dn 6 = false := by
        cases h5 : dn 6 with
        | false => rfl
        | true => exact absurd (hcl 6 _ rfl h5 { on := 5, ground := .data } (by simp) rfl) (by rw [n5]; decide)
      have n7 : dn 7 = false := by
        cases h5 : dn 7 with
        | false => rfl
        | true => exact absurd (hcl 7 _ rfl h5 { on := 5, ground := .data } (by simp) rfl) (by rw [n5]; decide)
      unfold Oper.wp
      rw [ex, Oper.upon_enter]
      refine (FL.out _ _ 132 129 _ n0 n3 (by decide)).mono ?_
      rintro _ _ ⟨v4, rfl, ⟨qv, rv, rfl, gq, gr⟩, X, rfl⟩
      rw [hdst]
      exact ⟨_, F.put sgS_inj hlt' 4 (by decide) _, (S.grow X).more 4 (by decide) _ hd (fun h => nomatch h) (fun h => nomatch h) (fun h => nomatch h) (fun h => nomatch h) (fun _ => ⟨⟨n5, n6, n7⟩, qv, rv, rfl, gq, gr⟩) (fun h => nomatch h) (fun h => nomatch h) (fun h => nomatch h)⟩
    · simp at ho
      have d4' : dn 4 = true := hw { on := 4, ground := .data } (by subst ho; simp) rfl
      have hp : a'.eval (.tmp 35) = val 4 := F.eval (i := 4) (by decide) d4'
      have ex : (execOp a'.eval o).run Tryz.prog w' = .ok (.value (val 4)) w' := by subst ho; simp only [execOp, hp]; rfl
      have hdst : o.dst = some (sgS 5) := by subst ho; rfl
      unfold Oper.wp
      rw [ex, Oper.upon_value, hdst]
      exact ⟨_, F.put sgS_inj hlt' 5 (by decide) _, S.more 5 (by decide) _ hd (fun h => nomatch h) (fun h => nomatch h) (fun h => nomatch h) (fun h => nomatch h) (fun h => nomatch h) (fun _ => ⟨d4', rfl⟩) (fun h => nomatch h) (fun h => nomatch h)⟩
    · simp at ho
      have d5' : dn 5 = true := hw { on := 5, ground := .data } (by subst ho; simp) rfl
      have hp : a'.eval (.tmp 30) = val 5 := F.eval (i := 5) (by decide) d5'
      obtain ⟨q4, r4, e4, -, -⟩ := S.f4 (S.c5 d5')
      rw [S.f5 d5', e4] at hp
      have ex : (execOp a'.eval o).run Tryz.prog w' = .ok (.value q4) w' := by subst ho; simp only [execOp, hp]; rfl
      have hdst : o.dst = some (sgS 6) := by subst ho; rfl
      unfold Oper.wp
      rw [ex, Oper.upon_value, hdst]
      exact ⟨_, F.put sgS_inj hlt' 6 (by decide) _, S.more 6 (by decide) _ hd (fun h => nomatch h) (fun h => nomatch h) (fun h => nomatch h) (fun h => nomatch h) (fun h => nomatch h) (fun h => nomatch h) (fun _ => ⟨q4, r4, e4, rfl⟩) (fun h => nomatch h)⟩
    · simp at ho
      have d5' : dn 5 = true := hw { on := 5, ground := .data } (by subst ho; simp) rfl
      have hp : a'.eval (.tmp 30) = val 5 := F.eval (i := 5) (by decide) d5'
      obtain ⟨q4, r4, e4, -, -⟩ := S.f4 (S.c5 d5')
      rw [S.f5 d5', e4] at hp
      have ex : (execOp a'.eval o).run Tryz.prog w' = .ok (.value r4) w' := by subst ho; simp only [execOp, hp]; rfl
      have hdst : o.dst = some (sgS 7) := by subst ho; rfl
      unfold Oper.wp
      rw [ex, Oper.upon_value, hdst]
      exact ⟨_, F.put sgS_inj hlt' 7 (by decide) _, S.more 7 (by decide) _ hd (fun h => nomatch h) (fun h => nomatch h) (fun h => nomatch h) (fun h => nomatch h) (fun h => nomatch h) (fun h => nomatch h) (fun h => nomatch h) (fun _ => ⟨q4, r4, e4, rfl⟩)⟩
    · simp at ho
      have n10 : dn 10 = false := by
        cases h5 : dn 10 with
        | false => rfl
        | true => exact absurd (hcl 10 _ rfl h5 { on := 8, ground := .data } (by simp) rfl) (by rw [hd]; decide)
      have ex : (execOp a'.eval o).run Tryz.prog w' = .ok (.value (.pointer (some ⟨w'.heap.size, 0, none⟩))) (w'.alloc (.cells #[.bool false, .slice none 0 0] 111)) := by
        subst ho; simp [execOp, Instr.alloc, newVar, Tryz.zeroValue111, Sem.run_bind, Result.andThen, Value.cells, newRow, newObj, Sem.run]
      have hdst : o.dst = some (sgS 8) := by subst ho; rfl
      unfold Oper.wp
      rw [ex, Oper.upon_value, hdst]
      exact ⟨_, F.put sgS_inj hlt' 8 (by decide) _, S.place 8 (by decide) hd n10⟩
    · simp at ho
      have n10 : dn 10 = false := by
        cases h5 : dn 10 with
        | false => rfl
        | true => exact absurd (hcl 10 _ rfl h5 { on := 9, ground := .phase } (by simp) rfl) (by rw [hd]; decide)
      have ex : (execOp a'.eval o).run Tryz.prog w' = .ok (.value (.pointer (some ⟨w'.heap.size, 0, none⟩))) (w'.alloc (.cells #[.bool false, .slice none 0 0] 111)) := by
        subst ho; simp [execOp, Instr.alloc, newVar, Tryz.zeroValue111, Sem.run_bind, Result.andThen, Value.cells, newRow, newObj, Sem.run]
      have hdst : o.dst = some (sgS 9) := by subst ho; rfl
      unfold Oper.wp
      rw [ex, Oper.upon_value, hdst]
      exact ⟨_, F.put sgS_inj hlt' 9 (by decide) _, S.place 9 (by decide) hd n10⟩
    · simp at ho
      have d8' : dn 8 = true := hw { on := 8, ground := .data } (by subst ho; simp) rfl
      have d6' : dn 6 = true := hw { on := 6, ground := .data } (by subst ho; simp) rfl
      have d4' : dn 4 = true := hw { on := 4, ground := .chain } (by subst ho; simp) rfl
      have d9' : dn 9 = true := hw { on := 9, ground := .phase } (by subst ho; simp) rfl
      have hp : a'.eval (.tmp 9) = val 8 := F.eval (i := 8) (by decide) d8'
      have hq : a'.eval (.tmp 36) = val 6 := F.eval (i := 6) (by decide) d6'
      obtain ⟨p, e8, -, -, ⟨mm, ss, hrow, hsl⟩, -⟩ := S.f8 d8'
      obtain ⟨q4, r4, e4, e6⟩ := S.f6 d6'
      obtain ⟨q5, r5, e5, g1, -⟩ := S.f4 d4'
      obtain ⟨rfl, rfl⟩ : q4 = q5 ∧ r4 = r5 := by
        rw [e4] at e5; injection e5 with e5; injection e5 with e5; simpa using e5
      obtain ⟨mq, aq, kq, cq, rfl⟩ := g1.form
      rw [e8] at hp
      rw [e6] at hq
      have h1 := run_storeVar_row (P := Tryz.prog) w' p 111 111 #[.bool mm, ss] #[.bool mq, .slice aq kq cq] hrow (by kernel_rfl) rfl (by simp [Value.oneCell'])
      rw [num_setRow hrow] at h1
      have ex : (execOp a'.eval o).run Tryz.prog w' = .ok .skip ((w'.setCell ⟨p, 0, none⟩ (.bool mq)).setCell ⟨p, 1, none⟩ (.slice aq kq cq)) := by
        subst ho; simp only [execOp, hp, hq, Instr.storeAt, Instr.sureAddr, Sem.run_bind, Sem.run_pure, Result.andThen]; rw [h1]
      have hdst : o.dst = none := by subst ho; rfl
      unfold Oper.wp
      rw [ex, Oper.upon_skip, hdst]
      exact ⟨_, F.skip (by decide), S.put1 d4' d8' d9' e8 e4⟩
    · simp at ho
      have d9' : dn 9 = true := hw { on := 9, ground := .data } (by subst ho; simp) rfl
      have d7' : dn 7 = true := hw { on := 7, ground := .data } (by subst ho; simp) rfl
      have d10' : dn 10 = true := hw { on := 10, ground := .chain } (by subst ho; simp) rfl
      have d4' : dn 4 = true := hw { on := 4, ground := .phase } (by subst ho; simp) rfl
      have d8' : dn 8 = true := hw { on := 8, ground := .phase } (by subst ho; simp) rfl
      have hp : a'.eval (.tmp 10) = val 9 := F.eval (i := 9) (by decide) d9'
      have hq : a'.eval (.tmp 37) = val 7 := F.eval (i := 7) (by decide) d7'
      obtain ⟨p, e9, -, -, ⟨mm, ss, hrow, hsl⟩⟩ := S.f9 d9'
      obtain ⟨q4, r4, e4, e7⟩ := S.f7 d7'
      obtain ⟨q5, r5, e5, -, g1⟩ := S.f4 d4'
      obtain ⟨rfl, rfl⟩ : q4 = q5 ∧ r4 = r5 := by
        rw [e4] at e5; injection e5 with e5; injection e5 with e5; simpa using e5
      obtain ⟨mq, aq, kq, cq, rfl⟩ := g1.form
      rw [e9] at hp
      rw [e7] at hq
      have h1 := run_storeVar_row (P := Tryz.prog) w' p 111 111 #[.bool mm, ss] #[.bool mq, .slice aq kq cq] hrow (by kernel_rfl) rfl (by simp [Value.oneCell'])
      rw [num_setRow hrow] at h1
      have ex : (execOp a'.eval o).run Tryz.prog w' = .ok .skip ((w'.setCell ⟨p, 0, none⟩ (.bool mq)).setCell ⟨p, 1, none⟩ (.slice aq kq cq)) := by
        subst ho; simp only [execOp, hp, hq, Instr.storeAt, Instr.sureAddr, Sem.run_bind, Sem.run_pure, Result.andThen]; rw [h1]
      have hdst : o.dst = none := by subst ho; rfl
      unfold Oper.wp
      rw [ex, Oper.upon_skip, hdst]
      exact ⟨_, F.skip (by decide), S.put2 d4' d8' d9' d10' e9 e4⟩
    · simp at ho
  · intro val dn w2 S hall
    obtain ⟨p, e8, l1, l2, -, D⟩ := S.f8 (hall 8 (by decide))
    obtain ⟨mq, sq, hrow, hN2⟩ := D (hall 10 (by decide))
    obtain ⟨aq, kq, cq, rfl⟩ := hN2.sl
    obtain ⟨X2, hX2⟩ := S.ext
    simp only [putsTo, sgS, e8, Act.put, List.setIfInBounds_toArray, List.set_cons_zero, List.set_cons_succ]
    have HN3 := Lib.hid hN2
    have c2 := hrow.cell
    have f2 := hrow.frozen
    have k2 := hrow.lt
    have HX2 := Lib.hid hX2
    clear hrow hN2 D S hX2 hall e8 l1 l2
    go_wp2_with (first
      | (go_at_call 98; (with_reducible refine (TO.out _ 134 _ (by repeat (first | exact HN3.out | with_reducible refine RN.ext ?_ _ | with_reducible refine RN.alloc ?_ _ | with_reducible refine RN.drew ?_))).mono ?_); rintro _ _ ⟨rfl, X_, rfl⟩)
      | (go_at_call 99; (with_reducible refine (SM.out _).mono ?_); rintro _ _ ⟨rfl, X_, rfl⟩))
    go_ret
    refine Ret.of ?_
    obtain ⟨X1, hX1⟩ := HX.out
    rw [HX2.out, hX1]
    (repeat (first | exact Below.refl _ _ | with_reducible refine Below.drew ?_ | with_reducible refine Below.ext ?_ (by first | exact Nat.le_refl _ | (simp; done) | (simp; omega)) _ | with_reducible refine Below.alloc ?_ (by first | exact Nat.le_refl _ | (simp; done) | (simp; omega)) _ | with_reducible refine Below.setCell ?_ (by first | exact Nat.le_refl _ | (simp; done) | (simp; omega)) _))
end Go.Proofs.YtciooaihobnifaaGreat
