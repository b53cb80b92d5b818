/- XintTells: whatever the input, the law returns true and leaves its arguments as they read. No condition. -/
import Derived.Test.YtmlhbbkgfffmcaaNumP
import Derived.Test.YtmlhbbkgfffmcaaEXintTells
namespace Go.Proofs.Ytmlhbbkgfffmcaa
set_option linter.unusedVariables false
set_option linter.unusedSimpArgs false
open Go.RowKit
set_option maxRecDepth 100000 in
set_option maxHeartbeats 16000000 in
theorem tells02_yes (a b n : Int) (ha : inR a) (hb : inR b) (hn : sml n) (w : World) : Calls Try.prog 18 #[I2 a, I2 b, .int .i64 n] w (Ret (.bool true) w) := by
  have A1 := Lib.hid (fun w => small_any a ha w)
  have A2 := Lib.hid (fun w => rsmall_any a ha w)
  have B1 := Lib.hid (fun w => neg_any a ha w)
  have B2 := Lib.hid (fun w => rneg_any a ha w)
  have C1 := Lib.hid (fun w => add_any a b ha hb w)
  have C2 := Lib.hid (fun w => radd_any a b ha hb w)
  have D1 := Lib.hid (fun w => sub_any a b ha hb w)
  have D2 := Lib.hid (fun w => rsub_any a b ha hb w)
  have E1 := Lib.hid (fun w => times_any a n ha hn w)
  have E2 := Lib.hid (fun w => rtimes_any a n ha hn w)
  have G1 := Lib.hid (fun w => of_any n hn w)
  have G2 := Lib.hid (fun w => rof_any n hn w)
  have H1 := Lib.hid (fun w => sign_any a ha w)
  have H2 := Lib.hid (fun w => rsign_any a ha w)
  have K1 := Lib.hid (fun w => cmp_any a b ha hb w)
  have K2 := Lib.hid (fun w => rcmp_any a b ha hb w)
  unfold I2b at B1 B2 C1 C2 D1 D2 E1 E2
  generalize smlV a = z1 at *
  generalize decide (sml a) = t1 at *
  generalize lim (-a) = y2 at *
  generalize decide (inR (-a)) = t2 at *
  generalize lim (a + b) = y4 at *
  generalize decide (inR (a + b)) = t3 at *
  generalize lim (a - b) = y6 at *
  generalize decide (inR (a - b)) = t4 at *
  generalize lim (a * n) = y8 at *
  generalize decide (inR (a * n)) = t5 at *
  generalize sgn a = z12 at *
  generalize sgn (a - b) = z13 at *
  clear ha hb hn
  go_enter Try.func18, Try.ntmps18
  go_wp2_with (first
    | (go_at_call 68; (with_reducible refine (A1.out _).mono ?_); rintro _ _ ⟨rfl, X1, rfl⟩)
    | (go_at_call 69; (with_reducible refine (A2.out _).mono ?_); rintro _ _ ⟨rfl, X2, rfl⟩)
    | (go_at_call 70; (with_reducible refine (B1.out _).mono ?_); rintro _ _ ⟨rfl, X3, rfl⟩)
    | (go_at_call 71; (with_reducible refine (B2.out _).mono ?_); rintro _ _ ⟨rfl, X4, rfl⟩)
    | (go_at_call 64; (with_reducible refine (C1.out _).mono ?_); rintro _ _ ⟨rfl, X5, rfl⟩)
    | (go_at_call 72; (with_reducible refine (C2.out _).mono ?_); rintro _ _ ⟨rfl, X6, rfl⟩)
    | (go_at_call 67; (with_reducible refine (D1.out _).mono ?_); rintro _ _ ⟨rfl, X7, rfl⟩)
    | (go_at_call 73; (with_reducible refine (D2.out _).mono ?_); rintro _ _ ⟨rfl, X8, rfl⟩)
    | (go_at_call 66; (with_reducible refine (E1.out _).mono ?_); rintro _ _ ⟨rfl, X9, rfl⟩)
    | (go_at_call 74; (with_reducible refine (E2.out _).mono ?_); rintro _ _ ⟨rfl, X10, rfl⟩))
  refine wp_abs (F := fun wx => Row wx w.heap.size #[.int .i64 (hiN a), .int .u64 (loN a)] 69 ∧ Row wx (w.heap.size + 1) #[.int .i64 (hiN b), .int .u64 (loN b)] 69 ∧ Row wx (w.heap.size + 1 + 1 + X1.sz + X2.sz + X3.sz) #[.int .i64 (hiN y2), .int .u64 (loN y2)] 69 ∧ Row wx (w.heap.size + 1 + 1 + X1.sz + X2.sz + X3.sz + 1 + X4.sz) #[.int .i64 (hiN y2), .int .u64 (loN y2)] 69 ∧ Row wx (w.heap.size + 1 + 1 + X1.sz + X2.sz + X3.sz + 1 + X4.sz + 1 + X5.sz) #[.int .i64 (hiN y4), .int .u64 (loN y4)] 69 ∧ Row wx (w.heap.size + 1 + 1 + X1.sz + X2.sz + X3.sz + 1 + X4.sz + 1 + X5.sz + 1 + X6.sz) #[.int .i64 (hiN y4), .int .u64 (loN y4)] 69 ∧ Row wx (w.heap.size + 1 + 1 + X1.sz + X2.sz + X3.sz + 1 + X4.sz + 1 + X5.sz + 1 + X6.sz + 1 + X7.sz) #[.int .i64 (hiN y6), .int .u64 (loN y6)] 69 ∧ Row wx (w.heap.size + 1 + 1 + X1.sz + X2.sz + X3.sz + 1 + X4.sz + 1 + X5.sz + 1 + X6.sz + 1 + X7.sz + 1 + X8.sz) #[.int .i64 (hiN y6), .int .u64 (loN y6)] 69 ∧ Row wx (w.heap.size + 1 + 1 + X1.sz + X2.sz + X3.sz + 1 + X4.sz + 1 + X5.sz + 1 + X6.sz + 1 + X7.sz + 1 + X8.sz + 1 + X9.sz) #[.int .i64 (hiN y8), .int .u64 (loN y8)] 69 ∧ Row wx (w.heap.size + 1 + 1 + X1.sz + X2.sz + X3.sz + 1 + X4.sz + 1 + X5.sz + 1 + X6.sz + 1 + X7.sz + 1 + X8.sz + 1 + X9.sz + 1 + X10.sz) #[.int .i64 (hiN y8), .int .u64 (loN y8)] 69 ∧ Below w.heap.size w wx) ⟨by (repeat (first | assumption | with_reducible refine Row.ext ?_ _ | with_reducible refine row_drew ?_ | (with_reducible refine row_last ?_; first | rfl | (simp; done)) | with_reducible refine Row.alloc ?_ _)), by (repeat (first | assumption | with_reducible refine Row.ext ?_ _ | with_reducible refine row_drew ?_ | (with_reducible refine row_last ?_; first | rfl | (simp; done)) | with_reducible refine Row.alloc ?_ _)), by (repeat (first | assumption | with_reducible refine Row.ext ?_ _ | with_reducible refine row_drew ?_ | (with_reducible refine row_last ?_; first | rfl | (simp; done)) | with_reducible refine Row.alloc ?_ _)), by (repeat (first | assumption | with_reducible refine Row.ext ?_ _ | with_reducible refine row_drew ?_ | (with_reducible refine row_last ?_; first | rfl | (simp; done)) | with_reducible refine Row.alloc ?_ _)), by (repeat (first | assumption | with_reducible refine Row.ext ?_ _ | with_reducible refine row_drew ?_ | (with_reducible refine row_last ?_; first | rfl | (simp; done)) | with_reducible refine Row.alloc ?_ _)), by (repeat (first | assumption | with_reducible refine Row.ext ?_ _ | with_reducible refine row_drew ?_ | (with_reducible refine row_last ?_; first | rfl | (simp; done)) | with_reducible refine Row.alloc ?_ _)), by (repeat (first | assumption | with_reducible refine Row.ext ?_ _ | with_reducible refine row_drew ?_ | (with_reducible refine row_last ?_; first | rfl | (simp; done)) | with_reducible refine Row.alloc ?_ _)), by (repeat (first | assumption | with_reducible refine Row.ext ?_ _ | with_reducible refine row_drew ?_ | (with_reducible refine row_last ?_; first | rfl | (simp; done)) | with_reducible refine Row.alloc ?_ _)), by (repeat (first | assumption | with_reducible refine Row.ext ?_ _ | with_reducible refine row_drew ?_ | (with_reducible refine row_last ?_; first | rfl | (simp; done)) | with_reducible refine Row.alloc ?_ _)), by (repeat (first | assumption | with_reducible refine Row.ext ?_ _ | with_reducible refine row_drew ?_ | (with_reducible refine row_last ?_; first | rfl | (simp; done)) | with_reducible refine Row.alloc ?_ _)), by (repeat (first | exact Below.refl _ _ | with_reducible refine Below.drew ?_ | with_reducible refine Below.ext ?_ (by first | exact Nat.le_refl _ | (simp; done) | (simp; omega)) _ | with_reducible refine Below.alloc ?_ (by first | exact Nat.le_refl _ | (simp; done) | (simp; omega)) _ | with_reducible refine Below.setCell ?_ (by first | exact Nat.le_refl _ | (simp; done) | (simp; omega)) _))⟩ ?_
  intro wx ⟨R0, R1, R2, R3, R4, R5, R6, R7, R8, R9, BW⟩
  generalize w.heap.size + 1 + 1 + X1.sz + X2.sz + X3.sz = p1 at *
  generalize p1 + 1 + X4.sz = p2 at *
  generalize p2 + 1 + X5.sz = p3 at *
  generalize p3 + 1 + X6.sz = p4 at *
  generalize p4 + 1 + X7.sz = p5 at *
  generalize p5 + 1 + X8.sz = p6 at *
  generalize p6 + 1 + X9.sz = p7 at *
  generalize p7 + 1 + X10.sz = p8 at *
  have r0 := R0.lt
  have c00 := R0.cell 0
  have c01 := R0.cell 1
  have r1 := R1.lt
  have c10 := R1.cell 0
  have c11 := R1.cell 1
  have r2 := R2.lt
  have c20 := R2.cell 0
  have c21 := R2.cell 1
  have r3 := R3.lt
  have c30 := R3.cell 0
  have c31 := R3.cell 1
  have r4 := R4.lt
  have c40 := R4.cell 0
  have c41 := R4.cell 1
  have r5 := R5.lt
  have c50 := R5.cell 0
  have c51 := R5.cell 1
  have r6 := R6.lt
  have c60 := R6.cell 0
  have c61 := R6.cell 1
  have r7 := R7.lt
  have c70 := R7.cell 0
  have c71 := R7.cell 1
  have r8 := R8.lt
  have c80 := R8.cell 0
  have c81 := R8.cell 1
  have r9 := R9.lt
  have c90 := R9.cell 0
  have c91 := R9.cell 1
  simp at c00 c01 c10 c11 c20 c21 c30 c31 c40 c41 c50 c51 c60 c61 c70 c71 c80 c81 c90 c91
  clear R0 R1 R2 R3 R4 R5 R6 R7 R8 R9
  refine wp_region_ext (by kernel_rfl) (by kernel_rfl) ?_
  simp only [List.append]
  repeat (go_big_quiet_step (first | (go_at_call 47; with_reducible exact Calls.quiet_ret (awake02 _)) | (go_at_call 65; with_reducible exact Calls.quiet_ret (G1.out _)) | (go_at_call 75; with_reducible exact Calls.quiet_ret (G2.out _)) | (go_at_call 62; with_reducible exact Calls.quiet_ret (H1.out _)) | (go_at_call 76; with_reducible exact Calls.quiet_ret (H2.out _)) | (go_at_call 63; with_reducible exact Calls.quiet_ret (K1.out _)) | (go_at_call 77; with_reducible exact Calls.quiet_ret (K2.out _))))
  refine wpQuiet_nil ?_
  intro _ hw_ext
  obtain ⟨X, hw_ext⟩ := hw_ext
  subst hw_ext
  go_wp2
  go_ret
  exact Ret.of' (by simp) (by (repeat (first | assumption | exact Below.refl _ _ | with_reducible refine Below.drew ?_ | with_reducible refine Below.ext ?_ (by first | exact Nat.le_refl _ | omega | (simp; done) | (simp; omega)) _ | with_reducible refine Below.alloc ?_ (by first | exact Nat.le_refl _ | omega | (simp; done) | (simp; omega)) _ | with_reducible refine Below.setCell ?_ (by first | exact Nat.le_refl _ | omega | (simp; done) | (simp; omega)) _)))
theorem XintTells_all : XintTells_stmt := by
  intro a0 a1 b0 b1 n w ha hb hn
  obtain ⟨⟨h0, h1⟩, l0, l1⟩ := ha
  obtain ⟨⟨k0, k1⟩, m0, m1⟩ := hb
  rw [i2_val a0 a1 l0 l1, i2_val b0 b1 m0 m1]
  exact tells02_yes _ _ n (i2_inR h0 h1 l0 l1) (i2_inR k0 k1 m0 m1) hn w
theorem XintTells_holds : Rows.XintTellsSaid := XintTells_end XintTells_all
end Go.Proofs.Ytmlhbbkgfffmcaa
