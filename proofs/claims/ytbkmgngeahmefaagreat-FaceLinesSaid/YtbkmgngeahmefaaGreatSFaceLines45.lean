/- Parts of the proof of FaceLines, laid together. Conditions: at each. -/
import Derived.Test.YtbkmgngeahmefaaGreatSFaceLines06
import Derived.Test.YtbkmgngeahmefaaGreatSFaceLines31
import Derived.Test.YtbkmgngeahmefaaGreatSFaceLines34
import Derived.Test.YtbkmgngeahmefaaGreatSFaceLines44
set_option linter.unusedVariables false
set_option linter.unusedSimpArgs false
section
namespace Go.Proofs.YtbkmgngeahmefaaGreat
open Go.RowKit
abbrev WinP.cells (a : WinP) : List Value := [.int .i64 a.x, .int .i64 a.y, .int .i64 a.z, .int .i64 a.c0, .int .i64 a.c1, .int .i64 a.c2, .int .i64 a.c3]
def wnK : RecK WinP := ⟨7, WinP.cells, fun _ => rfl, by decide, fun a u hu => by simp at hu; rcases hu with rfl | rfl | rfl | rfl | rfl | rfl | rfl <;> rfl⟩
def boK : RecK Bool := ⟨1, fun b => [.bool b], fun _ => rfl, by decide, fun a u hu => by simp at hu; subst hu; rfl⟩
def wAt (L : List WinP) (i : Nat) : WinP := L.getD i ⟨0, 0, 0, 0, 0, 0, 0⟩
theorem wAt_of {L : List WinP} {i : Nat} {a : WinP} (h : L[i]? = some a) : wAt L i = a := by unfold wAt; rw [List.getD_eq_getElem?_getD, h]; rfl
def fan (L : List WinP) : Nat → Int
  | 0 => 0
  | k + 1 => fan L k + ar (wAt L 0) (wAt L (k + 1)) (wAt L (k + 2))
def faceN (L : List WinP) : Int := fan L (L.length - 2)
theorem wAt_fits {L : List WinP} (h : ∀ a ∈ L, a.fits) (i : Nat) : (wAt L i).fits := by
  by_cases hi : i < L.length
  · rw [wAt_of (List.getElem?_eq_getElem hi)]; exact h _ (List.getElem_mem hi)
  · unfold wAt
    rw [List.getD_eq_getElem?_getD, List.getElem?_eq_none (by omega)]
    exact ⟨by decide, by decide, by decide, by decide, by decide, by decide, ⟨by decide, by decide, by decide, by decide, by decide, by decide, by decide, by decide⟩⟩
theorem fan_bd {L : List WinP} (h : ∀ a ∈ L, a.fits) : ∀ k : Nat, -(3602880389091196928 * (k : Int)) ≤ fan L k ∧ fan L k ≤ 3602880389091196928 * (k : Int)
  | 0 => by simp [fan]
  | k + 1 => by
    have h1 := fan_bd h k
    have h2 := (nigh3 (wAt_fits h 0) (wAt_fits h (k + 1)) (wAt_fits h (k + 2))).ar
    unfold fan
    omega
theorem fan_in {L : List WinP} (h : ∀ a ∈ L, a.fits) (k : Nat) (hk : k ≤ 1099511627776) : inR (fan L k) := by
  have := fan_bd h k
  unfold inR
  omega
theorem add22_in (a b : Int) (ha : inR a) (hb : inR b) (h : inR (a + b)) (w : World) : Calls Tryz.prog 61 #[I2 a, I2 b] w (Ret (.tuple #[I2 (a + b), .bool true]) w) := by
  have A := add_any a b ha hb w
  rw [show I2b (a + b) = .tuple #[I2 (a + b), .bool true] by rw [I2b, lim_yes h]; simp [h]] at A
  exact A
set_option maxRecDepth 100000 in
set_option maxHeartbeats 4000000 in
theorem face_sign (v : Value) (L : List WinP) (w : World) (hv : Recs wnK w v L) (hf : ∀ a ∈ L, a.fits) : Calls Tryz.prog 21 #[v] w (Ret (.int .i64 (sgn (faceN L))) w) := by
  have HV := Lib.hid hv
  have HF := Lib.hid hf
  obtain ⟨hl, av, cap, rfl, hcap, -⟩ := hv
  clear hf
  go_enter Tryz.func21, Tryz.ntmps21
  go_wp2
  go_loopw [4] (fun i wr => ∃ (k : Nat), (k = 0 ∨ k + 2 ≤ L.length) ∧ i = .int .i64 ((k : Int) + 2) ∧ Row wr w.heap.size #[.int .i64 (hiN (fan L k)), .int .u64 (loN (fan L k))] 96 ∧ ∃ X, wr = w.ext X)
    (fun i _ => L.length + 2 - (intOf i).toNat)
  case atStart => exact ⟨0, .inl rfl, rfl, by rw [show hiN (fan L 0) = 0 from rfl, show loN (fan L 0) = 0 from rfl]; exact rx_, RowKit.Below.toExt (by exact bl_)⟩
  case round =>
    obtain ⟨k, hk, rfl, R, hX⟩ := hrel
    have HX := Lib.hid hX
    have c0 := R.cell
    have f0 := R.frozen
    have l0 := R.lt
    by_cases hlt : k + 2 < L.length
    · have hki : (k : Int) + 2 < L.length := by omega
      have h0 : 0 < L.length := by omega
      have h1 : k + 1 < L.length := by omega
      have hi0 : (0 : Int) < L.length := by omega
      have hi1 : (k : Int) + 1 < L.length := by omega
      obtain ⟨X0, hX0⟩ := hX
      obtain ⟨-, av', cap', hq, -, hcl⟩ := (by rw [hX0]; exact HV.out.ext X0 : Recs wnK wr (.slice av L.length cap) L)
      obtain ⟨rfl, rfl⟩ : av = av' ∧ cap = cap' := by simpa using hq
      clear hq hX0
      rcases hcl with e | ⟨lb, lo, rfl, hlb, hcl⟩
      · rw [e] at h0; simp at h0
      obtain ⟨a, ha⟩ : ∃ f, L[0]? = some f := ⟨_, List.getElem?_eq_getElem h0⟩
      obtain ⟨b, hb⟩ : ∃ f, L[k + 1]? = some f := ⟨_, List.getElem?_eq_getElem h1⟩
      obtain ⟨c, hc⟩ : ∃ f, L[k + 2]? = some f := ⟨_, List.getElem?_eq_getElem hlt⟩
      have pa0 : wr.cell? ⟨lb, lo, none⟩ = some (.int .i64 a.x) := by simpa using hcl 0 _ ha 0 _ rfl
      have pa1 : wr.cell? ⟨lb, lo + 1, none⟩ = some (.int .i64 a.y) := by simpa using hcl 0 _ ha 1 _ rfl
      have pa2 : wr.cell? ⟨lb, lo + 2, none⟩ = some (.int .i64 a.z) := by simpa using hcl 0 _ ha 2 _ rfl
      have pa3 : wr.cell? ⟨lb, lo + 3, none⟩ = some (.int .i64 a.c0) := by simpa using hcl 0 _ ha 3 _ rfl
      have pa4 : wr.cell? ⟨lb, lo + 4, none⟩ = some (.int .i64 a.c1) := by simpa using hcl 0 _ ha 4 _ rfl
      have pa5 : wr.cell? ⟨lb, lo + 5, none⟩ = some (.int .i64 a.c2) := by simpa using hcl 0 _ ha 5 _ rfl
      have pa6 : wr.cell? ⟨lb, lo + 6, none⟩ = some (.int .i64 a.c3) := by simpa using hcl 0 _ ha 6 _ rfl
      have pb0 : wr.cell? ⟨lb, lo + (k + 1) * 7, none⟩ = some (.int .i64 b.x) := hcl (k + 1) _ hb 0 _ rfl
      have pb1 : wr.cell? ⟨lb, lo + (k + 1) * 7 + 1, none⟩ = some (.int .i64 b.y) := hcl (k + 1) _ hb 1 _ rfl
      have pb2 : wr.cell? ⟨lb, lo + (k + 1) * 7 + 2, none⟩ = some (.int .i64 b.z) := hcl (k + 1) _ hb 2 _ rfl
      have pb3 : wr.cell? ⟨lb, lo + (k + 1) * 7 + 3, none⟩ = some (.int .i64 b.c0) := hcl (k + 1) _ hb 3 _ rfl
      have pb4 : wr.cell? ⟨lb, lo + (k + 1) * 7 + 4, none⟩ = some (.int .i64 b.c1) := hcl (k + 1) _ hb 4 _ rfl
      have pb5 : wr.cell? ⟨lb, lo + (k + 1) * 7 + 5, none⟩ = some (.int .i64 b.c2) := hcl (k + 1) _ hb 5 _ rfl
      have pb6 : wr.cell? ⟨lb, lo + (k + 1) * 7 + 6, none⟩ = some (.int .i64 b.c3) := hcl (k + 1) _ hb 6 _ rfl
      have pc0 : wr.cell? ⟨lb, lo + (k + 2) * 7, none⟩ = some (.int .i64 c.x) := hcl (k + 2) _ hc 0 _ rfl
      have pc1 : wr.cell? ⟨lb, lo + (k + 2) * 7 + 1, none⟩ = some (.int .i64 c.y) := hcl (k + 2) _ hc 1 _ rfl
      have pc2 : wr.cell? ⟨lb, lo + (k + 2) * 7 + 2, none⟩ = some (.int .i64 c.z) := hcl (k + 2) _ hc 2 _ rfl
      have pc3 : wr.cell? ⟨lb, lo + (k + 2) * 7 + 3, none⟩ = some (.int .i64 c.c0) := hcl (k + 2) _ hc 3 _ rfl
      have pc4 : wr.cell? ⟨lb, lo + (k + 2) * 7 + 4, none⟩ = some (.int .i64 c.c1) := hcl (k + 2) _ hc 4 _ rfl
      have pc5 : wr.cell? ⟨lb, lo + (k + 2) * 7 + 5, none⟩ = some (.int .i64 c.c2) := hcl (k + 2) _ hc 5 _ rfl
      have pc6 : wr.cell? ⟨lb, lo + (k + 2) * 7 + 6, none⟩ = some (.int .i64 c.c3) := hcl (k + 2) _ hc 6 _ rfl
      have na := wAt_of ha
      have nb := wAt_of hb
      have nc := wAt_of hc
      have fa := HF.out a (List.mem_of_getElem? ha)
      have fb := HF.out b (List.mem_of_getElem? hb)
      have fc := HF.out c (List.mem_of_getElem? hc)
      have hn := (nigh3 fa fb fc).ar
      have hs : fan L (k + 1) = fan L k + ar a b c := by rw [← na, ← nb, ← nc]; rfl
      have r1 := fan_in HF.out k (by omega)
      have r2 := fan_in HF.out (k + 1) (by omega)
      rw [hs] at r2
      have A := Lib.hid (fun w => area_any a b c (nigh3 fa fb fc) w)
      have O := Lib.hid (fun w => of_any (ar a b c) (by unfold sml; omega) w)
      have D := Lib.hid (fun w => add22_in (fan L k) (ar a b c) r1 (by unfold inR; omega) r2 w)
      have HS := Lib.hid hs
      clear hcl ha hb hc na nb nc fa fb fc hn r1 r2 hs hk
      go_wp2
      refine wp_region_ext_float 19 18 (by kernel_rfl) (by kernel_rfl) ?_
      simp only [List.take_succ_cons, List.take_zero, List.drop_succ_cons, List.drop_zero]
      repeat (go_big_quiet_step ((first | (go_at_call 63; with_reducible exact Calls.quiet_ret (A.out _)) | (go_at_call 62; with_reducible exact Calls.quiet_ret (O.out _)) | (go_at_call 61; with_reducible exact Calls.quiet_ret (D.out _)))))
      refine wpQuiet_nil ?_
      intro _ hw_ext
      obtain ⟨X, hw_ext⟩ := hw_ext
      subst hw_ext
      go_wp2
      refine ⟨rfl, ?_⟩
      go_wp2
      go_roundw
      case rel =>
        refine ⟨k + 1, .inr (by omega), by go_num, ?_, ?_⟩
        · rw [HS.out]
          have r1 : Row ((wr.ext X).setCell ⟨w.heap.size, 0, none⟩ (.int .i64 (hiN (fan L k + ar a b c)))) w.heap.size #[.int .i64 (hiN (fan L k + ar a b c)), .int .u64 (loN (fan L k))] 96 := (R.ext X).set 0 _
          have r2 : Row (((wr.ext X).setCell ⟨w.heap.size, 0, none⟩ (.int .i64 (hiN (fan L k + ar a b c)))).setCell ⟨w.heap.size, 1, none⟩ (.int .u64 (loN (fan L k + ar a b c)))) w.heap.size #[.int .i64 (hiN (fan L k + ar a b c)), .int .u64 (loN (fan L k + ar a b c))] 96 := r1.set 1 _
          first
            | exact r2
            | (rw [World.setCell_ext l0, World.setCell_ext (by simpa [World.setCell] using l0)] at r2; exact r2)
        · obtain ⟨X1, hX1⟩ := HX.out
          subst hX1
          exact RowKit.Below.toExt (by exact br_)
      case measure => simp [intOf]; omega
    · have hkk : L.length - 2 = k := by omega
      have S := Lib.hid (fun w => sign_any (fan L k) (fan_in HF.out k (by omega)) w)
      have HK := Lib.hid hkk
      clear hkk
      have hge : ¬ ((k : Int) + 2 < L.length) := by omega
      go_wp2_with (first | (go_at_call 64; (with_reducible refine (S.out _).mono ?_); rintro _ _ ⟨rfl, X_, rfl⟩))
      go_ret
      obtain ⟨X0, hX0⟩ := HX.out
      subst hX0
      exact Ret.of' (by unfold faceN; rw [HK.out]; rfl) (by exact br_)
end Go.Proofs.YtbkmgngeahmefaaGreat
end
section
namespace Go.Proofs.YtbkmgngeahmefaaGreat
open Go.RowKit
def frontB (n : Int) (ccw : Bool) : Bool := if ccw then decide (0 ≤ n) else decide (n ≤ 0)
def culledB (b : Bool) (c : Int) : Bool := if b then decide (c = 1 ∨ c = 3) else decide (c = 2 ∨ c = 3)
theorem sgn_three (z : Int) : sgn z = -1 ∨ sgn z = 0 ∨ sgn z = 1 := by unfold sgn; split <;> (try split) <;> simp
theorem cull_four {c : Int} (h : amongP c 0 3) : c = 0 ∨ c = 1 ∨ c = 2 ∨ c = 3 := by unfold amongP at h; omega
set_option maxHeartbeats 2000000 in
theorem face_front (v : Value) (L : List WinP) (ccw : Bool) (w : World) (hv : Recs wnK w v L) (hf : ∀ a ∈ L, a.fits) : Calls Tryz.prog 23 #[v, .bool ccw] w (Ret (.bool (frontB (sgn (faceN L)) ccw)) w) := by
  have S := Lib.hid (fun X => face_sign v L (w.ext X) (hv.ext X) hf)
  have S0 := Lib.hid (face_sign v L w hv hf)
  obtain ⟨-, av, cap, rfl, -, -⟩ := hv
  rcases sgn_three (faceN L) with e | e | e <;> rw [e] at S S0 ⊢ <;> cases ccw
  all_goals
    clear e hf
    go_enter Tryz.func23, Tryz.ntmps23
    go_wp2_with (first | (go_at_call 21; (with_reducible refine (S0.out).mono ?_); rintro _ _ ⟨rfl, X_, rfl⟩) | (go_at_call 21; (with_reducible refine (S.out _).mono ?_); rintro _ _ ⟨rfl, X_, rfl⟩))
    go_ret
    exact Ret.of' (by first | rfl | decide) (by exact bl_)
set_option maxHeartbeats 4000000 in
theorem face_culled (v : Value) (L : List WinP) (k : LookP) (w : World) (hv : Recs wnK w v L) (hf : ∀ a ∈ L, a.fits) (hc : amongP k.cull 0 3) : Calls Tryz.prog 25 #[v, k.v] w (Ret (.bool (culledB (frontB (sgn (faceN L)) k.ccw) k.cull)) w) := by
  have S := Lib.hid (fun w1 (h : Recs wnK w1 v L) => face_front v L k.ccw w1 h hf)
  have HV := Lib.hid hv
  obtain ⟨-, av, cap, rfl, -, -⟩ := hv
  obtain ⟨k0, k1, k2, k3, k4, k5, k6, k7, k8, k9, kw, kc, k12, k13, k14⟩ := k
  simp only at hc S ⊢
  generalize frontB (sgn (faceN L)) kw = b at *
  rcases cull_four hc with rfl | rfl | rfl | rfl <;> cases b
  all_goals
    clear hf hc
    go_enter Tryz.func25, Tryz.ntmps25
    go_wp2_with (first | (go_at_call 23; (with_reducible refine (S.out _ (HV.out.alloc _)).mono ?_); rintro _ _ ⟨rfl, X_, rfl⟩))
    go_ret
    exact Ret.of' (by first | rfl | decide) (by exact bl_)
end Go.Proofs.YtbkmgngeahmefaaGreat
end
section
namespace Go.Proofs.YtbkmgngeahmefaaGreat
open Go.RowKit
theorem dot_right1 (a : WinP) (h : a.wide) (w : World) : Calls Tryz.prog 86 #[a.v, .int .i64 1, .int .i64 0] w (Ret (.bool (decide a.fitsP)) w) := by
  have e : decide (lineP a a 1 0 1 0) = decide a.fitsP := decide_eq_decide.2 ⟨fun q => q.1, fun q => ⟨q, q, by decide, by decide⟩⟩
  have R := Lib.hid (fun w => e ▸ wide_right a a 1 0 1 0 h h (by unfold w64; decide) (by unfold w64; decide) w)
  clear e h
  go_enter Tryz.func86, Tryz.ntmps86
  go_wp2_with (first | (go_at_call 107; (with_reducible refine (R.out _).mono ?_); rintro _ _ ⟨rfl, X_, rfl⟩))
  go_ret
  exact Ret.of' (by first | rfl | simp) (by exact bl_)
def mayP (L : List WinP) (B : List Bool) : Prop := 3 ≤ L.length ∧ B.length = L.length ∧ ∀ a ∈ L, a.fitsP
instance (L : List WinP) (B : List Bool) : Decidable (mayP L B) := by unfold mayP; exact inferInstance
abbrev fcV (v ev : Value) (k : LookP) (x0 y0 x1 y1 : Int) : Value := .agg #[v, ev, .int .i64 k.width, .bool k.soft, .bool k.dashed, .int .i64 k.p, .int .i64 k.r, .int .i64 k.c, .int .i64 k.size, .int .i64 k.kind, .int .i64 k.front, .int .i64 k.back, .bool k.ccw, .int .i64 k.cull, .bool k.off, .int .i64 k.factor, .int .i64 k.units, .int .i64 x0, .int .i64 y0, .int .i64 x1, .int .i64 y1]
theorem take_fits {L : List WinP} {j : Nat} {a : WinP} (h : ∀ i f, i < j → L[i]? = some f → f.fitsP) (ha : L[j]? = some a) (hf : a.fitsP) : ∀ i f, i < j + 1 → L[i]? = some f → f.fitsP := fun i f hi hf' => by
  by_cases e : i = j
  · subst e; rw [ha] at hf'; cases hf'; exact hf
  · exact h i f (by omega) hf'
theorem all_fits {L : List WinP} (h : ∀ i f, i < L.length → L[i]? = some f → f.fitsP) : ∀ a ∈ L, a.fitsP := fun a ha => by
  obtain ⟨i, hi, rfl⟩ := List.mem_iff_getElem.1 ha
  exact h i _ hi (List.getElem?_eq_getElem hi)
set_option maxRecDepth 100000 in
set_option maxHeartbeats 4000000 in
theorem face_may (v ev : Value) (L : List WinP) (B : List Bool) (k : LookP) (x0 y0 x1 y1 : Int) (w : World) (hv : Recs wnK w v L) (he : Recs boK w ev B) (hw : ∀ a ∈ L, a.wide) : Calls Tryz.prog 48 #[fcV v ev k x0 y0 x1 y1] w (Ret (.bool (decide (mayP L B))) w) := by
  have HV := Lib.hid hv
  have HW := Lib.hid hw
  obtain ⟨hl, av, cap, rfl, hcap, -⟩ := hv
  obtain ⟨hl2, ev, ecap, rfl, -, -⟩ := he
  clear hw
  by_cases h3 : L.length < 3
  · have h3i : (L.length : Int) < 3 := by omega
    have hf : decide (mayP L B) = false := decide_eq_false fun q => by unfold mayP at q; omega
    rw [hf]
    clear hf
    go_enter Tryz.func48, Tryz.ntmps48
    go_wp2
    go_ret
    exact Ret.of' rfl (by exact bl_)
  have h3i : ¬ ((L.length : Int) < 3) := by omega
  by_cases hb : B.length = L.length
  case neg =>
    have hbi : ((B.length : Int) != (L.length : Int)) = true := by simp; omega
    have hf : decide (mayP L B) = false := decide_eq_false fun q => hb q.2.1
    rw [hf]
    clear hf hb
    go_enter Tryz.func48, Tryz.ntmps48
    go_wp2
    go_ret
    exact Ret.of' rfl (by exact bl_)
  have hbi : ((B.length : Int) != (L.length : Int)) = false := by simp; omega
  have HB := Lib.hid hb
  clear hb
  obtain ⟨Z, hZ⟩ : ∃ Z, decide (mayP L B) = Z := ⟨_, rfl⟩
  rw [hZ]
  have HZ := Lib.hid hZ
  clear hZ
  obtain ⟨nb, hnb⟩ : ∃ n, B.length = n := ⟨_, rfl⟩
  rw [hnb] at hbi HB hl2 ⊢
  go_enter Tryz.func48, Tryz.ntmps48
  go_upto_region 3 with fail
  refine wp_abs (F := fun w1 => Row w1 w.heap.size #[.slice av L.length cap, .slice ev nb ecap, .int .i64 k.width, .bool k.soft, .bool k.dashed, .int .i64 k.p, .int .i64 k.r, .int .i64 k.c, .int .i64 k.size, .int .i64 k.kind, .int .i64 k.front, .int .i64 k.back, .bool k.ccw, .int .i64 k.cull, .bool k.off, .int .i64 k.factor, .int .i64 k.units, .int .i64 x0, .int .i64 y0, .int .i64 x1, .int .i64 y1] 85 ∧ Recs wnK w1 (.slice av L.length cap) L ∧ ∃ X, w1 = w.ext X) ⟨by exact rx_, by first | exact (HV.out.alloc _) | exact ((HV.out.alloc _).drew), RowKit.Below.toExt (by exact bl_)⟩ ?_
  rintro w1 ⟨Rl, hv1, hX⟩
  have HX := Lib.hid hX
  have cl := Rl.cell
  have fl := Rl.frozen
  have ll := Rl.lt
  obtain ⟨-, av', cap', hq, -, hcl⟩ := hv1
  obtain ⟨rfl, rfl⟩ : av = av' ∧ cap = cap' := by simpa using hq
  rcases hcl with e | ⟨lb, lo, rfl, hlb, hcl⟩
  · rw [e] at h3; simp at h3
  have HCL := Lib.hid hcl
  clear hq hX hcl Rl
  go_wp2
  go_loopw [21] (fun i wr => ∃ (j : Nat), j ≤ L.length ∧ i = .int .i64 j ∧ Hid (∀ i f, i < j → L[i]? = some f → f.fitsP) ∧ ∃ X, wr = w1.ext X)
    (fun i _ => L.length - (intOf i).toNat)
  case atStart => exact ⟨0, by omega, rfl, Lib.hid (fun i f hi => by omega), _, (ext_none' _).symm⟩
  case round =>
    obtain ⟨j, hj, rfl, hF, X, rfl⟩ := hrel
    by_cases hlt : j < L.length
    · have HJ := Lib.hid (show j + 1 ≤ L.length from hlt)
      have hji : (j : Int) < L.length := by omega
      obtain ⟨a, ha⟩ : ∃ f, L[j]? = some f := ⟨_, List.getElem?_eq_getElem hlt⟩
      have hcl := HCL.out
      have pa0 : w1.cell? ⟨lb, lo + j * 7, none⟩ = some (.int .i64 a.x) := hcl j _ ha 0 _ rfl
      have pa1 : w1.cell? ⟨lb, lo + j * 7 + 1, none⟩ = some (.int .i64 a.y) := hcl j _ ha 1 _ rfl
      have pa2 : w1.cell? ⟨lb, lo + j * 7 + 2, none⟩ = some (.int .i64 a.z) := hcl j _ ha 2 _ rfl
      have pa3 : w1.cell? ⟨lb, lo + j * 7 + 3, none⟩ = some (.int .i64 a.c0) := hcl j _ ha 3 _ rfl
      have pa4 : w1.cell? ⟨lb, lo + j * 7 + 4, none⟩ = some (.int .i64 a.c1) := hcl j _ ha 4 _ rfl
      have pa5 : w1.cell? ⟨lb, lo + j * 7 + 5, none⟩ = some (.int .i64 a.c2) := hcl j _ ha 5 _ rfl
      have pa6 : w1.cell? ⟨lb, lo + j * 7 + 6, none⟩ = some (.int .i64 a.c3) := hcl j _ ha 6 _ rfl
      have D := fun w => dot_right1 a (HW.out a (List.mem_of_getElem? ha)) w
      have HA := Lib.hid ha
      clear hcl ha
      by_cases hf : a.fitsP
      · simp only [hf, decide_true] at D
        have HD := Lib.hid D
        have nxt := Lib.hid (take_fits hF.out HA.out hf)
        clear D hf hF HA
        go_wp2_with (first | (go_at_call 86; (with_reducible refine (HD.out _).mono ?_); rintro _ _ ⟨rfl, X_, rfl⟩))
        go_roundw
        case rel => exact ⟨j + 1, HJ.out, by go_num, nxt, RowKit.Below.toExt (by exact br_)⟩
        case measure => have := HJ.out; simp [intOf]; omega
      · simp only [hf, decide_false] at D
        have HD := Lib.hid D
        have hff : decide (mayP L B) = false := decide_eq_false fun q => hf (q.2.2 a (List.mem_of_getElem? HA.out))
        have e := HZ.out
        rw [hff] at e
        subst e
        clear D hf hF HA hff HZ
        go_wp2_with (first | (go_at_call 86; (with_reducible refine (HD.out _).mono ?_); rintro _ _ ⟨rfl, X_, rfl⟩))
        go_ret
        obtain ⟨X0, hX0⟩ := HX.out
        subst hX0
        exact Ret.of' rfl (by exact br_)
    · obtain rfl : j = L.length := by omega
      have ht : decide (mayP L B) = true := decide_eq_true ⟨by omega, by rw [hnb]; exact HB.out, all_fits hF.out⟩
      have e := HZ.out
      rw [ht] at e
      subst e
      clear ht HZ
      go_wp2
      go_ret
      obtain ⟨X0, hX0⟩ := HX.out
      subst hX0
      exact Ret.of' rfl (by exact br_)
end Go.Proofs.YtbkmgngeahmefaaGreat
end
