/- The walk of store.Copy: an image's own copy. Condition: the image may be. -/
import Derived.Test.YthcjfanigfgckaaPImg
import Derived.Test.YthcjfanigfgckaaPStoreA
import Derived.Laws.CopyOwn
namespace Go.Proofs.Ythcjfanigfgckaa
set_option linter.unusedVariables false
set_option linter.unusedSimpArgs false
set_option maxRecDepth 10000
open Go.RowKit
/-- A whole row is copied over. -/
theorem wpList_copy_all {w : World} {ops : Array Oper} {rest : List Oper} {o : Oper} {a : Act} {Q : Exit → Act → World → Prop} (hgd : o.guard = none) (d s : Operand) (dT sT : TypeId)
    (ho : o.op = .call { callee := .builtin .copy, args := #[d, s], argTypes := #[dT, sT] }) (elem : TypeId) (hu : Try.prog.underlying dT = some (.slice elem)) (hsz : (Try.prog.info? elem).map (·.size) = some 1)
    (g n : Nat) (sv : Value) (xs cur : List Int) (T : TypeId) (hd : a.eval d = .slice (some ⟨g, 0, none⟩) n n) (hs : a.eval s = sv) (hg : Row w g (ints cur) T) (hc : cur.length = n) (hx : xs.length = n) (hn : 1 ≤ n) (hr : Rd w sv xs)
    (h : ∀ w', Row w' g (ints xs) T → Chg (fun j => j = g) w w' → wpList Try.prog ops Q rest (a.put o.dst (goInt n)) w') : wpList Try.prog ops Q (o :: rest) a w := by
  obtain ⟨b, off, cap, rfl, hb, hcell⟩ := rd_some hr (by omega)
  have key := wpList_copy_own (P := Try.prog) (w := w) (ops := ops) (rest := rest) (o := o) (a := a) (Q := Q) hgd d s dT sT ho elem hu hsz g 0 n n ⟨b, off, none⟩ xs.length cap hd hs (ints cur) T hg (xs.map (Value.int .i64)) (by simp [hx]) (fun j v hj => by
    have hl : j < xs.length := by have := (List.getElem?_eq_some_iff.1 hj).1; simpa using this
    rw [addr_add, hcell j hl]
    simp [hl] at hj; rw [← hj]; simp [elt, hl]) (by simp [hx, hc]) (fun v hv => by obtain ⟨x, -, rfl⟩ := List.mem_map.1 hv; rfl)
  refine key ?_
  have e : ((ints cur).toList.take 0 ++ (xs.map (Value.int .i64) ++ (ints cur).toList.drop (0 + (xs.map (Value.int .i64)).length))).toArray = ints xs := by
    have : (ints cur).toList.drop (0 + (xs.map (Value.int .i64)).length) = [] := by
      apply List.drop_eq_nil_of_le
      simp [ints, hc, hx]
    rw [this]; simp [ints]
  rw [e, show (xs.map (Value.int .i64)).length = n by simp [hx]]
  refine h _ (setRow_heap w g (ints cur) _ T (0, 0) hg) ⟨rfl, rfl, rfl, by simp, fun k _ hk => setRow_other w g k _ hk⟩
theorem arr_of_row {w : World} {g cap : Nat} {xs : List Int} (h : Row w g (ints xs) 3) (hc : xs.length ≤ cap) : Arr w g cap xs :=
  ⟨hc, ints xs, h, fun i hi => by rw [ints_at]; simp [hi, elt]⟩
theorem lays3_ne {w wx : World} {W H : Int} {pm pc pz n : Nat} (r1 : Row wx pm #[.int .i64 W, .int .i64 H, NSl pc n, NSl pz n] 24) (r2 : Row wx pc (ints (List.replicate n 0)) 3) : pm ≠ pc := by
  intro e
  rw [e] at r1
  have h := Option.some.inj (r1.symm.trans r2)
  injection h with _ h2 _
  exact absurd h2 (by decide)
set_option maxHeartbeats 8000000 in
theorem copy_is (W H : Int) (c z : Value) (C Z : List Int) (w : World) (hc : Rd w c C) (hz : Rd w z Z) (h : ImOk W H C Z) :
    Calls Try.prog 9 #[Im W H c z] w (Copies W H C Z w) := by
  obtain ⟨n0, n1⟩ := h.bd
  have e := h.same
  obtain ⟨n, hn⟩ : ∃ n, C.length = n := ⟨_, rfl⟩
  obtain ⟨b, off, cap, rfl, hb, hcell⟩ := rd_some hc n0
  obtain ⟨b', off', cap', rfl, hb', hcell'⟩ := rd_some hz (by omega)
  rw [e, hn]
  rw [hn] at hc n0 n1
  rw [e, hn] at hz
  have HC := Lib.hid hc
  have HZ := Lib.hid hz
  have LC := Lib.hid hn
  have LZ : Lib.hid (e.trans hn) = Lib.hid (e.trans hn) := rfl
  have EZ := Lib.hid (e.trans hn)
  have hmk := run_make_row' (P := Try.prog) 22 3 (.int .i64 0) 8 Try.underlying22 info_int rfl .i64 .i64 n (by omega) (by omega)
  clear hc hz hcell hcell' e hn h LZ
  go_enter Try.func9, Try.ntmps9
  go_upto_region 1 with fail
  go_cut [3] (fun v wx => Lays3 ((w.alloc (.cells #[.int .i64 W, .int .i64 H, .slice (some ⟨b, off, none⟩) n cap, .slice (some ⟨b', off', none⟩) n cap'] 24)).alloc (.cells #[.int .i64 0, .int .i64 0, .slice none 0 0, .slice none 0 0] 24)) W H n v wx)
  case first =>
    go_region_held3 (fun w' => w'.cell? ⟨w.heap.size, 0, none⟩ = some (.int .i64 W) ∧ w'.cell? ⟨w.heap.size, 1, none⟩ = some (.int .i64 H) ∧ w'.cell? ⟨w.heap.size, 2, none⟩ = some (.slice (some ⟨b, off, none⟩) n cap) ∧ w'.cell? ⟨w.heap.size, 3, none⟩ = some (.slice (some ⟨b', off', none⟩) n cap')) (go_simp) ((fail))
    all_goals (go_wp2_with fail; go_meet)
    all_goals (first
      | ((with_reducible refine lays3_mk (w.heap.size + 1 + 1) (w.heap.size + 1 + 1 + 1) (w.heap.size + 1 + 1 + 1 + 1) ?_ ?_ ?_ ?_ ?_ ?_ ?_ ?_ ?_); all_goals first | (simp; done) | omega | (simp only [World.hp_alloc, World.hp_drew, Array.getElem?_push, Array.size_push, NSl]; simp; done) | ((repeat (first | exact Below.refl _ _ | with_reducible refine Below.drew ?_ | with_reducible refine Below.ext ?_ (by first | exact Nat.le_refl _ | (simp; done) | (simp; omega)) _ | with_reducible refine Below.alloc ?_ (by first | exact Nat.le_refl _ | (simp; done) | (simp; omega)) _ | with_reducible refine Below.setCell ?_ (by first | exact Nat.le_refl _ | (simp; done) | (simp; omega)) _)); done))
      | ((with_reducible refine lays3_mk (w.heap.size + 1 + 1) (w.heap.size + 1 + 1 + 1 + 1) (w.heap.size + 1 + 1 + 1) ?_ ?_ ?_ ?_ ?_ ?_ ?_ ?_ ?_); all_goals first | (simp; done) | omega | (simp only [World.hp_alloc, World.hp_drew, Array.getElem?_push, Array.size_push, NSl]; simp; done) | ((repeat (first | exact Below.refl _ _ | with_reducible refine Below.drew ?_ | with_reducible refine Below.ext ?_ (by first | exact Nat.le_refl _ | (simp; done) | (simp; omega)) _ | with_reducible refine Below.alloc ?_ (by first | exact Nat.le_refl _ | (simp; done) | (simp; omega)) _ | with_reducible refine Below.setCell ?_ (by first | exact Nat.le_refl _ | (simp; done) | (simp; omega)) _)); done))
      | ((with_reducible refine lays3_mk (w.heap.size + 1 + 1 + 1) (w.heap.size + 1 + 1) (w.heap.size + 1 + 1 + 1 + 1) ?_ ?_ ?_ ?_ ?_ ?_ ?_ ?_ ?_); all_goals first | (simp; done) | omega | (simp only [World.hp_alloc, World.hp_drew, Array.getElem?_push, Array.size_push, NSl]; simp; done) | ((repeat (first | exact Below.refl _ _ | with_reducible refine Below.drew ?_ | with_reducible refine Below.ext ?_ (by first | exact Nat.le_refl _ | (simp; done) | (simp; omega)) _ | with_reducible refine Below.alloc ?_ (by first | exact Nat.le_refl _ | (simp; done) | (simp; omega)) _ | with_reducible refine Below.setCell ?_ (by first | exact Nat.le_refl _ | (simp; done) | (simp; omega)) _)); done))
      | ((with_reducible refine lays3_mk (w.heap.size + 1 + 1 + 1) (w.heap.size + 1 + 1 + 1 + 1) (w.heap.size + 1 + 1) ?_ ?_ ?_ ?_ ?_ ?_ ?_ ?_ ?_); all_goals first | (simp; done) | omega | (simp only [World.hp_alloc, World.hp_drew, Array.getElem?_push, Array.size_push, NSl]; simp; done) | ((repeat (first | exact Below.refl _ _ | with_reducible refine Below.drew ?_ | with_reducible refine Below.ext ?_ (by first | exact Nat.le_refl _ | (simp; done) | (simp; omega)) _ | with_reducible refine Below.alloc ?_ (by first | exact Nat.le_refl _ | (simp; done) | (simp; omega)) _ | with_reducible refine Below.setCell ?_ (by first | exact Nat.le_refl _ | (simp; done) | (simp; omega)) _)); done))
      | ((with_reducible refine lays3_mk (w.heap.size + 1 + 1 + 1 + 1) (w.heap.size + 1 + 1) (w.heap.size + 1 + 1 + 1) ?_ ?_ ?_ ?_ ?_ ?_ ?_ ?_ ?_); all_goals first | (simp; done) | omega | (simp only [World.hp_alloc, World.hp_drew, Array.getElem?_push, Array.size_push, NSl]; simp; done) | ((repeat (first | exact Below.refl _ _ | with_reducible refine Below.drew ?_ | with_reducible refine Below.ext ?_ (by first | exact Nat.le_refl _ | (simp; done) | (simp; omega)) _ | with_reducible refine Below.alloc ?_ (by first | exact Nat.le_refl _ | (simp; done) | (simp; omega)) _ | with_reducible refine Below.setCell ?_ (by first | exact Nat.le_refl _ | (simp; done) | (simp; omega)) _)); done))
      | ((with_reducible refine lays3_mk (w.heap.size + 1 + 1 + 1 + 1) (w.heap.size + 1 + 1 + 1) (w.heap.size + 1 + 1) ?_ ?_ ?_ ?_ ?_ ?_ ?_ ?_ ?_); all_goals first | (simp; done) | omega | (simp only [World.hp_alloc, World.hp_drew, Array.getElem?_push, Array.size_push, NSl]; simp; done) | ((repeat (first | exact Below.refl _ _ | with_reducible refine Below.drew ?_ | with_reducible refine Below.ext ?_ (by first | exact Nat.le_refl _ | (simp; done) | (simp; omega)) _ | with_reducible refine Below.alloc ?_ (by first | exact Nat.le_refl _ | (simp; done) | (simp; omega)) _ | with_reducible refine Below.setCell ?_ (by first | exact Nat.le_refl _ | (simp; done) | (simp; omega)) _)); done)))
  case rest =>
    obtain ⟨pm, pc, pz, rfl, hX, gm, gc, gz, n1', n2', rm, rc, rz⟩ := hcut
    obtain ⟨w1, rfl⟩ : ∃ w1, w1 = wc := ⟨_, rfl⟩
    have n3 : pm ≠ pc := lays3_ne (w := w) rm rc
    simp at gm gc gz
    have HX := Lib.hid hX
    have R0 : Row w1 w.heap.size #[.int .i64 W, .int .i64 H, .slice (some ⟨b, off, none⟩) n cap, .slice (some ⟨b', off', none⟩) n cap'] 24 := by obtain ⟨X, e⟩ := hX; rw [e]; (repeat (first | assumption | with_reducible refine Row.ext ?_ _ | with_reducible refine row_drew ?_ | (with_reducible refine row_last ?_; first | rfl | (simp; done)) | with_reducible refine Row.alloc ?_ _))
    have Ro : Row w1 (w.heap.size + 1) #[.int .i64 0, .int .i64 0, .slice none 0 0, .slice none 0 0] 24 := by obtain ⟨X, e⟩ := hX; rw [e]; (repeat (first | assumption | with_reducible refine Row.ext ?_ _ | with_reducible refine row_drew ?_ | (with_reducible refine row_last ?_; first | rfl | (simp; done)) | with_reducible refine Row.alloc ?_ _))
    have HC1 := Lib.hid (show Rd w1 (.slice (some ⟨b, off, none⟩) n cap) C by obtain ⟨X, e⟩ := hX; rw [e]; exact ((HC.out.alloc _).alloc _).ext X)
    have HZ1 := Lib.hid (show Rd w1 (.slice (some ⟨b', off', none⟩) n cap') Z by obtain ⟨X, e⟩ := hX; rw [e]; exact ((HZ.out.alloc _).alloc _).ext X)
    have BL := Lib.hid (show RowKit.Below w.heap.size w w1 by obtain ⟨X, e⟩ := hX; rw [e]; (repeat (first | exact Below.refl _ _ | with_reducible refine Below.drew ?_ | with_reducible refine Below.ext ?_ (by first | exact Nat.le_refl _ | (simp; done) | (simp; omega)) _ | with_reducible refine Below.alloc ?_ (by first | exact Nat.le_refl _ | (simp; done) | (simp; omega)) _ | with_reducible refine Below.setCell ?_ (by first | exact Nat.le_refl _ | (simp; done) | (simp; omega)) _)))
    clear hX
    have HR0 := Lib.hid R0
    have HRo := Lib.hid Ro
    have HRm := Lib.hid rm
    have HRc := Lib.hid rc
    have HRz := Lib.hid rz
    have c0 := R0.cell
    have l0 := R0.lt
    have cm := rm.cell
    have lm := rm.lt
    clear R0 Ro rm rc rz
    go_upto_region 3 with (first | (refine wpList_copy_all rfl _ _ _ _ rfl 3 Try.underlying22 (by kernel_rfl) pc n _ C (List.replicate n 0) 3 rfl rfl HRc.out (by simp) LC.out n0 HC1.out ?_; intro w2 rc2 CH))
    have R0 := CH.row HR0.out (show ¬ w.heap.size = pc by omega)
    have Ro := CH.row HRo.out (show ¬ w.heap.size + 1 = pc by omega)
    have rm := CH.row HRm.out n3
    have rz := CH.row HRz.out (Ne.symm n1')
    have HZ2 := Lib.hid (CH.rd HZ1.out (fun bb e _ => by simp [Value.ownBlock] at e; show ¬ bb = pc; omega))
    have BL2 := Lib.hid (BL.out.trans (CH.below (B := w.heap.size) (fun k hk e => by have e' : k = pc := e; omega) BL.out.size))
    have HR0 := Lib.hid R0
    have HRo := Lib.hid Ro
    have HRm := Lib.hid rm
    have HRc := Lib.hid rc2
    have HRz := Lib.hid rz
    clear c0 l0 cm lm
    have c0 := R0.cell
    have l0 := R0.lt
    have cm := rm.cell
    have lm := rm.lt
    clear R0 Ro rm rc2 rz CH
    go_upto_region 4 with (first | (refine wpList_copy_all rfl _ _ _ _ rfl 3 Try.underlying22 (by kernel_rfl) pz n _ Z (List.replicate n 0) 3 rfl rfl HRz.out (by simp) EZ.out n0 HZ2.out ?_; intro w3 rz3 CH))
    have Ro := CH.row HRo.out (show ¬ w.heap.size + 1 = pz by omega)
    have rm := CH.row HRm.out n2'
    unfold NSl at rm
    have rc := CH.row HRc.out n1'
    have BL3 := Lib.hid (BL2.out.trans (CH.below (B := w.heap.size) (fun k hk e => by have e' : k = pz := e; omega) BL2.out.size))
    have HRc := Lib.hid rc
    have HRz := Lib.hid rz3
    clear c0 l0 cm lm CH
    have cm := rm.cell
    have lm := rm.lt
    have co := Ro.cell
    have fo := Ro.frozen
    have lo := Ro.lt
    have HRo := Lib.hid Ro
    clear Ro rm rc rz3
    go_wp2
    have CH : Chg (fun b => b = w.heap.size + 1) w3 ((((w3.setCell ⟨w.heap.size + 1, 0, none⟩ (.int .i64 W)).setCell ⟨w.heap.size + 1, 1, none⟩ (.int .i64 H)).setCell ⟨w.heap.size + 1, 2, none⟩ (sl pc n n)).setCell ⟨w.heap.size + 1, 3, none⟩ (sl pz n n)) := (((Chg.one _ _ _ _).setCell (fun _ => rfl) _).setCell (fun _ => rfl) _).setCell (fun _ => rfl) _
    have RF : Row ((((w3.setCell ⟨w.heap.size + 1, 0, none⟩ (.int .i64 W)).setCell ⟨w.heap.size + 1, 1, none⟩ (.int .i64 H)).setCell ⟨w.heap.size + 1, 2, none⟩ (sl pc n n)).setCell ⟨w.heap.size + 1, 3, none⟩ (sl pz n n)) (w.heap.size + 1) #[.int .i64 W, .int .i64 H, sl pc n n, sl pz n n] 24 := by simpa using ((((HRo.out.set 0 (.int .i64 W)).set 1 (.int .i64 H)).set 2 (sl pc n n)).set 3 (sl pz n n))
    have XF : ∃ X, ((((w3.setCell ⟨w.heap.size + 1, 0, none⟩ (.int .i64 W)).setCell ⟨w.heap.size + 1, 1, none⟩ (.int .i64 H)).setCell ⟨w.heap.size + 1, 2, none⟩ (sl pc n n)).setCell ⟨w.heap.size + 1, 3, none⟩ (sl pz n n)) = w.ext X := (BL3.out.trans (CH.below (B := w.heap.size) (fun k hk e => by have e' : k = w.heap.size + 1 := e; omega) BL3.out.size)).toExt
    generalize ((((w3.setCell ⟨w.heap.size + 1, 0, none⟩ (.int .i64 W)).setCell ⟨w.heap.size + 1, 1, none⟩ (.int .i64 H)).setCell ⟨w.heap.size + 1, 2, none⟩ (sl pc n n)).setCell ⟨w.heap.size + 1, 3, none⟩ (sl pz n n)) = wf at CH RF XF ⊢
    have q0 := RF.cell 0
    have q1 := RF.cell 1
    have q2 := RF.cell 2
    have q3 := RF.cell 3
    simp at q0 q1 q2 q3
    refine bodyPost_ret (v := Im W H (sl pc n n) (sl pz n n)) (by simp [results, Try.results9, go_sem, q0, q1, q2, q3]) rfl ?_
    have A1 := arr_of_row (cap := n) (CH.row HRc.out (show ¬ pc = w.heap.size + 1 by omega)) (by rw [LC.out]; omega)
    have A2 := arr_of_row (cap := n) (CH.row HRz.out (show ¬ pz = w.heap.size + 1 by omega)) (by rw [EZ.out]; omega)
    exact ⟨pc, n, pz, n, by rw [LC.out], XF, A1, A2, by omega, by omega, n1'⟩
end Go.Proofs.Ythcjfanigfgckaa
