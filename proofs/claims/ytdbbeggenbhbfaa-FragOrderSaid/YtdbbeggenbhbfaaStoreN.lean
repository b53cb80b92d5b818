/- The walk of layer 23 (store): the reference's copy of an image. Conditions: its slices' cells, told for all grown worlds. -/
import Derived.Test.YtdbbeggenbhbfaaStoreM
import Derived.Test.YtdbbeggenbhbfaaStoreJ
import Derived.Deep.RegionLaw
import Derived.Deep.RegionLawGrows
namespace Go.Proofs.Ytdbbeggenbhbfaa
set_option linter.unusedVariables false
set_option linter.unusedSimpArgs false
open Go.RowKit
theorem row_grown {w w' : World} {p : Nat} {c : Array Value} {T : TypeId} (h : Row w p c T) (hg : w.grownBy w' none) : Row w' p c T := by
  unfold Row; rw [hg.block p h.lt (by simp)]; exact h
theorem row_drew {w : World} {p : Nat} {c : Array Value} {T : TypeId} (h : Row w p c T) : Row w.drew p c T := h
theorem row_last {w : World} {c : Array Value} {T : TypeId} {n : Nat} (h : w.heap.size = n) : Row (w.alloc (.cells c T)) n c T := by
  subst h; unfold Row; rw [World.hp_alloc, Array.getElem?_push, if_pos rfl]
/-- What the reference's copying lays. -/
def Laid (w : World) (W H : Int) (n : Nat) (nc nz : List Value) (wx : World) : Prop :=
  ∃ g1 k1 g2 k2 : Nat, Below w.heap.size w wx ∧ Row wx w.heap.size #[.int .i64 W, .int .i64 H, sl g1 n k1, sl g2 n k2] 39 ∧ Row wx (w.heap.size + 1) #[.int .i64 0, .int .i64 0, .slice none 0 0, .slice none 0 0] 39 ∧
    wx.ownsRow (w.heap.size + 2) 3 1 (sl g1 n k1) n nc ∧ wx.ownsRow (w.heap.size + 2) 3 1 (sl g2 n k2) n nz ∧ g1 ≠ g2
theorem owns_rebase {w : World} {q q' g n k : Nat} {e : TypeId} {xs : List Value} (h : w.ownsRow q e 1 (sl g n k) n xs) (hq : q' ≤ g) : w.ownsRow q' e 1 (sl g n k) n xs := by
  obtain ⟨h1, h2⟩ := h
  refine ⟨h1, ?_⟩
  rcases h2 with ⟨h2, h3⟩ | ⟨g', c', cur, e', h4, h5⟩
  · cases h2
  · obtain ⟨rfl, rfl⟩ : g = g' ∧ k = c' := by simpa using e'
    exact .inr ⟨g, k, cur, rfl, hq, h5⟩
theorem laid_mk {w w2 : World} {W H : Int} {n q1 q2 g1 k1 g2 k2 : Nat} {nc nz : List Value} {c z : Value} (B2 : Below w.heap.size w w2) (R2 : Row w2 w.heap.size #[.int .i64 W, .int .i64 H, c, z] 39) (S2 : Row w2 (w.heap.size + 1) #[.int .i64 0, .int .i64 0, .slice none 0 0, .slice none 0 0] 39)
    (O1 : w2.ownsRow q1 3 1 (sl g1 (0 + n) k1) (0 + n) ([] ++ nc)) (O2 : w2.ownsRow q2 3 1 (sl g2 (0 + n) k2) (0 + n) ([] ++ nz)) (b1 : w.heap.size + 2 ≤ g1) (b2 : w.heap.size + 2 ≤ g2) (ne : g1 ≠ g2) :
    Laid w W H n nc nz ((w2.setCell ⟨w.heap.size, 2, none⟩ (sl g1 n k1)).setCell ⟨w.heap.size, 3, none⟩ (sl g2 n k2)) := by
  rw [Nat.zero_add, List.nil_append] at O1 O2
  have P1 := owns_rebase (q' := w.heap.size + 2) O1 b1
  have P2 := owns_rebase (q' := w.heap.size + 2) O2 b2
  have kp : ∀ (w' : World) (k : Nat) (v : Value) (g kk : Nat) (xs : List Value), w.heap.size + 2 ≤ g → w'.ownsRow (w.heap.size + 2) 3 1 (sl g n kk) n xs → (w'.setCell ⟨w.heap.size, k, none⟩ v).ownsRow (w.heap.size + 2) 3 1 (sl g n kk) n xs := fun w' k v g kk xs hg h =>
    h.kept (grown_set _ _ _ _) (.inr (by simp [Value.ownBlock]; omega))
  refine ⟨g1, k1, g2, k2, (B2.setCell (Nat.le_refl _) _).setCell (Nat.le_refl _) _, ?_, (S2.other (by omega) _ _).other (by omega) _ _, kp _ _ _ _ _ _ b1 (kp _ _ _ _ _ _ b1 P1), kp _ _ _ _ _ _ b2 (kp _ _ _ _ _ _ b2 P2), ne⟩
  have := (R2.set 2 (sl g1 n k1)).set 3 (sl g2 n k2)
  simpa using this
/-- A copy is returned, of its own. -/
def Copied (W H : Int) (n : Nat) (nc nz : List Value) (w : World) (e : Ending) (w' : World) : Prop :=
  ∃ g1 k1 g2 k2 : Nat, e = .returned (Im W H (sl g1 n k1) (sl g2 n k2)) ∧ (∃ X, w' = w.ext X) ∧ w'.ownsRow (w.heap.size + 2) 3 1 (sl g1 n k1) n nc ∧ w'.ownsRow (w.heap.size + 2) 3 1 (sl g2 n k2) n nz ∧ g1 ≠ g2
set_option maxHeartbeats 4000000 in
theorem rcopy_any (W H : Int) (b off cap b' off' cap' n : Nat) (nc nz : List Value) (w : World) (n0 : 1 ≤ n) (n1 : n ≤ 1048576) (hb : b < w.heap.size) (hb' : b' < w.heap.size)
    (hl : nc.length = n * 1) (hl' : nz.length = n * 1) (ho : ∀ u ∈ nc, u.oneCell' = true) (ho' : ∀ u ∈ nz, u.oneCell' = true)
    (HC : ∀ W, Below w.heap.size w W → ∀ j u, nc[j]? = some u → W.cell? ((⟨b, off, none⟩ : Addr).add j) = some u)
    (HZ : ∀ W, Below w.heap.size w W → ∀ j u, nz[j]? = some u → W.cell? ((⟨b', off', none⟩ : Addr).add j) = some u) :
    Calls Try.prog 39 #[Im W H (.slice (some ⟨b, off, none⟩) n cap) (.slice (some ⟨b', off', none⟩) n cap')] w (Copied W H n nc nz w) := by
  obtain ⟨i0, hi, hz0, hz1, hz2⟩ := info_parts info_int
  have K1 := Lib.hid HC
  have K2 := Lib.hid HZ
  have hn1 : n ≤ maxLen := by unfold maxLen; omega
  clear HC HZ
  go_enter Try.func39, Try.ntmps39
  go_upto_region 1 with fail
  go_cut [] (fun wx => Laid w W H n nc nz wx)
  case first =>
    go_region_law (first
      | (refine step_append_grows rfl (.tmp 3) (.tmp 5) 37 rfl 3 i0 (.int .i64 0) 1 8 Try.underlying37 hi hz0 hz1 hz2 rfl (by decide) _ 0 0 [] rfl ?_ rfl ?_ ⟨b, off, none⟩ n cap nc rfl hl ?_ ho (by omega) (by omega) (by omega) ?_
         · intro h; cases h
         · intro _ _ j u h; simp at h
         · exact K1.out _ (by (repeat (first | exact Below.refl _ _ | with_reducible refine Below.drew ?_ | with_reducible refine Below.ext ?_ (by first | exact Nat.le_refl _ | (simp; done) | (simp; omega)) _ | with_reducible refine Below.alloc ?_ (by first | exact Nat.le_refl _ | (simp; done) | (simp; omega)) _ | with_reducible refine Below.setCell ?_ (by first | exact Nat.le_refl _ | (simp; done) | (simp; omega)) _)))
         intro v1 w1 hown1 hgrow1
         have B1 : Below w.heap.size w w1 := Below.grown (w := _) (by (repeat (first | exact Below.refl _ _ | with_reducible refine Below.drew ?_ | with_reducible refine Below.ext ?_ (by first | exact Nat.le_refl _ | (simp; done) | (simp; omega)) _ | with_reducible refine Below.alloc ?_ (by first | exact Nat.le_refl _ | (simp; done) | (simp; omega)) _ | with_reducible refine Below.setCell ?_ (by first | exact Nat.le_refl _ | (simp; done) | (simp; omega)) _))) hgrow1 (by simp; omega) (by simp)
         have R1 : Row w1 w.heap.size #[.int .i64 W, .int .i64 H, .slice (some ⟨b, off, none⟩) n cap, .slice (some ⟨b', off', none⟩) n cap'] 39 := row_grown (by (repeat (first | assumption | with_reducible refine row_drew ?_ | (with_reducible refine row_last ?_; simp; done) | with_reducible refine Row.alloc ?_ _))) hgrow1
         have S1 : Row w1 (w.heap.size + 1) #[.int .i64 0, .int .i64 0, .slice none 0 0, .slice none 0 0] 39 := row_grown (by (repeat (first | assumption | with_reducible refine row_drew ?_ | (with_reducible refine row_last ?_; simp; done) | with_reducible refine Row.alloc ?_ _))) hgrow1
         have z1 := hgrow1.size
         obtain ⟨g1, k1, rfl, hg1, hg1'⟩ := hown1.form (by omega)
         have y1 : w.heap.size < w1.heap.size := R1.lt
         have y1' : w.heap.size ≤ w1.heap.size := by omega
         have e13 := R1.cell 3
         simp at e13 z1 hg1
         clear hgrow1)
      | (refine step_append_grows rfl (.tmp 7) (.tmp 9) 37 rfl 3 i0 (.int .i64 0) 1 8 Try.underlying37 hi hz0 hz1 hz2 rfl (by decide) _ 0 0 [] rfl ?_ rfl ?_ ⟨b', off', none⟩ n cap' nz rfl hl' ?_ ho' (by omega) (by omega) (by omega) ?_
         · intro h; cases h
         · intro _ _ j u h; simp at h
         · exact K2.out _ (by (repeat (first | assumption | with_reducible refine Below.drew ?_ | with_reducible refine Below.alloc ?_ (by first | omega | (simp; omega)) _)))
         intro v2 w2 hown2 hgrow2
         have b1s := B1.size
         have B2 : Below w.heap.size w w2 := Below.grown (w := _) (by (repeat (first | assumption | with_reducible refine Below.drew ?_ | with_reducible refine Below.alloc ?_ (by first | omega | (simp; omega)) _))) hgrow2 (by first | omega | (simp; omega)) (by simp)
         have R2 : Row w2 w.heap.size #[.int .i64 W, .int .i64 H, .slice (some ⟨b, off, none⟩) n cap, .slice (some ⟨b', off', none⟩) n cap'] 39 := row_grown (by (repeat (first | assumption | with_reducible refine row_drew ?_ | (with_reducible refine row_last ?_; simp; done) | with_reducible refine Row.alloc ?_ _))) hgrow2
         have S2 : Row w2 (w.heap.size + 1) #[.int .i64 0, .int .i64 0, .slice none 0 0, .slice none 0 0] 39 := row_grown (by (repeat (first | assumption | with_reducible refine row_drew ?_ | (with_reducible refine row_last ?_; simp; done) | with_reducible refine Row.alloc ?_ _))) hgrow2
         obtain ⟨q1, O1⟩ : ∃ q, w2.ownsRow q 3 1 (.slice (some ⟨g1, 0, none⟩) (0 + n) k1) (0 + n) ([] ++ nc) := ⟨_, by first | exact hown1.kept hgrow2 (.inr (by simp [Value.ownBlock])) | exact (hown1.alloc _).kept hgrow2 (.inr (by simp [Value.ownBlock]))⟩
         have z2 := hgrow2.size
         obtain ⟨g2, k2, rfl, hg2, hg2'⟩ := hown2.form (by omega)
         have f22 := R2.frozen 2
         have f23 := R2.frozen 3
         have e22 := R2.cell 2
         have e23 := R2.cell 3
         simp at e22 e23 z2 hg2
         clear hgrow2))
    all_goals (go_wp2_with fail; go_meet)
    all_goals (with_reducible refine laid_mk B2 R2 S2 O1 hown2 ?_ ?_ ?_)
    all_goals omega
  case rest =>
    obtain ⟨g1, k1, g2, k2, B, R, S, O1, O2, ne⟩ := hcut
    have c0 := R.cell 0
    have c1 := R.cell 1
    have c2 := R.cell 2
    have c3 := R.cell 3
    have s0 := S.cell 0
    have s1 := S.cell 1
    have s2 := S.cell 2
    have s3 := S.cell 3
    have t0 := S.frozen 0
    have t1 := S.frozen 1
    have t2 := S.frozen 2
    have t3 := S.frozen 3
    simp at c0 c1 c2 c3 s0 s1 s2 s3
    have S4 := (((S.set 0 (.int .i64 W)).set 1 (.int .i64 H)).set 2 (sl g1 n k1)).set 3 (sl g2 n k2)
    simp at S4
    have r0 := S4.cell 0
    have r1 := S4.cell 1
    have r2 := S4.cell 2
    have r3 := S4.cell 3
    simp at r0 r1 r2 r3
    have kp : ∀ (w' : World) (k : Nat) (v : Value) (g kk : Nat) (xs : List Value), w'.ownsRow (w.heap.size + 2) 3 1 (sl g n kk) n xs → (w'.setCell ⟨w.heap.size + 1, k, none⟩ v).ownsRow (w.heap.size + 2) 3 1 (sl g n kk) n xs := fun w' k v g kk xs h =>
      h.kept (grown_set _ _ _ _) (.inr fun e => by have := (h.lt _ e).1; omega)
    have P1 := kp _ 3 (sl g2 n k2) _ _ _ (kp _ 2 (sl g1 n k1) _ _ _ (kp _ 1 (.int .i64 H) _ _ _ (kp _ 0 (.int .i64 W) _ _ _ O1)))
    have P2 := kp _ 3 (sl g2 n k2) _ _ _ (kp _ 2 (sl g1 n k1) _ _ _ (kp _ 1 (.int .i64 H) _ _ _ (kp _ 0 (.int .i64 W) _ _ _ O2)))
    have BB := (((B.setCell (p := ⟨w.heap.size + 1, 0, none⟩) (by simp) (.int .i64 W)).setCell (p := ⟨w.heap.size + 1, 1, none⟩) (by simp) (.int .i64 H)).setCell (p := ⟨w.heap.size + 1, 2, none⟩) (by simp) (sl g1 n k1)).setCell (p := ⟨w.heap.size + 1, 3, none⟩) (by simp) (sl g2 n k2)
    clear O1 O2 kp
    go_wp2
    refine bodyPost_ret (v := Im W H (sl g1 n k1) (sl g2 n k2)) (by simp [results, Try.results39, go_sem, r0, r1, r2, r3]) rfl ?_
    exact ⟨g1, k1, g2, k2, rfl, BB.toExt, P1, P2, ne⟩
end Go.Proofs.Ytdbbeggenbhbfaa
