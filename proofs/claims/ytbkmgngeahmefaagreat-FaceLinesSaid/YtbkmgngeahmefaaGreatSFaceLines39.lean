/- Parts of the proof of FaceLines, laid together. Conditions: at each. -/
import Derived.Test.YtbkmgngeahmefaaGreatSFaceLines05
import Derived.Test.YtbkmgngeahmefaaGreatSFaceLines38
set_option linter.unusedVariables false
set_option linter.unusedSimpArgs false
section
namespace Go.Proofs.YtbkmgngeahmefaaGreat
open Go.RowKit
def cntL (F : Nat → Nat) (m : Nat) : Array Value := ((List.range m).map (fun j => Value.int .i64 (F j : Int))).toArray
theorem cntL_get (F : Nat → Nat) (m j : Nat) (h : j < m) : (cntL F m)[j]? = some (.int .i64 (F j : Int)) := by
  unfold cntL; simp [h]
theorem cntL_set (F : Nat → Nat) (m j : Nat) (h : j < m) (v : Nat) : (cntL F m).setIfInBounds j (.int .i64 (v : Int)) = cntL (fun i => if i = j then v else F i) m := by
  apply Array.ext
  · simp [cntL]
  · intro i h1 h2
    have hi : i < m := by simpa [cntL] using h2
    simp only [cntL, List.setIfInBounds_toArray, List.getElem_toArray, List.getElem_set, List.getElem_map, List.getElem_range]
    by_cases e : i = j
    · subst e; simp
    · rw [if_neg (fun k => e k.symm), if_neg e]
theorem cntL_congr {F G : Nat → Nat} {m : Nat} (h : ∀ j, j < m → F j = G j) : cntL F m = cntL G m := by
  unfold cntL
  congr 1
  refine List.map_congr_left fun j hj => ?_
  rw [h j (List.mem_range.1 hj)]
structure Cn (w wr : World) (g : Nat) (s arr : Array Value) : Prop where
  st : Row wr w.heap.size s 143
  ct : Row wr g arr 3
  lt : g < w.heap.size
  chg : Chg (fun j => j = g) w wr
theorem Cn.grow {w wr : World} {g : Nat} {s arr : Array Value} (h : Cn w wr g s arr) (X : Xt) : Cn w (wr.ext X) g s arr := ⟨h.st.ext X, h.ct.ext X, h.lt, h.chg.ext X⟩
theorem Cn.put {w wr : World} {g : Nat} {s arr : Array Value} (h : Cn w wr g s arr) (k : Nat) (v : Value) : Cn w (wr.setCell ⟨g, k, none⟩ v) g s (arr.setIfInBounds k v) :=
  ⟨h.st.other (by have := h.lt; omega) k v, h.ct.set k v, h.lt, h.chg.setCell (fun _ => rfl) v⟩
def Counted (w : World) (g : Nat) (arr : Array Value) (e : Ending) (w' : World) : Prop := e = .returned (.tuple #[]) ∧ Row w' g arr 3 ∧ Chg (fun j => j = g) w w'
def cntK (a b : WinP) (n x y : Int) (k j : Nat) : Nat := sumTo (fun k' => covRow a b n (256 * y + 32 * k' + 16) (x + j)) k
def cntZ (a b : WinP) (n x y : Int) (k : Nat) (z : Int) (j : Nat) : Nat := cntK a b n x y k j + covPart a b n (256 * y + 32 * k + 16) (x + j) z 8
theorem cntK_le (a b : WinP) (n x y : Int) (k j : Nat) : cntK a b n x y k j ≤ k * 8 := sumTo_le (fun i => covRow_le a b n _ _) k
theorem covPart_le (a b : WinP) (n Y q z : Int) (m : Nat) : covPart a b n Y q z m ≤ m * 1 := sumTo_le (fun i => by split; exact smp_le a b n _ _; omega) m
theorem cntZ_le (a b : WinP) (n x y : Int) (k : Nat) (z : Int) (j : Nat) : cntZ a b n x y k z j ≤ k * 8 + 8 := by
  have := cntK_le a b n x y k j
  have := covPart_le a b n (256 * y + 32 * k + 16) (x + j) z 8
  unfold cntZ; omega
theorem cntZ_step (a b : WinP) (n x y : Int) (k m j0 : Nat) (z : Int) (h : inS a b n (32 * z + 16) (256 * y + 32 * k + 16)) (hz : 8 * (x + j0) ≤ z ∧ z < 8 * (x + j0) + 8) :
    cntL (fun i => if i = j0 then cntZ a b n x y k z j0 + 1 else cntZ a b n x y k z i) m = cntL (cntZ a b n x y k (z + 1)) m := by
  refine cntL_congr fun j hj => ?_
  unfold cntZ
  rw [covPart_step a b n _ (x + j) z h 8]
  by_cases e : j = j0
  · subst e; rw [if_pos rfl, if_pos (by omega)]; omega
  · rw [if_neg e, if_neg (by omega)]; omega
theorem covRow_none (a b : WinP) (n Y q : Int) (h : ∀ t, 8 * q ≤ t → t < 8 * q + 8 → ¬ inS a b n (32 * t + 16) Y) : covRow a b n Y q = 0 := by
  unfold covRow
  exact Eq.trans (sumTo_congr 8 fun i hi => if_neg (h _ (by omega) (by omega))) (sumTo_zero 8)
theorem cntK_next (a b : WinP) (n x y : Int) (k j : Nat) : cntK a b n x y (k + 1) j = cntK a b n x y k j + covRow a b n (256 * y + 32 * k + 16) (x + j) := rfl
structure RowS (a b : WinP) (n x y : Int) (k m : Nat) (pf pu : Int) : Prop where
  iff : ∀ z, (pf ≤ z ∧ z ≤ pu) ↔ ((8 * x * 32 + 16 ≤ z ∧ z ≤ (8 * (x + m) - 1) * 32 + 16) ∧ inS a b n z (256 * y + 32 * k + 16))
theorem RowS.none {a b : WinP} {n x y : Int} {k m : Nat} {pf pu : Int} (h : RowS a b n x y k m pf pu) (hl : pu < pf) : cntL (cntK a b n x y k) m = cntL (cntK a b n x y (k + 1)) m := by
  refine cntL_congr fun j hj => ?_
  rw [cntK_next, covRow_none a b n _ (x + j) fun t h1 h2 hin => ?_, Nat.add_zero]
  have := (h.iff (32 * t + 16)).2 ⟨by omega, hin⟩
  omega
theorem RowS.start {a b : WinP} {n x y : Int} {k m : Nat} {pf pu z : Int} (h : RowS a b n x y k m pf pu) (hz : z = -((16 - pf) / 32)) : cntL (cntK a b n x y k) m = cntL (cntZ a b n x y k z) m := by
  refine cntL_congr fun j hj => ?_
  unfold cntZ
  rw [covPart_start a b n _ (x + j) z 8 fun t h0 h1 h2 hin => ?_, Nat.add_zero]
  have := (h.iff (32 * t + 16)).2 ⟨by omega, hin⟩
  omega
theorem RowS.stop {a b : WinP} {n x y : Int} {k m : Nat} {pf pu z : Int} (h : RowS a b n x y k m pf pu) (hz : (pu - 16) / 32 < z) : cntL (cntZ a b n x y k z) m = cntL (cntK a b n x y (k + 1)) m := by
  refine cntL_congr fun j hj => ?_
  unfold cntZ
  rw [cntK_next, covPart_end a b n _ (x + j) z fun t h0 h1 h2 hin => ?_]
  have := (h.iff (32 * t + 16)).2 ⟨by omega, hin⟩
  omega
theorem RowS.at_ {a b : WinP} {n x y : Int} {k m : Nat} {pf pu z : Int} (h : RowS a b n x y k m pf pu) (h0 : -((16 - pf) / 32) ≤ z) (h1 : z ≤ (pu - 16) / 32) : inS a b n (32 * z + 16) (256 * y + 32 * k + 16) ∧ 8 * x ≤ z ∧ z ≤ 8 * (x + m) - 1 := by
  have := (h.iff (32 * z + 16)).1 ⟨by omega, by omega⟩
  exact ⟨this.2, by omega, by omega⟩
theorem RowS.put {a b : WinP} {n x y : Int} {k m : Nat} {pf pu z : Int} (h : RowS a b n x y k m pf pu) (h0 : -((16 - pf) / 32) ≤ z) (h1 : z ≤ (pu - 16) / 32) (j : Nat) (hj : z / 8 - x = (j : Int)) (hm : j < m) (v : Nat) (hv : cntZ a b n x y k z j = v) :
    (cntL (cntZ a b n x y k z) m).setIfInBounds j (.int .i64 ((v : Int) + 1)) = cntL (cntZ a b n x y k (z + 1)) m := by
  have := cntL_set (cntZ a b n x y k z) m j hm (v + 1)
  rw [show ((v + 1 : Nat) : Int) = (v : Int) + 1 by omega] at this
  rw [this, ← hv]
  exact cntZ_step a b n x y k m j z (h.at_ h0 h1).1 (by omega)
set_option maxRecDepth 100000 in
set_option maxHeartbeats 8000000 in
theorem count_any (a b : WinP) (n R B x y : Int) (m g : Nat) (ha : a.fits) (hb : b.fits) (hn : widthP n) (hA : Across (smK a b n) R B) (hK : 1 ≤ smK a b n) (hR : R ≤ 9007199254740992) (x0 : -4194304 ≤ x) (x1 : x ≤ 4194304) (y0 : -4194304 ≤ y) (y1 : y ≤ 4194304) (m0 : 1 ≤ m) (m1 : m ≤ 8388608)
    (w : World) (hg : Row w g (cntL (fun _ => 0) m) 3) :
    Calls Tryz.prog 105 #[strpV a b R B, .int .i64 y, .int .i64 x, .slice (some ⟨g, 0, none⟩) m m] w (Counted w g (cntL (fun j => covN a b n (x + j) y) m)) := by
  have hpos := hA.pos hK
  have HI := Lib.hid (fun Y f u z => smRow_iff hA hK Y f u z)
  have RW := Lib.hid (fun Y f u (h0 : -1342177280 ≤ Y) (h1 : Y ≤ 1342177280) w => srow_any a b R B Y f u ha hb (by omega) hR (by omega) (by have := hA.b; split at this <;> omega) h0 h1 w)
  have HG := Lib.hid hg
  have hlt := hg.lt
  clear hg hA hK
  unfold strpV at *
  go_enter Tryz.func105, Tryz.ntmps105
  go_upto_region 2 with fail
  refine wp_abs (F := fun w1 => Cn w w1 g #[.int .i64 a.x, .int .i64 a.y, .int .i64 (b.x - a.x), .int .i64 (b.y - a.y), .int .i64 (smL a b), .int .i64 B, .int .i64 R] (cntL (cntK a b n x y 0) m)) ⟨by exact rx_, HG.out.alloc _, hlt, by (repeat (first | exact Chg.refl | with_reducible refine Chg.drew ?_ | with_reducible refine Chg.ext ?_ _ | with_reducible refine Chg.alloc ?_ _ | (with_reducible refine Chg.setCell ?_ (fun hlt_ => absurd hlt_ (by first | omega | (simp; omega))) _)))⟩ ?_
  intro w1 h1
  have H1 := Lib.hid h1
  clear h1 HG
  go_wp2
  go_loopw [22] (fun i wr => ∃ k : Nat, k ≤ 8 ∧ i = .int .i64 k ∧ Hid (Cn w wr g #[.int .i64 a.x, .int .i64 a.y, .int .i64 (b.x - a.x), .int .i64 (b.y - a.y), .int .i64 (smL a b), .int .i64 B, .int .i64 R] (cntL (cntK a b n x y k) m))) (fun i _ => 8 - (intOf i).toNat)
  case atStart => exact ⟨0, by omega, rfl, H1⟩
  case round =>
    clear H1
    obtain ⟨k, hk, rfl, hR⟩ := hrel
    by_cases hlt8 : k < 8
    · have s1 := hR.out.st.cell
      have s2 := hR.out.st.frozen
      have s3 := hR.out.st.lt
      have R1 := fun w => RW.out (y * 256 + k * 32 + 16) (8 * x * 32 + 16) ((8 * (x + m) - 1) * 32 + 16) (by omega) (by omega) w
      have I1 := fun z => HI.out (y * 256 + k * 32 + 16) (8 * x * 32 + 16) ((8 * (x + m) - 1) * 32 + 16) z
      obtain ⟨⟨pf, pu⟩, hp⟩ : ∃ p, smRow a b R B (y * 256 + k * 32 + 16) (8 * x * 32 + 16) ((8 * (x + m) - 1) * 32 + 16) = p := ⟨_, rfl⟩
      simp only [hp] at R1 I1
      rw [show y * 256 + (k : Int) * 32 + 16 = 256 * y + 32 * k + 16 by omega] at I1
      have HS := Lib.hid (RowS.mk (m := m) I1)
      have R2 := Lib.hid R1
      clear R1 I1 hp
      by_cases hl : pu < pf
      · have e := HS.out.none hl
        have hR2 := Lib.hid (e ▸ hR.out)
        clear e hR
        go_wp2_with (first | (go_at_call 170; (with_reducible refine (R2.out _).mono ?_); rintro _ _ ⟨rfl, X_, rfl⟩))
        go_roundw
        case rel => exact ⟨k + 1, by omega, by go_num, Lib.hid (hR2.out.grow _)⟩
        case measure => simp [intOf]; omega
      · have b1 := (HS.out.iff pf).1 ⟨Int.le_refl _, by omega⟩
        have b2 := (HS.out.iff pu).1 ⟨by omega, Int.le_refl _⟩
        obtain ⟨⟨b10, b11⟩, -⟩ := b1
        obtain ⟨⟨b20, b21⟩, -⟩ := b2
        have FL := fun w => sfloor_any (16 - pf) 32 (by decide) (by decide) (by omega) (by omega) w
        have FH := fun w => sfloor_any (pu - 16) 32 (by decide) (by decide) (by omega) (by omega) w
        obtain ⟨lo, hlo⟩ : ∃ l, l = (16 - pf) / 32 := ⟨_, rfl⟩
        obtain ⟨hi, hhi⟩ : ∃ l, l = (pu - 16) / 32 := ⟨_, rfl⟩
        have lb : -268435456 ≤ lo ∧ lo ≤ 268435456 := by omega
        have hb' : -268435456 ≤ hi ∧ hi ≤ 268435456 := by omega
        rw [← hlo] at FL
        rw [← hhi] at FH
        have F1 := Lib.hid FL
        have F2 := Lib.hid FH
        obtain ⟨lb0, lb1⟩ := lb
        obtain ⟨hb0, hb1⟩ := hb'
        have HLO := Lib.hid hlo
        have HHI := Lib.hid hhi
        have e := HS.out.start (z := -lo) (by rw [hlo])
        have hR2 := Lib.hid (e ▸ hR.out)
        clear FL FH hlo hhi e hR
        go_wp2_with (first | (go_at_call 170; (with_reducible refine (R2.out _).mono ?_); rintro _ _ ⟨rfl, X_, rfl⟩) | (go_at_call 171; (with_reducible refine (F1.out _).mono ?_); rintro _ _ ⟨rfl, X_, rfl⟩))
        refine wp_abs (F := fun w5 => Cn w w5 g #[.int .i64 a.x, .int .i64 a.y, .int .i64 (b.x - a.x), .int .i64 (b.y - a.y), .int .i64 (smL a b), .int .i64 B, .int .i64 R] (cntL (cntZ a b n x y k (-lo)) m)) ((hR2.out.grow _).grow _) ?_
        clear hR2 s1 s2 s3
        intro w5 h5
        have hR := Lib.hid h5
        clear h5
        go_loopw [13] (fun i wr => ∃ z : Int, -lo ≤ z ∧ z ≤ max (-lo) (hi + 1) ∧ i = .int .i64 z ∧ Hid (Cn w wr g #[.int .i64 a.x, .int .i64 a.y, .int .i64 (b.x - a.x), .int .i64 (b.y - a.y), .int .i64 (smL a b), .int .i64 B, .int .i64 R] (cntL (cntZ a b n x y k z) m))) (fun i _ => (hi + 1 - intOf i).toNat)
        case atStart => exact ⟨-lo, by omega, by omega, rfl, hR⟩
        case round =>
          clear hR
          obtain ⟨z, hz0, hz1, rfl, hR⟩ := hrel
          by_cases hzl : z ≤ hi
          · have hin := HS.out.at_ (z := z) (by rw [← HLO.out]; exact hz0) (by rw [← HHI.out]; exact hzl)
            obtain ⟨-, hz2, hz3⟩ := hin
            obtain ⟨j, hj⟩ : ∃ j : Nat, z / 8 - x = (j : Int) := ⟨(z / 8 - x).toNat, by omega⟩
            have hjm : j < m := by omega
            have hji : (j : Int) < m := by omega
            obtain ⟨v, hv⟩ : ∃ v, cntZ a b n x y k z j = v := ⟨_, rfl⟩
            have hvb : v ≤ 72 := by have := cntZ_le a b n x y k z j; omega
            have e := HS.out.put (by rw [← HLO.out]; exact hz0) (by rw [← HHI.out]; exact hzl) j hj hjm v hv
            have HE := Lib.hid e
            have cz : wr.cell? ⟨g, j, none⟩ = some (.int .i64 (v : Int)) := by rw [hR.out.ct.cell, cntL_get _ _ _ hjm, hv]
            have c2 := hR.out.ct.frozen
            have c3 := hR.out.ct.lt
            clear e hv
            go_wp2_with (first | (go_at_call 171; (with_reducible refine (F2.out _).mono ?_); rintro _ _ ⟨rfl, X_, rfl⟩))
            go_roundw
            case rel => exact ⟨z + 1, by omega, by omega, rfl, Lib.hid (HE.out ▸ (hR.out.put j (.int .i64 ((v : Int) + 1))).grow _)⟩
            case measure => simp [intOf]; omega
          · have e := HS.out.stop (z := z) (by rw [← HHI.out]; omega)
            have hR4 := Lib.hid (e ▸ hR.out)
            clear e hR
            go_wp2_with (first | (go_at_call 171; (with_reducible refine (F2.out _).mono ?_); rintro _ _ ⟨rfl, X_, rfl⟩))
            go_roundw
            case rel => exact ⟨k + 1, by omega, by go_num, Lib.hid (hR4.out.grow _)⟩
            case measure => simp [intOf]; omega
    · obtain rfl : k = 8 := by omega
      go_wp2
      exact bodyPost_ret (v := .tuple #[]) (by simp [results, Tryz.results105, go_sem]) rfl ⟨rfl, hR.out.ct, hR.out.chg⟩
end Go.Proofs.YtbkmgngeahmefaaGreat
end
section
namespace Go.Proofs.YtbkmgngeahmefaaGreat
open Go.RowKit
theorem fitsP_f {a b : WinP} {n : Int} (h : smoP a b n) : (a.fits ∧ b.fits) ∧ widthP n := ⟨⟨h.1.f, h.2.1.f⟩, h.2.2⟩
def cover (a b : WinP) (n x y : Int) : Int := if smoP a b n then (covN a b n x y : Int) else 0
theorem smK_pos {a b : WinP} {n : Int} (hn : widthP n) (h : ¬ (a.x = b.x ∧ a.y = b.y)) : 1 ≤ smK a b n := by
  have p1 := smq_nn (b.x - a.x)
  have p2 := smq_nn (b.y - a.y)
  have hl : 1 ≤ smL a b := by
    unfold smL
    by_cases hx : a.x = b.x
    · have hy : ¬ a.y = b.y := fun k => h ⟨hx, k⟩
      have : 0 < (b.y - a.y) * (b.y - a.y) := by
        rcases Int.lt_or_gt_of_ne (show b.y - a.y ≠ 0 by omega) with k | k
        · exact Int.mul_pos_of_neg_of_neg k k
        · exact Int.mul_pos k k
      omega
    · have : 0 < (b.x - a.x) * (b.x - a.x) := by
        rcases Int.lt_or_gt_of_ne (show b.x - a.x ≠ 0 by omega) with k | k
        · exact Int.mul_pos_of_neg_of_neg k k
        · exact Int.mul_pos k k
      omega
  obtain ⟨n0, n1⟩ := hn
  unfold smK
  have e : 128 * n * 128 * n = 16384 * (n * n) := by grind
  rw [e]
  have q := Int.mul_pos (show 0 < n by omega) (show 0 < n by omega)
  have := Int.mul_le_mul hl (show 1 ≤ 16384 * (n * n) by omega) (by omega) (by omega)
  omega
theorem made_cnt (n : Nat) : madeCells #[.int .i64 0] n = cntL (fun _ => 0) n := by
  apply Array.ext_getElem?
  intro k
  simp only [madeCells, cntL, Array.getElem?_map, List.getElem?_toArray, List.getElem?_map, Array.getElem?_range, List.getElem?_range']
  by_cases h : k < n <;> simp [h, Nat.mod_one]
theorem info_i64 : (Tryz.prog.info? 3).map (fun i => (i.zero, i.size, i.bytes)) = some (some (.int .i64 0), 1, 8) := by kernel_rfl
theorem alike_no {a b : WinP} (h : ¬ (a.x = b.x ∧ a.y = b.y)) : (a.x == b.x) = false ∨ ((a.x == b.x) = true ∧ (a.y == b.y) = false) := by
  by_cases hx : a.x = b.x
  · exact .inr ⟨by simpa using hx, by have : ¬ a.y = b.y := fun k => h ⟨hx, k⟩; simpa using this⟩
  · exact .inl (by simpa using hx)
end Go.Proofs.YtbkmgngeahmefaaGreat
end
