/- Layer 14's law WalkParts: the parts of a line have the line's pixels, one behind the other. No condition. -/
import Derived.Test.YtmlhbbkgfffmcaaWalkQ
import Derived.Test.YtmlhbbkgfffmcaaLineF
import Derived.Test.YtmlhbbkgfffmcaaXRelS
import Derived.Test.YtmlhbbkgfffmcaaEWalkParts
import Derived.Deep.DeepCutAuto
namespace Go.Proofs.Ytmlhbbkgfffmcaa
set_option linter.unusedVariables false
set_option linter.unusedSimpArgs false
open Go.RowKit
theorem withinL_all {ax ay bx y2 x0 y0 x1 y1 : Int} (hr : rightP x0 y0 x1 y1) (h : ∀ q ∈ lineL ax ay bx y2, x0 ≤ q.X ∧ q.X < x1 ∧ y0 ≤ q.Y ∧ q.Y < y1) : withinL ax ay bx y2 x0 y0 x1 y1 = lineL ax ay bx y2 := by
  unfold withinL
  by_cases c : ax = bx ∧ ay = y2
  · obtain ⟨rfl, rfl⟩ := c
    rw [if_pos (Or.inl ⟨rfl, rfl⟩), lineL_self]
  · rw [if_neg (fun q => q.elim c (fun q => q hr)), List.filter_eq_self]
    intro q hq
    exact decide_eq_true ⟨hr, h q hq⟩
theorem lineL_K {ax ay bx y2 : Int} {i : Nat} {s : St} (h : (lineL ax ay bx y2)[i]? = some s) : s.K = i := by
  unfold lineL at h
  split at h
  all_goals
    unfold Way.run at h
    rw [List.getElem?_map] at h
    cases hj : (List.range _)[i]? with
    | none => rw [hj] at h; cases h
    | some j =>
      rw [hj] at h
      have := List.getElem?_eq_some_iff.1 hj
      obtain ⟨_, e⟩ := this
      rw [List.getElem_range] at e
      subst e
      injection h with h
      rw [← h]; rfl
/-- Behind the parts of a line. -/
theorem parts_plain (x y dw dh m k : Int) (hx : -1048576 ≤ x ∧ x ≤ 1048576) (hy : -1048576 ≤ y ∧ y ≤ 1048576) (hw : -100 ≤ dw ∧ dw ≤ 100) (hh : -100 ≤ dh ∧ dh ≤ 100) (hm : 0 ≤ m ∧ m ≤ 31) (hk : 0 ≤ k ∧ k ≤ 31)
    (x0 y0 x1 y1 cx cy bx y2 : Int) (ecx : cx = x + m * dw) (ecy : cy = y + m * dh) (ebx : bx = cx + k * dw) (eby : y2 = cy + k * dh)
    (e0 : x0 = (min x bx).tdiv 256 - 2) (e1 : y0 = (min y y2).tdiv 256 - 2) (e2 : x1 = (max x bx).tdiv 256 + 3) (e3 : y1 = (max y y2).tdiv 256 + 3) :
    ∃ L P Q : List St, withinL x y bx y2 x0 y0 x1 y1 = L ∧ withinL x y cx cy x0 y0 x1 y1 = P ∧ withinL cx cy bx y2 x0 y0 x1 y1 = Q ∧ lineL x y cx cy = P ∧ lineL cx cy bx y2 = Q ∧ L = P ++ Q.map (St.later P.length) ∧ (∀ (i : Nat) (s : St), L[i]? = some s → s.K = (i : Int)) := by
  have p1 : -3100 ≤ m * dw ∧ m * dw ≤ 3100 := by
    have := mul_bd2 (u := m) (v := dw) (U := 31) (V := 100) (by omega) (by omega) (by omega) (by omega) (by omega) (by omega); omega
  have p2 : -3100 ≤ m * dh ∧ m * dh ≤ 3100 := by
    have := mul_bd2 (u := m) (v := dh) (U := 31) (V := 100) (by omega) (by omega) (by omega) (by omega) (by omega) (by omega); omega
  have p3 : -3100 ≤ k * dw ∧ k * dw ≤ 3100 := by
    have := mul_bd2 (u := k) (v := dw) (U := 31) (V := 100) (by omega) (by omega) (by omega) (by omega) (by omega) (by omega); omega
  have p4 : -3100 ≤ k * dh ∧ k * dh ≤ 3100 := by
    have := mul_bd2 (u := k) (v := dh) (U := 31) (V := 100) (by omega) (by omega) (by omega) (by omega) (by omega) (by omega); omega
  have hp := lineL_parts x y dw dh m k hm.1 hk.1
  have f1 : x + (m + k) * dw = bx := by rw [ebx, ecx, Int.add_mul]; omega
  have f2 : y + (m + k) * dh = y2 := by rw [eby, ecy, Int.add_mul]; omega
  rw [f1, f2, ← ecx, ← ecy] at hp
  have hin := lineL_in x y bx y2
  have d0 := tdiv_near (min x bx); have d1 := tdiv_near (min y y2); have d2 := tdiv_near (max x bx); have d3 := tdiv_near (max y y2)
  obtain ⟨t0, ht0⟩ : ∃ t, (min x bx).tdiv 256 = t := ⟨_, rfl⟩
  obtain ⟨t1, ht1⟩ : ∃ t, (min y y2).tdiv 256 = t := ⟨_, rfl⟩
  obtain ⟨t2, ht2⟩ : ∃ t, (max x bx).tdiv 256 = t := ⟨_, rfl⟩
  obtain ⟨t3, ht3⟩ : ∃ t, (max y y2).tdiv 256 = t := ⟨_, rfl⟩
  rw [ht0] at d0 e0
  rw [ht1] at d1 e1
  rw [ht2] at d2 e2
  rw [ht3] at d3 e3
  have hr : rightP x0 y0 x1 y1 := by unfold rightP; omega
  have hb : ∀ X Y : Int, (min x bx - 256 ≤ 256 * X ∧ 256 * X ≤ max x bx) ∧ (min y y2 - 256 ≤ 256 * Y ∧ 256 * Y ≤ max y y2) → x0 ≤ X ∧ X < x1 ∧ y0 ≤ Y ∧ Y < y1 := by
    intro X Y h; omega
  have hP : ∀ q ∈ lineL x y cx cy, x0 ≤ q.X ∧ q.X < x1 ∧ y0 ≤ q.Y ∧ q.Y < y1 := fun q hq => hb _ _ (hin q (by rw [hp]; exact List.mem_append_left _ hq))
  have hQ : ∀ q ∈ lineL cx cy bx y2, x0 ≤ q.X ∧ q.X < x1 ∧ y0 ≤ q.Y ∧ q.Y < y1 := fun q hq =>
    hb _ _ (hin (q.later (lineL x y cx cy).length) (by rw [hp]; exact List.mem_append_right _ (List.mem_map.2 ⟨q, hq, rfl⟩)))
  exact ⟨_, _, _, withinL_all hr (fun q hq => hb _ _ (hin q hq)), withinL_all hr hP, withinL_all hr hQ, rfl, rfl, hp, fun i s h => lineL_K h⟩
set_option maxRecDepth 100000 in
set_option maxHeartbeats 8000000 in
theorem WalkParts_true : WalkParts_stmt := by
  intro aX aY b0 b1 c0 c1 w ⟨⟨a0, a1⟩, ⟨a2, a3⟩⟩ ⟨⟨d0, d1⟩, ⟨d2, d3⟩⟩ ⟨⟨e0, e1⟩, ⟨e2, e3⟩⟩
  go_enter Try.func6, Try.ntmps6
  go_upto_region 1 with fail
  refine wp_abs (F := fun w1 => Row w1 w.heap.size #[.int .i64 aX, .int .i64 aY] 50 ∧ Row w1 (w.heap.size + 1) #[.int .i16 b0, .int .i16 b1] 58 ∧ Row w1 (w.heap.size + 1 + 1) #[.int .u8 c0, .int .u8 c1] 59 ∧ ∃ X, w1 = w.ext X) ⟨by (repeat (first | assumption | with_reducible refine Row.ext ?_ _ | with_reducible refine row_drew ?_ | (with_reducible refine row_last ?_; first | rfl | (simp; done)) | with_reducible refine Row.alloc ?_ _)), by (repeat (first | assumption | with_reducible refine Row.ext ?_ _ | with_reducible refine row_drew ?_ | (with_reducible refine row_last ?_; first | rfl | (simp; done)) | with_reducible refine Row.alloc ?_ _)), by (repeat (first | assumption | with_reducible refine Row.ext ?_ _ | with_reducible refine row_drew ?_ | (with_reducible refine row_last ?_; first | rfl | (simp; done)) | with_reducible refine Row.alloc ?_ _)), RowKit.Below.toExt (by (repeat (first | exact Below.refl _ _ | with_reducible refine Below.drew ?_ | with_reducible refine Below.ext ?_ (by first | exact Nat.le_refl _ | (simp; done) | (simp; omega)) _ | with_reducible refine Below.alloc ?_ (by first | exact Nat.le_refl _ | (simp; done) | (simp; omega)) _ | with_reducible refine Below.setCell ?_ (by first | exact Nat.le_refl _ | (simp; done) | (simp; omega)) _)))⟩ ?_
  rintro w1 ⟨ra, rb, rc, hX⟩
  have RA := Lib.hid ra
  have ca := ra.cell
  have fa := ra.frozen
  have la := ra.lt
  have cb := rb.cell
  have fb := rb.frozen
  have lb := rb.lt
  have cc := rc.cell
  have fc := rc.frozen
  have lc := rc.lt
  have HX := Lib.hid hX
  have la' : w.heap.size ≤ w1.heap.size := by omega
  have lb' : w.heap.size + 1 ≤ w1.heap.size := by omega
  have lc' : w.heap.size + 1 + 1 ≤ w1.heap.size := by omega
  clear ra rb rc hX
  go_cut [54] from 17 to 55 (fun t wx => ∃ bad : Bool, t = .bool bad ∧ (bad = false → (-1048576 ≤ aX ∧ aX ≤ 1048576 ∧ -1048576 ≤ aY ∧ aY ≤ 1048576) ∧ (-100 ≤ b0 ∧ b0 ≤ 100 ∧ -100 ≤ b1 ∧ b1 ≤ 100)) ∧ wx = w1)
  case first =>
    by_cases t0 : aX < -1048576
    · go_wp2
      go_meet
      exact ⟨_, rfl, fun h => by first | (cases h; done) | omega, rfl⟩
    by_cases t1 : 1048576 < aX
    · go_wp2
      go_meet
      exact ⟨_, rfl, fun h => by first | (cases h; done) | omega, rfl⟩
    by_cases t2 : aY < -1048576
    · go_wp2
      go_meet
      exact ⟨_, rfl, fun h => by first | (cases h; done) | omega, rfl⟩
    by_cases t3 : 1048576 < aY
    · go_wp2
      go_meet
      exact ⟨_, rfl, fun h => by first | (cases h; done) | omega, rfl⟩
    by_cases t4 : b0 < -100
    · go_wp2
      go_meet
      exact ⟨_, rfl, fun h => by first | (cases h; done) | omega, rfl⟩
    by_cases t5 : 100 < b0
    · go_wp2
      go_meet
      exact ⟨_, rfl, fun h => by first | (cases h; done) | omega, rfl⟩
    by_cases t6 : b1 < -100
    · go_wp2
      go_meet
      exact ⟨_, rfl, fun h => by first | (cases h; done) | omega, rfl⟩
    by_cases t7 : 100 < b1
    · go_wp2
      go_meet
      exact ⟨_, rfl, fun h => by first | (cases h; done) | omega, rfl⟩
    go_wp2
    go_meet
    exact ⟨_, rfl, fun _ => by omega, rfl⟩
  case rest =>
    obtain ⟨bad, rfl, hbad, rfl⟩ := hcut
    obtain ⟨w1, rfl⟩ : ∃ w1, w1 = wc := ⟨_, rfl⟩
    cases bad
    · obtain ⟨⟨x0, x1, y0, y1⟩, ⟨g0, g1, g2, g3⟩⟩ := hbad rfl
      clear hbad
      go_upto_region 3 with fail
      refine wp_region_ext (by kernel_rfl) (by kernel_rfl) ?_
      repeat (go_big_quiet_step ((fail)))
      refine wpQuiet_nil ?_
      intro _ hw_ext
      obtain ⟨X1, hw_ext⟩ := hw_ext
      subst hw_ext
      obtain ⟨m, hm⟩ : ∃ m, c0 % 32 = m := ⟨_, rfl⟩
      obtain ⟨k, hk⟩ : ∃ m, c1 % 32 = m := ⟨_, rfl⟩
      have mb : 0 ≤ m ∧ m ≤ 31 := by omega
      have kb : 0 ≤ k ∧ k ≤ 31 := by omega
      obtain ⟨mb0, mb1⟩ := mb
      obtain ⟨kb0, kb1⟩ := kb
      obtain ⟨P0, hP0⟩ : ∃ P, m * b0 = P := ⟨_, rfl⟩
      obtain ⟨Q0, hQ0⟩ : ∃ P, m * b1 = P := ⟨_, rfl⟩
      obtain ⟨P1, hP1⟩ : ∃ P, k * b0 = P := ⟨_, rfl⟩
      obtain ⟨Q1, hQ1⟩ : ∃ P, k * b1 = P := ⟨_, rfl⟩
      have p1 : -3100 ≤ P0 ∧ P0 ≤ 3100 := by
        have := mul_bd2 (u := m) (v := b0) (U := 31) (V := 100) (by omega) (by omega) (by omega) (by omega) (by omega) (by omega); omega
      have p2 : -3100 ≤ Q0 ∧ Q0 ≤ 3100 := by
        have := mul_bd2 (u := m) (v := b1) (U := 31) (V := 100) (by omega) (by omega) (by omega) (by omega) (by omega) (by omega); omega
      have p3 : -3100 ≤ P1 ∧ P1 ≤ 3100 := by
        have := mul_bd2 (u := k) (v := b0) (U := 31) (V := 100) (by omega) (by omega) (by omega) (by omega) (by omega) (by omega); omega
      have p4 : -3100 ≤ Q1 ∧ Q1 ≤ 3100 := by
        have := mul_bd2 (u := k) (v := b1) (U := 31) (V := 100) (by omega) (by omega) (by omega) (by omega) (by omega) (by omega); omega
      obtain ⟨cX, hcX⟩ : ∃ X, aX + P0 = X := ⟨_, rfl⟩
      obtain ⟨cY, hcY⟩ : ∃ X, aY + Q0 = X := ⟨_, rfl⟩
      obtain ⟨bX, hbX⟩ : ∃ X, cX + P1 = X := ⟨_, rfl⟩
      obtain ⟨bY, hbY⟩ : ∃ X, cY + Q1 = X := ⟨_, rfl⟩
      obtain ⟨x0', hx0⟩ : ∃ X, (min aX bX).tdiv 256 - 2 = X := ⟨_, rfl⟩
      obtain ⟨y0', hy0⟩ : ∃ X, (min aY bY).tdiv 256 - 2 = X := ⟨_, rfl⟩
      obtain ⟨x1', hx1⟩ : ∃ X, (max aX bX).tdiv 256 + 3 = X := ⟨_, rfl⟩
      obtain ⟨y1', hy1⟩ : ∃ X, (max aY bY).tdiv 256 + 3 = X := ⟨_, rfl⟩
      obtain ⟨L, P, Q, r1, r2, r3, r4, r5, r6, r7⟩ := parts_plain aX aY b0 b1 m k ⟨x0, x1⟩ ⟨y0, y1⟩ ⟨g0, g1⟩ ⟨g2, g3⟩ ⟨mb0, mb1⟩ ⟨kb0, kb1⟩ x0' y0' x1' y1' cX cY bX bY (by omega) (by omega) (by omega) (by omega) hx0.symm hy0.symm hx1.symm hy1.symm
      have MA : MayP aX aY := ⟨by omega, by omega, by omega, by omega⟩
      have MB : MayP bX bY := ⟨by omega, by omega, by omega, by omega⟩
      have MC : MayP cX cY := ⟨by omega, by omega, by omega, by omega⟩
      have W1 := Lib.hid (fun w => r1 ▸ walk_within aX aY bX bY x0' y0' x1' y1' MA MB w)
      have W2 := Lib.hid (fun w => r2 ▸ walk_within aX aY cX cY x0' y0' x1' y1' MA MC w)
      have W3 := Lib.hid (fun w => r3 ▸ walk_within cX cY bX bY x0' y0' x1' y1' MC MB w)
      have C2 := Lib.hid (fun w => r4 ▸ walk_count aX aY cX cY MA MC w)
      have C3 := Lib.hid (fun w => r5 ▸ walk_count cX cY bX bY MC MB w)
      have R6 := Lib.hid r6
      have R7 := Lib.hid r7
      have e1 : IntKind.i64.wrap (m * b0) = P0 := by rw [hP0]; exact IntWalk.i64_in _ (by omega)
      have e2 : IntKind.i64.wrap (m * b1) = Q0 := by rw [hQ0]; exact IntWalk.i64_in _ (by omega)
      have e3 : IntKind.i64.wrap (k * b0) = P1 := by rw [hP1]; exact IntWalk.i64_in _ (by omega)
      have e4 : IntKind.i64.wrap (k * b1) = Q1 := by rw [hQ1]; exact IntWalk.i64_in _ (by omega)
      have cb : -1051676 ≤ cX ∧ cX ≤ 1051676 ∧ -1051676 ≤ cY ∧ cY ≤ 1051676 := by omega
      have bb : -1054776 ≤ bX ∧ bX ≤ 1054776 ∧ -1054776 ≤ bY ∧ bY ≤ 1054776 := by omega
      obtain ⟨cb0, cb1, cb2, cb3⟩ := cb
      obtain ⟨bb0, bb1, bb2, bb3⟩ := bb
      have t1 := tdiv_near (min aX bX)
      have t2 := tdiv_near (min aY bY)
      have t3 := tdiv_near (max aX bX)
      have t4 := tdiv_near (max aY bY)
      have tb : (-8388608 ≤ (min aX bX).tdiv 256 ∧ (min aX bX).tdiv 256 ≤ 8388608) ∧ (-8388608 ≤ (min aY bY).tdiv 256 ∧ (min aY bY).tdiv 256 ≤ 8388608) ∧ (-8388608 ≤ (max aX bX).tdiv 256 ∧ (max aX bX).tdiv 256 ≤ 8388608) ∧ (-8388608 ≤ (max aY bY).tdiv 256 ∧ (max aY bY).tdiv 256 ≤ 8388608) := by
        refine ⟨⟨?_, ?_⟩, ⟨?_, ?_⟩, ⟨?_, ?_⟩, ⟨?_, ?_⟩⟩ <;> omega
      obtain ⟨⟨tb0, tb1⟩, ⟨tb2, tb3⟩, ⟨tb4, tb5⟩, ⟨tb6, tb7⟩⟩ := tb
      clear r1 r2 r3 r4 r5 r6 r7 t1 t2 t3 t4 hP0 hQ0 hP1 hQ1 MA MB MC
      go_upto_region 7 with fail
      obtain ⟨pc, hpc⟩ : ∃ p, w1.heap.size + X1.sz = p := ⟨_, rfl⟩
      obtain ⟨pb, hpb⟩ : ∃ p, w1.heap.size + X1.sz + 1 = p := ⟨_, rfl⟩
      obtain ⟨pr, hpr⟩ : ∃ p, w1.heap.size + X1.sz + 1 + 1 = p := ⟨_, rfl⟩
      refine wp_abs (F := fun w2 => Row w2 w.heap.size #[.int .i64 aX, .int .i64 aY] 50 ∧ Row w2 pc #[.int .i64 cX, .int .i64 cY] 50 ∧ Row w2 pb #[.int .i64 bX, .int .i64 bY] 50 ∧ Row w2 pr #[.int .i64 x0', .int .i64 y0', .int .i64 x1', .int .i64 y1'] 26 ∧ ∃ X, w2 = w1.ext X) ⟨?_, ?_, ?_, ?_, RowKit.Below.toExt (by (repeat (first | exact Below.refl _ _ | with_reducible refine Below.drew ?_ | with_reducible refine Below.ext ?_ (by first | exact Nat.le_refl _ | (simp; done) | (simp; omega)) _ | with_reducible refine Below.alloc ?_ (by first | exact Nat.le_refl _ | (simp; done) | (simp; omega)) _ | with_reducible refine Below.setCell ?_ (by first | exact Nat.le_refl _ | (simp; done) | (simp; omega)) _)))⟩ ?_
      · have := RA.out; (repeat (first | assumption | with_reducible refine Row.ext ?_ _ | with_reducible refine row_drew ?_ | (with_reducible refine row_last ?_; first | rfl | (simp; done)) | with_reducible refine Row.alloc ?_ _))
      · rw [← hpc]; (repeat (first | assumption | with_reducible refine Row.ext ?_ _ | with_reducible refine row_drew ?_ | (with_reducible refine row_last ?_; first | rfl | (simp; done)) | with_reducible refine Row.alloc ?_ _))
      · rw [← hpb]; (repeat (first | assumption | with_reducible refine Row.ext ?_ _ | with_reducible refine row_drew ?_ | (with_reducible refine row_last ?_; first | rfl | (simp; done)) | with_reducible refine Row.alloc ?_ _))
      · rw [← hpr]; (repeat (first | assumption | with_reducible refine Row.ext ?_ _ | with_reducible refine row_drew ?_ | (with_reducible refine row_last ?_; first | rfl | (simp; done)) | with_reducible refine Row.alloc ?_ _))
      rintro w2 ⟨ra, rc, rb, rr, hX2⟩
      simp only [hpr]
      simp only [hpb]
      simp only [hpc]
      have HX2 := Lib.hid hX2
      clear ca fa la cb fb lb cc fc lc hX2
      have ca := ra.cell
      have fa := ra.frozen
      have la := ra.lt
      have cb := rb.cell
      have fb := rb.frozen
      have lb := rb.lt
      have cc := rc.cell
      have fc := rc.frozen
      have lc := rc.lt
      have cr := rr.cell
      have fr := rr.frozen
      have lr := rr.lt
      clear ra rb rc rr hpc hpb hpr la' lb' lc' e1 e2 e3 e4 hm hk hx0 hy0 hx1 hy1 hcX hcY hbX hbY tb0 tb1 tb2 tb3 tb4 tb5 tb6 tb7
      refine wp_region_rel 15 [none, none, none, some ([], srS L), none, none, none, some ([], srS P), none, none, none, some ([], srS Q), none, none, none] (by kernel_rfl) (by kernel_rfl) ?_
      simp only [List.take_succ_cons, List.take_zero, List.drop_succ_cons, List.drop_zero]
      (repeat (first | (refine rel_none ?_; intro K_ hK_; go_big_quiet_op; go_big_quiet_on) | simp only [Act.put, List.setIfInBounds_toArray, List.set_cons_zero, List.set_cons_succ]))

      refine rel_some rfl (fun w_ hw_ hk_ K_ hK_ => ?_) (fun v12 f12 => ?_)
      · obtain ⟨X_, rfl⟩ := hw_
        go_simp
        go_at_call 40
        refine (W1.out _).mono ?_
        rintro _ _ ⟨v, rfl, h1, h2⟩
        exact hK_ _ _ h1 h2
      obtain ⟨a12, k12, rfl⟩ := f12
      (repeat (first | (refine rel_none ?_; intro K_ hK_; go_big_quiet_op; go_big_quiet_on) | simp only [Act.put, List.setIfInBounds_toArray, List.set_cons_zero, List.set_cons_succ]))
      refine rel_some rfl (fun w_ hw_ hk_ K_ hK_ => ?_) (fun v13 f13 => ?_)
      · obtain ⟨X_, rfl⟩ := hw_
        go_simp
        go_at_call 40
        refine (W2.out _).mono ?_
        rintro _ _ ⟨v, rfl, h1, h2⟩
        exact hK_ _ _ h1 h2
      obtain ⟨a13, k13, rfl⟩ := f13
      (repeat (first | (refine rel_none ?_; intro K_ hK_; go_big_quiet_op; go_big_quiet_on) | simp only [Act.put, List.setIfInBounds_toArray, List.set_cons_zero, List.set_cons_succ]))
      refine rel_some rfl (fun w_ hw_ hk_ K_ hK_ => ?_) (fun v14 f14 => ?_)
      · obtain ⟨X_, rfl⟩ := hw_
        go_simp
        go_at_call 40
        refine (W3.out _).mono ?_
        rintro _ _ ⟨v, rfl, h1, h2⟩
        exact hK_ _ _ h1 h2
      obtain ⟨a14, k14, rfl⟩ := f14
      (repeat (first | (refine rel_none ?_; intro K_ hK_; go_big_quiet_op; go_big_quiet_on) | simp only [Act.put, List.setIfInBounds_toArray, List.set_cons_zero, List.set_cons_succ]))
      refine rel_nil ?_
      intro w_ hw_ kk
      obtain ⟨X3, rfl⟩ := hw_
      have h1 := (kk (3, _) (by repeat (first | exact List.mem_cons_self | refine List.mem_cons_of_mem _ ?_)))
      have h2 := (kk (7, _) (by repeat (first | exact List.mem_cons_self | refine List.mem_cons_of_mem _ ?_)))
      have h3 := (kk (11, _) (by repeat (first | exact List.mem_cons_self | refine List.mem_cons_of_mem _ ?_)))
      have H1 := Lib.hid h1
      have H2 := Lib.hid h2
      have H3 := Lib.hid h3
      clear h1 h2 h3 kk W1 W2 W3
      have hlen : L.length = P.length + Q.length := by rw [R6.out]; simp
      have hz : (((L.length : Nat) : Int) != ((P.length : Nat) : Int) + ((Q.length : Nat) : Int)) = false := by rw [hlen]; simp
      have HL := Lib.hid hlen
      have lP : P.length ≤ 8388608 := H2.out.1
      have lQ : Q.length ≤ 8388608 := H3.out.1
      have lL : L.length ≤ 8388608 := H1.out.1
      clear hlen
      go_upto_region 11 with (first | (go_at_call 42; (with_reducible refine (C2.out _).mono ?_); rintro _ _ ⟨rfl, X_, rfl⟩) | (go_at_call 42; (with_reducible refine (C3.out _).mono ?_); rintro _ _ ⟨rfl, X_, rfl⟩))
      refine wp_abs (F := fun w5 => Sts w5 (.slice a12 L.length k12) L ∧ Sts w5 (.slice a13 P.length k13) P ∧ Sts w5 (.slice a14 Q.length k14) Q ∧ ∃ X, w5 = w2.ext X) ⟨?_, ?_, ?_, RowKit.Below.toExt (by (repeat (first | exact Below.refl _ _ | with_reducible refine Below.drew ?_ | with_reducible refine Below.ext ?_ (by first | exact Nat.le_refl _ | (simp; done) | (simp; omega)) _ | with_reducible refine Below.alloc ?_ (by first | exact Nat.le_refl _ | (simp; done) | (simp; omega)) _ | with_reducible refine Below.setCell ?_ (by first | exact Nat.le_refl _ | (simp; done) | (simp; omega)) _)))⟩ ?_
      · exact (H1.out.ext _).ext _
      · exact (H2.out.ext _).ext _
      · exact (H3.out.ext _).ext _
      rintro w5 ⟨h1, h2, h3, hX5⟩
      have HX5 := Lib.hid hX5
      obtain ⟨-, b1, e1, q1, -, g1⟩ := h1
      obtain ⟨-, b2, e2, q2, -, g2⟩ := h2
      obtain ⟨-, b3, e3, q3, -, g3⟩ := h3
      injection q1 with q1 _ q1'
      injection q2 with q2 _ q2'
      injection q3 with q3 _ q3'
      subst q1 q1' q2 q2' q3 q3'
      clear hX5 H1 H2 H3 hz ca fa la cb fb lb cc fc lc cr fr lr C2 C3 p1 p2 p3 p4 x0 x1 y0 y1 mb0 mb1 kb0 kb1 cb0 cb1 cb2 cb3 bb0 bb1 bb2 bb3 a0 a1 a2 a3 d0 d1 d2 d3 RA
      go_loopw [15] (fun i wr => ∃ (k : Nat), k ≤ L.length ∧ i = .int .i64 k ∧ ∃ X, wr = w5.ext X)
        (fun i _ => L.length - (intOf i).toNat)
      case atStart => exact ⟨0, by omega, rfl, _, ext_self _⟩
      case round =>
        obtain ⟨i, hi, rfl, X, rfl⟩ := hrel
        by_cases hlt : i < L.length
        · rcases g1 with g1 | ⟨b1, o1, rfl, hb1, hc1⟩
          · rw [g1] at hlt; simp at hlt
          have hb1' : b1 ≤ w5.heap.size := by omega
          obtain ⟨s, hf⟩ : ∃ s, L[i]? = some s := ⟨L[i], by simp [hlt]⟩
          have hK := R7.out i _ hf
          have f0 := hc1 i s hf 0 _ rfl
          have f1 := hc1 i s hf 1 _ rfl
          have f2 := hc1 i s hf 2 _ rfl
          simp only [Nat.add_zero] at f0
          by_cases hp : i < P.length
          · rcases g2 with g2 | ⟨b2, o2, rfl, hb2, hc2⟩
            · rw [g2] at hp; simp at hp
            have hb2' : b2 ≤ w5.heap.size := by omega
            have hf2 : P[i]? = some s := by rw [← hf, R6.out, List.getElem?_append_left hp]
            have h0 := hc2 i s hf2 0 _ rfl
            have h1 := hc2 i s hf2 1 _ rfl
            have h2 := hc2 i s hf2 2 _ rfl
            simp only [Nat.add_zero] at h0
            clear hc1 hc2 hf hf2 g3 hi
            obtain ⟨K, X9, Y9⟩ := s
            obtain rfl : K = (i : Int) := hK
            simp only at f0 f1 f2 h0 h1 h2
            go_upto_region 14 with fail
            refine wp_region_ext (by kernel_rfl) (by kernel_rfl) ?_
            repeat (go_big_quiet_step ((fail)))
            refine wpQuiet_nil ?_
            intro _ hw_ext
            obtain ⟨Y, hw_ext⟩ := hw_ext
            subst hw_ext
            go_wp2
            go_roundw
            case rel => exact ⟨i + 1, by omega, by go_num, RowKit.Below.toExt (by (repeat (first | exact Below.refl _ _ | with_reducible refine Below.drew ?_ | with_reducible refine Below.ext ?_ (by first | exact Nat.le_refl _ | (simp; done) | (simp; omega)) _ | with_reducible refine Below.alloc ?_ (by first | exact Nat.le_refl _ | (simp; done) | (simp; omega)) _ | with_reducible refine Below.setCell ?_ (by first | exact Nat.le_refl _ | (simp; done) | (simp; omega)) _)))⟩
            case measure => simp [intOf]; omega
          · obtain ⟨j, hj⟩ : ∃ j, i = P.length + j := ⟨i - P.length, by omega⟩
            have hQ : j < Q.length := by have := HL.out; omega
            rcases g3 with g3 | ⟨b3, o3, rfl, hb3, hc3⟩
            · rw [g3] at hQ; simp at hQ
            have hb3' : b3 ≤ w5.heap.size := by omega
            obtain ⟨q, hfq⟩ : ∃ s, Q[j]? = some s := ⟨Q[j], by simp [hQ]⟩
            have hs : s = q.later P.length := by
              have := hf
              rw [R6.out, List.getElem?_append_right (by omega), List.getElem?_map, show i - P.length = j by omega, hfq] at this
              injection this with this
              exact this.symm
            have h0 := hc3 j q hfq 0 _ rfl
            have h1 := hc3 j q hfq 1 _ rfl
            have h2 := hc3 j q hfq 2 _ rfl
            simp only [Nat.add_zero] at h0
            clear hc1 hc3 hf hfq g2 hi
            subst hs
            obtain ⟨K, X9, Y9⟩ := q
            unfold St.later at hK f0 f1 f2
            simp only at f0 f1 f2 h0 h1 h2 hK
            rw [hK] at f0
            obtain rfl : K = (j : Int) := by omega
            have e2 : (i : Int) - (P.length : Int) = (j : Int) := by omega
            have hp' : P.length ≤ i := by omega
            clear hK hj hp
            have hp2 : decide (i < P.length) = false := by simp; omega
            have hp3 : decide ((i : Int) < (P.length : Int)) = false := by simp; omega
            go_upto_region 14 with fail
            refine wp_region_ext (by kernel_rfl) (by kernel_rfl) ?_
            repeat (go_big_quiet_step ((fail)))
            refine wpQuiet_nil ?_
            intro _ hw_ext
            obtain ⟨Y, hw_ext⟩ := hw_ext
            subst hw_ext
            go_upto_region 18 with fail
            have z1 : ((j : Int) != (j : Int)) = false := by simp
            have z2 : (X9 != X9) = false := by simp
            have z3 : (Y9 != Y9) = false := by simp
            refine wp_region_ext (by kernel_rfl) (by kernel_rfl) ?_
            repeat (go_big_quiet_step ((fail)))
            refine wpQuiet_nil ?_
            intro _ hw_ext
            obtain ⟨Y2, hw_ext⟩ := hw_ext
            subst hw_ext
            go_wp2
            go_roundw
            case rel => exact ⟨i + 1, by omega, by go_num, RowKit.Below.toExt (by (repeat (first | exact Below.refl _ _ | with_reducible refine Below.drew ?_ | with_reducible refine Below.ext ?_ (by first | exact Nat.le_refl _ | (simp; done) | (simp; omega)) _ | with_reducible refine Below.alloc ?_ (by first | exact Nat.le_refl _ | (simp; done) | (simp; omega)) _ | with_reducible refine Below.setCell ?_ (by first | exact Nat.le_refl _ | (simp; done) | (simp; omega)) _)))⟩
            case measure => simp [intOf]; omega
        · go_wp2_with (first | (go_at_call 38; (with_reducible refine (awake_any _).mono ?_); rintro _ _ ⟨rfl, X_, rfl⟩))
          go_ret
          obtain ⟨Z5, hZ5⟩ := HX5.out
          obtain ⟨Z2, hZ2⟩ := HX2.out
          obtain ⟨Z1, hZ1⟩ := HX.out
          subst hZ5
          subst hZ2
          subst hZ1
          exact Ret.of' rfl (by (repeat (first | exact Below.refl _ _ | with_reducible refine Below.drew ?_ | with_reducible refine Below.ext ?_ (by first | exact Nat.le_refl _ | (simp; done) | (simp; omega)) _ | with_reducible refine Below.alloc ?_ (by first | exact Nat.le_refl _ | (simp; done) | (simp; omega)) _ | with_reducible refine Below.setCell ?_ (by first | exact Nat.le_refl _ | (simp; done) | (simp; omega)) _)))
    · clear hbad
      go_wp2_with (first | (go_at_call 38; (with_reducible refine (awake_any _).mono ?_); rintro _ _ ⟨rfl, X_, rfl⟩))
      go_ret
      obtain ⟨X, hX⟩ := HX.out
      subst hX
      exact Ret.of' rfl (by (repeat (first | exact Below.refl _ _ | with_reducible refine Below.drew ?_ | with_reducible refine Below.ext ?_ (by first | exact Nat.le_refl _ | (simp; done) | (simp; omega)) _ | with_reducible refine Below.alloc ?_ (by first | exact Nat.le_refl _ | (simp; done) | (simp; omega)) _ | with_reducible refine Below.setCell ?_ (by first | exact Nat.le_refl _ | (simp; done) | (simp; omega)) _)))
theorem WalkParts_holds : Rows.WalkPartsSaid := WalkParts_end WalkParts_true
end Go.Proofs.Ytmlhbbkgfffmcaa
