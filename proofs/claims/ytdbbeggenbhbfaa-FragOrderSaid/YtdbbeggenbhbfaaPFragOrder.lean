/- FragOrder: whatever the input, the law returns true and leaves its arguments as they read. No condition. -/
import Derived.Test.YtdbbeggenbhbfaaFragG
import Derived.Test.YtdbbeggenbhbfaaFragO
import Derived.Test.YtdbbeggenbhbfaaEFragOrder
namespace Go.Proofs.Ytdbbeggenbhbfaa
set_option linter.unusedVariables false
set_option linter.unusedSimpArgs false
open Go.RowKit
theorem all_rev {w : World} {bm g1 k1 g2 k2 : Nat} {W H : Int} {C Z : List Int} {v : Value} {L : List FrP} (hI : Img w bm g1 k1 g2 k2 W H C Z) (o : OpsP) (ho : o.ok) (hL : Frs w v L.reverse) (hv : ∀ b, v.ownBlock = some b → L.reverse ≠ [] → b ≠ g1 ∧ b ≠ g2) (pw : L.Pairwise unlike) :
    Calls Try.prog 58 #[.pointer (some ⟨bm, 0, none⟩), o.v, v] w (PutsB bm g1 k1 g2 k2 W H (allF o W H C Z L).1 (allF o W H C Z L).2.1 (.int .i64 (allF o W H C Z L).2.2) w) := by
  have h := all_any hI o ho hL hv
  rwa [all_back o W H C Z L pw] at h
set_option maxRecDepth 100000 in
set_option maxHeartbeats 8000000 in
theorem order_in (W H : Int) (c z v : Value) (C Z : List Int) (L : List FrP) (o : OpsP) (ho : o.ok) (w : World) (hc : Rd w c C) (hz : Rd w z Z) (hs : smallP W H C Z) (hL : Frs w v L) (l20 : L.length ≤ 20) :
    Calls Try.prog 16 #[Im W H c z, o.v, v] w (Ret (.bool true) w) := by
  have HC := hc
  have HZ := hz
  have HL := hL
  obtain ⟨-, -, a, cap, rfl, -, -⟩ := hc
  obtain ⟨-, -, a', cap', rfl, -, -⟩ := hz
  have LOK := Lib.hid hL.1
  obtain ⟨-, -, av, capv, rfl, -, -⟩ := hL
  have hr := hs.2
  have own := HL.own
  have OWN := Lib.hid own
  clear own
  obtain ⟨i0, hi, hz0, hz1, hz2⟩ := info_parts info_frag
  go_enter Try.func16, Try.ntmps16
  go_upto_region 3 with (first
    | (go_at_call 56; (with_reducible refine (small25_yes W H _ _ C Z _ ?_ ?_ hs).mono ?_); (repeat (first | assumption | with_reducible refine Rd.ext ?_ _ | with_reducible refine Rd.alloc ?_ _ | with_reducible refine Rd.drew ?_)); (repeat (first | assumption | with_reducible refine Rd.ext ?_ _ | with_reducible refine Rd.alloc ?_ _ | with_reducible refine Rd.drew ?_)); rintro _ _ ⟨rfl, X_, rfl⟩))
  refine wp_abs (F := fun wx => Row wx w.heap.size #[.int .i64 W, .int .i64 H, .slice a C.length cap, .slice a' Z.length cap'] 39 ∧ Row wx (w.heap.size + 1) #[.bool o.cut, .int .i64 o.x0, .int .i64 o.y0, .int .i64 o.x1, .int .i64 o.y1, .bool o.deep, .int .i64 o.fn, .bool o.keep, .bool o.mix, .int .i64 o.sf, .int .i64 o.df, .bool o.m0, .bool o.m1, .bool o.m2, .bool o.m3] 64 ∧ Below w.heap.size w wx) ⟨by (repeat (first | assumption | with_reducible refine Row.ext ?_ _ | with_reducible refine row_drew ?_ | (with_reducible refine row_last ?_; first | rfl | (simp; done)) | with_reducible refine Row.alloc ?_ _)), by (repeat (first | assumption | with_reducible refine Row.ext ?_ _ | with_reducible refine row_drew ?_ | (with_reducible refine row_last ?_; first | rfl | (simp; done)) | with_reducible refine Row.alloc ?_ _)), by (repeat (first | exact Below.refl _ _ | with_reducible refine Below.drew ?_ | with_reducible refine Below.ext ?_ (by first | exact Nat.le_refl _ | (simp; done) | (simp; omega)) _ | with_reducible refine Below.alloc ?_ (by first | exact Nat.le_refl _ | (simp; done) | (simp; omega)) _ | with_reducible refine Below.setCell ?_ (by first | exact Nat.le_refl _ | (simp; done) | (simp; omega)) _))⟩ ?_
  rintro w0 ⟨PM, PP, BB⟩
  have FR0 : Frs w0 (.slice av L.length capv) L := by obtain ⟨Y, hY⟩ := BB.toExt; rw [hY]; exact HL.ext Y
  have jm := PM.lt
  have jp := PP.lt
  go_wp2
  go_loopw [7, 8] (fun vb i wr => ∃ (j : Nat) (z : Int), j ≤ L.length ∧ i = .int .i64 z ∧ z + 1 = j ∧ GrowF w0 wr vb (L.drop j).reverse ∧ ∀ i, i < L.length → j ≤ i → ∀ k, k < i → ∀ (hi : i < L.length) (hk : k < L.length), unlike L[k] L[i]) (fun _ i _ => (intOf i + 1).toNat)
  case atStart => exact ⟨L.length, _, by omega, rfl, by omega, by rw [List.drop_length]; exact GrowF.nil _, fun i h1 h2 => by omega⟩
  case round =>
    obtain ⟨j, z, hj, rfl, hz, G, hu⟩ := hrel
    by_cases hlt : 0 < j
    · obtain ⟨m, rfl⟩ : ∃ m, j = m + 1 := ⟨j - 1, by omega⟩
      obtain rfl : z = (m : Int) := by omega
      have zr := G.bel.size
      have FRr : Frs wr (.slice av L.length capv) L := by obtain ⟨Y, hY⟩ := G.bel.toExt; rw [hY]; exact FR0.ext Y
      have hm : m < L.length := by omega
      have CL := FRr
      obtain ⟨lf, -, a1, cap1, q1, -, h3⟩ := CL
      rcases h3 with rfl | ⟨b, off, rfl, hb, hcl⟩
      · simp at hm
      obtain ⟨rfl, rfl⟩ : av = some ⟨b, off, none⟩ ∧ capv = cap1 := by simpa using q1
      have cl := hcl m L[m] (by simp [hm])
      have HCL := Lib.hid hcl
      clear q1 lf hcl
      have HU := Lib.hid hu
      clear hu
      obtain ⟨f, hF⟩ : ∃ f, L[m] = f := ⟨_, rfl⟩
      rw [hF] at cl
      have HF := Lib.hid hF
      clear hF
      have e0 := cl 0 _ rfl
      have e1 := cl 1 _ rfl
      have e2 := cl 2 _ rfl
      have e3 := cl 3 _ rfl
      have e4 := cl 4 _ rfl
      have e5 := cl 5 _ rfl
      have e6 := cl 6 _ rfl
      have e7 := cl 7 _ rfl
      simp only [Nat.add_zero] at e0
      clear cl
      have hmi : (m : Int) < L.length := by omega
      have hb' : b ≤ wr.heap.size := by omega
      obtain ⟨wo, rfl⟩ : ∃ wo, wo = wr := ⟨_, rfl⟩
      go_wp2
      go_loopw [9] (fun kx wr => ∃ (k : Nat) (X : Xt), k ≤ m ∧ kx = .int .i64 k ∧ wr = wo.ext X ∧ ∀ k', k' < k → ∀ (hk : k' < L.length), unlike L[k'] f) (fun kx _ => m - (intOf kx).toNat)
      case atStart => exact ⟨0, ⟨#[], wo.drawn⟩, by omega, rfl, (ext_none _).symm, fun k' h => by omega⟩
      case round =>
        obtain ⟨k, X, hk, rfl, rfl, hv⟩ := hrel
        have HV := Lib.hid hv
        clear hv
        by_cases hlt2 : k < m
        · have cl := HCL.out k L[k] (List.getElem?_eq_getElem (by omega))
          obtain ⟨fk, hFk⟩ : ∃ fk, fk = L[k] := ⟨_, rfl⟩
          rw [← hFk] at cl
          have HFk := Lib.hid hFk
          clear hFk
          have d0 := cl 0 _ rfl
          have d1 := cl 1 _ rfl
          simp only [Nat.add_zero] at d0
          clear cl
          have hki : (k : Int) < L.length := by omega
          go_wp2
          by_cases ax : fk.x = f.x
          · have ax' : (fk.x == f.x) = true := by simpa using ax
            by_cases ay : fk.y = f.y
            · have ay' : (fk.y == f.y) = true := by simpa using ay
              clear ax ay
              refine wp_region_ext (by kernel_rfl) (by kernel_rfl) ?_
              repeat (go_big_quiet_step ((fail)))
              refine wpQuiet_nil ?_
              intro _ hw_ext
              obtain ⟨X4, hw_ext⟩ := hw_ext
              subst hw_ext
              go_wp2_with (first | (go_at_call 49; (with_reducible refine (awake25 _).mono ?_); rintro _ _ ⟨rfl, X_, rfl⟩))
              go_ret
              have BF := BB.trans (G.bel.mono (by omega))
              have zf : w.heap.size ≤ wo.heap.size := by omega
              exact Ret.of (by repeat (first | exact BF | (with_reducible refine Below.ext ?_ (by first | omega | (simp; omega)) _)))
            · have ay' : (fk.y == f.y) = false := by simpa using ay
              have nu : unlike fk f := fun h => ay h.2
              have NU := Lib.hid nu
              clear ax ay nu
              refine wp_region_ext (by kernel_rfl) (by kernel_rfl) ?_
              repeat (go_big_quiet_step ((fail)))
              refine wpQuiet_nil ?_
              intro _ hw_ext
              obtain ⟨X4, hw_ext⟩ := hw_ext
              subst hw_ext
              go_wp2
              go_roundw
              case rel => exact ⟨k + 1, _, by omega, by go_num, World.ext_ext, fun k' h hk' => by
                rcases Nat.lt_or_ge k' k with h' | h'
                · exact HV.out k' h' hk'
                · obtain rfl : k' = k := by omega
                  rw [← HFk.out]; exact NU.out⟩
              case measure => simp [intOf]; omega
          · have ax' : (fk.x == f.x) = false := by simpa using ax
            have nu : unlike fk f := fun h => ax h.1
            have NU := Lib.hid nu
            clear ax nu
            refine wp_region_ext (by kernel_rfl) (by kernel_rfl) ?_
            repeat (go_big_quiet_step ((fail)))
            refine wpQuiet_nil ?_
            intro _ hw_ext
            obtain ⟨X4, hw_ext⟩ := hw_ext
            subst hw_ext
            go_wp2
            go_roundw
            case rel => exact ⟨k + 1, _, by omega, by go_num, World.ext_ext, fun k' h hk' => by
              rcases Nat.lt_or_ge k' k with h' | h'
              · exact HV.out k' h' hk'
              · obtain rfl : k' = k := by omega
                rw [← HFk.out]; exact NU.out⟩
            case measure => simp [intOf]; omega
        · obtain rfl : k = m := by omega
          have G2 := G.ext X
          have HG2 := Lib.hid G2
          have nl : (L.drop (k + 1)).reverse.length ≤ 20 := by simp; omega
          clear G2
          go_wp2_with (first
            | (at_builtin; refine wpList_append_lies _ rfl _ _ 74 rfl w0.heap.size 66 i0 (.agg #[.int .i64 0, .int .i64 0, .int .i64 0, .int .i64 0, .int .i64 0, .int .i64 0, .int .i64 0, .int .i64 0]) 8 64 Try.underlying74 hi hz0 hz1 hz2 rfl (by decide) _ _ _ rfl (HG2.out.own.alloc _) ⟨wo.heap.size + X.sz, 0, none⟩ 1 1 f.cells rfl rfl (cells_new (by simp) _ _) (fun x hx => by simp at hx; rcases hx with rfl | rfl | rfl | rfl | rfl | rfl | rfl | rfl <;> rfl) (by omega) (by unfold maxLen; omega) (by omega) (by simp; omega) (wo.heap.size + X.sz + 1) (by simp) ?_; intro g capg w3 hown hgrow hat hlt3; have G3 := Lib.hid (HG2.out.step hown hgrow); clear hown hgrow))
          go_roundw
          case rel => exact ⟨k, (k : Int) - 1, by omega, by go_num, by omega, by
            have e : (L.drop k).reverse = (L.drop (k + 1)).reverse ++ [f] := by rw [List.drop_eq_getElem_cons hm, List.reverse_cons, HF.out]
            have e2 : (L.drop (k + 1)).reverse.length = L.length - (k + 1) := by simp
            have e3 := G3.out
            rw [e2] at e3
            rw [e]; exact e3, fun i h1 h2 k2 h3 h4 h5 => by
            rcases Nat.lt_or_ge k i with h' | h'
            · exact HU.out i h1 (by omega) k2 h3 h4 h5
            · obtain rfl : i = k := by omega
              have := HV.out k2 h3 h5
              rw [← HF.out] at this; exact this⟩
          case measure => first | (simp [intOf]; done) | (simp [intOf]; omega)
    · obtain rfl : j = 0 := by omega
      rw [List.drop_zero] at G
      have pw : L.Pairwise unlike := unlike_of fun i hi k hk h1 h2 => hu i hi (by omega) k hk h1 h2
      have HPW := Lib.hid pw
      have FB : Frs wr u7 L.reverse := G.frs (fun f hf => LOK.out f (List.mem_reverse.1 hf)) (by simp; omega)
      have OWB := Lib.hid FB.own
      have FRr : Frs wr (.slice av L.length capv) L := by obtain ⟨Y, hY⟩ := G.bel.toExt; rw [hY]; exact FR0.ext Y
      have BBr := BB.trans (G.bel.mono (by omega))
      have zr := G.bel.size
      have PMr : Row wr w.heap.size #[.int .i64 W, .int .i64 H, .slice a C.length cap, .slice a' Z.length cap'] 39 := by obtain ⟨Y, hY⟩ := G.bel.toExt; rw [hY]; exact PM.ext Y
      have PPr : Row wr (w.heap.size + 1) #[.bool o.cut, .int .i64 o.x0, .int .i64 o.y0, .int .i64 o.x1, .int .i64 o.y1, .bool o.deep, .int .i64 o.fn, .bool o.keep, .bool o.mix, .int .i64 o.sf, .int .i64 o.df, .bool o.m0, .bool o.m1, .bool o.m2, .bool o.m3] 64 := by obtain ⟨Y, hY⟩ := G.bel.toExt; rw [hY]; exact PP.ext Y
      have HCr : Rd wr (.slice a C.length cap) C := by obtain ⟨Y, hY⟩ := BBr.toExt; rw [hY]; exact HC.ext Y
      have HZr : Rd wr (.slice a' Z.length cap') Z := by obtain ⟨Y, hY⟩ := BBr.toExt; rw [hY]; exact HZ.ext Y
      clear hu pw G
      obtain ⟨wo, rfl⟩ : ∃ wo, wo = wr := ⟨_, rfl⟩
      go_wp2
      refine wp_copies2 (c := .slice a C.length cap) (z := .slice a' Z.length cap') w.heap.size hr HCr HZr rfl PMr (by decide) (six (by simp [sg]) (by simp [sg]) (by simp [sg]) (by simp [sg]) (by simp [sg]) (by simp [sg])) (by decide) ?_
      intro X2 qa g1 k1 g2 k2 qb g3 k3 g4 k4 T2
      simp only [Act.put, List.setIfInBounds_toArray, List.set_cons_zero, List.set_cons_succ, ptr]
      go_wp2
      refine wp_abs (F := fun wx => Pair wo wx W H C Z C Z qa g1 k1 g2 k2 qb g3 k3 g4 k4 ∧ Row wx w.heap.size #[.int .i64 W, .int .i64 H, .slice a C.length cap, .slice a' Z.length cap'] 39 ∧ Row wx (w.heap.size + 1) #[.bool o.cut, .int .i64 o.x0, .int .i64 o.y0, .int .i64 o.x1, .int .i64 o.y1, .bool o.deep, .int .i64 o.fn, .bool o.keep, .bool o.mix, .int .i64 o.sf, .int .i64 o.df, .bool o.m0, .bool o.m1, .bool o.m2, .bool o.m3] 64) ⟨⟨T2.a, T2.b, T2.lo, T2.ap, (Below.refl _ _).ext (Nat.le_refl _) X2⟩, by (repeat (first | assumption | with_reducible refine Row.ext ?_ _ | with_reducible refine row_drew ?_ | (with_reducible refine row_last ?_; first | rfl | (simp; done)) | with_reducible refine Row.alloc ?_ _)), by (repeat (first | assumption | with_reducible refine Row.ext ?_ _ | with_reducible refine row_drew ?_ | (with_reducible refine row_last ?_; first | rfl | (simp; done)) | with_reducible refine Row.alloc ?_ _))⟩ ?_
      rintro wx ⟨PR, PM2, PP2⟩
      have FRx : Frs wx (.slice av L.length capv) L := by obtain ⟨Y, hY⟩ := PR.bel.toExt; rw [hY]; exact FRr.ext Y
      have FBx : Frs wx u7 L.reverse := by obtain ⟨Y, hY⟩ := PR.bel.toExt; rw [hY]; exact FB.ext Y
      have vn1 : ∀ b, (Value.slice av L.length capv).ownBlock = some b → L ≠ [] → b ≠ g1 ∧ b ≠ g2 := fun b hb hne => by have := OWN.out b hb hne; have := PR.lo; omega
      have vn2 : ∀ b, u7.ownBlock = some b → L.reverse ≠ [] → b ≠ g3 ∧ b ≠ g4 := fun b hb hne => by have := OWB.out b hb hne; have := PR.lo; omega
      have vn3 : ∀ b, u7.ownBlock = some b → L.reverse ≠ [] → b ≠ g1 ∧ b ≠ g2 := fun b hb hne => by have := OWB.out b hb hne; have := PR.lo; omega
      have VN1 := Lib.hid vn1
      have VN2 := Lib.hid vn2
      have VN3 := Lib.hid vn3
      clear vn1 vn2 vn3
      have p0 := PP2.cell 0
      have p1 := PP2.cell 1
      have p2 := PP2.cell 2
      have p3 := PP2.cell 3
      have p4 := PP2.cell 4
      have p5 := PP2.cell 5
      have p6 := PP2.cell 6
      have p7 := PP2.cell 7
      have p8 := PP2.cell 8
      have p9 := PP2.cell 9
      have p10 := PP2.cell 10
      have p11 := PP2.cell 11
      have p12 := PP2.cell 12
      have p13 := PP2.cell 13
      have p14 := PP2.cell 14
      simp at p0 p1 p2 p3 p4 p5 p6 p7 p8 p9 p10 p11 p12 p13 p14
      go_region_held3 (fun w' => w'.cell? ⟨w.heap.size + 1, 0, none⟩ = some (.bool o.cut) ∧ w'.cell? ⟨w.heap.size + 1, 1, none⟩ = some (.int .i64 o.x0) ∧ w'.cell? ⟨w.heap.size + 1, 2, none⟩ = some (.int .i64 o.y0) ∧ w'.cell? ⟨w.heap.size + 1, 3, none⟩ = some (.int .i64 o.x1) ∧ w'.cell? ⟨w.heap.size + 1, 4, none⟩ = some (.int .i64 o.y1) ∧ w'.cell? ⟨w.heap.size + 1, 5, none⟩ = some (.bool o.deep) ∧ w'.cell? ⟨w.heap.size + 1, 6, none⟩ = some (.int .i64 o.fn) ∧ w'.cell? ⟨w.heap.size + 1, 7, none⟩ = some (.bool o.keep) ∧ w'.cell? ⟨w.heap.size + 1, 8, none⟩ = some (.bool o.mix) ∧ w'.cell? ⟨w.heap.size + 1, 9, none⟩ = some (.int .i64 o.sf) ∧ w'.cell? ⟨w.heap.size + 1, 10, none⟩ = some (.int .i64 o.df) ∧ w'.cell? ⟨w.heap.size + 1, 11, none⟩ = some (.bool o.m0) ∧ w'.cell? ⟨w.heap.size + 1, 12, none⟩ = some (.bool o.m1) ∧ w'.cell? ⟨w.heap.size + 1, 13, none⟩ = some (.bool o.m2) ∧ w'.cell? ⟨w.heap.size + 1, 14, none⟩ = some (.bool o.m3)) (go_simp) ((first
        | (go_at_call 58; (with_reducible refine (all_any PR.a.drew o ho (FRx.chg (p := fun _ => False) Chg.refl.drew (fun _ _ _ _ h => h)) VN1.out).mono ?_); rintro _ w1 ⟨rfl, IA, CH⟩; have PR1 := PR.drew.stepA CH (fun k h => h) IA; have PP1 := PR.drew.keep CH (fun k h => by omega) (row_drew PP2) (by omega); have PM1 := PR.drew.keep CH (fun k h => by omega) (row_drew PM2) (by omega); have r0 := PP1.cell 0; have r1 := PP1.cell 1; have r2 := PP1.cell 2; have r3 := PP1.cell 3; have r4 := PP1.cell 4; have r5 := PP1.cell 5; have r6 := PP1.cell 6; have r7 := PP1.cell 7; have r8 := PP1.cell 8; have r9 := PP1.cell 9; have r10 := PP1.cell 10; have r11 := PP1.cell 11; have r12 := PP1.cell 12; have r13 := PP1.cell 13; have r14 := PP1.cell 14; simp at r0 r1 r2 r3 r4 r5 r6 r7 r8 r9 r10 r11 r12 r13 r14)
        | (go_at_call 58; (with_reducible refine (all_rev PR1.b o ho (FBx.chg (p := fun k => k = g1 ∨ k = g2) (Chg.refl.drew.trans CH) (fun b hb hne _ h => by have := VN3.out b hb hne; omega)) VN2.out HPW.out).mono ?_); rintro _ w2 ⟨rfl, IB, CH2⟩; have PR2 := PR1.stepB CH2 (fun k h => h) IB; have PP3 := PR1.keep CH2 (fun k h => by omega) PP1 (by omega); have PM3 := PR1.keep CH2 (fun k h => by omega) PM1 (by omega); have t0 := PP3.cell 0; have t1 := PP3.cell 1; have t2 := PP3.cell 2; have t3 := PP3.cell 3; have t4 := PP3.cell 4; have t5 := PP3.cell 5; have t6 := PP3.cell 6; have t7 := PP3.cell 7; have t8 := PP3.cell 8; have t9 := PP3.cell 9; have t10 := PP3.cell 10; have t11 := PP3.cell 11; have t12 := PP3.cell 12; have t13 := PP3.cell 13; have t14 := PP3.cell 14; simp at t0 t1 t2 t3 t4 t5 t6 t7 t8 t9 t10 t11 t12 t13 t14)))
      have BF : Below w.heap.size w w2 := BBr.trans (PR2.bel.mono (by omega))
      have oka := PR2.a.ok
      have z2 := PR2.bel.size
      generalize (allF o W H C Z L).1 = AC at *
      generalize (allF o W H C Z L).2.1 = AZ at *
      generalize (allF o W H C Z L).2.2 = AN at *
      clear p0 r0 t0 p1 r1 t1 p2 r2 t2 p3 r3 t3 p4 r4 t4 p5 r5 t5 p6 r6 t6 p7 r7 t7 p8 r8 t8 p9 r9 t9 p10 r10 t10 p11 r11 t11 p12 r12 t12 p13 r13 t13 p14 r14 t14
      have ya0 := PR2.a.row.cell 0
      have ya1 := PR2.a.row.cell 1
      have ya2 := PR2.a.row.cell 2
      have ya3 := PR2.a.row.cell 3
      have yb0 := PR2.b.row.cell 0
      have yb1 := PR2.b.row.cell 1
      have yb2 := PR2.b.row.cell 2
      have yb3 := PR2.b.row.cell 3
      simp at ya0 ya1 ya2 ya3 yb0 yb1 yb2 yb3
      have ma := PR2.a.row.lt
      have mb := PR2.b.row.lt
      have ma' : qa ≤ w2.heap.size := by omega
      have mb' : qb ≤ w2.heap.size := by omega
      obtain ⟨ra, rz⟩ := PR2.a.rds
      obtain ⟨rb, rbz⟩ := PR2.b.rds
      have lcA := oka.bd.2
      have lzA := oka.bz
      have zf : w.heap.size ≤ w2.heap.size := by omega
      go_wp2_with fail
      refine (awake25 _).mono ?_
      rintro _ _ ⟨rfl, X5, rfl⟩
      go_wp2_with fail
      refine (same_yes W H _ _ _ _ AC AZ _ ?_ ?_ ?_ ?_ lcA lzA).mono ?_
      (repeat (first | assumption | with_reducible refine Rd.ext ?_ _ | with_reducible refine Rd.alloc ?_ _ | with_reducible refine Rd.drew ?_))
      (repeat (first | assumption | with_reducible refine Rd.ext ?_ _ | with_reducible refine Rd.alloc ?_ _ | with_reducible refine Rd.drew ?_))
      (repeat (first | assumption | with_reducible refine Rd.ext ?_ _ | with_reducible refine Rd.alloc ?_ _ | with_reducible refine Rd.drew ?_))
      (repeat (first | assumption | with_reducible refine Rd.ext ?_ _ | with_reducible refine Rd.alloc ?_ _ | with_reducible refine Rd.drew ?_))
      rintro _ _ ⟨rfl, X6, rfl⟩
      go_wp2
      go_ret
      exact Ret.of' (by simp) (by repeat (first | exact BF | (with_reducible refine Below.ext ?_ (by first | omega | (simp; omega)) _)))
set_option maxRecDepth 100000 in
set_option maxHeartbeats 2000000 in
theorem order_not (W H : Int) (c z : Value) (C Z : List Int) (a : Option Addr) (n cap : Nat) (o : OpsP) (w : World) (hc : Rd w c C) (hz : Rd w z Z) (hs : ¬ smallP W H C Z) :
    Calls Try.prog 16 #[Im W H c z, o.v, .slice a n cap] w (Ret (.bool true) w) := by
  have HC := hc
  have HZ := hz
  obtain ⟨-, -, a1, cap1, rfl, -, -⟩ := hc
  obtain ⟨-, -, a', cap', rfl, -, -⟩ := hz
  go_enter Try.func16, Try.ntmps16
  go_wp2_with (first
    | (go_at_call 56; (with_reducible refine (small25_no W H _ _ C Z _ ?_ ?_ hs).mono ?_); (repeat (first | assumption | with_reducible refine Rd.ext ?_ _ | with_reducible refine Rd.alloc ?_ _ | with_reducible refine Rd.drew ?_)); (repeat (first | assumption | with_reducible refine Rd.ext ?_ _ | with_reducible refine Rd.alloc ?_ _ | with_reducible refine Rd.drew ?_)); rintro _ _ ⟨rfl, X_, rfl⟩)
    | (go_at_call 49; (with_reducible refine (awake25 _).mono ?_); rintro _ _ ⟨rfl, X_, rfl⟩))
  go_ret
  exact Ret.of (by (repeat (first | exact Below.refl _ _ | with_reducible refine Below.drew ?_ | with_reducible refine Below.ext ?_ (by first | exact Nat.le_refl _ | (simp; done) | (simp; omega)) _ | with_reducible refine Below.alloc ?_ (by first | exact Nat.le_refl _ | (simp; done) | (simp; omega)) _ | with_reducible refine Below.setCell ?_ (by first | exact Nat.le_refl _ | (simp; done) | (simp; omega)) _)))
set_option maxRecDepth 100000 in
set_option maxHeartbeats 2000000 in
theorem order_long (W H : Int) (c z : Value) (C Z : List Int) (a : Option Addr) (n cap : Nat) (o : OpsP) (w : World) (hc : Rd w c C) (hz : Rd w z Z) (hs : smallP W H C Z) (h20 : 20 < n) (hn : n ≤ 9223372036854775807) :
    Calls Try.prog 16 #[Im W H c z, o.v, .slice a n cap] w (Ret (.bool true) w) := by
  have HC := hc
  have HZ := hz
  obtain ⟨-, -, a1, cap1, rfl, -, -⟩ := hc
  obtain ⟨-, -, a', cap', rfl, -, -⟩ := hz
  go_enter Try.func16, Try.ntmps16
  go_wp2_with (first
    | (go_at_call 56; (with_reducible refine (small25_yes W H _ _ C Z _ ?_ ?_ hs).mono ?_); (repeat (first | assumption | with_reducible refine Rd.ext ?_ _ | with_reducible refine Rd.alloc ?_ _ | with_reducible refine Rd.drew ?_)); (repeat (first | assumption | with_reducible refine Rd.ext ?_ _ | with_reducible refine Rd.alloc ?_ _ | with_reducible refine Rd.drew ?_)); rintro _ _ ⟨rfl, X_, rfl⟩)
    | (go_at_call 49; (with_reducible refine (awake25 _).mono ?_); rintro _ _ ⟨rfl, X_, rfl⟩))
  go_ret
  exact Ret.of (by (repeat (first | exact Below.refl _ _ | with_reducible refine Below.drew ?_ | with_reducible refine Below.ext ?_ (by first | exact Nat.le_refl _ | (simp; done) | (simp; omega)) _ | with_reducible refine Below.alloc ?_ (by first | exact Nat.le_refl _ | (simp; done) | (simp; omega)) _ | with_reducible refine Below.setCell ?_ (by first | exact Nat.le_refl _ | (simp; done) | (simp; omega)) _)))
theorem FragOrder_all : FragOrder_stmt := by
  intro W H c z a0 a1 a2 a3 a4 a5 a6 a7 a8 a9 a10 a11 a12 a13 a14 v w hI ho hl
  obtain ⟨-, -, ⟨C, hC⟩, ⟨Z, hZ⟩⟩ := hI
  have hc := Rd.of_ints hC
  have hz := Rd.of_ints hZ
  obtain ⟨zl, hzl⟩ := hl
  obtain ⟨L, a, cap, rfl, hn, hF⟩ := frs_of hzl
  have hok : OpsP.ok ⟨a0, a1, a2, a3, a4, a5, a6, a7, a8, a9, a10, a11, a12, a13, a14⟩ := by obtain ⟨h1, h2, h3, h4, h5, h6, h7⟩ := ho; exact ⟨h1, h2, h3, h4, h5, h6, h7⟩
  by_cases h : smallP W H C Z
  · by_cases h20 : L.length ≤ 20
    · exact order_in W H c z _ C Z L ⟨a0, a1, a2, a3, a4, a5, a6, a7, a8, a9, a10, a11, a12, a13, a14⟩ hok w hc hz h (hF (by omega)) h20
    · exact order_long W H c z C Z a L.length cap ⟨a0, a1, a2, a3, a4, a5, a6, a7, a8, a9, a10, a11, a12, a13, a14⟩ w hc hz h (by omega) hn
  · exact order_not W H c z C Z a L.length cap ⟨a0, a1, a2, a3, a4, a5, a6, a7, a8, a9, a10, a11, a12, a13, a14⟩ w hc hz h
theorem FragOrder_holds : Rows.FragOrderSaid := FragOrder_end FragOrder_all
end Go.Proofs.Ytdbbeggenbhbfaa
