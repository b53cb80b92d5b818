/- The walk of layer 25 (frag): fragments come, one by one. Conditions: the image may be; 64 bits; the fragments lie apart from the image. -/
import Derived.Test.YtdbbeggenbhbfaaFragD
namespace Go.Proofs.Ytdbbeggenbhbfaa
set_option linter.unusedVariables false
set_option linter.unusedSimpArgs false
open Go.RowKit
abbrev FrP.cells (f : FrP) : List Value := [.int .i64 f.x, .int .i64 f.y, .int .i64 f.z, .int .i64 f.c0, .int .i64 f.c1, .int .i64 f.c2, .int .i64 f.c3, .int .i64 f.cov]
/-- A slice that reads these fragments. -/
def Frs (w : World) (v : Value) (L : List FrP) : Prop :=
  (∀ f ∈ L, f.ok) ∧ L.length ≤ 1048576 ∧ ∃ a cap, v = .slice a L.length cap ∧ L.length ≤ cap ∧
    (L = [] ∨ ∃ b off, a = some ⟨b, off, none⟩ ∧ b < w.heap.size ∧ ∀ i f, L[i]? = some f → ∀ j u, f.cells[j]? = some u → w.cell? ⟨b, off + i * 8 + j, none⟩ = some u)
theorem Frs.chg {p : Nat → Prop} {w w1 : World} {v : Value} {L : List FrP} (h : Frs w v L) (hc : Chg p w w1) (hb : ∀ b, v.ownBlock = some b → L ≠ [] → b < w.heap.size → ¬ p b) : Frs w1 v L := by
  obtain ⟨h0, h1, a, cap, rfl, h2, h3⟩ := h
  refine ⟨h0, h1, a, cap, rfl, h2, ?_⟩
  by_cases hne : L = []
  · exact .inl hne
  rcases h3 with h3 | ⟨b, off, rfl, hb', hcl⟩
  · exact .inl h3
  · exact .inr ⟨b, off, rfl, Nat.lt_of_lt_of_le hb' hc.size, fun i f hi j u hj => by rw [hc.cell hb' (hb b rfl hne hb')]; exact hcl i f hi j u hj⟩
theorem Frs.own {w : World} {v : Value} {L : List FrP} (h : Frs w v L) : ∀ b, v.ownBlock = some b → L ≠ [] → b < w.heap.size := by
  obtain ⟨h0, h1, a, cap, rfl, h2, h3⟩ := h
  intro b hb hne
  rcases h3 with h3 | ⟨b', off, rfl, hb', hcl⟩
  · exact absurd h3 hne
  · simp [Value.ownBlock] at hb; omega
theorem Frs.ext {w : World} {v : Value} {L : List FrP} (h : Frs w v L) (X : Xt) : Frs (w.ext X) v L := h.chg (p := fun _ => False) (Chg.of_ext X) (fun _ _ _ _ h => h)
/-- One more fragment. -/
def stepF (o : OpsP) (W H : Int) (s : List Int × List Int × Int) (f : FrP) : List Int × List Int × Int :=
  (oneC o f W H s.1 s.2.1, oneZ o f W H s.2.1, if oneB o f W H s.2.1 then s.2.2 + 1 else s.2.2)
def allF (o : OpsP) (W H : Int) (C Z : List Int) (L : List FrP) : List Int × List Int × Int := L.foldl (stepF o W H) (C, Z, 0)
theorem allF_snoc (o : OpsP) (W H : Int) (C Z : List Int) (L : List FrP) (k : Nat) (hk : k < L.length) : allF o W H C Z (L.take (k + 1)) = stepF o W H (allF o W H C Z (L.take k)) L[k] := by
  unfold allF
  rw [List.take_succ_eq_append_getElem hk, List.foldl_append]; rfl
theorem allF_01 (o : OpsP) (W H : Int) (C Z : List Int) (L : List FrP) : 0 ≤ (allF o W H C Z L).2.2 ∧ (allF o W H C Z L).2.2 ≤ L.length := by
  have : ∀ (L : List FrP) (s : List Int × List Int × Int), s.2.2 ≤ (L.foldl (stepF o W H) s).2.2 ∧ (L.foldl (stepF o W H) s).2.2 ≤ s.2.2 + L.length := by
    intro L
    induction L with
    | nil => intro s; simp
    | cons f L ih =>
      intro s
      have := ih (stepF o W H s f)
      simp only [List.foldl_cons, List.length_cons]
      have h2 : s.2.2 ≤ (stepF o W H s f).2.2 ∧ (stepF o W H s f).2.2 ≤ s.2.2 + 1 := by unfold stepF; simp only; split <;> omega
      omega
  have := this L (C, Z, 0)
  unfold allF; simp only at this; omega
/-- What a loop over fragments keeps. -/
structure Run (w wr : World) (bm g1 k1 g2 k2 : Nat) (W H : Int) (o : OpsP) (v : Value) (L : List FrP) (s : List Int × List Int × Int) : Prop where
  im : Img wr bm g1 k1 g2 k2 W H s.1 s.2.1
  o : Row wr w.heap.size #[.bool o.cut, .int .i64 o.x0, .int .i64 o.y0, .int .i64 o.x1, .int .i64 o.y1, .bool o.deep, .int .i64 o.fn, .bool o.keep, .bool o.mix, .int .i64 o.sf, .int .i64 o.df, .bool o.m0, .bool o.m1, .bool o.m2, .bool o.m3] 64
  l : Frs wr v L
  lt : bm < w.heap.size ∧ g1 < w.heap.size ∧ g2 < w.heap.size
  chg : Chg (fun k => k = g1 ∨ k = g2) w wr
theorem Run.step {w wr w2 : World} {bm g1 k1 g2 k2 : Nat} {W H : Int} {o : OpsP} {v : Value} {L : List FrP} {s s' : List Int × List Int × Int} (h : Run w wr bm g1 k1 g2 k2 W H o v L s)
    (c1 : Chg (fun k => k = g1 ∨ k = g2) wr w2) (hv : ∀ b, v.ownBlock = some b → L ≠ [] → b ≠ g1 ∧ b ≠ g2) (hI : Img w2 bm g1 k1 g2 k2 W H s'.1 s'.2.1) : Run w w2 bm g1 k1 g2 k2 W H o v L s' := by
  obtain ⟨im, o', l, lt, chg⟩ := h
  exact ⟨hI, c1.row o' (by omega), l.chg c1 (fun b hb hne _ h => by have := hv b hb hne; omega), lt, chg.trans c1⟩
set_option maxRecDepth 100000 in
set_option maxHeartbeats 4000000 in
theorem all_any {w : World} {bm g1 k1 g2 k2 : Nat} {W H : Int} {C Z : List Int} {v : Value} {L : List FrP} (hI : Img w bm g1 k1 g2 k2 W H C Z) (o : OpsP) (ho : o.ok) (hL : Frs w v L) (hv : ∀ b, v.ownBlock = some b → L ≠ [] → b ≠ g1 ∧ b ≠ g2) :
    Calls Try.prog 58 #[.pointer (some ⟨bm, 0, none⟩), o.v, v] w (PutsB bm g1 k1 g2 k2 W H (allF o W H C Z L).1 (allF o W H C Z L).2.1 (.int .i64 (allF o W H C Z L).2.2) w) := by
  have HL := hL
  have hL2 := hL.2.1
  have HV := Lib.hid hv
  obtain ⟨-, -, a, cap, rfl, hcap, -⟩ := hL
  clear hv
  have lt : bm < w.heap.size ∧ g1 < w.heap.size ∧ g2 < w.heap.size := ⟨hI.row.lt, hI.c.lt, hI.z.lt⟩
  go_enter Try.func58, Try.ntmps58
  go_wp2
  go_loopw [7, 12] (fun n i wr => ∃ k : Nat, k ≤ L.length ∧ i = .int .i64 k ∧ n = .int .i64 (allF o W H C Z (L.take k)).2.2 ∧ Run w wr bm g1 k1 g2 k2 W H o (.slice a L.length cap) L (allF o W H C Z (L.take k)))
    (fun _ i _ => L.length - (intOf i).toNat)
  case atStart => exact ⟨0, by omega, rfl, rfl, ⟨by show Img _ _ _ _ _ _ _ _ C Z; (repeat (first | assumption | with_reducible refine Img.ext ?_ _ | with_reducible refine Img.alloc ?_ _ | with_reducible refine Img.drew ?_)), by (repeat (first | assumption | with_reducible refine Row.ext ?_ _ | with_reducible refine row_drew ?_ | (with_reducible refine row_last ?_; first | rfl | (simp; done)) | with_reducible refine Row.alloc ?_ _)), HL.chg (p := fun _ => False) (by (repeat (first | exact Chg.refl | with_reducible refine Chg.drew ?_ | with_reducible refine Chg.ext ?_ _ | with_reducible refine Chg.alloc ?_ _ | (with_reducible refine Chg.setCell ?_ (fun hlt_ => absurd hlt_ (by first | omega | (simp; omega))) _)))) (fun _ _ _ _ h => h), lt, Chg.mono (by (repeat (first | exact Chg.refl | with_reducible refine Chg.drew ?_ | with_reducible refine Chg.ext ?_ _ | with_reducible refine Chg.alloc ?_ _ | (with_reducible refine Chg.setCell ?_ (fun hlt_ => absurd hlt_ (by first | omega | (simp; omega))) _))) : Chg (fun _ => False) _ _) (fun _ _ h => h.elim)⟩⟩
  case round =>
    obtain ⟨k, hk, rfl, rfl, RU⟩ := hrel
    obtain ⟨n0, n1⟩ := allF_01 o W H C Z (L.take k)
    have n2 : (L.take k).length ≤ k := List.length_take_le _ _
    by_cases hlt : k < L.length
    · have HS := Lib.hid (allF_snoc o W H C Z L k hlt)
      generalize allF o W H C Z (L.take k) = s at *
      obtain ⟨lf, -, a1, cap1, q1, -, h3⟩ := RU.l
      rcases h3 with rfl | ⟨b, off, rfl, hb, hcl⟩
      · simp at hlt
      obtain ⟨rfl, rfl⟩ : a = some ⟨b, off, none⟩ ∧ cap = cap1 := by simpa using q1
      have hfk : L[k]? = some L[k] := by simp [hlt]
      have hf := lf L[k] (by simp)
      have cl := hcl k L[k] hfk
      clear q1 hcl lf
      generalize hF : L[k] = f at *
      have HF := Lib.hid hF
      clear hF hfk
      have d0 := cl 0 _ rfl
      have d1 := cl 1 _ rfl
      have d2 := cl 2 _ rfl
      have d3 := cl 3 _ rfl
      have d4 := cl 4 _ rfl
      have d5 := cl 5 _ rfl
      have d6 := cl 6 _ rfl
      have d7 := cl 7 _ rfl
      have q0 := RU.o.cell 0
      have q1 := RU.o.cell 1
      have q2 := RU.o.cell 2
      have q3 := RU.o.cell 3
      have q4 := RU.o.cell 4
      have q5 := RU.o.cell 5
      have q6 := RU.o.cell 6
      have q7 := RU.o.cell 7
      have q8 := RU.o.cell 8
      have q9 := RU.o.cell 9
      have q10 := RU.o.cell 10
      have q11 := RU.o.cell 11
      have q12 := RU.o.cell 12
      have q13 := RU.o.cell 13
      have q14 := RU.o.cell 14
      simp at q0 q1 q2 q3 q4 q5 q6 q7 q8 q9 q10 q11 q12 q13 q14
      simp only [Nat.add_zero] at d0
      clear cl
      have zr := RU.chg.size
      have zo := RU.o.lt
      have hb' : b ≤ wr.heap.size := by omega
      obtain ⟨wo, rfl⟩ : ∃ wo, wo = wr := ⟨_, rfl⟩
      have hsn : s.2.2 ≤ 1048576 := by omega
      clear n1 n2
      cases hb1 : oneB o f W H s.2.1
      all_goals
        have HB1 := Lib.hid hb1
        clear hb1
        go_wp2_with fail
        refine (one_any (RU.im.alloc _) o f ho hf).mono ?_
        rw [HB1.out]
        rintro _ w2 ⟨rfl, I2, C2⟩
        have RU2 := RU.step (s' := stepF o W H s f) ((Chg.refl.alloc _).trans C2) HV.out I2
        go_wp2
        go_roundw
        case rel => exact ⟨k + 1, by omega, by go_num, by rw [HS.out]; simp [stepF, HB1.out], by rw [HS.out]; exact RU2⟩
        case measure => simp [intOf]; omega
    · obtain rfl : k = L.length := by omega
      rw [List.take_length] at *
      go_wp2
      go_ret
      exact ⟨rfl, RU.im, RU.chg⟩
end Go.Proofs.Ytdbbeggenbhbfaa
