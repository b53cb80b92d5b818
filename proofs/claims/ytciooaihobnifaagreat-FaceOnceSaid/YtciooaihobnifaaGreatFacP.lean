/- The plain law of FaceOnce: the pixels of two faces side by side, and of the other triangles. No condition. -/
import Derived.Test.YtciooaihobnifaaGreatFacI
import Derived.Test.YtciooaihobnifaaGreatFacO
namespace Go.Proofs.YtciooaihobnifaaGreat
set_option linter.unusedVariables false
set_option linter.unusedSimpArgs false
def offQ (f g : FrP) : Prop := ¬ (f.x = g.x ∧ f.y = g.y)
def FrP.at2 (f : FrP) : Int × Int := (f.x, f.y)
theorem rng_nodup (a b : Int) : (rng a b).Nodup := by
  unfold rng
  refine List.pairwise_map.2 (List.nodup_range.imp fun {i j} h e => h ?_)
  omega
theorem nodup_len {α : Type} [DecidableEq α] : ∀ (L M : List α), L.Nodup → (∀ x ∈ L, x ∈ M) → L.length ≤ M.length
  | [], M, _, _ => Nat.zero_le _
  | x :: L, M, h, hm => by
    have hx := hm x List.mem_cons_self
    obtain ⟨h1, h2⟩ := List.nodup_cons.1 h
    have := nodup_len L (M.erase x) h2 fun y hy => (List.mem_erase_of_ne (fun e => h1 (by subst e; exact hy))).2 (hm y (List.mem_cons_of_mem _ hy))
    rw [List.length_erase_of_mem hx] at this
    have := List.length_pos_of_mem hx
    rw [List.length_cons]; omega
theorem fillL_once (a b c : WinP) (o x0 y0 x1 y1 : Int) : (fillL a b c o x0 y0 x1 y1).Pairwise offQ := by
  unfold fillL spansL
  split
  · exact List.Pairwise.nil
  · unfold fillTo spansTo
    rw [List.flatMap_assoc, List.pairwise_flatMap]
    have hm : ∀ y f, f ∈ (spanAt a b c x0 x1 y).flatMap (fillRow a b c o) → f.y = y := fun y f hf => by
      obtain ⟨s, hs, hf⟩ := List.mem_flatMap.1 hf
      unfold spanAt at hs
      split at hs
      · obtain rfl := List.mem_singleton.1 hs
        obtain ⟨x, -, rfl⟩ := List.mem_map.1 hf
        rfl
      · cases hs
    refine ⟨fun y _ => ?_, (rng_nodup y0 y1).imp fun {y z} h f hf g hg e => h ?_⟩
    · unfold spanAt
      split
      · rw [List.flatMap_cons, List.flatMap_nil, List.append_nil]
        unfold fillRow
        exact List.pairwise_map.2 ((rng_nodup _ _).imp fun {i j} h e => h e.1)
      · exact List.Pairwise.nil
    · rw [← hm y f hf, ← hm z g hg]; exact e.2
theorem fillL_has {a b c : WinP} {o x0 y0 x1 y1 x y : Int} (hr : rightP x0 y0 x1 y1) (hx : x0 ≤ x ∧ x < x1) (hy : y0 ≤ y ∧ y < y1) (h : triHas a b c x y) : ∃ f ∈ fillL a b c o x0 y0 x1 y1, f.at2 = (x, y) := by
  have k := (span_iff h.1 x0 x1 x y).2 ⟨hx.1, hx.2, h⟩
  refine ⟨frAt a b c o x y, ?_, rfl⟩
  unfold fillL spansL
  rw [if_neg fun e => e.elim h.1 fun q => q hr]
  unfold fillTo spansTo
  refine List.mem_flatMap.2 ⟨⟨y, spF a b c x0 y, spT a b c x0 x1 y⟩, List.mem_flatMap.2 ⟨y, rng_mem.2 hy, ?_⟩, ?_⟩
  · unfold spanAt
    rw [if_pos (by omega)]; exact List.mem_singleton.2 rfl
  · exact List.mem_map.2 ⟨x, rng_mem.2 k, rfl⟩
/-- The pixels of a rectangle's rows of which something is told. -/
def pxRw (J : Int → Int → Bool) (y x0 x : Int) : List (Int × Int) := ((rng x0 x).filter (fun x => J x y)).map (fun x => (x, y))
def pxTo (J : Int → Int → Bool) (x0 x1 y0 y : Int) : List (Int × Int) := (rng y0 y).flatMap (fun y => pxRw J y x0 x1)
theorem pxRw_snoc (J : Int → Int → Bool) (y x0 x : Int) (h : x0 ≤ x) : (pxRw J y x0 (x + 1)).length = (pxRw J y x0 x).length + if J x y then 1 else 0 := by
  unfold pxRw
  rw [rng_snoc h, List.filter_append, List.length_map, List.length_append, List.length_map]
  cases hj : J x y <;> simp [hj]
theorem pxTo_snoc (J : Int → Int → Bool) (x0 x1 y0 y : Int) (h : y0 ≤ y) : (pxTo J x0 x1 y0 (y + 1)).length = (pxTo J x0 x1 y0 y).length + (pxRw J y x0 x1).length := by
  unfold pxTo
  rw [rng_snoc h, List.flatMap_append, List.length_append]
  simp
theorem pxRw_nil (J : Int → Int → Bool) (y x0 : Int) : (pxRw J y x0 x0).length = 0 := by unfold pxRw; rw [rng_nil (Int.le_refl _)]; rfl
theorem pxTo_nil (J : Int → Int → Bool) (x0 x1 y0 : Int) : (pxTo J x0 x1 y0 y0).length = 0 := by unfold pxTo; rw [rng_nil (Int.le_refl _)]; rfl
theorem pxTo_mem {J : Int → Int → Bool} {x0 x1 y0 y1 : Int} {p : Int × Int} : p ∈ pxTo J x0 x1 y0 y1 ↔ (x0 ≤ p.1 ∧ p.1 < x1) ∧ (y0 ≤ p.2 ∧ p.2 < y1) ∧ J p.1 p.2 = true := by
  unfold pxTo pxRw
  constructor
  · intro h
    obtain ⟨y, hy, h⟩ := List.mem_flatMap.1 h
    obtain ⟨x, hx, rfl⟩ := List.mem_map.1 h
    obtain ⟨h1, h2⟩ := List.mem_filter.1 hx
    exact ⟨rng_mem.1 h1, rng_mem.1 hy, h2⟩
  · intro ⟨h1, h2, h3⟩
    exact List.mem_flatMap.2 ⟨p.2, rng_mem.2 h2, List.mem_map.2 ⟨p.1, List.mem_filter.2 ⟨rng_mem.2 h1, h3⟩, rfl⟩⟩
theorem pxTo_nodup (J : Int → Int → Bool) (x0 x1 y0 y1 : Int) : (pxTo J x0 x1 y0 y1).Nodup := by
  unfold pxTo List.Nodup
  rw [List.pairwise_flatMap]
  refine ⟨fun y _ => ?_, (rng_nodup y0 y1).imp fun {y z} h p hp q hq e => h ?_⟩
  · unfold pxRw
    exact List.pairwise_map.2 (((rng_nodup _ _).filter _).imp fun {i j} h e => h (Prod.mk.inj e).1)
  · unfold pxRw at hp hq
    obtain ⟨x, -, rfl⟩ := List.mem_map.1 hp
    obtain ⟨x', -, rfl⟩ := List.mem_map.1 hq
    exact (Prod.mk.inj e).2
/-- The two faces' fragments. -/
def quadL (a b c d e f : WinP) (x0 y0 x1 y1 : Int) : List FrP := faceF [a, b, c, d] look22 x0 y0 x1 y1 ++ faceF [d, c, e, f] look22 x0 y0 x1 y1
theorem quad_face (a b c d : WinP) (x0 y0 x1 y1 : Int) : faceF [a, b, c, d] look22 x0 y0 x1 y1 = fillL a b c 0 x0 y0 x1 y1 ++ fillL a c d 0 x0 y0 x1 y1 := by
  simp [faceF, fillF, wAt, offK, look22]
def otherB (a b c e f : WinP) (x y : Int) : Bool := decide (triHas b c f x y) || (decide (triHas a b f x y) || decide (triHas c e f x y))
theorem once22_plain (a b c d e f : WinP) (ux uy vx vy : Int) (hu : -32768 ≤ ux ∧ ux ≤ 32767) (hu' : -32768 ≤ uy ∧ uy ≤ 32767) (hv : -32768 ≤ vx ∧ vx ≤ 32767) (hv' : -32768 ≤ vy ∧ vy ≤ 32767)
    (bx : b.x = a.x + ux) (b_y : b.y = a.y + uy) (cx : c.x = b.x + vx) (cy : c.y = b.y + vy) (dx : d.x = a.x + vx) (dy : d.y = a.y + vy) (ex : e.x = c.x + vx) (ey : e.y = c.y + vy) (fx : f.x = d.x + vx) (fy : f.y = d.y + vy) (x0 y0 x1 y1 : Int) (hr : rightP x0 y0 x1 y1) :
    (quadL a b c d e f x0 y0 x1 y1).Pairwise offQ ∧ (quadL a b c d e f x0 y0 x1 y1).length = (pxTo (otherB a b c e f) x0 x1 y0 y1).length := by
  have K := fun x y => once_plain a b c d e f ux uy vx vy hu hu' hv hv' bx b_y cx cy dx dy ex ey fx fy x y
  clear hu hu' hv hv' bx b_y cx cy dx dy ex ey fx fy
  have ap : ∀ {p q r p' q' r' : WinP}, (∀ x y, ¬ (triHas p q r x y ∧ triHas p' q' r' x y)) → ∀ g ∈ fillL p q r 0 x0 y0 x1 y1, ∀ h ∈ fillL p' q' r' 0 x0 y0 x1 y1, offQ g h := fun hn g hg h hh e => by
    have h1 := (fillL_in hg).2
    have h2 := (fillL_in hh).2
    rw [← e.1, ← e.2] at h2
    exact hn _ _ ⟨h1, h2⟩
  have hp : (quadL a b c d e f x0 y0 x1 y1).Pairwise offQ := by
    unfold quadL
    rw [quad_face, quad_face]
    refine List.pairwise_append.2 ⟨List.pairwise_append.2 ⟨fillL_once .., fillL_once .., ap fun x y => (K x y).2.1⟩, List.pairwise_append.2 ⟨fillL_once .., fillL_once .., ap fun x y => (K x y).2.2.2.2.2.2⟩, fun g hg h hh => ?_⟩
    rcases List.mem_append.1 hg with hg | hg <;> rcases List.mem_append.1 hh with hh | hh
    · exact ap (fun x y => (K x y).2.2.1) g hg h hh
    · exact ap (fun x y => (K x y).2.2.2.1) g hg h hh
    · exact ap (fun x y => (K x y).2.2.2.2.1) g hg h hh
    · exact ap (fun x y => (K x y).2.2.2.2.2.1) g hg h hh
  refine ⟨hp, ?_⟩
  have hnd : ((quadL a b c d e f x0 y0 x1 y1).map FrP.at2).Nodup := List.pairwise_map.2 (hp.imp fun {g h} q e => q ⟨(Prod.mk.inj e).1, (Prod.mk.inj e).2⟩)
  have hmem : ∀ p, p ∈ (quadL a b c d e f x0 y0 x1 y1).map FrP.at2 ↔ p ∈ pxTo (otherB a b c e f) x0 x1 y0 y1 := fun p => by
    rw [pxTo_mem]
    unfold otherB
    simp only [Bool.or_eq_true, decide_eq_true_eq]
    rw [← or_assoc, or_assoc, ← (K p.1 p.2).1]
    constructor
    · intro h
      obtain ⟨g, hg, rfl⟩ := List.mem_map.1 h
      unfold quadL at hg
      rw [quad_face, quad_face] at hg
      rcases List.mem_append.1 hg with hg | hg <;> rcases List.mem_append.1 hg with hg | hg <;> obtain ⟨⟨-, q1, q2, q3, q4⟩, q5⟩ := fillL_in hg
      · exact ⟨⟨q1, q2⟩, ⟨q3, q4⟩, .inl q5⟩
      · exact ⟨⟨q1, q2⟩, ⟨q3, q4⟩, .inr (.inl q5)⟩
      · exact ⟨⟨q1, q2⟩, ⟨q3, q4⟩, .inr (.inr (.inl q5))⟩
      · exact ⟨⟨q1, q2⟩, ⟨q3, q4⟩, .inr (.inr (.inr q5))⟩
    · intro ⟨h1, h2, h3⟩
      unfold quadL
      rw [quad_face, quad_face]
      rcases h3 with h3 | h3 | h3 | h3 <;> obtain ⟨g, hg, e⟩ := fillL_has (o := 0) hr h1 h2 h3 <;> refine List.mem_map.2 ⟨g, ?_, e⟩
      · exact List.mem_append_left _ (List.mem_append_left _ hg)
      · exact List.mem_append_left _ (List.mem_append_right _ hg)
      · exact List.mem_append_right _ (List.mem_append_left _ hg)
      · exact List.mem_append_right _ (List.mem_append_right _ hg)
  have l1 := nodup_len _ _ hnd fun p hp => (hmem p).1 hp
  have l2 := nodup_len _ _ (pxTo_nodup (otherB a b c e f) x0 x1 y0 y1) fun p hp => (hmem p).2 hp
  rw [List.length_map] at l1 l2
  omega
end Go.Proofs.YtciooaihobnifaaGreat
