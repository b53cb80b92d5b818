/- A region that draws its order and lays three or four new blocks, each stored whole: the ends. No condition. -/
import Derived.Test.YtmlhbbkgfffmcaaMix
namespace Go
set_option linter.unusedVariables false
set_option linter.unusedSimpArgs false
section
variable {P : Program} {ops : Array Oper} {w0 : World} {a : Act} {l : List Verd}
theorem mix_end3 {Q : Act → World → Prop} (ia ib ic ka kb kc : Nat) {oa ob oc : Oper} {da db dc : Tmp} {Fa Fb Fc : Nat → Value} {ca cb cc za zb zc : Array Value} {Ta Tb Tc Ua Ub Uc : TypeId} (hm : Region.noSelect ops = true ∧ mixB .any ops (l.map Verd.kind) = true) (hidx : locIdx l = [ia, ib, ic])
    (hia : ops[ia]? = some oa) (hva : l[ia]? = some (.loc Fa za Ta)) (hda : oa.dst = some da) (hfa : l[ka]? = some (.fill da ca Ua)) (hca : Verd.final ops l ia za = ca)
    (hib : ops[ib]? = some ob) (hvb : l[ib]? = some (.loc Fb zb Tb)) (hdb : ob.dst = some db) (hfb : l[kb]? = some (.fill db cb Ub)) (hcb : Verd.final ops l ib zb = cb)
    (hic : ops[ic]? = some oc) (hvc : l[ic]? = some (.loc Fc zc Tc)) (hdc : oc.dst = some dc) (hfc : l[kc]? = some (.fill dc cc Uc)) (hcc : Verd.final ops l ic zc = cc)
    (h : ∀ X pa pb pc, NewBlock w0 X pa ca Ta → NewBlock w0 X pb cb Tb → NewBlock w0 X pc cc Tc → pa ≠ pb → pa ≠ pc → pb ≠ pc → Q (((a.put (some da) (Fa pa)).put (some db) (Fb pb)).put (some dc) (Fc pc)) (w0.ext X)) :
    (Region.noSelect ops = true ∧ mixB .any ops (l.map Verd.kind) = true) ∧ ∀ (X : Xt) (ps : List Nat), ps.length = (locIdx l).length → Lays ops l w0 (w0.ext X) ((locIdx l).zip ps) a (fun b => Q b (w0.ext X)) := by
  refine ⟨hm, fun X ps hps => ?_⟩
  rw [hidx] at hps ⊢
  match ps, hps with
  | [pa, pb, pc], _ =>
    simp only [List.zip_cons_cons, List.zip_nil_right, Lays, hia, hva, hib, hvb, hic, hvc]
    intro ga ba na gb bb nb gc bc nc
    rw [hca] at ba
    rw [hcb] at bb
    rw [hcc] at bc
    rw [hda, hdb, hdc]
    simp at na
    simp at nb
    exact h X pa pb pc (NewBlock.mk' ga ba) (NewBlock.mk' gb bb) (NewBlock.mk' gc bc) na.1 na.2 nb
theorem mix_end4 {Q : Act → World → Prop} (ia ib ic id ka kb kc kd : Nat) {oa ob oc od : Oper} {da db dc dd : Tmp} {Fa Fb Fc Fd : Nat → Value} {ca cb cc cd za zb zc zd : Array Value} {Ta Tb Tc Td Ua Ub Uc Ud : TypeId} (hm : Region.noSelect ops = true ∧ mixB .any ops (l.map Verd.kind) = true) (hidx : locIdx l = [ia, ib, ic, id])
    (hia : ops[ia]? = some oa) (hva : l[ia]? = some (.loc Fa za Ta)) (hda : oa.dst = some da) (hfa : l[ka]? = some (.fill da ca Ua)) (hca : Verd.final ops l ia za = ca)
    (hib : ops[ib]? = some ob) (hvb : l[ib]? = some (.loc Fb zb Tb)) (hdb : ob.dst = some db) (hfb : l[kb]? = some (.fill db cb Ub)) (hcb : Verd.final ops l ib zb = cb)
    (hic : ops[ic]? = some oc) (hvc : l[ic]? = some (.loc Fc zc Tc)) (hdc : oc.dst = some dc) (hfc : l[kc]? = some (.fill dc cc Uc)) (hcc : Verd.final ops l ic zc = cc)
    (hid : ops[id]? = some od) (hvd : l[id]? = some (.loc Fd zd Td)) (hdd : od.dst = some dd) (hfd : l[kd]? = some (.fill dd cd Ud)) (hcd : Verd.final ops l id zd = cd)
    (h : ∀ X pa pb pc pd, NewBlock w0 X pa ca Ta → NewBlock w0 X pb cb Tb → NewBlock w0 X pc cc Tc → NewBlock w0 X pd cd Td → pa ≠ pb → pa ≠ pc → pa ≠ pd → pb ≠ pc → pb ≠ pd → pc ≠ pd → Q ((((a.put (some da) (Fa pa)).put (some db) (Fb pb)).put (some dc) (Fc pc)).put (some dd) (Fd pd)) (w0.ext X)) :
    (Region.noSelect ops = true ∧ mixB .any ops (l.map Verd.kind) = true) ∧ ∀ (X : Xt) (ps : List Nat), ps.length = (locIdx l).length → Lays ops l w0 (w0.ext X) ((locIdx l).zip ps) a (fun b => Q b (w0.ext X)) := by
  refine ⟨hm, fun X ps hps => ?_⟩
  rw [hidx] at hps ⊢
  match ps, hps with
  | [pa, pb, pc, pd], _ =>
    simp only [List.zip_cons_cons, List.zip_nil_right, Lays, hia, hva, hib, hvb, hic, hvc, hid, hvd]
    intro ga ba na gb bb nb gc bc nc gd bd nd
    rw [hca] at ba
    rw [hcb] at bb
    rw [hcc] at bc
    rw [hcd] at bd
    rw [hda, hdb, hdc, hdd]
    simp at na
    simp at nb
    simp at nc
    exact h X pa pb pc pd (NewBlock.mk' ga ba) (NewBlock.mk' gb bb) (NewBlock.mk' gc bc) (NewBlock.mk' gd bd) na.1 na.2.1 na.2.2 nb.1 nb.2 nc
end
end Go
