import Derived.Deep.DeepCutAuto
import Derived.Deep.AppendLies
import Derived.OwnWalk
import Derived.Test.YthcjfanigfgckaaGreatSHiddenOrder01
set_option linter.unusedVariables false
set_option linter.unusedSimpArgs false
set_option maxRecDepth 100000
set_option maxHeartbeats 16000000
section
section
namespace Go
section
variable {P:Program} {ops:Array Oper} {w0:World} {md:Region.Mode}
theorem eval_agree {a a':Act} {x:Operand} (h:∀ s,x=.tmp s->a.tmps[s]?=a'.tmps[s]?):a.eval x=a'.eval x:=by
 cases x with
 |tmp s=>simp only[Act.eval,Array.getD_eq_getD_getElem?,h s rfl]
 |_=>rfl
theorem exec_agree {o:Oper} (hs:∀ cs b,o.op≠.select cs b) {a a':Act} (h:∀ s∈o.looksAt ops,a.tmps[s]?=a'.tmps[s]?):execOp a.eval o=execOp a'.eval o :=
 execOp_congr o hs fun x hx=>eval_agree fun s hxs=>h s (by
  subst hxs;exact List.mem_append_left _ (List.mem_filterMap.2 ⟨.tmp s,by simpa using hx,rfl⟩))
theorem wanted_agree {o:Oper} {a a':Act} (h:∀ s∈o.looksAt ops,a.tmps[s]?=a'.tmps[s]?):Region.wanted o (yielded ops a.tmps)=Region.wanted o (yielded ops a'.tmps):=by
 unfold Region.wanted;cases hg:o.guard with
 |none=>rfl
 |some gw =>
  obtain ⟨g,want⟩:=gw;have hy:yielded ops a.tmps g=yielded ops a'.tmps g:=by
   unfold yielded;cases ht:(ops[g]?).bind (·.dst) with
   |none=>rfl
   |some t =>
    have:=h t (by simp[Oper.looksAt,hg,ht]);simp only[Option.bind_some,this]
  simp only[hy]
inductive Verd where
 |val (v:Value)
 |loc (F:Nat->Value) (c:Array Value) (T:TypeId)
 |fill (d:Tmp) (c:Array Value) (T:TypeId)
def Verd.kind:Verd->Nat
 | .val _=>0
 | .loc ..=>1
 | .fill ..=>2
def Verd.strip:Verd->Verd
 | .val _=>.val undef
 |v=>v
theorem Verd.kind_strip (v:Verd):v.strip.kind=v.kind:=by cases v<;>rfl
theorem Verd.strip_loc {v:Verd} {F:Nat->Value} {c:Array Value} {T:TypeId} (h:v.strip=.loc F c T):v=.loc F c T:=by cases v<;>simp_all [Verd.strip]
def ptr (p:Nat):Value:=.pointer (some ⟨p,0,none⟩)
def Verd.ok (P:Program) (ops:Array Oper) (w0:World) (l:List Verd) (o:Oper) (a:Act):Verd->Prop
 | .val v=>(Region.wanted o (yielded ops a.tmps)=true/\∀ X,o.quietAt P a (fun w''=>∃ Y,w''=(w0.ext X).ext Y) (w0.ext X) v) \/
   (Region.wanted o (yielded ops a.tmps)=false/\v=undef)
 | .loc F c T=>o.guard=none/\∀ X,(execOp a.eval o).run P (w0.ext X)=.ok (.value (F (w0.ext X).heap.size)) ((w0.ext X).alloc (.cells c T))
 | .fill d c T=>o.guard=none/\o.dst=none/\∃ x,o.op=.store T (.tmp d) x/\a.eval x=.agg c/\c.all (·.oneCell')=true/\(P.info? T).map (·.size)=some c.size /\
   d<a.tmps.size/\∃ (j:Nat) (oj:Oper) (c0:Array Value),l[j]?=some (.loc ptr c0 T)/\ops[j]?=some oj/\oj.dst=some d/\c0.size=c.size
def Verd.put (o:Oper) (a:Act):Verd->Act
 | .val v=>a.put o.dst v
 |_=>a
def wpMix (P:Program) (ops:Array Oper) (w0:World) (K:Act->List Verd->Prop):List Oper->Act->List Verd->Prop
 | [],a,l=>K a l
 |o::rest,a,l=>∃ vd:Verd,vd.ok P ops w0 l o a/\wpMix P ops w0 K rest (vd.put o a) (l++[vd.strip])
def LexRun (P:Program) (ops:Array Oper) (w0:World):List Oper->List Verd->Act->List Verd->Act->Prop
 | [],_,a,[],a'=>a'=a
 |o::os,l,a,v::vs,a'=>v.ok P ops w0 l o a/\LexRun P ops w0 os (l++[v.strip]) (v.put o a) vs a'
 |_,_,_,_,_=>False
theorem lexRun_of_mix {K:Act->List Verd->Prop} (os:List Oper):∀ (a:Act) (l:List Verd),wpMix P ops w0 K os a l->∃ vs a',LexRun P ops w0 os l a vs a'/\K a' (l++vs.map Verd.strip):=by
 induction os with
 |nil=>intro a l h;exact ⟨[],a,rfl,by rw[List.map_nil,List.append_nil];exact h⟩
 |cons o os ih =>
  intro a l h;obtain ⟨vd,h1,h2⟩:=h;obtain ⟨vs,a',h3,h4⟩:=ih _ _ h2;exact ⟨vd::vs,a',⟨h1,h3⟩,by simpa using h4⟩
theorem lexRun_length (os:List Oper):∀ (l:List Verd) (a:Act) (vs:List Verd) (a':Act),LexRun P ops w0 os l a vs a'->vs.length=os.length:=by
 induction os with
 |nil=>intro l a vs a' h;cases vs with|nil=>rfl|cons=>exact h.elim
 |cons o os ih=>intro l a vs a' h;cases vs with|nil=>exact h.elim|cons v vs=>simp[ih _ _ _ _ h.2]
def frameAt:List Oper->List Verd->Nat->Act->Act
 |o::os,v::vs,i+1,a=>frameAt os vs i (v.put o a)
 |_,_,_,a=>a
theorem Verd.put_defers (o:Oper) (a:Act) (v:Verd):(v.put o a).defers=a.defers:=by
 cases v<;>simp[Verd.put,Act.put]<;>split<;>rfl
theorem Verd.put_size (o:Oper) (a:Act) (v:Verd):(v.put o a).tmps.size=a.tmps.size:=by
 cases v<;>simp[Verd.put,Act.put]<;>split<;>simp
theorem frameAt_same (os:List Oper):∀ (vs:List Verd) (i:Nat) (a:Act),(frameAt os vs i a).defers=a.defers/\(frameAt os vs i a).tmps.size=a.tmps.size:=by
 induction os with
 |nil=>intro vs i a;simp[frameAt]
 |cons o os ih =>
  intro vs i a;cases vs with
  |nil=>simp[frameAt]
  |cons v vs =>
   cases i with
   |zero=>simp[frameAt]
   |succ i=>simp only[frameAt];rw[(ih vs i _).1,(ih vs i _).2,Verd.put_defers,Verd.put_size];exact ⟨rfl,rfl⟩
theorem Verd.put_other {o:Oper} {a:Act} {v:Verd} {s:Nat} (h:v.kind=0->o.dst≠some s):(v.put o a).tmps[s]?=a.tmps[s]?:=by
 cases v with
 |val u =>
  have h0:=h rfl;simp only[Verd.put,Act.put];cases hd:o.dst with
  |none=>rfl
  |some d=>rw[hd] at h0;exact Array.getElem?_setIfInBounds_ne (by simpa using h0)
 |_=>rfl
theorem frameAt_other (os:List Oper):∀ (vs:List Verd) (i:Nat) (a:Act) (s:Nat),
  (∀ (j:Nat) (o':Oper) (v':Verd),j<i->os[j]?=some o'->vs[j]?=some v'->v'.kind=0->o'.dst≠some s)->(frameAt os vs i a).tmps[s]?=a.tmps[s]?:=by
 induction os with
 |nil=>intro vs i a s _;simp[frameAt]
 |cons o os ih =>
  intro vs i a s h;cases vs with
  |nil=>simp[frameAt]
  |cons v vs =>
   cases i with
   |zero=>simp[frameAt]
   |succ i =>
    simp only[frameAt];rw[ih vs i _ s (fun j o' v' hj ho hv=>h (j+1) o' v' (by omega) (by simpa using ho) (by simpa using hv))];exact Verd.put_other (h 0 o v (by omega) rfl rfl)
theorem frameAt_slot (os:List Oper):∀ (vs:List Verd) (i j:Nat) (a:Act) (s:Nat) (o:Oper) (u:Value),j<i->os[j]?=some o->vs[j]?=some (.val u)->o.dst=some s ->
  (∀ (k:Nat) (o':Oper),k≠j->os[k]?=some o'->o'.dst≠some s)->(frameAt os vs i a).tmps[s]?=(a.tmps[s]?).map fun _=>u:=by
 induction os with
 |nil=>intro vs i j a s o u hj ho;simp at ho
 |cons o0 os ih =>
  intro vs i j a s o u hj ho hv hd hn;cases vs with
  |nil=>simp at hv
  |cons v vs =>
   cases i with
   |zero=>omega
   |succ i =>
    simp only[frameAt];cases j with
    |zero =>
     simp at ho hv;subst ho;subst hv
     rw[frameAt_other os vs i _ s (fun k o' v' _ ho' _ _=>hn (k+1) o' (by omega) (by simpa using ho'))];simp only[Verd.put,Act.put,hd]
     by_cases hs:s<a.tmps.size
     ·simp[hs]
     ·simp[hs]
    |succ j =>
     rw[ih vs i j _ s o u (by omega) (by simpa using ho) (by simpa using hv) hd (fun k o' hk ho'=>hn (k+1) o' (by omega) (by simpa using ho'))];rw[Verd.put_other (fun _=>hn 0 o0 (by omega) rfl)]
theorem lexRun_ok (os:List Oper):∀ (l:List Verd) (a:Act) (vs:List Verd) (a':Act),LexRun P ops w0 os l a vs a' ->
  a'=frameAt os vs os.length a/\∀ (i:Nat) (o:Oper) (v:Verd),os[i]?=some o->vs[i]?=some v->v.ok P ops w0 (l++(vs.take i).map Verd.strip) o (frameAt os vs i a):=by
 induction os with
 |nil =>
  intro l a vs a' h;cases vs with
  |nil=>exact ⟨h,fun i o v ho=>by simp at ho⟩
  |cons=>exact h.elim
 |cons o os ih =>
  intro l a vs a' h;cases vs with
  |nil=>exact h.elim
  |cons v vs =>
   obtain ⟨h1,h2⟩:=ih _ _ _ _ h.2;refine ⟨h1,fun i o' v' ho hv=>?_⟩;cases i with
   |zero=>simp at ho hv;subst ho;subst hv;simpa [frameAt] using h.1
   |succ i=>simp at ho hv;simpa [frameAt] using h2 i o' v' ho hv
def mixB (md : Region.Mode) (ops : Array Oper) (ks : List Nat) : Bool :=
  (List.range ops.size).all fun i =>
    match ops[i]?, ks[i]? with
    | some o, some k =>
      (o.after.all fun e => !Region.binds md e || decide (e.on < i)) &&
      ((List.range ops.size).all fun j =>
        match ops[j]?, ks[j]? with
        | some oj, some kj =>
          match oj.dst with
          | none => true
          | some s => (decide (i = j) || o.dst != some s) &&
              (!(o.looksAt ops).contains s || (decide (j < i) && (o.after.any fun e => Region.binds md e && e.on == j) && (kj != 1 || k == 2)))
        | _, _ => false) &&
      (match k, o.op with
       | 2, .store _ (.tmp d) x =>
          ((List.range ops.size).all fun j => decide (i = j) || ks[j]? != some 2 || (match ops[j]? with | some oj => (match oj.op with | .store _ (.tmp d') _ => d' != d | _ => true) | none => true)) &&
          (match x with | .tmp s => ((List.range ops.size).all fun j => ks[j]? != some 1 || ((ops[j]?).bind (·.dst)) != some s) | _ => true)
       | 2, _ => false
       | _, _ => true)
    | _, _ => false
structure MixOk (md:Region.Mode) (ops:Array Oper) (ks:List Nat):Prop where
 edge:∀ (i:Nat) (o:Oper),ops[i]?=some o->∀ e∈o.after,Region.binds md e=true->e.on<i
 dst:∀ (i j:Nat) (o oj:Oper) (s:Nat),i≠j->ops[i]?=some o->ops[j]?=some oj->oj.dst=some s->o.dst≠some s
 look:∀ (i j:Nat) (o oj:Oper) (s:Nat),ops[i]?=some o->ops[j]?=some oj->oj.dst=some s->s∈o.looksAt ops->j<i/\(∃ e∈o.after,Region.binds md e=true/\e.on=j)/\(ks[j]?=some 1->ks[i]?=some 2)
 once:∀ (i j:Nat) (o oj:Oper) (T T':TypeId) (d:Tmp) (x x':Operand),i≠j->ks[i]?=some 2->ks[j]?=some 2->ops[i]?=some o->ops[j]?=some oj->o.op=.store T (.tmp d) x->oj.op≠.store T' (.tmp d) x'
 plain:∀ (i j:Nat) (o oj:Oper) (T:TypeId) (d s:Tmp),ks[i]?=some 2->ks[j]?=some 1->ops[i]?=some o->ops[j]?=some oj->o.op=.store T (.tmp d) (.tmp s)->oj.dst≠some s
theorem mixOk_of {ks:List Nat} (h:mixB md ops ks=true):MixOk md ops ks:=by
 have H:∀ (i:Nat) (o:Oper),ops[i]?=some o->∃ k,ks[i]?=some k/\(∀ e∈o.after,Region.binds md e=true->e.on<i) /\
   (∀ (j:Nat) (oj:Oper) (s:Nat),ops[j]?=some oj->oj.dst=some s->(i≠j->o.dst≠some s)/\(s∈o.looksAt ops->j<i/\(∃ e∈o.after,Region.binds md e=true/\e.on=j)/\(ks[j]?=some 1->k=2))) /\
   (k=2->∀ T d x,o.op=.store T (.tmp d) x->(∀ (j:Nat) (oj:Oper) T' x',i≠j->ks[j]?=some 2->ops[j]?=some oj->oj.op≠.store T' (.tmp d) x') /\
    (∀ s,x=.tmp s->∀ (j:Nat) (oj:Oper),ks[j]?=some 1->ops[j]?=some oj->oj.dst≠some s)):=by
  intro i o ho;have hi:i<ops.size:=(Array.getElem?_eq_some_iff.1 ho).1;have h1:=List.all_eq_true.1 h i (List.mem_range.2 hi);rw[ho] at h1;cases hk:ks[i]? with
  |none=>rw[hk] at h1;simp at h1
  |some k =>
   rw[hk] at h1;simp only[Bool.and_eq_true] at h1;obtain ⟨⟨h2,h3⟩,h4⟩:=h1;refine ⟨k,rfl,?_,?_,?_⟩
   ·intro e he hb;have:=Array.all_eq_true'.1 h2 e he
    simpa [hb] using this
   ·intro j oj s hj hs;have hjlt:j<ops.size:=(Array.getElem?_eq_some_iff.1 hj).1;have h5:=List.all_eq_true.1 h3 j (List.mem_range.2 hjlt);rw[hj] at h5;cases hkj:ks[j]? with
    |none=>rw[hkj] at h5;simp at h5
    |some kj =>
     rw[hkj] at h5;simp only[hs,Bool.and_eq_true] at h5;refine ⟨fun hij=>?_,fun hl=>?_⟩
     ·have h6:=h5.1;simp[hij] at h6;exact h6
     ·have h6:=h5.2;have hc:(o.looksAt ops).contains s=true:=by simpa using hl
      rw[hc] at h6;simp only[Bool.not_true,Bool.false_or,Bool.and_eq_true,decide_eq_true_eq] at h6;refine ⟨h6.1.1,?_,fun hk1=>?_⟩
      ·obtain ⟨e,he,hb⟩:=Array.any_eq_true'.1 h6.1.2;simp only[Bool.and_eq_true,beq_iff_eq] at hb;exact ⟨e,he,hb.1,hb.2⟩
      ·have h7:=h6.2;simp at hk1;subst hk1
       simpa using h7
   ·intro hk2 T d x hop;subst hk2;simp only[hop,Bool.and_eq_true] at h4;refine ⟨fun j oj T' x' hij hkj hj hop'=>?_,fun s hx j oj hkj hj hd=>?_⟩
    ·have hjlt:j<ops.size:=(Array.getElem?_eq_some_iff.1 hj).1;have h5:=List.all_eq_true.1 h4.1 j (List.mem_range.2 hjlt);rw[hj,hkj] at h5;simp[hop',hij] at h5
    ·subst hx;have hjlt:j<ops.size:=(Array.getElem?_eq_some_iff.1 hj).1;have h5:=List.all_eq_true.1 h4.2 j (List.mem_range.2 hjlt);rw[hj,hkj] at h5;simp[hd] at h5
 refine ⟨?_,?_,?_,?_,?_⟩
 ·intro i o ho;obtain ⟨k,_,h1,_⟩:=H i o ho;exact h1
 ·intro i j o oj s hij ho hj hs;obtain ⟨k,_,_,h2,_⟩:=H i o ho;exact (h2 j oj s hj hs).1 hij
 ·intro i j o oj s ho hj hs hl;obtain ⟨k,hk,_,h2,_⟩:=H i o ho;obtain ⟨a,b,c⟩:=(h2 j oj s hj hs).2 hl;exact ⟨a,b,fun h1=>by rw[hk,c h1]⟩
 ·intro i j o oj T T' d x x' hij hki hkj ho hj hop;obtain ⟨k,hk,_,_,h3⟩:=H i o ho;rw[hk] at hki;simp at hki;exact (h3 hki T d x hop).1 j oj T' x' hij hkj hj
 ·intro i j o oj T d s hki hkj ho hj hop;obtain ⟨k,hk,_,_,h3⟩:=H i o ho;rw[hk] at hki;simp at hki;exact (h3 hki T d _ hop).2 s rfl j oj hkj hj
def verdVal (e:Nat->Nat) (i:Nat):Verd->Value
 | .val v=>v
 | .loc F _ _=>F (e i)
 | .fill ..=>undef
theorem World.alloc_isExt (w:World) (X:Xt) (o:Obj):(w.ext X).alloc o=w.ext ⟨X.objs.push o,X.drawn⟩:=by
 simp[World.ext,World.alloc]
theorem World.setRow_isExt (w:World) (X:Xt) (p:Nat) (c:Array Value) (hp:w.heap.size<=p):∃ X',(w.ext X).setRow p c=w.ext X':=by
 refine ⟨⟨X.objs.modify (p-w.heap.size) fun | .cells _ elem frozen=>.cells c elem frozen|o=>o,X.drawn⟩,?_⟩;simp only[World.ext,World.setRow,World.mk.injEq,and_true,true_and]
 apply Array.ext_getElem?
 intro k;simp only[Array.getElem?_modify,Array.getElem?_append,Array.size_modify]
 by_cases hk:k<w.heap.size
 ·have:p≠k:=by omega
  simp[hk,this]
 ·by_cases hpk:p=k
  ·subst hpk;simp only[hk,if_false,if_true];cases X.objs[p-w.heap.size]? with
   |none=>rfl
   |some o=>cases o<;>rfl
  ·have:¬p-w.heap.size=k-w.heap.size:=by omega
   simp[hk,hpk,this]
theorem World.heap_setRow (w:World) (p k:Nat) (c c0:Array Value) (T:TypeId) (h:w.heap[p]?=some (.cells c0 T (0,0))):(w.setRow p c).heap[k]?=if k=p then some (.cells c T (0,0)) else w.heap[k]?:=by
 simp only[World.setRow,Array.getElem?_modify]
 by_cases hk:p=k
 ·subst hk;simp[h]
 ·have:¬k=p:=fun e=>hk e.symm
  simp[hk,this]
structure Inv (ops:Array Oper) (vds:List Verd) (a0:Act) (w0:World) (md:Region.Mode) (done:Array Bool) (a:Act) (w:World) (e:Nat->Nat):Prop where
 dsize:done.size=ops.size
 size:a.tmps.size=a0.tmps.size
 defers:a.defers=a0.defers
 closed:∀ (j:Nat) (oj:Oper),ops[j]?=some oj->done.getD j false=true->∀ e∈oj.after,Region.binds md e=true->done.getD e.on false=true
 on:∀ (i:Nat) (o:Oper) (v:Verd),ops[i]?=some o->vds[i]?=some v->done.getD i false=true->∀ d,o.dst=some d->a.tmps[d]?=(a0.tmps[d]?).map fun _=>verdVal e i v
 off:∀ s,(∀ (i:Nat) (o:Oper),ops[i]?=some o->done.getD i false=true->o.dst≠some s)->a.tmps[s]?=a0.tmps[s]?
 world:∃ X,w=w0.ext X
 locs:∀ (i:Nat) (o:Oper) (F:Nat->Value) (c:Array Value) (T:TypeId),ops[i]?=some o->vds[i]?=some (.loc F c T)->done.getD i false=true ->
  w0.heap.size<=e i/\∃ c',w.heap[e i]?=some (.cells c' T (0,0))/\c'.size=c.size /\
   (∀ (j:Nat) (oj:Oper) (d:Tmp) (cf:Array Value) (Tf:TypeId),done.getD j false=true->ops[j]?=some oj->vds[j]?=some (.fill d cf Tf)->o.dst=some d->c'=cf) /\
   ((∀ (j:Nat) (oj:Oper) (d:Tmp) (cf:Array Value) (Tf:TypeId),done.getD j false=true->ops[j]?=some oj->vds[j]?=some (.fill d cf Tf)->o.dst≠some d)->c'=c)
 apart:∀ (i j:Nat) (o oj:Oper) (F F':Nat->Value) (c c':Array Value) (T T':TypeId),i≠j->ops[i]?=some o->ops[j]?=some oj->vds[i]?=some (.loc F c T)->vds[j]?=some (.loc F' c' T') ->
  done.getD i false=true->done.getD j false=true->e i≠e j
theorem getD_set_done {done:Array Bool} {i j:Nat} (hi:i<done.size):(done.setIfInBounds i true).getD j false=true↔(j=i\/done.getD j false=true):=by
 by_cases h:i=j
 ·subst h;simp[hi]
 ·have:¬j=i:=fun e=>h e.symm
  simp[Array.getElem?_setIfInBounds_ne h,this]
theorem Inv.closed_set {vds:List Verd} {a0:Act} {done:Array Bool} {a:Act} {w:World} {e:Nat->Nat} (inv:Inv ops vds a0 w0 md done a w e) {i:Nat} {o:Oper} (hr:i∈Region.ready md ops done) (hi:i<done.size) :
  ∀ (j:Nat) (oj:Oper),ops[j]?=some oj->(done.setIfInBounds i true).getD j false=true->∀ e∈oj.after,Region.binds md e=true->(done.setIfInBounds i true).getD e.on false=true:=by
 intro j oj hj hd e he hb;rw[getD_set_done hi] at hd ⊢;rcases hd with rfl|hd
 ·obtain ⟨_,o',ho',hall⟩:=mem_ready.1 hr;have:o'=oj:=Option.some.inj (ho'.symm.trans hj);subst this;exact .inr (hall e he hb)
 ·exact .inr (inv.closed j oj hj hd e he hb)
theorem Inv.val {vds:List Verd} {a0:Act} {done:Array Bool} {a:Act} {w:World} {e:Nat->Nat} (inv:Inv ops vds a0 w0 md done a w e) {ks:List Nat} (mx:MixOk md ops ks) {i:Nat} {o:Oper} {v:Value} (ho:ops[i]?=some o)
  (hv:vds[i]?=some (.val v)) (hr:i∈Region.ready md ops done) (Y:Xt):Inv ops vds a0 w0 md (done.setIfInBounds i true) (a.put o.dst v) (w.ext Y) e:=by
 have hio:i<ops.size:=(Array.getElem?_eq_some_iff.1 ho).1;have hi:i<done.size:=by rw[inv.dsize];exact hio
 have hsz:(a.put o.dst v).tmps.size=a.tmps.size:=by unfold Act.put;split<;>simp
 have hdf:(a.put o.dst v).defers=a.defers:=by unfold Act.put;split<;>rfl
 refine ⟨by simp[inv.dsize],by rw[hsz,inv.size],by rw[hdf,inv.defers],inv.closed_set (o:=o) hr hi,?_,?_,?_,?_,?_⟩
 ·intro j oj vj hj hvj hd d hdst;rw[getD_set_done hi] at hd
  by_cases hij:j=i
  ·subst hij;obtain rfl:oj=o:=Option.some.inj (hj.symm.trans ho);obtain rfl:vj=.val v:=Option.some.inj (hvj.symm.trans hv);simp only[Act.put,hdst,verdVal]
   by_cases hlt:d<a.tmps.size
   ·have hlt0:d<a0.tmps.size:=by rw[<-inv.size];exact hlt
    simp[hlt,hlt0]
   ·have hlt0:¬d<a0.tmps.size:=by rw[<-inv.size];exact hlt
    simp[hlt,hlt0]
  ·have h1:=inv.on j oj vj hj hvj (hd.resolve_left hij) d hdst;rw[<-h1];have h2:=mx.dst i j o oj d (fun e=>hij e.symm) ho hj hdst;unfold Act.put;cases hod:o.dst with
   |none=>rfl
   |some d'=>exact Array.getElem?_setIfInBounds_ne (by rw[hod] at h2;simpa using h2)
 ·intro s hs;have h1:=hs i o ho ((getD_set_done hi).2 (.inl rfl));rw[<-inv.off s (fun j oj hj hd=>hs j oj hj ((getD_set_done hi).2 (.inr hd)))];unfold Act.put;cases hod:o.dst with
  |none=>rfl
  |some d'=>exact Array.getElem?_setIfInBounds_ne (by rw[hod] at h1;simpa using h1)
 ·obtain ⟨X,rfl⟩:=inv.world;exact ⟨_,World.ext_ext⟩
 ·intro j oj F c T hj hvj hd;rw[getD_set_done hi] at hd;have hij:j≠i:=fun e=>by subst e;rw[hv] at hvj;cases hvj
  obtain ⟨h1,c',h2,h3,h4,h5⟩:=inv.locs j oj F c T hj hvj (hd.resolve_left hij);have hlt:e j<w.heap.size:=(Array.getElem?_eq_some_iff.1 h2).1;refine ⟨h1,c',by rw[World.heap_ext hlt];exact h2,h3,fun k ok d cf Tf hk hok hvk hdd=>?_,fun hn=>h5 fun k ok d cf Tf hk hok hvk=>hn k ok d cf Tf ((getD_set_done hi).2 (.inr hk)) hok hvk⟩;rw[getD_set_done hi] at hk;rcases hk with rfl|hk
  ·rw[hv] at hvk;cases hvk
  ·exact h4 k ok d cf Tf hk hok hvk hdd
 ·intro j k oj ok F F' c c' T T' hjk hj hk hvj hvk hdj hdk;rw[getD_set_done hi] at hdj hdk;have hij:j≠i:=fun e=>by subst e;rw[hv] at hvj;cases hvj
  have hik:k≠i:=fun e=>by subst e;rw[hv] at hvk;cases hvk
  exact inv.apart j k oj ok F F' c c' T T' hjk hj hk hvj hvk (hdj.resolve_left hij) (hdk.resolve_left hik)
theorem Act.put_at {a:Act} {dst:Option Tmp} {v:Value} {d s:Tmp} (h:dst=some d):(a.put dst v).tmps[s]?=if d=s then (a.tmps[s]?).map (fun _=>v) else a.tmps[s]?:=by
 subst h;simp only[Act.put]
 by_cases hds:d=s
 ·subst hds
  by_cases hlt:d<a.tmps.size
  ·simp[hlt]
  ·simp[hlt]
 ·rw[if_neg hds];exact Array.getElem?_setIfInBounds_ne hds
theorem Inv.loc {vds:List Verd} {a0:Act} {done:Array Bool} {a:Act} {w:World} {e:Nat->Nat} (inv:Inv ops vds a0 w0 md done a w e) {ks:List Nat} (mx:MixOk md ops ks) {i:Nat} {o:Oper} {F:Nat->Value} {c:Array Value} {T:TypeId}
  (ho:ops[i]?=some o) (hv:vds[i]?=some (.loc F c T)) (hr:i∈Region.ready md ops done)
  (hfill:∀ (j:Nat) (oj:Oper) (d:Tmp) (cf:Array Value) (Tf:TypeId),ops[j]?=some oj->vds[j]?=some (.fill d cf Tf)->d∈oj.looksAt ops) :
  Inv ops vds a0 w0 md (done.setIfInBounds i true) (a.put o.dst (F w.heap.size)) (w.alloc (.cells c T)) (fun k=>if k=i then w.heap.size else e k):=by
 have hio:i<ops.size:=(Array.getElem?_eq_some_iff.1 ho).1;have hi:i<done.size:=by rw[inv.dsize];exact hio
 have hun:=(mem_ready.1 hr).1;have hsz:(a.put o.dst (F w.heap.size)).tmps.size=a.tmps.size:=by unfold Act.put;split<;>simp
 have hdf:(a.put o.dst (F w.heap.size)).defers=a.defers:=by unfold Act.put;split<;>rfl
 refine ⟨by simp[inv.dsize],by rw[hsz,inv.size],by rw[hdf,inv.defers],inv.closed_set (o:=o) hr hi,?_,?_,?_,?_,?_⟩
 ·intro j oj vj hj hvj hd d hdst;rw[getD_set_done hi] at hd
  by_cases hij:j=i
  ·subst hij;obtain rfl:oj=o:=Option.some.inj (hj.symm.trans ho);obtain rfl:vj=.loc F c T:=Option.some.inj (hvj.symm.trans hv);rw[Act.put_at hdst,if_pos rfl];simp only[verdVal,if_true]
   by_cases hlt:d<a.tmps.size
   ·have hlt0:d<a0.tmps.size:=by rw[<-inv.size];exact hlt
    simp[hlt,hlt0]
   ·have hlt0:¬d<a0.tmps.size:=by rw[<-inv.size];exact hlt
    simp[hlt,hlt0]
  ·have h1:=inv.on j oj vj hj hvj (hd.resolve_left hij) d hdst;have h2:=mx.dst i j o oj d (fun e=>hij e.symm) ho hj hdst;have e1:verdVal (fun k=>if k=i then w.heap.size else e k) j vj=verdVal e j vj:=by cases vj<;>simp[verdVal,hij]
   rw[e1,<-h1];cases hod:o.dst with
   |none=>rfl
   |some d'=>rw[Act.put_at rfl,if_neg (by rw[hod] at h2;simpa using h2)]
 ·intro s hs;have h1:=hs i o ho ((getD_set_done hi).2 (.inl rfl));rw[<-inv.off s (fun j oj hj hd=>hs j oj hj ((getD_set_done hi).2 (.inr hd)))];cases hod:o.dst with
  |none=>rfl
  |some d'=>rw[Act.put_at rfl,if_neg (by rw[hod] at h1;simpa using h1)]
 ·obtain ⟨X,rfl⟩:=inv.world;exact ⟨_,World.alloc_isExt _ _ _⟩
 ·intro j oj F' c' T' hj hvj hd;rw[getD_set_done hi] at hd
  by_cases hij:j=i
  ·subst hij;obtain rfl:oj=o:=Option.some.inj (hj.symm.trans ho);have:=Option.some.inj (hvj.symm.trans hv);simp only[Verd.loc.injEq] at this;obtain ⟨rfl,rfl,rfl⟩:=this;obtain ⟨X,hX⟩:=inv.world;refine ⟨by simp[hX],c',by simp only[if_true];show (w.heap.push _)[w.heap.size]?=_;simp,rfl,fun k ok d cf Tf hk hok hvk hdd=>?_,fun _=>rfl⟩;have hl:=hfill k ok d cf Tf hok hvk;obtain ⟨h1,⟨ed,he,hb,hon⟩,_⟩:=mx.look k j ok oj d hok hj hdd hl;rw[getD_set_done hi] at hk;rcases hk with rfl|hk
   ·omega
   ·have:=inv.closed k ok hok hk ed he hb;rw[hon,getD_both hun] at this;cases this
  ·obtain ⟨h1,c2,h2,h3,h4,h5⟩:=inv.locs j oj F' c' T' hj hvj (hd.resolve_left hij);have hlt:e j<w.heap.size:=(Array.getElem?_eq_some_iff.1 h2).1;rw[if_neg hij];refine ⟨h1,c2,?_,h3,fun k ok d cf Tf hk hok hvk hdd=>?_,fun hn=>h5 fun k ok d cf Tf hk hok hvk=>hn k ok d cf Tf ((getD_set_done hi).2 (.inr hk)) hok hvk⟩
   ·show (w.heap.push _)[e j]?=_
    rw[Array.getElem?_push,if_neg (by omega)];exact h2
   ·rw[getD_set_done hi] at hk;rcases hk with rfl|hk
    ·rw[hv] at hvk;cases hvk
    ·exact h4 k ok d cf Tf hk hok hvk hdd
 ·intro j k oj ok F1 F2 c1 c2 T1 T2 hjk hj hk hvj hvk hdj hdk;rw[getD_set_done hi] at hdj hdk
  by_cases hij:j=i
  ·subst hij;have hik:k≠j:=fun e=>hjk e.symm
   obtain ⟨_,c3,h2,_⟩:=inv.locs k ok F2 c2 T2 hk hvk (hdk.resolve_left hik);have hlt:e k<w.heap.size:=(Array.getElem?_eq_some_iff.1 h2).1;simp only[if_true,if_neg hik];omega
  ·by_cases hik:k=i
   ·subst hik;obtain ⟨_,c3,h2,_⟩:=inv.locs j oj F1 c1 T1 hj hvj (hdj.resolve_left hij);have hlt:e j<w.heap.size:=(Array.getElem?_eq_some_iff.1 h2).1;simp only[if_true,if_neg hij];omega
   ·simp only[if_neg hij,if_neg hik];exact inv.apart j k oj ok F1 F2 c1 c2 T1 T2 hjk hj hk hvj hvk (hdj.resolve_left hij) (hdk.resolve_left hik)
theorem Inv.fill {vds:List Verd} {a0:Act} {done:Array Bool} {a:Act} {w:World} {e:Nat->Nat} (inv:Inv ops vds a0 w0 md done a w e) {ks:List Nat} (mx:MixOk md ops ks) {i k:Nat} {o ok:Oper} {d:Tmp} {c c0:Array Value} {T:TypeId}
  (ho:ops[i]?=some o) (hv:vds[i]?=some (.fill d c T)) (hod:o.dst=none) (hr:i∈Region.ready md ops done)
  (hk:ops[k]?=some ok) (hvk:vds[k]?=some (.loc ptr c0 T)) (hkd:ok.dst=some d) (hdk:done.getD k false=true) (hcc:c0.size=c.size)
  (honce:∀ (j:Nat) (oj:Oper) (cf:Array Value) (Tf:TypeId),ops[j]?=some oj->vds[j]?=some (.fill d cf Tf)->j=i) :
  Inv ops vds a0 w0 md (done.setIfInBounds i true) (a.put o.dst undef) (w.setRow (e k) c) e:=by
 have hio:i<ops.size:=(Array.getElem?_eq_some_iff.1 ho).1;have hi:i<done.size:=by rw[inv.dsize];exact hio
 have hun:=(mem_ready.1 hr).1;obtain ⟨hk1,c1,hk2,hk3,hk4,hk5⟩:=inv.locs k ok ptr c0 T hk hvk hdk;rw[hod];refine ⟨by simp[inv.dsize],inv.size,inv.defers,inv.closed_set (o:=o) hr hi,?_,?_,?_,?_,?_⟩
 ·intro j oj vj hj hvj hd d' hdst;rw[getD_set_done hi] at hd;have hij:j≠i:=fun e=>by
   subst e;obtain rfl:oj=o:=Option.some.inj (hj.symm.trans ho);rw[hod] at hdst;cases hdst
  exact inv.on j oj vj hj hvj (hd.resolve_left hij) d' hdst
 ·intro s hs;exact inv.off s (fun j oj hj hd=>hs j oj hj ((getD_set_done hi).2 (.inr hd)))
 ·obtain ⟨X,rfl⟩:=inv.world;exact World.setRow_isExt _ _ _ _ hk1
 ·intro j oj F' c' T' hj hvj hd;rw[getD_set_done hi] at hd;have hij:j≠i:=fun e=>by subst e;rw[hv] at hvj;cases hvj
  obtain ⟨h1,c2,h2,h3,h4,h5⟩:=inv.locs j oj F' c' T' hj hvj (hd.resolve_left hij);refine ⟨h1,?_⟩
  by_cases hjk:j=k
  ·subst hjk;obtain rfl:oj=ok:=Option.some.inj (hj.symm.trans hk);have:=Option.some.inj (hvj.symm.trans hvk);simp only[Verd.loc.injEq] at this;obtain ⟨rfl,rfl,rfl⟩:=this;refine ⟨c,by rw[World.heap_setRow _ _ _ _ _ _ hk2,if_pos rfl],hcc.symm,fun m om d2 cf Tf hm hom hvm hdd=>?_,fun hn=>?_⟩
   ·rw[hkd] at hdd;simp at hdd;subst hdd;obtain rfl:=honce m om cf Tf hom hvm;rw[hv] at hvm;simp at hvm;exact hvm.1
   ·exact absurd hkd (hn i o d c _ ((getD_set_done hi).2 (.inl rfl)) ho hv)
  ·have hne:e j≠e k:=inv.apart j k oj ok F' ptr c' c0 T' T hjk hj hk hvj hvk (hd.resolve_left hij) hdk;refine ⟨c2,by rw[World.heap_setRow _ _ _ _ _ _ hk2,if_neg hne];exact h2,h3,fun m om d2 cf Tf hm hom hvm hdd=>?_,fun hn=>h5 fun m om d2 cf Tf hm hom hvm=>hn m om d2 cf Tf ((getD_set_done hi).2 (.inr hm)) hom hvm⟩;rw[getD_set_done hi] at hm;rcases hm with rfl|hm
   ·rw[hv] at hvm;simp at hvm;obtain ⟨rfl,rfl,rfl⟩:=hvm;exact absurd hkd (mx.dst k j ok oj d (fun e=>hjk e.symm) hk hj hdd)
   ·exact h4 m om d2 cf Tf hm hom hvm hdd
 ·intro j m oj om F1 F2 c1 c2 T1 T2 hjm hj hm hvj hvm hdj hdm;rw[getD_set_done hi] at hdj hdm;have hij:j≠i:=fun e=>by subst e;rw[hv] at hvj;cases hvj
  have him:m≠i:=fun e=>by subst e;rw[hv] at hvm;cases hvm
  exact inv.apart j m oj om F1 F2 c1 c2 T1 T2 hjm hj hm hvj hvm (hdj.resolve_left hij) (hdm.resolve_left him)
theorem Inv.agree {vds:List Verd} {a0:Act} {done:Array Bool} {a:Act} {w:World} {e:Nat->Nat} (inv:Inv ops vds a0 w0 md done a w e) (mx:MixOk md ops (vds.map Verd.kind)) {os:List Oper} (hos:∀ j:Nat,os[j]?=ops[j]?) {i:Nat} {o:Oper}
  (hlen:∀ (j:Nat) (oj:Oper),ops[j]?=some oj->∃ v,vds[j]?=some v) (hfd:∀ (j:Nat) (oj:Oper) (d:Tmp) (c:Array Value) (T:TypeId),ops[j]?=some oj->vds[j]?=some (.fill d c T)->oj.dst=none)
  (ho:ops[i]?=some o) (hr:i∈Region.ready md ops done) {s:Tmp} (hs:s∈o.looksAt ops) (hk:∀ (j:Nat) (oj:Oper),ops[j]?=some oj->oj.dst=some s->(vds.map Verd.kind)[j]?≠some 1) :
  a.tmps[s]?=(frameAt os vds i a0).tmps[s]?:=by
 obtain ⟨_,o',ho',hall⟩:=mem_ready.1 hr;obtain rfl:o'=o:=Option.some.inj (ho'.symm.trans ho)
 by_cases hw:∃ (j:Nat) (oj:Oper),ops[j]?=some oj/\oj.dst=some s
 ·obtain ⟨j,oj,hj,hd⟩:=hw;obtain ⟨hji,⟨ed,he,hb,hon⟩,_⟩:=mx.look i j o' oj s ho hj hd hs;have hdone:done.getD j false=true:=by have:=hall ed he hb;rwa [hon] at this
  obtain ⟨v,hv⟩:=hlen j oj hj;have hn:∀ (k:Nat) (o2:Oper),k≠j->os[k]?=some o2->o2.dst≠some s:=fun k o2 hkj h2=>mx.dst k j o2 oj s hkj (by rw[<-hos];exact h2) hj hd
  cases v with
  |val u =>
   rw[inv.on j oj _ hj hv hdone s hd,frameAt_slot os vds i j a0 s oj u hji (by rw[hos];exact hj) hv hd hn]
   rfl
  |loc F c T=>exact absurd (by simp[hv,Verd.kind]) (hk j oj hj hd)
  |fill d c T=>rw[hfd j oj d c T hj hv] at hd;cases hd
 ·rw[inv.off s (fun j oj hj _ hd=>hw ⟨j,oj,hj,hd⟩),frameAt_other os vds i a0 s (fun j oj v _ hj _ _ hd=>hw ⟨j,oj,by rw[<-hos];exact hj,hd⟩)]
def Placed (ops:Array Oper) (vds:List Verd) (w0 w:World) (e:Nat->Nat):Prop :=
 (∀ (i:Nat) (o:Oper) (F:Nat->Value) (c:Array Value) (T:TypeId),ops[i]?=some o->vds[i]?=some (.loc F c T) ->
  w0.heap.size<=e i/\∃ c',w.heap[e i]?=some (.cells c' T (0,0))/\c'.size=c.size /\
   (∀ (j:Nat) (oj:Oper) (d:Tmp) (cf:Array Value) (Tf:TypeId),ops[j]?=some oj->vds[j]?=some (.fill d cf Tf)->o.dst=some d->c'=cf) /\
   ((∀ (j:Nat) (oj:Oper) (d:Tmp) (cf:Array Value) (Tf:TypeId),ops[j]?=some oj->vds[j]?=some (.fill d cf Tf)->o.dst≠some d)->c'=c)) /\
 (∀ (i j:Nat) (o oj:Oper) (F F':Nat->Value) (c c':Array Value) (T T':TypeId),i≠j->ops[i]?=some o->ops[j]?=some oj->vds[i]?=some (.loc F c T)->vds[j]?=some (.loc F' c' T')->e i≠e j)
theorem wpAny_of_inv {vds:List Verd} {a0:Act} {os:List Oper} {Q:Exit->Act->World->Prop} (mx:MixOk md ops (vds.map Verd.kind)) (hsel:Region.noSelect ops=true) (hos:∀ j:Nat,os[j]?=ops[j]?)
  (hlen:vds.length=ops.size) (hok:∀ (i:Nat) (o:Oper) (v:Verd),ops[i]?=some o->vds[i]?=some v->v.ok P ops w0 ((vds.take i).map Verd.strip) o (frameAt os vds i a0))
  (hQ:∀ a w e,a.tmps.size=a0.tmps.size->a.defers=a0.defers->(∀ (i:Nat) (o:Oper) (v:Verd),ops[i]?=some o->vds[i]?=some v->∀ d,o.dst=some d->a.tmps[d]?=(a0.tmps[d]?).map fun _=>verdVal e i v) ->
   (∀ s,(∀ (i:Nat) (o:Oper),ops[i]?=some o->o.dst≠some s)->a.tmps[s]?=a0.tmps[s]?)->(∃ X,w=w0.ext X)->Placed ops vds w0 w e->Q .normal a w) :
  ∀ (fuel:Nat) (done:Array Bool) (a:Act) (w:World) (e:Nat->Nat),done.toList.count false=fuel->Inv ops vds a0 w0 md done a w e->wpAny P md ops Q fuel done a w:=by
 have hlen':∀ (j:Nat) (oj:Oper),ops[j]?=some oj->∃ v,vds[j]?=some v:=fun j oj hj=>by
  have:j<vds.length:=by rw[hlen];exact (Array.getElem?_eq_some_iff.1 hj).1
  exact ⟨vds[j],by simp[this]⟩
 have hfd:∀ (j:Nat) (oj:Oper) (d:Tmp) (c:Array Value) (T:TypeId),ops[j]?=some oj->vds[j]?=some (.fill d c T)->oj.dst=none:=fun j oj d c T hj hv=>(hok j oj _ hj hv).2.1
 have hfl:∀ (j:Nat) (oj:Oper) (d:Tmp) (c:Array Value) (T:TypeId),ops[j]?=some oj->vds[j]?=some (.fill d c T)->d∈oj.looksAt ops:=fun j oj d c T hj hv=>by
  obtain ⟨_,_,x,hop,_⟩:=hok j oj _ hj hv;exact List.mem_append_left _ (List.mem_filterMap.2 ⟨.tmp d,by simp[hop,Op.operands],rfl⟩)
 -- all done: the end
 have fin:∀ (done:Array Bool) (a:Act) (w:World) (e:Nat->Nat),(∀ i,i<ops.size->done.getD i false=true)->Inv ops vds a0 w0 md done a w e->Q .normal a w:=by
  intro done a w e hall inv;have hd:∀ (i:Nat) (o:Oper),ops[i]?=some o->done.getD i false=true:=fun i o ho=>hall i (Array.getElem?_eq_some_iff.1 ho).1
  refine hQ a w e inv.size inv.defers (fun i o v ho hv=>inv.on i o v ho hv (hd i o ho)) (fun s hs=>inv.off s (fun i o ho _=>hs i o ho)) inv.world ⟨fun i o F c T ho hv=>?_,fun i j o oj F F' c c' T T' hij ho hj hv hvj=>inv.apart i j o oj F F' c c' T T' hij ho hj hv hvj (hd i o ho) (hd j oj hj)⟩;obtain ⟨h1,c',h2,h3,h4,h5⟩:=inv.locs i o F c T ho hv (hd i o ho);exact ⟨h1,c',h2,h3,fun j oj d cf Tf hj hvj=>h4 j oj d cf Tf (hd j oj hj) hj hvj,fun hn=>h5 fun j oj d cf Tf _ hj hvj=>hn j oj d cf Tf hj hvj⟩
 -- nothing ready: all done
 have stuck:∀ (done:Array Bool) (a:Act) (w:World) (e:Nat->Nat),Inv ops vds a0 w0 md done a w e->Region.ready md ops done=[]->∀ i,i<ops.size->done.getD i false=true:=by
  intro done a w e inv hr i
  induction i using Nat.strongRecOn with
  |_ i ih =>
   intro hi;cases hd:done.getD i false with
   |true=>rfl
   |false =>
    exfalso
    have:i∈Region.ready md ops done:=mem_ready.2 ⟨getD_in (by rw[inv.dsize];exact hi) hd,ops[i],by simp[hi],fun ed he hb=>by
     have hlt:=mx.edge i ops[i] (by simp[hi]) ed he hb;exact ih ed.on hlt (by omega)⟩
    rw[hr] at this;cases this
 intro fuel
 induction fuel with
 |zero =>
  intro done a w e hc inv;have hall:∀ i,i<ops.size->done.getD i false=true:=fun i hi=>by
   have hid:i<done.size:=by rw[inv.dsize];exact hi
   cases hd:done.getD i false with
   |true=>rfl
   |false =>
    exfalso
    have hm:false∈done.toList:=by
     have:done[i]=false:=by simpa [hid] using hd
     rw[<-this];simp
    have:=List.count_pos_iff.2 hm;omega
  refine ⟨?_,fin done a w e hall inv⟩;cases hr:Region.ready md ops done with
  |nil=>rfl
  |cons i is =>
   have hi:i∈Region.ready md ops done:=by rw[hr];simp
   obtain ⟨h1,o,ho,_⟩:=mem_ready.1 hi;have h2:=hall i (Array.getElem?_eq_some_iff.1 ho).1;rw[getD_both h1] at h2;cases h2
 |succ fuel ih =>
  intro done a w e hc inv;refine ⟨fun hr=>fin done a w e (stuck done a w e inv hr) inv,fun i hi=>?_⟩;obtain ⟨hun,o,ho,hall⟩:=mem_ready.1 hi;have hio:i<ops.size:=(Array.getElem?_eq_some_iff.1 ho).1;have hid:i<done.size:=by rw[inv.dsize];exact hio
  have hcnt:(done.setIfInBounds i true).toList.count false=fuel:=by
   have h0:done.toList[i]'(by simpa using hid)=false:=by have:=getD_both hun;simpa [hid] using this
   rw[Array.toList_setIfInBounds,List.count_set (by simpa using hid),h0,hc];simp
  obtain ⟨v,hv⟩:=hlen' i o ho;have hvok:=hok i o v ho hv;have next:∀ a' w' e',Inv ops vds a0 w0 md (done.setIfInBounds i true) a' w' e'->wpAny P md ops Q fuel (done.setIfInBounds i true) a' w':=fun a' w' e' h=>ih _ a' w' e' hcnt h
  have hks:∀ j:Nat,(vds.map Verd.kind)[j]?=(vds[j]?).map Verd.kind:=fun j=>by simp
  unfold wpOp;simp only[ho];obtain ⟨X,hX⟩:=inv.world;cases v with
  |val u =>
   have hag:∀ s∈o.looksAt ops,a.tmps[s]?=(frameAt os vds i a0).tmps[s]?:=fun s hs =>
    inv.agree mx hos hlen' hfd ho hi hs fun j oj hj hd h1=>by
     have h2:=(mx.look i j o oj s ho hj hd hs).2.2 h1;rw[hks,hv] at h2;simp[Verd.kind] at h2
   have hwt:=wanted_agree hag;have hex:=exec_agree (fun cs b=>Region.noSelect_spec hsel i o cs b ho) hag;rcases hvok with ⟨hw,hq⟩|⟨hw,rfl⟩
   ·rw[if_pos (by rw[hwt];exact hw)]
    left
    have h3:=hq X;unfold Oper.quietAt at h3;unfold Oper.wp;rw[hex,hX];generalize (execOp (frameAt os vds i a0).eval o).run P (w0.ext X)=r at *;cases r with
    |ok n w' =>
     cases n<;>simp only[Oper.quietUpon] at h3<;>simp only[Oper.upon]
     case value u' =>
      obtain ⟨rfl,rfl⟩:=h3;have:=inv.val mx ho hv hi ⟨#[],w.drawn⟩;rw[hX] at this;exact next _ _ e (by simpa [World.ext] using this)
     case skip =>
      obtain ⟨rfl,rfl⟩:=h3;have:=inv.val mx ho hv hi ⟨#[],w.drawn⟩;rw[hX] at this;exact next _ _ e (by simpa [World.ext] using this)
     case enter f args =>
      obtain ⟨rfl,hcall⟩:=h3;refine hcall.mono fun e1 w'' ⟨he,Y,hY⟩=>?_
      subst he;subst hY
      have:=inv.val mx ho hv hi Y;rw[hX] at this;exact next _ _ e this
    |halt x w'=>simp only[Oper.quietUpon] at h3
   ·rw[if_neg (by rw[hwt,hw];simp)];have:=inv.val mx ho hv hi ⟨#[],w.drawn⟩;rw[show w.ext ⟨#[],w.drawn⟩=w by simp[World.ext]] at this;exact next _ _ e this
  |loc F c T =>
   obtain ⟨hg,hrun⟩:=hvok;have hag:∀ s∈o.looksAt ops,a.tmps[s]?=(frameAt os vds i a0).tmps[s]?:=fun s hs =>
    inv.agree mx hos hlen' hfd ho hi hs fun j oj hj hd h1=>by
     have h2:=(mx.look i j o oj s ho hj hd hs).2.2 h1;rw[hks,hv] at h2;simp[Verd.kind] at h2
   have hex:=exec_agree (fun cs b=>Region.noSelect_spec hsel i o cs b ho) hag;rw[if_pos (by simp[Region.wanted,hg])]
   left
   unfold Oper.wp;rw[hex,hX,hrun X];simp only[Oper.upon];have:=inv.loc mx ho hv hi hfl;rw[hX] at this;exact next _ _ _ this
  |fill d c T =>
   obtain ⟨hg,hdst,x,hop,hex,hone,hsize,hdlt,k,ok,c0,hlk,hok',hkd,hcc⟩:=hvok;have hlk':vds[k]?=some (.loc ptr c0 T):=by
    rw[List.getElem?_map,List.getElem?_take] at hlk
    split at hlk
    ·cases hvk:vds[k]? with
     |none=>rw[hvk] at hlk;cases hlk
     |some vk=>rw[hvk] at hlk;simp only[Option.map_some,Option.some.injEq] at hlk;rw[Verd.strip_loc hlk]
    ·cases hlk
   have hdl:d∈o.looksAt ops:=hfl i o d c T ho hv;obtain ⟨_,⟨ed,he,hb,hon⟩,_⟩:=mx.look i k o ok d ho hok' hkd hdl;have hkdone:done.getD k false=true:=by have:=hall ed he hb;rwa [hon] at this
   have hki:(vds.map Verd.kind)[i]?=some 2:=by rw[hks,hv];rfl
   have hxa:a.eval x=.agg c:=by
    rw[<-hex];refine eval_agree fun s hxs=>?_
    refine inv.agree mx hos hlen' hfd ho hi (List.mem_append_left _ (List.mem_filterMap.2 ⟨.tmp s,by simp[hop,Op.operands,hxs],rfl⟩)) fun j oj hj hd h1=>?_
    subst hxs;exact mx.plain i j o oj T d s hki h1 ho hj hop hd
   have hda:a.eval (.tmp d)=.pointer (some ⟨e k,0,none⟩):=by
    have h1:=inv.on k ok _ hok' hlk' hkdone d hkd;have h2:d<a0.tmps.size:=by rw[(frameAt_same os vds i a0).2] at hdlt;exact hdlt
    simp only[Act.eval,Array.getD_eq_getD_getElem?,h1];simp[h2,verdVal,ptr]
   obtain ⟨_,c1,hc1,hc2,_⟩:=inv.locs k ok ptr c0 T hok' hlk' hkdone;rw[if_pos (by simp[Region.wanted,hg])]
   left
   unfold Oper.wp;have hrun:(execOp a.eval o).run P w=.ok .skip (w.setRow (e k) c):=by
    have h1:=run_storeVar_row (P:=P) w (e k) T T c1 c hc1 hsize (by omega) hone;simp only[execOp,hop,hda,hxa,Instr.storeAt,Instr.sureAddr,Sem.run_bind,Sem.run_pure,Result.andThen];rw[h1]
   rw[hrun];simp only[Oper.upon];exact next _ _ e (inv.fill mx ho hv hdst hi hok' hlk' hkd hkdone hcc fun j oj cf Tf hj hvj=>by
    by_cases hij:j=i
    ·exact hij
    ·exfalso
     obtain ⟨_,_,x',hop',_⟩:=hok j oj _ hj hvj;exact mx.once i j o oj T Tf d x x' (fun e=>hij e.symm) hki (by rw[hks,hvj];rfl) ho hj hop hop')
def fillOf (d:Option Tmp):Option Verd->Option (Array Value)
 |some (.fill d' cf _)=>if d=some d' then some cf else none
 |_=>none
def Verd.final (ops:Array Oper) (vds:List Verd) (i:Nat) (c:Array Value):Array Value :=
 ((List.range ops.size).findSome? fun j=>fillOf ((ops[i]?).bind (·.dst)) vds[j]?).getD c
theorem zip_map_self {α β:Type} (f:α->β):∀ l:List α,l.zip (l.map f)=l.map fun i=>(i,f i)
 | []=>rfl
 |_::l=>by simp[zip_map_self f l]
def Lays (ops:Array Oper) (vds:List Verd) (w0 w:World):List (Nat×Nat)->Act->(Act->Prop)->Prop
 | [],a,Q=>Q a
 |(i,p)::rest,a,Q =>
  match ops[i]?,vds[i]? with
  |some o,some (.loc F c T)=>w0.heap.size<=p->w.heap[p]?=some (.cells (Verd.final ops vds i c) T (0,0))->(∀ x∈rest,p≠x.2)->Lays ops vds w0 w rest (a.put o.dst (F p)) Q
  |_,_=>True
def locIdx (vds:List Verd):List Nat:=(List.range vds.length).filter fun i=>(vds[i]?).map Verd.kind==some 1
theorem act_ext {a b:Act} (h1:a.tmps.size=b.tmps.size) (h2:a.defers=b.defers) (h3:∀ s:Nat,a.tmps[s]?=b.tmps[s]?):a=b:=by
 cases a;cases b
 simp only at h1 h2 h3;subst h2
 congr 1
 exact Array.ext_getElem? h3
theorem final_of {vds:List Verd} {w0 w:World} {e:Nat->Nat} (h:Placed ops vds w0 w e) {i:Nat} {o:Oper} {F:Nat->Value} {c:Array Value} {T:TypeId} (ho:ops[i]?=some o) (hv:vds[i]?=some (.loc F c T)) (hlen:vds.length=ops.size) :
  w.heap[e i]?=some (.cells (Verd.final ops vds i c) T (0,0)):=by
 obtain ⟨_,c',h2,_,h4,h5⟩:=h.1 i o F c T ho hv;rw[h2]
 congr 2
 unfold Verd.final;rw[ho];cases hf:(List.range ops.size).findSome? fun j=>fillOf (some o |>.bind (·.dst)) vds[j]? with
 |some cf =>
  obtain ⟨j,hj,hjf⟩:=List.exists_of_findSome?_eq_some hf;have hjlt:j<ops.size:=by simpa using hj
  cases hvj:vds[j]? with
  |none=>rw[hvj] at hjf;cases hjf
  |some v =>
   rw[hvj] at hjf;cases v with
   |val u=>cases hjf
   |loc F c T=>cases hjf
   |fill d cf' Tf =>
    simp only[fillOf] at hjf
    split at hjf
    ·rename_i hd
     simp at hjf;subst hjf;exact h4 j ops[j] d cf' Tf (by simp[hjlt]) hvj (by simpa using hd)
    ·cases hjf
 |none =>
  simp only[Option.getD_none]
  apply h5
  intro j oj d cf Tf hj hvj hd;have hjlt:j<ops.size:=(Array.getElem?_eq_some_iff.1 hj).1;have:=List.findSome?_eq_none_iff.1 hf j (List.mem_range.2 hjlt);rw[hvj] at this;simp[fillOf,hd] at this
theorem lays_of {vds:List Verd} {w0 w:World} {e:Nat->Nat} {Q:Act->Prop} (hpl:Placed ops vds w0 w e) (hlen:vds.length=ops.size) :
  ∀ (l:List Nat) (b:Act),(∀ i∈l,(vds.map Verd.kind)[i]?=some 1)->l.Nodup->Lays ops vds w0 w (l.map fun i=>(i,e i)) b Q ->
   Q (l.foldl (fun a i=>a.put ((ops[i]?).bind (·.dst)) (match vds[i]? with|some v=>verdVal e i v|none=>undef)) b):=by
 intro l
 induction l with
 |nil=>intro b _ _ h;exact h
 |cons i l ih =>
  intro b hl hn h;have hk:=hl i (by simp);simp only[List.getElem?_map] at hk;cases hv:vds[i]? with
  |none=>rw[hv] at hk;cases hk
  |some v =>
   rw[hv] at hk;cases v with
   |val u=>simp[Verd.kind] at hk
   |fill d c T=>simp[Verd.kind] at hk
   |loc F c T =>
    have hi:i<ops.size:=by rw[<-hlen];exact (List.getElem?_eq_some_iff.1 hv).1
    have ho:ops[i]?=some ops[i]:=by simp[hi]
    simp only[List.map_cons,Lays,ho,hv] at h;have h1:=h (hpl.1 i _ F c T ho hv).1 (final_of hpl ho hv hlen) (fun x hx=>by
     obtain ⟨j,hj,rfl⟩:=List.mem_map.1 hx;have hij:i≠j:=fun e=>by subst e;exact (List.nodup_cons.1 hn).1 hj
     have hkj:=hl j (by simp[hj]);simp only[List.getElem?_map] at hkj;cases hvj:vds[j]? with
     |none=>rw[hvj] at hkj;cases hkj
     |some vj =>
      rw[hvj] at hkj;cases vj with
      |val u=>simp[Verd.kind] at hkj
      |fill d c T=>simp[Verd.kind] at hkj
      |loc F' c' T' =>
       have hj':j<ops.size:=by rw[<-hlen];exact (List.getElem?_eq_some_iff.1 hvj).1
       exact hpl.2 i j ops[i] ops[j] F F' c c' T T' hij (by simp[hi]) (by simp[hj']) hv hvj)
    have h2:=ih _ (fun j hj=>hl j (by simp[hj])) (List.nodup_cons.1 hn).2 h1
    simpa [ho,hv,verdVal] using h2
theorem strip_kinds (vds:List Verd):(vds.map Verd.strip).map Verd.kind=vds.map Verd.kind:=by
 rw[List.map_map];exact List.map_congr_left fun v _=>Verd.kind_strip v
theorem strip_locIdx (vds:List Verd):locIdx (vds.map Verd.strip)=locIdx vds:=by
 unfold locIdx;rw[List.length_map];refine List.filter_congr fun i _=>?_
 rw[List.getElem?_map];cases vds[i]? with
 |none=>rfl
 |some v=>simp[Verd.kind_strip]
theorem strip_final (vds:List Verd) (i:Nat) (c:Array Value):Verd.final ops (vds.map Verd.strip) i c=Verd.final ops vds i c:=by
 unfold Verd.final;have:(fun j:Nat=>fillOf ((ops[i]?).bind (·.dst)) (vds.map Verd.strip)[j]?)=fun j:Nat=>fillOf ((ops[i]?).bind (·.dst)) vds[j]?:=by
  funext j
  rw[List.getElem?_map];cases vds[j]? with
  |none=>rfl
  |some v=>cases v<;>rfl
 rw[this]
theorem strip_lays (vds:List Verd) (w0 w:World) (Q:Act->Prop):∀ (l:List (Nat×Nat)) (a:Act),Lays ops (vds.map Verd.strip) w0 w l a Q->Lays ops vds w0 w l a Q:=by
 intro l
 induction l with
 |nil=>intro a h;exact h
 |cons x l ih =>
  intro a h;obtain ⟨i,p⟩:=x;simp only[Lays,List.getElem?_map] at h ⊢;cases ho:ops[i]? with
  |none=>simp
  |some o =>
   cases hv:vds[i]? with
   |none=>simp
   |some v =>
    cases v with
    |val u=>simp
    |fill d c T=>simp
    |loc F c T =>
     simp only[ho,hv,Option.map_some,Verd.strip] at h ⊢;intro h1 h2 h3;exact ih _ (h h1 (by rw[strip_final];exact h2) h3)
theorem wp_region_mix {id:Nat} {Q:Exit->Act->World->Prop} {a:Act} {w:World} {l:List Oper} (hm:P.follows .mixedOrders=true)
  (h:wpMix P l.toArray w (fun a' vds=>(Region.noSelect l.toArray=true/\mixB .any l.toArray (vds.map Verd.kind)=true) /\
   ∀ (X:Xt) (ps:List Nat),ps.length=(locIdx vds).length->Lays l.toArray vds w (w.ext X) ((locIdx vds).zip ps) a' (fun b=>Q .normal b (w.ext X))) l a []):(Code.region id l.toArray true).wp P Q a w:=by
 obtain ⟨vds,a',hrun,⟨hsel,hB⟩,hK⟩:=lexRun_of_mix l a [] h;rw[List.nil_append,strip_kinds] at hB;rw[List.nil_append,strip_locIdx] at hK;have hlen:vds.length=l.toArray.size:=by rw[lexRun_length l [] a vds a' hrun];simp
 obtain ⟨ha',hok⟩:=lexRun_ok l [] a vds a' hrun;have mx:=mixOk_of hB;refine wp_region_any hm ?_;have hcnt:(Array.replicate l.toArray.size false).toList.count false=l.toArray.size:=by simp
 have inv0:Inv l.toArray vds a w .any (Array.replicate l.toArray.size false) a { w with drawn:=w.drawn+1 } (fun _=>0):=by
  have hf:∀ j,(Array.replicate l.toArray.size false).getD j false=true->False:=fun j hj=>by rw[getD_replicate_false] at hj;cases hj
  exact ⟨by simp,rfl,rfl,fun j oj _ hl=>(hf j hl).elim,fun i o v _ _ hl=>(hf i hl).elim,fun s _=>rfl,⟨⟨#[],w.drawn+1⟩,by simp[World.ext]⟩,fun i o F c T _ _ hl=>(hf i hl).elim,fun i j o oj F F' c c' T T' _ _ _ _ _ hl _=>(hf i hl).elim⟩
 refine wpAny_of_inv (os:=l) mx hsel (fun j=>by simp) hlen (fun i o v ho hv=>by simpa using hok i o v (by simpa using ho) hv) ?_ _ _ _ _ _ hcnt inv0;intro b w' e hsz hdf hon hoff hw hpl;obtain ⟨X,rfl⟩:=hw;have h1:=strip_lays vds _ _ _ _ _ (hK X ((locIdx vds).map e) (by simp));rw[zip_map_self] at h1;have hidx:∀ i∈locIdx vds,(vds.map Verd.kind)[i]?=some 1:=fun i hi=>by
  have:=(List.mem_filter.1 hi).2
  simpa using this
 have h2:=lays_of hpl hlen (locIdx vds) a' hidx ((List.nodup_range).filter _) h1
 -- the frame is the one at hand
 have hfold:∀ (m:List Nat) (c:Act),(m.foldl (fun a i=>a.put ((l.toArray[i]?).bind (·.dst)) (match vds[i]? with|some v=>verdVal e i v|none=>undef)) c).tmps.size=c.tmps.size /\
   (m.foldl (fun a i=>a.put ((l.toArray[i]?).bind (·.dst)) (match vds[i]? with|some v=>verdVal e i v|none=>undef)) c).defers=c.defers:=by
  intro m
  induction m with
  |nil=>intro c;exact ⟨rfl,rfl⟩
  |cons i m ih =>
   intro c;simp only[List.foldl_cons];rw[(ih _).1,(ih _).2];unfold Act.put
   split<;>simp
 have hslot:∀ (m:List Nat) (c:Act) (s:Nat),(∀ i∈m,((l.toArray[i]?).bind (·.dst))≠some s) ->
   (m.foldl (fun a i=>a.put ((l.toArray[i]?).bind (·.dst)) (match vds[i]? with|some v=>verdVal e i v|none=>undef)) c).tmps[s]?=c.tmps[s]?:=by
  intro m
  induction m with
  |nil=>intro c s _;rfl
  |cons i m ih =>
   intro c s hs;simp only[List.foldl_cons];rw[ih _ s fun j hj=>hs j (by simp[hj])];have h0:=hs i (by simp);cases hd:(l.toArray[i]?).bind (·.dst) with
   |none=>rfl
   |some d=>rw[Act.put_at rfl,if_neg (by rw[hd] at h0;simpa using h0)]
 have hslot2:∀ (m:List Nat) (c:Act) (s:Nat) (i:Nat),i∈m->m.Nodup->((l.toArray[i]?).bind (·.dst))=some s->(∀ j∈m,j≠i->((l.toArray[j]?).bind (·.dst))≠some s) ->
   (m.foldl (fun a i=>a.put ((l.toArray[i]?).bind (·.dst)) (match vds[i]? with|some v=>verdVal e i v|none=>undef)) c).tmps[s]?=(c.tmps[s]?).map fun _=>(match vds[i]? with|some v=>verdVal e i v|none=>undef):=by
  intro m
  induction m with
  |nil=>intro c s i hi;cases hi
  |cons k m ih =>
   intro c s i hi hn hd hne;simp only[List.foldl_cons]
   by_cases hk:k=i
   ·subst hk;rw[hslot m _ s fun j hj=>hne j (by simp[hj]) fun e=>by subst e;exact (List.nodup_cons.1 hn).1 hj,Act.put_at hd,if_pos rfl]
   ·have hi':i∈m:=by
     rcases List.mem_cons.1 hi with h|h
     ·exact absurd h.symm hk
     ·exact h
    rw[ih _ s i hi' (List.nodup_cons.1 hn).2 hd fun j hj hji=>hne j (by simp[hj]) hji];have h0:=hne k (by simp) hk;cases hdk:(l.toArray[k]?).bind (·.dst) with
    |none=>rfl
    |some d=>rw[Act.put_at rfl,if_neg (by rw[hdk] at h0;simpa using h0)]
 have heq:b=(locIdx vds).foldl (fun a i=>a.put ((l.toArray[i]?).bind (·.dst)) (match vds[i]? with|some v=>verdVal e i v|none=>undef)) a':=by
  refine act_ext ?_ ?_ fun s=>?_
  ·rw[(hfold _ _).1,ha',(frameAt_same l vds l.length a).2,hsz]
  ·rw[(hfold _ _).2,ha',(frameAt_same l vds l.length a).1,hdf]
  ·by_cases hex:∃ (i:Nat) (o:Oper),l.toArray[i]?=some o/\o.dst=some s
   ·obtain ⟨i,o,ho,hd⟩:=hex;have hi:i<vds.length:=by rw[hlen];exact (Array.getElem?_eq_some_iff.1 ho).1
    have hv:vds[i]?=some vds[i]:=by simp[hi]
    rw[hon i o _ ho hv s hd];have hother:∀ (j:Nat),j≠i->((l.toArray[j]?).bind (·.dst))≠some s:=fun j hji h=>by
     cases hj:l.toArray[j]? with
     |none=>rw[hj] at h;cases h
     |some oj=>rw[hj] at h;exact mx.dst i j o oj s (fun e=>hji e.symm) ho hj (by simpa using h) hd
    by_cases hk:(vds.map Verd.kind)[i]?=some 1
    ·have hmem:i∈locIdx vds:=List.mem_filter.2 ⟨List.mem_range.2 hi,by simpa using hk⟩;rw[hslot2 (locIdx vds) a' s i hmem ((List.nodup_range).filter _) (by simp[ho,hd]) fun j _ hji=>hother j hji,ha',hv];rw[frameAt_other l vds l.length a s fun j oj vj _ hj hvj hkj hdj=>?_]
     by_cases hji:j=i
     ·subst hji;rw[List.getElem?_map,hvj] at hk;simp[hkj] at hk
     ·exact hother j hji (by simp[hj,hdj])
    ·rw[hslot (locIdx vds) a' s fun j hj hdj=>?_,ha']
     ·cases hvi:vds[i] with
      |val u =>
       rw[frameAt_slot l vds l.length i a s o u (by rw[hlen] at hi;simpa using hi) (by simpa using ho) (by rw[hv,hvi]) hd fun k o' hki hk' hd'=>hother k hki (by simp[hk',hd'])]
       rfl
      |loc F c T=>rw[List.getElem?_map,hv,hvi] at hk;simp[Verd.kind] at hk
      |fill d c T =>
       have:=hok i o _ (by simpa using ho) hv;rw[hvi] at this;rw[this.2.1] at hd;cases hd
     ·by_cases hji:j=i
      ·subst hji;exact hk (hidx j hj)
      ·exact hother j hji hdj
   ·rw[hoff s fun i o ho hd=>hex ⟨i,o,ho,hd⟩,hslot (locIdx vds) a' s fun i _ hd=>?_,ha',frameAt_other l vds l.length a s fun j oj vj _ hj _ _ hd=>hex ⟨j,oj,by simpa using hj,hd⟩];cases ho:l.toArray[i]? with
    |none=>rw[ho] at hd;cases hd
    |some o=>rw[ho] at hd;exact hex ⟨i,o,ho,by simpa using hd⟩
 rw[heq];exact h2
def Op.calm:Op->Bool
 | .move _ | .assign _ | .pick .. | .load .. | .binOp .. | .unOp .. | .convert .. | .fieldAddr .. | .field .. | .indexAddr .. | .index .. | .build .. | .extract .. | .slice ..=>true
 | .call { callee:=.builtin .min,.. } | .call { callee:=.builtin .max,.. } | .call { callee:=.builtin .len,.. }=>true
 |_=>false
theorem value_run {α:Type} {s:Sem α} {f:α->Value} {w w':World} {n:Next} (h:(s >>= fun v=>pure (Next.value (f v)):Sem Next).run P w=.ok n w'):∃ v,n=.value v:=by
 rw[Sem.run_bind] at h;cases hs:s.run P w with
 |ok v w2=>rw[hs] at h;simp[Result.andThen] at h;exact ⟨_,h.1.symm⟩
 |halt x w2=>rw[hs] at h;simp[Result.andThen] at h
theorem calm_run {o:Oper} (hc:o.op.calm=true) {ρ:Operand->Value} {w w':World} {n:Next} (h:(execOp ρ o).run P w=.ok n w'):∃ v,n=.value v:=by
 obtain ⟨dst,op,type,pos,after,guard⟩:=o;cases op<;>simp only[Op.calm,Bool.false_eq_true] at hc<;>simp only[execOp] at h<;>first
  |(exact value_run (f:=fun v=>v) h)
  |(exact value_run h)
  |(simp at h;exact ⟨_,h.1.symm⟩)
  |skip
 rename_i c
 obtain ⟨callee,args,ats⟩:=c;cases callee with
 |value f=>simp at hc
 |invoke r m=>simp at hc
 |builtin b =>
  cases b<;>simp only[Bool.false_eq_true] at hc<;>simp only[resolve,Sem.run_bind,Sem.run_pure,Result.andThen,invoke,builtin] at h<;>(split at h;(simp at h;exact ⟨_,h.1.symm⟩);cases h)
section
variable {K:Act->List Verd->Prop} {o:Oper} {rest:List Oper} {a:Act} {l:List Verd}
theorem mix_nil (h:K a l):wpMix P ops w0 K [] a l:=h
theorem mix_skip (hw:Region.wanted o (yielded ops a.tmps)=false) (h:wpMix P ops w0 K rest (a.put o.dst undef) (l++[.val undef])):wpMix P ops w0 K (o::rest) a l :=
 ⟨.val undef,.inr ⟨hw,rfl⟩,h⟩
theorem mix_calm (hw:Region.wanted o (yielded ops a.tmps)=true) (hc:o.op.calm=true)
  (h:∀ K':Act->Prop,(∀ a',wpMix P ops w0 K rest a' (l++[.val undef])->K' a')->o.quiet P a (fun w'=>∃ X,w'=w0.ext X) K'):wpMix P ops w0 K (o::rest) a l:=by
 obtain ⟨v,h1,h2⟩:=h _ fun _ h=>h
 refine ⟨.val v,.inl ⟨hw,fun X=>?_⟩,h2⟩;have h3:=h1 (w0.ext X) ⟨X,rfl⟩;unfold Oper.quietAt at *;cases hr:(execOp a.eval o).run P (w0.ext X) with
 |halt x w'=>rw[hr] at h3;exact h3
 |ok n w' =>
  obtain ⟨u,rfl⟩:=calm_run hc hr;rw[hr] at h3;exact h3
theorem mix_call (hw:Region.wanted o (yielded ops a.tmps)=true) {v:Value} (h:∀ X,o.quietAt P a (fun w''=>∃ Y,w''=(w0.ext X).ext Y) (w0.ext X) v)
  (hr:wpMix P ops w0 K rest (a.put o.dst v) (l++[.val undef])):wpMix P ops w0 K (o::rest) a l :=
 ⟨.val v,.inl ⟨hw,h⟩,hr⟩
theorem mix_ncheck {x:Operand} {p:Addr} (hg:o.guard=none) (hop:o.op=.nilCheck x) (hx:a.eval x=.pointer (some p))
  (hr:wpMix P ops w0 K rest (a.put o.dst (.pointer (some p))) (l++[.val undef])):wpMix P ops w0 K (o::rest) a l:=by
 refine ⟨.val (.pointer (some p)),.inl ⟨by simp[Region.wanted,hg],fun X=>?_⟩,hr⟩;obtain ⟨dst,op,type,pos,after,guard⟩:=o;simp only at hop;subst hop;unfold Oper.quietAt;simp[execOp,hx];exact ⟨rfl,rfl⟩
theorem mix_loc (hg:o.guard=none) (F:Nat->Value) (c:Array Value) (T:TypeId) (h:∀ X,(execOp a.eval o).run P (w0.ext X)=.ok (.value (F (w0.ext X).heap.size)) ((w0.ext X).alloc (.cells c T)))
  (hr:wpMix P ops w0 K rest a (l++[.loc F c T])):wpMix P ops w0 K (o::rest) a l :=
 ⟨.loc F c T,⟨hg,h⟩,hr⟩
theorem mix_fill (j:Nat) {d:Tmp} {c c0:Array Value} {T:TypeId} {x:Operand} {oj:Oper} (hg:o.guard=none) (hd:o.dst=none) (hop:o.op=.store T (.tmp d) x) (hx:a.eval x=.agg c) (h1:c.all (·.oneCell')=true)
  (hs:(P.info? T).map (·.size)=some c.size) (hlt:d<a.tmps.size) (hl:l[j]?=some (.loc ptr c0 T)) (hj:ops[j]?=some oj) (hdj:oj.dst=some d) (hcc:c0.size=c.size)
  (hr:wpMix P ops w0 K rest a (l++[.fill d c T])):wpMix P ops w0 K (o::rest) a l :=
 ⟨.fill d c T,⟨hg,hd,x,hop,hx,h1,hs,hlt,j,oj,c0,hl,hj,hdj,hcc⟩,hr⟩
structure NewBlock (w:World) (X:Xt) (p:Nat) (c:Array Value) (T:TypeId):Prop where
 gap:X.gap p w.heap.size
 block:(w.ext X).heap[p]?=some (.cells c T (0,0))
theorem NewBlock.cell {w:World} {X:Xt} {p:Nat} {c:Array Value} {T:TypeId} (h:NewBlock w X p c T):∀ k:Nat,(w.ext X).cell? ⟨p,k,none⟩=c[k]?:=fun k=>by simp[World.cell?,h.block]
theorem NewBlock.frozen {w:World} {X:Xt} {p:Nat} {c:Array Value} {T:TypeId} (h:NewBlock w X p c T):∀ k:Nat,(w.ext X).frozen? ⟨p,k,none⟩=false:=fun k=>by simp[World.frozen?,h.block]
theorem NewBlock.mk' {w:World} {X:Xt} {p:Nat} {c:Array Value} {T:TypeId} (h1:w.heap.size<=p) (h2:(w.ext X).heap[p]?=some (.cells c T (0,0))):NewBlock w X p c T :=
 ⟨⟨h1,by have:=(Array.getElem?_eq_some_iff.1 h2).1;simpa using this⟩,h2⟩
theorem mix_end1 {Q:Act->World->Prop} (i k:Nat) {oi:Oper} {di:Tmp} {Fi:Nat->Value} {ci c0i:Array Value} {Ti Tk:TypeId} (hm:Region.noSelect ops=true/\mixB .any ops (l.map Verd.kind)=true) (hidx:locIdx l=[i])
  (hi:ops[i]?=some oi) (hvi:l[i]?=some (.loc Fi c0i Ti)) (hdi:oi.dst=some di) (hfi:l[k]?=some (.fill di ci Tk)) (hci:Verd.final ops l i c0i=ci)
  (h:∀ X p,NewBlock w0 X p ci Ti->Q (a.put (some di) (Fi p)) (w0.ext X)) :
  (Region.noSelect ops=true/\mixB .any ops (l.map Verd.kind)=true)/\∀ (X:Xt) (ps:List Nat),ps.length=(locIdx l).length->Lays ops l w0 (w0.ext X) ((locIdx l).zip ps) a (fun b=>Q b (w0.ext X)):=by
 refine ⟨hm,fun X ps hps=>?_⟩;rw[hidx] at hps ⊢
 match ps,hps with
 | [p],_ =>
  simp only[List.zip_cons_cons,List.zip_nil_right,Lays,hi,hvi];intro h1 h2 _;rw[hci] at h2;rw[hdi];exact h X p (NewBlock.mk' h1 h2)
theorem mix_end2 {Q:Act->World->Prop} (i j k m:Nat) {oi oj:Oper} {di dj:Tmp} {Fi Fj:Nat->Value} {ci c0i cj c0j:Array Value} {Ti Tj Tk Tm:TypeId} (hm:Region.noSelect ops=true/\mixB .any ops (l.map Verd.kind)=true) (hidx:locIdx l=[i,j])
  (hi:ops[i]?=some oi) (hvi:l[i]?=some (.loc Fi c0i Ti)) (hdi:oi.dst=some di) (hfi:l[k]?=some (.fill di ci Tk)) (hci:Verd.final ops l i c0i=ci)
  (hj:ops[j]?=some oj) (hvj:l[j]?=some (.loc Fj c0j Tj)) (hdj:oj.dst=some dj) (hfj:l[m]?=some (.fill dj cj Tm)) (hcj:Verd.final ops l j c0j=cj)
  (h:∀ X p q,NewBlock w0 X p ci Ti->NewBlock w0 X q cj Tj->p≠q->Q ((a.put (some di) (Fi p)).put (some dj) (Fj q)) (w0.ext X)) :
  (Region.noSelect ops=true/\mixB .any ops (l.map Verd.kind)=true)/\∀ (X:Xt) (ps:List Nat),ps.length=(locIdx l).length->Lays ops l w0 (w0.ext X) ((locIdx l).zip ps) a (fun b=>Q b (w0.ext X)):=by
 refine ⟨hm,fun X ps hps=>?_⟩;rw[hidx] at hps ⊢
 match ps,hps with
 | [p,q],_ =>
  simp only[List.zip_cons_cons,List.zip_nil_right,Lays,hi,hvi,hj,hvj];intro h1 h2 h3 h4 h5 _;rw[hci] at h2;rw[hcj] at h5;rw[hdi,hdj];exact h X p q (NewBlock.mk' h1 h2) (NewBlock.mk' h4 h5) (by simpa using h3)
theorem mix_alloc {T:TypeId} {c:Array Value} (hg:o.guard=none) (hop:o.op=.alloc T) (hz:∀ w,(zeroValue T).run P w=.ok (.agg c) w)
  (hr:wpMix P ops w0 K rest a (l++[.loc ptr c T])):wpMix P ops w0 K (o::rest) a l:=by
 refine mix_loc hg ptr c T (fun X=>?_) hr;obtain ⟨dst,op,type,pos,after,guard⟩:=o;simp only at hop;subst hop;simp[execOp,Instr.alloc,newVar,hz,Sem.run_bind,Result.andThen,Value.cells,ptr,newRow,newObj,Sem.run]
theorem Calls.calm_ret {f:FuncId} {args:Array Value} {w:World} {v:Value} (h:Calls P f args w (Ret v w)):Calls P f args w fun e w''=>e=.returned v/\∃ Y,w''=w.ext Y:=h
end
end
end Go
end
section
namespace Go
section
variable {P:Program} {ops:Array Oper} {w0:World} {a:Act} {l:List Verd}
theorem mix_end3 {Q:Act->World->Prop} (ia ib ic ka kb kc:Nat) {oa ob oc:Oper} {da db dc:Tmp} {Fa Fb Fc:Nat->Value} {ca cb cc za zb zc:Array Value} {Ta Tb Tc Ua Ub Uc:TypeId} (hm:Region.noSelect ops=true/\mixB .any ops (l.map Verd.kind)=true) (hidx:locIdx l=[ia,ib,ic])
  (hia:ops[ia]?=some oa) (hva:l[ia]?=some (.loc Fa za Ta)) (hda:oa.dst=some da) (hfa:l[ka]?=some (.fill da ca Ua)) (hca:Verd.final ops l ia za=ca)
  (hib:ops[ib]?=some ob) (hvb:l[ib]?=some (.loc Fb zb Tb)) (hdb:ob.dst=some db) (hfb:l[kb]?=some (.fill db cb Ub)) (hcb:Verd.final ops l ib zb=cb)
  (hic:ops[ic]?=some oc) (hvc:l[ic]?=some (.loc Fc zc Tc)) (hdc:oc.dst=some dc) (hfc:l[kc]?=some (.fill dc cc Uc)) (hcc:Verd.final ops l ic zc=cc)
  (h:∀ X pa pb pc,NewBlock w0 X pa ca Ta->NewBlock w0 X pb cb Tb->NewBlock w0 X pc cc Tc->pa≠pb->pa≠pc->pb≠pc->Q (((a.put (some da) (Fa pa)).put (some db) (Fb pb)).put (some dc) (Fc pc)) (w0.ext X)) :
  (Region.noSelect ops=true/\mixB .any ops (l.map Verd.kind)=true)/\∀ (X:Xt) (ps:List Nat),ps.length=(locIdx l).length->Lays ops l w0 (w0.ext X) ((locIdx l).zip ps) a (fun b=>Q b (w0.ext X)):=by
 refine ⟨hm,fun X ps hps=>?_⟩;rw[hidx] at hps ⊢
 match ps,hps with
 | [pa,pb,pc],_ =>
  simp only[List.zip_cons_cons,List.zip_nil_right,Lays,hia,hva,hib,hvb,hic,hvc];intro ga ba na gb bb nb gc bc nc;rw[hca] at ba;rw[hcb] at bb;rw[hcc] at bc;rw[hda,hdb,hdc];simp at na;simp at nb;exact h X pa pb pc (NewBlock.mk' ga ba) (NewBlock.mk' gb bb) (NewBlock.mk' gc bc) na.1 na.2 nb
end
end Go
end
end
namespace Go.Proofs.YthcjfanigfgckaaGreat
open Go.RowKit
section
theorem pack_any (a b c d:Int) (h:May a b c d) (w:World):Calls Tryz.prog 210 #[C4 a b c d] w (Ret (.int .i64 (pk a b c d)) w):=by
 obtain ⟨a0,a1,b0,b1,c0,c1,e0,e1⟩:=h;have h1:bits .or .i64 (a*16777216) (b*65536)=a*16777216+b*65536:=bits_or_low _ _ 24 a.toNat (by omega) (by omega) (by omega) (by omega) (by omega);have h2:bits .or .i64 (a*16777216+b*65536) (c*256)=a*16777216+b*65536+c*256:=bits_or_low _ _ 16 (a*256+b).toNat (by omega) (by omega) (by omega) (by omega) (by omega);have h3:bits .or .i64 (a*16777216+b*65536+c*256) d=a*16777216+b*65536+c*256+d:=bits_or_low _ _ 8 ((a*256+b)*256+c).toNat (by omega) (by omega) (by omega) (by omega) (by omega);have H:a*16777216+b*65536+c*256+d=pk a b c d:=by unfold pk;omega
 rw[<-H];clear H
 go_enter Tryz.func210,Tryz.ntmps210
 go_wp2;go_ret;exact Ret.of (by exact bl_)
def up0 (n:Int):Int:=n/16777216%256
def up1 (n:Int):Int:=n/65536%256
def up2 (n:Int):Int:=n/256%256
def up3 (n:Int):Int:=n%256
theorem up_may (n:Int):May (up0 n) (up1 n) (up2 n) (up3 n):=by constructor<;>simp only[up0,up1,up2,up3]<;>omega
theorem pk_up {n:Int} (h0:0<=n) (h1:n<=4294967295):pk (up0 n) (up1 n) (up2 n) (up3 n)=n:=by simp only[pk,up0,up1,up2,up3];omega
abbrev U4 (n:Int):Value:=C4 (up0 n) (up1 n) (up2 n) (up3 n)
theorem unpack_any (n:Int) (h0:0<=n) (h1:n<=4294967295) (w:World):Calls Tryz.prog 207 #[.int .i64 n] w (Ret (U4 n) w):=by
 have e0:bits .and .i64 (n/16777216) 255=n/16777216%256:=bits_and_255 _ (by omega) (by omega);have e1:bits .and .i64 (n/65536) 255=n/65536%256:=bits_and_255 _ (by omega) (by omega);have e2:bits .and .i64 (n/256) 255=n/256%256:=bits_and_255 _ (by omega) (by omega);have e3:bits .and .i64 n 255=n%256:=bits_and_255 _ (by omega) (by omega)
 go_enter Tryz.func207,Tryz.ntmps207
 go_wp2;exact bodyPost_ret (v:=U4 n) (by simp[results,Tryz.results207,go_sem,up0,up1,up2,up3,e0,e1,e2,e3]) rfl (Ret.of (by exact bl_))
end
section
abbrev Im (W H:Int) (c z:Value):Value:=.agg #[.int .i64 W,.int .i64 H,c,z]
def Rd (w:World) (v:Value) (zs:List Int):Prop :=
 (∀ z∈zs,-9223372036854775808<=z/\z<=9223372036854775807)/\zs.length<=9223372036854775807 /\
 ∃ a cap,v=.slice a zs.length cap/\zs.length<=cap/\(zs=[]\/∃ b off,a=some ⟨b,off,none⟩/\b<w.heap.size/\∀ i,i<zs.length->w.cell? ⟨b,off+i,none⟩=some (.int .i64 (elt zs i)))
theorem Rd.ext {w:World} {v:Value} {zs:List Int} (h:Rd w v zs) (X:Xt):Rd (w.ext X) v zs:=by
 obtain ⟨h0,h1,a,cap,rfl,h2,h3⟩:=h;refine ⟨h0,h1,a,cap,rfl,h2,?_⟩;rcases h3 with h3|⟨b,off,rfl,hb,hc⟩
 ·exact .inl h3
 ·exact .inr ⟨b,off,rfl,by simp;omega,fun i hi=>by rw[World.cell?_ext hb];exact hc i hi⟩
structure ImOk (W H:Int) (C Z:List Int):Prop where
 w0:1<=W
 w1:W<=1024
 h0:1<=H
 h1:H<=1024
 c:(C.length:Int)=W*H
 z:(Z.length:Int)=W*H
 cs:∀ i,i<C.length->0<=elt C i/\elt C i<=4294967295
 zs:∀ i,i<C.length->0<=elt Z i/\elt Z i<=16777215
theorem area_01 {W H:Int} (w0:1<=W) (w1:W<=1024) (h0:1<=H) (h1:H<=1024):1<=W*H/\W*H<=1048576:=by
 have a:1*1<=W*H:=Int.mul_le_mul w0 h0 (by decide) (by omega);have b:W*H<=1024*1024:=Int.mul_le_mul w1 h1 (by omega) (by decide);omega
end
section
theorem ix_in {W H x y:Int} (x0:0<=x) (x1:x<W) (y0:0<=y) (y1:y<H):0<=y*W/\y*W+x<W*H:=by
 have a:0<=y*W:=Int.mul_nonneg y0 (by omega);have b:(y+1)*W<=H*W:=Int.mul_le_mul_of_nonneg_right (by omega) (by omega);rw[Int.add_mul,Int.one_mul,Int.mul_comm H W] at b;omega
def inB (W H x y:Int):Prop:=0<=x/\x<W/\0<=y/\y<H
instance (W H x y : Int) : Decidable (inB W H x y) := by unfold inB; exact inferInstance
def Still (v:Value) (w:World) (e:Ending) (w':World):Prop:=e=.returned v/\w=w'
theorem in_yes (W H x y:Int) (b:Nat) (w:World) (w0:1<=W) (w1:W<=1024) (h0:1<=H) (h1:H<=1024) (hi:inB W H x y) (cw:w.cell? ⟨b,0,none⟩=some (.int .i64 W)) (ch:w.cell? ⟨b,1,none⟩=some (.int .i64 H)) :
  Calls Tryz.prog 206 #[.pointer (some ⟨b,0,none⟩),.int .i64 x,.int .i64 y] w (Still (.bool true) w):=by
 obtain ⟨x0,x1,y0,y1⟩:=hi
 go_enter Tryz.func206,Tryz.ntmps206
 go_wp2;go_ret;exact ⟨rfl,rfl⟩
theorem get_in (W H:Int) (c z:Value) (C Z:List Int) (x y:Int) (w:World) (hc:Rd w c C) (hz:Rd w z Z) (h:ImOk W H C Z) (hi:inB W H x y) :
  Calls Tryz.prog 160 #[Im W H c z,.int .i64 x,.int .i64 y] w (Ret (.tuple #[U4 (elt C (y*W+x).toNat),.int .i64 (elt Z (y*W+x).toNat),.bool true]) w):=by
 obtain ⟨w0,w1,h0,h1,lc,lz,cs,zs⟩:=h;have HI:=hi;obtain ⟨x0,x1,y0,y1⟩:=hi;obtain ⟨q0,q1⟩:=ix_in x0 x1 y0 y1;obtain ⟨a0,a1⟩:=area_01 w0 w1 h0 h1;obtain ⟨-,-,a,cap,rfl,hcap,h3⟩:=hc;obtain ⟨-,-,a',cap',rfl,hcap',h3'⟩:=hz;rcases h3 with rfl|⟨b,off,rfl,hb,hcell⟩
 ·simp at lc;omega
 rcases h3' with rfl|⟨b',off',rfl,hb',hcell'⟩
 ·simp at lz;omega
 have q3:0<=y*W+x:=by omega
 have hb1:b<=w.heap.size:=by omega
 have hb2:b'<=w.heap.size:=by omega
 have c1:=hcell (y*W+x).toNat (by omega);have c2:=hcell' (y*W+x).toNat (by omega);obtain ⟨l1,l2⟩:=cs (y*W+x).toNat (by omega);obtain ⟨l3,l4⟩:=zs (y*W+x).toNat (by omega);have n1:y*W+x<C.length:=by omega
 have n2:y*W+x<Z.length:=by omega
 have n3:C.length<=1048576:=by omega
 clear lc lz hcell hcell' cs zs
 go_enter Tryz.func160,Tryz.ntmps160
 go_wp2_with (first|(go_at_call 206;(with_reducible refine (in_yes W H x y _ _ w0 w1 h0 h1 HI ?_ ?_).mono ?_);go_simp;go_simp;rintro _ _ ⟨rfl,rfl⟩))
 go_region_held3 (fun w'=>w'.cell? ⟨w.heap.size,2,none⟩=some (.slice (some ⟨b,off,none⟩) C.length cap)/\w'.cell? ⟨w.heap.size,3,none⟩=some (.slice (some ⟨b',off',none⟩) Z.length cap')/\w'.cell? ⟨b,off+(y*W+x).toNat,none⟩=some (.int .i64 (elt C (y*W+x).toNat))/\w'.cell? ⟨b',off'+(y*W+x).toNat,none⟩=some (.int .i64 (elt Z (y*W+x).toNat))) (go_simp) ((first|(go_at_call 207;(with_reducible refine (unpack_any _ l1 l2 _).mono ?_);rintro _ _ ⟨rfl,X_,rfl⟩)))
 go_wp2;exact bodyPost_ret (v:=.tuple #[U4 (elt C (y*W+x).toNat),.int .i64 (elt Z (y*W+x).toNat),.bool true]) (by simp[results,Tryz.results160,go_sem]) rfl (Ret.of (by exact bl_))
theorem get_out (W H:Int) (c z:Value) (C Z:List Int) (x y:Int) (w:World) (hc:Rd w c C) (hz:Rd w z Z) (h:ImOk W H C Z) (bx0:-9223372036854775808<=x) (bx1:x<=9223372036854775807) (by0:-9223372036854775808<=y) (by1:y<=9223372036854775807) (hi:¬inB W H x y) :
  Calls Tryz.prog 160 #[Im W H c z,.int .i64 x,.int .i64 y] w (Ret (.tuple #[C4 0 0 0 0,.int .i64 0,.bool false]) w):=by
 obtain ⟨w0,w1,h0,h1,-,-,-,-⟩:=h;obtain ⟨-,-,a,cap,rfl,-,-⟩:=hc;obtain ⟨-,-,a',cap',rfl,-,-⟩:=hz
 by_cases x0:0<=x
 ·by_cases x1:x<W
  ·by_cases y0:0<=y
   ·have y1:¬y<H:=fun y1=>hi ⟨x0,x1,y0,y1⟩
    clear hi
    go_enter Tryz.func160,Tryz.ntmps160
    go_wp2;exact bodyPost_ret (v:=.tuple #[C4 0 0 0 0,.int .i64 0,.bool false]) (by simp[results,Tryz.results160,go_sem]) rfl (Ret.of (by exact bl_))
   ·have y1:decide (IntKind.u64.wrap y<H)=false:=by rw[decide_eq_false_iff_not,IntKind.wrap_u64];omega
    clear hi y0
    go_enter Tryz.func160,Tryz.ntmps160
    go_wp2;exact bodyPost_ret (v:=.tuple #[C4 0 0 0 0,.int .i64 0,.bool false]) (by simp[results,Tryz.results160,go_sem]) rfl (Ret.of (by exact bl_))
  ·clear hi
   go_enter Tryz.func160,Tryz.ntmps160
   go_wp2;exact bodyPost_ret (v:=.tuple #[C4 0 0 0 0,.int .i64 0,.bool false]) (by simp[results,Tryz.results160,go_sem]) rfl (Ret.of (by exact bl_))
 ·have x1:decide (IntKind.u64.wrap x<W)=false:=by rw[decide_eq_false_iff_not,IntKind.wrap_u64];omega
  clear hi x0
  go_enter Tryz.func160,Tryz.ntmps160
  go_wp2;exact bodyPost_ret (v:=.tuple #[C4 0 0 0 0,.int .i64 0,.bool false]) (by simp[results,Tryz.results160,go_sem]) rfl (Ret.of (by exact bl_))
end
section
def ints (l:List Int):Array Value:=(l.map (Value.int .i64)).toArray
@[simp] theorem size_ints (l:List Int):(ints l).size=l.length:=by simp[ints]
theorem ints_at (l:List Int) (k:Nat):(ints l)[k]?=(l[k]?).map (Value.int .i64):=by simp[ints]
theorem info_int:(Tryz.prog.info? 3).map (fun i=>(i.zero,i.size,i.bytes))=some (some (.int .i64 0),1,8):=by kernel_rfl
end
section
theorem Rd.alloc {w:World} {v:Value} {zs:List Int} (h:Rd w v zs) (o:Obj):Rd (w.alloc o) v zs:=by
 obtain ⟨h0,h1,a,cap,rfl,h2,h3⟩:=h;refine ⟨h0,h1,a,cap,rfl,h2,?_⟩;rcases h3 with h3|⟨b,off,rfl,hb,hc⟩
 ·exact .inl h3
 ·refine .inr ⟨b,off,rfl,by rw[World.hp_alloc,Array.size_push];omega,fun i hi=>?_⟩;rw[<-hc i hi];simp only[World.cell?,World.hp_alloc,Array.getElem?_push,if_neg (show ¬b=w.heap.size by omega)]
theorem Rd.drew {w:World} {v:Value} {zs:List Int} (h:Rd w v zs):Rd w.drew v zs:=h
end
section
theorem ext_none (w:World):w.ext ⟨#[],w.drawn⟩=w:=by simp[World.ext]
theorem same_yes (W H:Int) (c z c' z':Value) (C Z:List Int) (w:World) (hc:Rd w c C) (hz:Rd w z Z) (hc':Rd w c' C) (hz':Rd w z' Z) (lc:C.length<=1048576) (lz:Z.length<=1048576) :
  Calls Tryz.prog 33 #[Im W H c z,Im W H c' z'] w (Ret (.bool true) w):=by
 obtain ⟨-,-,a1,cap1,rfl,hcap1,h1⟩:=hc;obtain ⟨-,-,a2,cap2,rfl,hcap2,h2⟩:=hz;obtain ⟨-,-,a3,cap3,rfl,hcap3,h3⟩:=hc';obtain ⟨-,-,a4,cap4,rfl,hcap4,h4⟩:=hz'
 go_enter Tryz.func33,Tryz.ntmps33
 go_wp2;go_loopw [5] (fun i wr=>∃ (k:Nat) (X:Xt),k<=C.length/\i=.int .i64 k/\wr=((w.alloc (.cells #[.int .i64 W,.int .i64 H,.slice a1 C.length cap1,.slice a2 Z.length cap2] 54)).alloc (.cells #[.int .i64 W,.int .i64 H,.slice a3 C.length cap3,.slice a4 Z.length cap4] 54)).ext X)
  (fun i _=>C.length-(intOf i).toNat)
 case atStart=>exact ⟨0,_,by omega,rfl,(ext_none _).symm⟩
 case round =>
  obtain ⟨k,X,hk,rfl,rfl⟩:=hrel
  by_cases hlt:k<C.length
  ·rcases h1 with rfl|⟨b1,off1,rfl,hb1,hc1⟩
   ·simp at hlt
   rcases h3 with rfl|⟨b3,off3,rfl,hb3,hc3⟩
   ·simp at hlt
   have e1:=hc1 k hlt;have e3:=hc3 k hlt;have hb1':b1<=w.heap.size:=by omega
   have hb3':b3<=w.heap.size:=by omega
   clear hc1 hc3 h2 h4;go_wp2;refine wp_region_ext (by kernel_rfl) (by kernel_rfl) ?_
   repeat (go_big_quiet_step ((fail)))
   refine wpQuiet_nil ?_;intro _ hw_ext;obtain ⟨Y,hw_ext⟩:=hw_ext;subst hw_ext;go_wp2;go_roundw
   case rel=>exact ⟨k+1,_,by omega,by go_num,World.ext_ext⟩
   case measure=>simp[intOf];omega
  ·go_wp2;go_loopw [6] (fun i wr=>∃ (k:Nat) (X:Xt),k<=Z.length/\i=.int .i64 k/\wr=((w.alloc (.cells #[.int .i64 W,.int .i64 H,.slice a1 C.length cap1,.slice a2 Z.length cap2] 54)).alloc (.cells #[.int .i64 W,.int .i64 H,.slice a3 C.length cap3,.slice a4 Z.length cap4] 54)).ext X)
    (fun i _=>Z.length-(intOf i).toNat)
   case atStart=>exact ⟨0,X,by omega,rfl,rfl⟩
   case round =>
    clear hlt hk;obtain ⟨k,X,hk,rfl,rfl⟩:=hrel
    by_cases hlt:k<Z.length
    ·rcases h2 with rfl|⟨b1,off1,rfl,hb1,hc1⟩
     ·simp at hlt
     rcases h4 with rfl|⟨b3,off3,rfl,hb3,hc3⟩
     ·simp at hlt
     have e1:=hc1 k hlt;have e3:=hc3 k hlt;have hb1':b1<=w.heap.size:=by omega
     have hb3':b3<=w.heap.size:=by omega
     clear hc1 hc3 h1 h3;go_wp2;refine wp_region_ext (by kernel_rfl) (by kernel_rfl) ?_
     repeat (go_big_quiet_step ((fail)))
     refine wpQuiet_nil ?_;intro _ hw_ext;obtain ⟨Y,hw_ext⟩:=hw_ext;subst hw_ext;go_wp2;go_roundw
     case rel=>exact ⟨k+1,_,by omega,by go_num,World.ext_ext⟩
     case measure=>simp[intOf];omega
    ·go_wp2;go_ret;exact Ret.of (by exact bl_)
end
section
def Makes (W H:Int) (C Z:List Int) (t:Value->Value) (w:World) (e:Ending) (w':World):Prop :=
 ∃ vc vz,e=.returned (t (Im W H vc vz))/\(∃ X,w'=w.ext X)/\Rd w' vc C/\Rd w' vz Z
theorem grown_set (w:World) (p k:Nat) (v:Value):w.grownBy (w.setCell ⟨p,k,none⟩ v) (some p) :=
 ⟨rfl,rfl,rfl,by simp[World.setCell],fun j hj hne=>by
  have:¬p=j:=fun e=>hne (by rw[e])
  simp only[World.setCell,Array.getElem?_modify,if_neg this]⟩
theorem grown_swap {w:World} {o o':Obj} {X:Xt}:((w.alloc o).ext X).grownBy ((w.alloc o').ext X) (some w.heap.size) :=
 ⟨rfl,rfl,rfl,by simp[World.ext,World.hp_alloc],fun k hk hne=>by
  have:¬k=w.heap.size:=fun e=>hne (by rw[e])
  simp only[World.ext,World.hp_alloc,Array.getElem?_append,Array.size_push,Array.getElem?_push,if_neg this]⟩
abbrev sl (g n cap:Nat):Value:=.slice (some ⟨g,0,none⟩) n cap
structure Grow (w0 wr:World) (pm:Nat) (W H:Int) (vc vz:Value) (kc kz:Nat):Prop where
 bel:Below w0.heap.size w0 wr
 pml:w0.heap.size<=pm
 row:Row wr pm #[.int .i64 W,.int .i64 H,vc,vz] 54
 oc:wr.ownsRow (pm+1) 3 1 vc kc (List.replicate kc (.int .i64 0))
 oz:wr.ownsRow (pm+1) 3 1 vz kz (List.replicate kz (.int .i64 16777215))
 ne:∀ g,vc.ownBlock=some g->vz.ownBlock≠some g
theorem Grow.c {w0 wr w1:World} {pm:Nat} {W H:Int} {vc vz:Value} {kc kz g cap:Nat} {o:Obj} (h:Grow w0 wr pm W H vc vz kc kz)
  (hown:w1.ownsRow (pm+1) 3 1 (sl g (kc+1) cap) (kc+1) (List.replicate kc (.int .i64 0)++[.int .i64 0])) (hg:(wr.alloc o).grownBy w1 vc.ownBlock) (hat:vc.ownBlock=some g\/g=wr.heap.size+1) :
  Row w1 pm #[.int .i64 W,.int .i64 H,vc,vz] 54/\Grow w0 (w1.setCell ⟨pm,2,none⟩ (sl g (kc+1) cap)) pm W H (sl g (kc+1) cap) vz (kc+1) kz:=by
 have hs:(wr.alloc o).heap.size=wr.heap.size+1:=by rw[World.hp_alloc,Array.size_push]
 have r1:Row w1 pm #[.int .i64 W,.int .i64 H,vc,vz] 54:=by
  unfold Row;rw[hg.block pm (by have:=h.row.lt;omega) (fun e=>by have:=(h.oc.lt pm e.symm).1;omega)];exact h.row.alloc o
 have hz:w1.ownsRow (pm+1) 3 1 vz kz (List.replicate kz (.int .i64 16777215)):=(h.oz.alloc o).kept hg (by
  cases e:vz.ownBlock with
  |none=>exact .inl rfl
  |some q=>exact .inr fun e'=>h.ne q e'.symm e)
 refine ⟨r1,?_,h.pml,?_,?_,?_,?_⟩
 ·refine Below.setCell (Below.grown (h.bel.alloc h.bel.size o) hg (by have:=h.bel.size;omega) fun k hk=>?_) h.pml _;have:=(h.oc.lt k hk).1;have:=h.pml;omega
 ·have:=r1.set 2 (sl g (kc+1) cap)
  simpa using this
 ·rw[List.replicate_succ'];exact hown.kept (grown_set _ _ _ _) (.inr fun e=>by have:=(hown.lt pm e).1;omega)
 ·exact hz.kept (grown_set _ _ _ _) (.inr fun e=>by have:=(hz.lt pm e).1;omega)
 ·intro g' e e';obtain rfl:g=g':=by simpa [Value.ownBlock] using e
  rcases hat with hat|hat
  ·exact h.ne g hat e'
  ·have:=(h.oz.lt g e').2;omega
theorem Grow.z {w0 wr w1:World} {pm:Nat} {W H:Int} {vc vz:Value} {kc kz g cap:Nat} {o:Obj} (h:Grow w0 wr pm W H vc vz kc kz)
  (hown:w1.ownsRow (pm+1) 3 1 (sl g (kz+1) cap) (kz+1) (List.replicate kz (.int .i64 16777215)++[.int .i64 16777215])) (hg:(wr.alloc o).grownBy w1 vz.ownBlock) (hat:vz.ownBlock=some g\/g=wr.heap.size+1) :
  Row w1 pm #[.int .i64 W,.int .i64 H,vc,vz] 54/\Grow w0 (w1.setCell ⟨pm,3,none⟩ (sl g (kz+1) cap)) pm W H vc (sl g (kz+1) cap) kc (kz+1):=by
 have hs:(wr.alloc o).heap.size=wr.heap.size+1:=by rw[World.hp_alloc,Array.size_push]
 have r1:Row w1 pm #[.int .i64 W,.int .i64 H,vc,vz] 54:=by
  unfold Row;rw[hg.block pm (by have:=h.row.lt;omega) (fun e=>by have:=(h.oz.lt pm e.symm).1;omega)];exact h.row.alloc o
 have hz:w1.ownsRow (pm+1) 3 1 vc kc (List.replicate kc (.int .i64 0)):=(h.oc.alloc o).kept hg (by
  cases e:vc.ownBlock with
  |none=>exact .inl rfl
  |some q=>exact .inr fun e'=>h.ne q e e'.symm)
 refine ⟨r1,?_,h.pml,?_,?_,?_,?_⟩
 ·refine Below.setCell (Below.grown (h.bel.alloc h.bel.size o) hg (by have:=h.bel.size;omega) fun k hk=>?_) h.pml _;have:=(h.oz.lt k hk).1;have:=h.pml;omega
 ·have:=r1.set 3 (sl g (kz+1) cap)
  simpa using this
 ·exact hz.kept (grown_set _ _ _ _) (.inr fun e=>by have:=(hz.lt pm e).1;omega)
 ·rw[List.replicate_succ'];exact hown.kept (grown_set _ _ _ _) (.inr fun e=>by have:=(hown.lt pm e).1;omega)
 ·intro g' e e';obtain rfl:g=g':=by simpa [Value.ownBlock] using e'
  rcases hat with hat|hat
  ·exact h.ne g e hat
  ·have:=(h.oc.lt g e).2;omega
theorem rd_own {w:World} {base n:Nat} {v:Value} {l:List Int} (h:w.ownsRow base 3 1 v n (l.map (Value.int .i64))) (hb:∀ z∈l,-9223372036854775808<=z/\z<=9223372036854775807):Rd w v l:=by
 obtain ⟨hl,h⟩:=h;obtain rfl:n=l.length:=by simpa using hl.symm
 rcases h with ⟨rfl,h0⟩|⟨g,cap,cur,rfl,-,hg,h1,h2,h3,h4⟩
 ·obtain rfl:l=[]:=List.length_eq_zero_iff.1 h0;exact ⟨hb,by simp,none,0,rfl,Nat.le_refl _,.inl rfl⟩
 ·refine ⟨hb,by simp only[maxLen] at h2;omega,_,cap,rfl,h1,.inr ⟨g,0,rfl,(Array.getElem?_eq_some_iff.1 hg).1,fun i hi=>?_⟩⟩;have e:cur.toList[i]?=(cur.toList.take (l.length*1))[i]?:=by rw[List.getElem?_take,if_pos (by omega)]
  rw[Nat.zero_add,World.cell?];simp only[hg];rw[<-Array.getElem?_toList,e,h4];simp[elt,hi]
end
end Go.Proofs.YthcjfanigfgckaaGreat
