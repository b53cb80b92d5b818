import Derived.Test.YthcjfanigfgckaaGreatSHiddenOrder15
set_option linter.unusedVariables false
set_option linter.unusedSimpArgs false
set_option maxRecDepth 100000
set_option maxHeartbeats 16000000
section
section
namespace Go
def Grows (w w':World):Prop:=∃ X,w'=w.ext X
structure Pre (L:World->World->Prop):Prop where
 refl:∀ w,L w w
 trans:∀ {a b c},L a b->L b c->L a c
 drew:∀ w,L w { w with drawn:=w.drawn+1 }
theorem pre_grows:Pre Grows:=⟨fun w=>⟨⟨#[],w.drawn⟩,by simp[World.ext]⟩,fun ⟨X,h⟩ ⟨Y,k⟩=>by subst h;subst k;exact ⟨_,World.ext_ext⟩,fun w=>⟨⟨#[],w.drawn+1⟩,by simp[World.ext]⟩⟩
structure SR (L:World->World->Prop) where
 R:Value->World->Prop
 st:∀ v w w',R v w->L w w'->R v w'
 F:Value->Prop
 dflt:Value
 hd:F dflt
 hF:∀ v w,R v w->F v
section
variable {P:Program} {ops:Array Oper} {w:World} {L:World->World->Prop}
def yld (o:Oper) (v:Value):Value:=match o.dst with
 |some _=>v
 |none=>undef
def okG (ops:Array Oper) (o:Oper) (a:Act):Prop:=Region.wanted o (yielded ops a.tmps)=true
theorem okG_none {o:Oper} {a:Act} (h:o.guard=none):okG ops o a:=by simp[okG,Region.wanted,h]
def lowG (ops:Array Oper):Bool:=(List.range ops.size).all fun i=>match ops[i]? with
 |some o=>o.after.all fun e=>!(Region.binds .any e) || decide (e.on<i)
 |none=>true
theorem lowG_spec (h:lowG ops=true) {i:Nat} {o:Oper} (ho:ops[i]?=some o):∀ e∈o.after,Region.binds .any e=true->e.on<i:=by
 have hi:i<ops.size:=(Array.getElem?_eq_some_iff.1 ho).1;have:=List.all_eq_true.1 h i (List.mem_range.2 hi);simp only[ho,Array.all_eq_true',Bool.or_eq_true,Bool.not_eq_true',decide_eq_true_eq] at this;exact fun e he hb=>(this e he).resolve_left (by rw[hb];exact Bool.noConfusion)
def relWalk (P:Program) (ops:Array Oper) (L:World->World->Prop) (w:World) (K:Act->List (Nat×(World->Prop))->Prop):Nat->List Oper->List (Option (List Nat×SR L))->Act->List (Nat×(World->Prop))->Prop
 |_,[],_,a,kn=>K a kn
 |k,o::os,none::T,a,kn=>okG ops o a/\o.quiet P a (fun w'=>L w w') fun a'=>relWalk P ops L w K (k+1) os T a' kn
 |k,o::os,some (ds,R)::T,a,kn=>okG ops o a/\(∀ w',L w w'->(∀ p∈kn,p.1∈ds->p.2 w')->o.wp P a w' (fun a1 w1=>∃ v,a1=a.put o.dst v/\R.R (yld o v) w1/\L w' w1) (fun _ _ _=>False)) /\
   ∀ v,R.F v->relWalk P ops L w K (k+1) os T (a.put o.dst v) ((k,R.R v)::kn)
 |_,_::_,[],_,_=>False
def pureB (o:Oper):Bool:=match o.op with
 | .move _ | .assign _ | .pick .. | .load .. | .fieldAddr .. | .field .. | .build .. | .unOp .. | .binOp .. | .convert .. | .extract .. | .indexAddr .. | .index .. | .slice .. | .makeInterface ..=>true
 |_=>false
theorem no_enter {s:Sem Value} {w w':World} {f:FuncId} {args:Array Value} (h:(do pure (Next.value (<-s)):Sem Next).run P w=.ok (.enter f args) w'):False:=by
 rw[Sem.run_bind] at h;cases e:s.run P w with
 |ok v w1=>rw[e] at h;simp[Result.andThen] at h
 |halt x w1=>rw[e] at h;simp[Result.andThen] at h
theorem pureB_spec {o:Oper} (h:pureB o=true) {ρ:Operand->Value} {w w':World} {f:FuncId} {args:Array Value}:(execOp ρ o).run P w≠.ok (.enter f args) w':=by
 intro he;unfold pureB at h;unfold execOp at he;cases ho:o.op<;>simp only[ho] at h he<;>first
  |(cases h;done)
  |exact no_enter he
  |(simp at he;done)
  |(rename_i c x y;rw[Sem.run_bind] at he;cases e:(asBool (ρ c)).run P w<;>rw[e] at he<;>simp[Result.andThen] at he)
theorem quiet_unique {o:Oper} (hp:pureB o=true) {a a':Act} {C:World->Prop} {w:World} {v v':Value} (he:execOp a.eval o=execOp a'.eval o) (h:o.quietAt P a C w v) (h':o.quietAt P a' C w v'):v=v':=by
 unfold Oper.quietAt at h h';rw[he] at h;have hn:=fun f args w'=>pureB_spec (P:=P) hp (ρ:=a'.eval) (w:=w) (w':=w') (f:=f) (args:=args)
 generalize (execOp a'.eval o).run P w=r at *;unfold Oper.quietUpon at h h'
 split at h
 ·simp at h';exact h.2.symm.trans h'.2
 ·simp at h';rw[h.2,h'.2]
 ·exact absurd rfl (hn _ _ _)
 ·exact h.elim
def relB (ops:Array Oper) (n:Nat) (m:Nat) (T:List Bool):Bool :=
 (List.range n).all fun i=>match ops[i]? with
  |some o=>(T.getD i false || pureB o)&&(match o.dst with|some s=>decide (s<m)|none=>true) &&
    (o.looksAt ops).all (fun s=>(List.range n).all fun j=>match ops[j]? with
     |some oj=>oj.dst != some s || (decide (j<i)&&Region.waitsFor .any ops i j)
     |none=>true) &&
    (match o.dst with
     |some s=>(List.range n).all fun j=>match ops[j]? with
      |some oj=>decide (j=i) || oj.dst != some s
      |none=>true
     |none=>true)
  |none=>false
structure RelOk (ops:Array Oper) (n m:Nat) (T:List Bool) (i:Nat) (o:Oper):Prop where
 pure:T.getD i false=false->pureB o=true
 room:∀ s,o.dst=some s->s<m
 looks:∀ s∈o.looksAt ops,∀ j oj,j<n->ops[j]?=some oj->oj.dst=some s->j<i/\Region.waitsFor .any ops i j=true
 own:∀ s,o.dst=some s->∀ j oj,j<n->ops[j]?=some oj->oj.dst=some s->j=i
theorem relB_spec {n m:Nat} {T:List Bool} (h:relB ops n m T=true) {i:Nat} {o:Oper} (hi:i<n) (ho:ops[i]?=some o):RelOk ops n m T i o:=by
 have h1:=List.all_eq_true.1 h i (List.mem_range.2 hi);simp only[ho,Bool.and_eq_true] at h1;obtain ⟨⟨⟨h1,h2⟩,h3⟩,h4⟩:=h1;refine ⟨fun e=>by simpa only[e,Bool.false_or] using h1,fun s e=>?_,fun s hs j oj hj hoj e=>?_,fun s e j oj hj hoj e'=>?_⟩
 ·simp only[e,decide_eq_true_eq] at h2;exact h2
 ·have:=List.all_eq_true.1 (List.all_eq_true.1 h3 s hs) j (List.mem_range.2 hj);simp only[hoj,e,bne_self_eq_false,Bool.false_or,Bool.and_eq_true,decide_eq_true_eq] at this;exact this
 ·simp only[e] at h4;have:=List.all_eq_true.1 h4 j (List.mem_range.2 hj);simp only[hoj,e',bne_self_eq_false,Bool.or_false,decide_eq_true_eq] at this;exact this
def hold (o:Oper) (a:Act):Value:=match o.dst with
 |some s=>a.tmps.getD s undef
 |none=>undef
structure RelInv (P:Program) (L:World->World->Prop) (ops:Array Oper) (n:Nat) (T:List (Option (List Nat×SR L))) (a:Act) (w:World) (d:Nat->Bool) (a':Act) (w':World):Prop where
 size:a'.tmps.size=a.tmps.size
 defers:a'.defers=a.defers
 world:L w w'
 closed:∀ k,d k=true->∀ j,Region.waitsFor .any ops k j=true->d j=true
 off:∀ s,(∀ j o,j<n->ops[j]?=some o->d j=true->o.dst≠some s)->a'.tmps[s]?=a.tmps[s]?
 quiet:∀ k o,k<n->ops[k]?=some o->T[k]?=some none->d k=true->∀ v,(∀ w'',L w w''->o.quietAt P a' (fun w'=>L w w') w'' v)->∀ s,o.dst=some s->a'.tmps[s]?=some v
 rel:∀ k o ds R,k<n->ops[k]?=some o->T[k]?=some (some (ds,R))->d k=true->R.R (hold o a') w'
structure LexInv (L:World->World->Prop) (ops:Array Oper) (n:Nat) (T:List (Option (List Nat×SR L))) (a:Act) (d:Nat->Bool) (a':Act) (k:Nat) (b:Act) (kn:List (Nat×(World->Prop))):Prop where
 size:b.tmps.size=a.tmps.size
 defers:b.defers=a.defers
 agree:∀ s,(∀ j o,j<n->ops[j]?=some o->o.dst=some s->j<k/\d j=true)->b.tmps[s]?=a'.tmps[s]?
 known:∀ p∈kn,p.1<k/\(d p.1=true->∃ o ds R,ops[p.1]?=some o/\T[p.1]?=some (some (ds,R))/\p.2=R.R (hold o a'))
theorem put_get {a:Act} {s:Tmp} {v:Value} (h:s<a.tmps.size) (t:Tmp):(a.put (some s) v).tmps[t]?=if t=s then some v else a.tmps[t]?:=by
 simp only[Act.put,Array.getElem?_setIfInBounds]
 by_cases e:s=t
 ·subst e;simp[h]
 ·rw[if_neg e,if_neg (Ne.symm e)]
theorem put_size {a:Act} {d:Option Tmp} {v:Value}:(a.put d v).tmps.size=a.tmps.size:=by
 cases d<;>simp[Act.put]
theorem put_defers {a:Act} {d:Option Tmp} {v:Value}:(a.put d v).defers=a.defers:=by
 cases d<;>simp[Act.put]
section
variable {n:Nat} {T:List (Option (List Nat×SR L))} {a a':Act} {d:Nat->Bool} {w':World}
theorem LexInv.exec {k:Nat} {b:Act} {kn:List (Nat×(World->Prop))} {o:Oper} (I:LexInv L ops n T a d a' k b kn) (hb:RelOk ops n a.tmps.size (T.map Option.isSome) k o) (hns:∀ cs bl,o.op≠.select cs bl) (hd:∀ j,Region.waitsFor .any ops k j=true->d j=true):execOp b.eval o=execOp a'.eval o:=by
 refine exec_agree (ops:=ops) hns fun s hs=>I.agree s fun j oj hj hoj e=>?_
 obtain ⟨h1,h2⟩:=hb.looks s hs j oj hj hoj e;exact ⟨h1,hd j h2⟩
theorem LexInv.wanted {k:Nat} {b:Act} {kn:List (Nat×(World->Prop))} {o:Oper} (I:LexInv L ops n T a d a' k b kn) (hb:RelOk ops n a.tmps.size (T.map Option.isSome) k o) (hd:∀ j,Region.waitsFor .any ops k j=true->d j=true):Region.wanted o (yielded ops b.tmps)=Region.wanted o (yielded ops a'.tmps):=by
 refine wanted_agree fun s hs=>I.agree s fun j oj hj hoj e=>?_
 obtain ⟨h1,h2⟩:=hb.looks s hs j oj hj hoj e;exact ⟨h1,hd j h2⟩
theorem lex_run {K:Act->List (Nat×(World->Prop))->Prop} (hsel:Region.noSelect ops=true) (hB:relB ops n a.tmps.size (T.map Option.isSome)=true) (I:RelInv P L ops n T a w d a' w') :
  ∀ (os:List Oper) (Ts:List (Option (List Nat×SR L))) (k:Nat) (b:Act) (kn:List (Nat×(World->Prop))),k+os.length=n->(∀ j,j<os.length->os[j]?=ops[k+j]?)->(∀ j,j<os.length->Ts[j]?=T[k+j]?)->LexInv L ops n T a d a' k b kn->relWalk P ops L w K k os Ts b kn ->
   (∀ i,k<=i->i<n->∃ b' kn' o,ops[i]?=some o/\okG ops o b'/\LexInv L ops n T a d a' i b' kn'/\(match T.getD i none with
    |none=>∃ v,∀ w'',L w w''->o.quietAt P b' (fun w'=>L w w') w'' v
    |some (ds,R)=>∀ w',L w w'->(∀ p∈kn',p.1∈ds->p.2 w')->o.wp P b' w' (fun a1 w1=>∃ v,a1=b'.put o.dst v/\R.R (yld o v) w1/\L w' w1) (fun _ _ _=>False))/\T[i]?=some (T.getD i none)) /\
   ∃ b' kn',LexInv L ops n T a d a' n b' kn'/\K b' kn':=by
 intro os
 induction os with
 |nil =>
  intro Ts k b kn hk _ _ Lx h;obtain rfl:k=n:=by simpa using hk
  exact ⟨fun i h1 h2=>by omega,b,kn,Lx,by cases Ts<;>exact h⟩
 |cons o os ih =>
  intro Ts k b kn hk hl hT Lx h;simp only[List.length_cons] at hk hl hT;have ho:ops[k]?=some o:=by simpa using (hl 0 (by omega)).symm
  have hkn:k<n:=by omega
  have B:=relB_spec hB hkn ho;have ns:=fun cs bl=>Region.noSelect_spec hsel k o cs bl ho
  cases Ts with
  |nil=>exact h.elim
  |cons t Ts =>
   have ht:T[k]?=some t:=by simpa using (hT 0 (by omega)).symm
   have htD:T.getD k none=t:=by rw[List.getD_eq_getElem?_getD,ht];rfl
   have hl':∀ j,j<os.length->os[j]?=ops[k+1+j]?:=fun j hj=>by
    have:=hl (j+1) (by omega)
    simpa [Nat.add_assoc,Nat.add_comm 1 j] using this
   have hT':∀ j,j<os.length->Ts[j]?=T[k+1+j]?:=fun j hj=>by
    have:=hT (j+1) (by omega)
    simpa [Nat.add_assoc,Nat.add_comm 1 j] using this
   -- the next lexical frame
   have next:∀ v kn',(d k=true->∀ s,o.dst=some s->a'.tmps[s]?=some v)->(∀ p∈kn',p∈kn\/p.1=k/\(d k=true->∃ ds R,t=some (ds,R)/\p=(k,R.R (hold o a'))))->LexInv L ops n T a d a' (k+1) (b.put o.dst v) kn':=by
    intro v kn' hv hkn';refine ⟨put_size.trans Lx.size,put_defers.trans Lx.defers,fun s hs=>?_,fun p hp=>?_⟩
    ·cases hdst:o.dst with
     |none =>
      refine Lx.agree s fun j oj hj hoj e=>?_
      obtain ⟨h1,h2⟩:=hs j oj hj hoj e;refine ⟨?_,h2⟩;rcases Nat.lt_or_ge j k with h|h
      ·exact h
      ·obtain rfl:j=k:=by omega
       rw[ho] at hoj;cases hoj;rw[hdst] at e;cases e
     |some s' =>
      rw[put_get (by rw[Lx.size];exact B.room s' hdst)]
      by_cases e:s=s'
      ·subst e;rw[if_pos rfl,hv (hs k o hkn ho hdst).2 s hdst]
      ·rw[if_neg e];refine Lx.agree s fun j oj hj hoj e'=>?_
       obtain ⟨h1,h2⟩:=hs j oj hj hoj e';refine ⟨?_,h2⟩;rcases Nat.lt_or_ge j k with h|h
       ·exact h
       ·obtain rfl:j=k:=by omega
        rw[ho] at hoj;cases hoj;rw[hdst] at e';cases e';exact absurd rfl e
    ·rcases hkn' p hp with h|⟨hp1,h⟩
     ·obtain ⟨h1,h2⟩:=Lx.known p h;exact ⟨by omega,h2⟩
     ·refine ⟨by omega,fun hdp=>?_⟩;rw[hp1] at hdp;obtain ⟨ds,R,h1,rfl⟩:=h hdp;exact ⟨o,ds,R,ho,by rw[<-h1];exact ht,rfl⟩
   cases t with
   |none =>
    obtain ⟨hG,v,hv,hK⟩:=h;have hpure:=B.pure (by simp[List.getD_eq_getElem?_getD,ht]);obtain ⟨H1,b',kn',H2,H3⟩:=ih Ts (k+1) _ kn (by omega) hl' hT' (next v kn (fun hd s hs=>by
     refine I.quiet k o hkn ho ht hd v (fun w'' hw''=>?_) s hs;have e:=Lx.exec B ns (I.closed k hd);have:=hv w'' hw'';unfold Oper.quietAt at this ⊢
     rwa [<-e]) (fun p hp=>.inl hp)) hK
    refine ⟨fun i h1 h2=>?_,b',kn',H2,H3⟩;rcases Nat.eq_or_lt_of_le h1 with e|e
    ·subst e;exact ⟨b,kn,o,ho,hG,Lx,by rw[htD];exact ⟨v,hv⟩,by rw[htD];exact ht⟩
    ·exact H1 i e h2
   |some q =>
    obtain ⟨ds,R⟩:=q;obtain ⟨hG,hw,hK⟩:=h;obtain ⟨v,hv,hF⟩:∃ v,(d k=true->v=hold o a')/\R.F v:=by
     cases hd:d k with
     |true=>exact ⟨_,fun _=>rfl,R.hF _ _ (I.rel k o ds R hkn ho ht hd)⟩
     |false=>exact ⟨R.dflt,(fun h=>Bool.noConfusion h),R.hd⟩
    obtain ⟨H1,b',kn',H2,H3⟩:=ih Ts (k+1) _ _ (by omega) hl' hT' (next v ((k,R.R v)::kn) (fun hd s' hs'=>by
     rw[hv hd];simp only[hold,hs'];have hsz:s' < a'.tmps.size:=by rw[I.size];exact B.room s' hs'
     simp[Array.getD_eq_getD_getElem?,hsz]) (fun p hp=>by
     rcases List.mem_cons.1 hp with h|h
     ·exact .inr ⟨by rw[h],fun hd=>⟨ds,R,rfl,by rw[h,hv hd]⟩⟩
     ·exact .inl h)) (hK _ hF)
    refine ⟨fun i h1 h2=>?_,b',kn',H2,H3⟩;rcases Nat.eq_or_lt_of_le h1 with e|e
    ·subst e;exact ⟨b,kn,o,ho,hG,Lx,by rw[htD];exact hw,by rw[htD];exact ht⟩
    ·exact H1 i e h2
def reachB (ops:Array Oper):Nat->Nat->Nat->Bool
 |0,_,_=>false
 |f+1,t,i=>Region.waitsFor .any ops t i || (List.range ops.size).any fun j=>Region.waitsFor .any ops t j&&reachB ops f j i
def depB (ops:Array Oper) (D:List (Option (List Nat))):Bool:=(List.range D.length).all fun i=>match D.getD i none with
 |some ds=>ds.all fun j=>reachB ops ops.size i j
 |none=>true
theorem depB_spec (h:depB ops (T.map (Option.map Prod.fst))=true) {i:Nat} {ds:List Nat} {R:SR L} (hT:T[i]?=some (some (ds,R))):∀ j∈ds,reachB ops ops.size i j=true:=by
 have hi:i<T.length:=(List.getElem?_eq_some_iff.1 hT).1;have:=List.all_eq_true.1 h i (List.mem_range.2 (by simpa using hi));simp only[List.getD_eq_getElem?_getD,List.getElem?_map,hT,Option.map_some,Option.getD_some] at this;exact fun j hj=>List.all_eq_true.1 this j hj
theorem put_inj {a:Act} {s:Tmp} {v v':Value} (h:s<a.tmps.size) (e:a.put (some s) v=a.put (some s) v'):v=v':=by
 have h1:=put_get (v:=v) h s;rw[e,put_get h,if_pos rfl,if_pos rfl] at h1;exact (Option.some.inj h1).symm
theorem wp_transfer {o:Oper} {a b:Act} {w':World} {R:Value->World->Prop} {K:Act->World->Prop} {Q:Exit->Act->World->Prop} (hb:∀ s,o.dst=some s->s<b.tmps.size) (he:execOp b.eval o=execOp a.eval o)
  (h:o.wp P b w' (fun a1 w1=>∃ v,a1=b.put o.dst v/\R (yld o v) w1/\L w' w1) (fun _ _ _=>False)) (hk:∀ v w1,R (yld o v) w1->L w' w1->K (a.put o.dst v) w1):o.wp P a w' K Q:=by
 unfold Oper.wp at h ⊢;rw[he] at h;generalize (execOp a.eval o).run P w'=r at *;have go:∀ v w1,(∃ v',b.put o.dst v=b.put o.dst v'/\R (yld o v') w1/\L w' w1)->K (a.put o.dst v) w1:=by
  rintro v w1 ⟨v',e,h1,h2⟩;cases hs:o.dst with
  |none =>
   have:=hk v' w1 h1 h2;rw[hs] at this;exact this
  |some s =>
   rw[hs] at e;have:=put_inj (hb s hs) e;subst this;have:=hk v w1 h1 h2
   rwa [hs] at this
 unfold Oper.upon at h ⊢
 split at h
 ·exact go _ _ h
 ·exact go _ _ h
 ·obtain ⟨v',e,h1,h2⟩:=h
  exfalso
  have:=congrArg (fun x=>x.defers.length) e;simp[put_defers] at this
 ·refine h.mono fun e w1 he=>?_
  cases e with
  |returned v=>exact go _ _ he
  |panicked c=>exact he.elim
  |outgrown =>
   obtain ⟨_,_,h⟩:LetsOut _:=he;exact h.elim
 ·exact h.mono fun v w1 he=>go _ _ he
 ·exact h.elim
 ·exact h.elim
def tailB (ops:Array Oper) (n:Nat):Bool:=(List.range ops.size).all fun t=>decide (t<n) || (List.range n).all fun i=>reachB ops ops.size t i
theorem reach_done (hc:∀ k,d k=true->∀ j,Region.waitsFor .any ops k j=true->d j=true):∀ f t i,reachB ops f t i=true->(∀ j,Region.waitsFor .any ops t j=true->d j=true)->d i=true:=by
 intro f
 induction f with
 |zero=>intro t i h;cases h
 |succ f ih =>
  intro t i h hd;simp only[reachB,Bool.or_eq_true,List.any_eq_true,Bool.and_eq_true] at h;rcases h with h|⟨j,-,h1,h2⟩
  ·exact hd i h
  ·exact ih j i h2 (hc j (hd j h1))
theorem tail_all (hc:∀ k,d k=true->∀ j,Region.waitsFor .any ops k j=true->d j=true) (hB:tailB ops n=true) {t:Nat} (hn:n<=t) (ht:t<ops.size) (hd:∀ j,Region.waitsFor .any ops t j=true->d j=true):∀ i,i<n->d i=true:=by
 intro i hi;have:=List.all_eq_true.1 hB t (List.mem_range.2 ht);simp only[Bool.or_eq_true,decide_eq_true_eq,List.all_eq_true] at this;rcases this with h|h
 ·omega
 ·exact reach_done hc _ t i (h i (List.mem_range.2 hi)) hd
theorem exec_put {o:Oper} (hs:∀ cs b,o.op≠.select cs b) {a:Act} {s:Tmp} {v:Value} (hn:s∉o.looksAt ops):execOp (a.put (some s) v).eval o=execOp a.eval o :=
 exec_agree (ops:=ops) hs fun t ht=>by
  have:¬s=t:=fun e=>hn (e▸ht)
  simp[Act.put,Array.getElem?_setIfInBounds,this]
theorem RelInv.next {i:Nat} {o:Oper} {v:Value} {w1:World} (pre:Pre L) (hsel:Region.noSelect ops=true) (hB:relB ops n a.tmps.size (T.map Option.isSome)=true) (I:RelInv P L ops n T a w d a' w')
  (hi:i<n) (ho:ops[i]?=some o) (hd:d i=false) (hdeps:∀ j,Region.waitsFor .any ops i j=true->d j=true) (hw:L w' w1)
  (hq:T[i]?=some none->∀ v',(∀ w'',L w w''->o.quietAt P a' (fun w'=>L w w') w'' v')->v'=v)
  (hr:∀ ds R,T[i]?=some (some (ds,R))->R.R (yld o v) w1):RelInv P L ops n T a w (upd d i) (a'.put o.dst v) w1:=by
 have B:=relB_spec hB hi ho;have u:∀ k,upd d i k=true->k=i\/d k=true:=fun k h=>by
  unfold upd at h;split at h
  ·exact .inl ‹_›
  ·exact .inr h
 have u1:∀ k,d k=true->upd d i k=true:=fun k h=>by
  unfold upd;split
  ·rfl
  ·exact h
 have ui:upd d i i=true:=by simp[upd]
 have keep:∀ k ok,k<n->ops[k]?=some ok->(k=i\/d k=true)->execOp (a'.put o.dst v).eval ok=execOp a'.eval ok:=fun k ok hk hok h=>by
  cases hdst:o.dst with
  |none=>rfl
  |some s =>
   refine exec_put (ops:=ops) (fun cs b=>Region.noSelect_spec hsel k ok cs b hok) fun hs=>?_
   obtain ⟨h1,h2⟩:=(relB_spec hB hk hok).looks s hs i o hi ho hdst;rcases h with rfl|h
   ·omega
   ·have:=I.closed k h i h2;rw[hd] at this;cases this
 have hsz:∀ s,o.dst=some s->s<a'.tmps.size:=fun s hs=>by rw[I.size];exact B.room s hs
 refine ⟨put_size.trans I.size,put_defers.trans I.defers,?_,fun k hk j hj=>?_,fun s hs=>?_,fun k ok hk hok hT hdk v' hv' s hs=>?_,fun k ok ds R hk hok hT hdk=>?_⟩
 ·exact pre.trans I.world hw
 ·rcases u k hk with rfl|h
  ·exact u1 _ (hdeps j hj)
  ·exact u1 _ (I.closed k h j hj)
 ·have h1:=I.off s fun j oj hj hoj hdj=>hs j oj hj hoj (u1 j hdj)
  cases hdst:o.dst with
  |none=>exact h1
  |some s' =>
   have:s≠s':=fun e=>hs i o hi ho ui (by rw[hdst,e])
   rw[put_get (hsz s' hdst),if_neg this];exact h1
 ·have e:=keep k ok hk hok (u k hdk);have hv2:∀ w'',L w w''->ok.quietAt P a' (fun w'=>L w w') w'' v':=fun w'' hw''=>by
   have:=hv' w'' hw'';unfold Oper.quietAt at this ⊢
   rwa [<-e]
  rcases u k hdk with rfl|h
  ·rw[ho] at hok;cases hok
   rw[hq hT v' hv2,hs,put_get (hsz s hs),if_pos rfl]
  ·have h1:=I.quiet k ok hk hok hT h v' hv2 s hs;cases hdst:o.dst with
   |none=>exact h1
   |some s' =>
    have:s≠s':=fun e=>by
     subst e;have:=B.own s hdst k ok hk hok hs;subst this;rw[hd] at h;cases h
    rw[put_get (hsz s' hdst),if_neg this];exact h1
 ·rcases u k hdk with rfl|h
  ·rw[ho] at hok;cases hok
   have hh:hold o (a'.put o.dst v)=yld o v:=by
    cases hdst:o.dst with
    |none=>simp[hold,yld,hdst]
    |some s=>simp[hold,yld,hdst,Array.getD_eq_getD_getElem?,put_get (hsz s hdst)]
   rw[hh];exact hr ds R hT
  ·have hh:hold ok (a'.put o.dst v)=hold ok a':=by
    cases hdst:o.dst with
    |none=>rfl
    |some s =>
     cases hk2:ok.dst with
     |none=>simp[hold,hk2]
     |some s' =>
      have:s'≠s:=fun e=>by
       subst e;have:=B.own s' hdst k ok hk hok hk2;subst this;rw[hd] at h;cases h
      simp[hold,hk2,Array.getD_eq_getD_getElem?,put_get (hsz s hdst),this]
   rw[hh];exact R.st _ _ _ (I.rel k ok ds R hk hok hT h) hw
def headDone (ops:Array Oper) (n:Nat):Array Bool:=((List.range ops.size).map fun j=>decide (j<n)).toArray
theorem wpAny_of_rel {Q:Exit->Act->World->Prop} {K:Act->List (Nat×(World->Prop))->Prop} {g:Nat} (pre:Pre L) (hsize:ops.size=n+g) (hlen:T.length=n) (hl:lowG ops=true) (hsel:Region.noSelect ops=true) (hB:relB ops n a.tmps.size (T.map Option.isSome)=true) (hT:tailB ops n=true) (hD:depB ops (T.map (Option.map Prod.fst))=true)
  (hw:relWalk P ops L w K 0 (ops.toList.take n) T a [])
  (hend:∀ a' w' kn,K a' kn->L w w'->(∀ p∈kn,p.2 w')->wpAny P .any ops Q g (headDone ops n) a' w') :
  ∀ (fuel:Nat) (done:Array Bool) (a':Act) (w':World),done.size=ops.size->done.toList.count false=fuel->(∀ t,n<=t->done.getD t false=false)->RelInv P L ops n T a w (fun j=>done.getD j false) a' w'->wpAny P .any ops Q fuel done a' w':=by
 have run:=fun {d a' w'} (I:RelInv P L ops n T a w d a' w')=>lex_run (K:=K) hsel hB I (ops.toList.take n) T 0 a [] (by simp;omega) (fun j hj=>by
   simp only[List.length_take,Array.length_toList] at hj;rw[List.getElem?_take,if_pos (by omega)];simp) (fun j hj=>by simp) ⟨rfl,rfl,fun s hs=>(I.off s fun j o hj ho hd e=>by have:=(hs j o hj ho e).1;omega).symm,fun p hp=>by cases hp⟩ hw
 intro fuel
 induction fuel with
 |zero =>
  intro done a' w' hs hc ht I;have all:∀ j,j<ops.size->done.getD j false=true:=fun j hj=>by
   have h1:false∉done.toList:=List.count_eq_zero.1 hc;cases h:done.getD j false with
   |true=>rfl
   |false =>
    exfalso
    refine h1 ?_;have:done[j]'(by omega)=false:=by simpa [show j<done.size by omega] using h
    rw[<-this];simp
  have hg:g=0:=by
   rcases Nat.eq_zero_or_pos g with h|h
   ·exact h
   ·have h1:=all n (by omega);rw[ht n (Nat.le_refl _)] at h1;cases h1
  subst hg;have hd:done=headDone ops n:=by
   apply Array.ext
   ·simp[headDone,hs]
   ·intro j h1 h2;have:=all j (by omega);simp only[headDone,List.getElem_toArray,List.getElem_map,List.getElem_range];rw[show decide (j<n)=true by simp;omega]
    simpa [h1] using this
  obtain ⟨-,b',kn',Lx,hK⟩:=run I;have hb:b'=a':=by
   have:b'.tmps=a'.tmps:=by
    apply Array.ext (Lx.size.trans I.size.symm)
    intro j h1 h2;have:=Lx.agree j fun k o hk ho e=>⟨hk,all k (by omega)⟩
    simpa [h1,h2] using this
   have h3:=Lx.defers.trans I.defers.symm;cases b';cases a';simp_all
  subst hb;rw[hd];exact hend _ _ _ hK I.world fun p hp=>by
   obtain ⟨h1,h5⟩:=Lx.known p hp;obtain ⟨o,ds,R,h2,h3,h4⟩:=h5 (all _ (by omega));rw[h4];exact I.rel p.1 o ds R h1 h2 h3 (all _ (by omega))
 |succ fuel ih =>
  intro done a' w' hs hc ht I
  by_cases hall:∀ j,j<n->done.getD j false=true
  ·obtain ⟨-,b',kn',Lx,hK⟩:=run I;have hd:done=headDone ops n:=by
    apply Array.ext
    ·simp[headDone,hs]
    ·intro j h1 h2;simp only[headDone,List.getElem_toArray,List.getElem_map,List.getElem_range]
     by_cases hj:j<n
     ·have:=hall j hj;rw[show decide (j<n)=true by simp;omega]
      simpa [h1] using this
     ·have:=ht j (by omega);rw[show decide (j<n)=false by simp;omega]
      simpa [h1] using this
   have hg:fuel+1=g:=by
    rw[<-hc,hd,headDone,hsize];simp only[List.range_add,List.map_append,List.map_map];rw[List.count_append];have e1:List.count false ((List.range n).map fun j=>decide (j<n))=0:=List.count_eq_zero.2 fun h=>by
     obtain ⟨j,h1,h2⟩:=List.mem_map.1 h;have:=List.mem_range.1 h1;simp at h2;omega
    have e2:((List.range g).map ((fun j=>decide (j<n))∘fun x=>n+x))=List.replicate g false:=by
     apply List.ext_getElem
     ·simp
     ·intro j h1 h2;simp
    rw[e1,e2];simp
   have hb:b'=a':=by
    have:b'.tmps=a'.tmps:=by
     apply Array.ext (Lx.size.trans I.size.symm)
     intro j h1 h2;have:=Lx.agree j fun k o hk ho e=>⟨hk,hall k hk⟩
     simpa [h1,h2] using this
    have h3:=Lx.defers.trans I.defers.symm;cases b';cases a';simp_all
   subst hb;rw[hd,hg];exact hend _ _ _ hK I.world fun p hp=>by
    obtain ⟨h1,h5⟩:=Lx.known p hp;obtain ⟨o,ds,R,h2,h3,h4⟩:=h5 (hall _ h1);rw[h4];exact I.rel p.1 o ds R h1 h2 h3 (hall _ h1)
  ·have some_ready:Region.ready .any ops done≠[]:=fun hr=>hall fun j hj=>by
    have:∀ i,i<ops.size->done.getD i false=true:=by
     intro i
     induction i using Nat.strongRecOn with
     |_ i ihi =>
      intro hi;cases hd:done.getD i false with
      |true=>rfl
      |false =>
       have hmem:i∈Region.ready .any ops done:=by
        refine mem_ready.2 ⟨getD_in (by omega) hd,ops[i],by simp[hi],fun e he hb=>?_⟩;have:=lowG_spec hl (show ops[i]?=some ops[i] by simp[hi]) e he hb;exact ihi e.on this (by omega)
       rw[hr] at hmem;cases hmem
    exact this j (by omega)
   refine ⟨fun hr=>absurd hr some_ready,fun i hi=>?_⟩;obtain ⟨h1,o,ho,haft⟩:=mem_ready.1 hi;have hsz:i<ops.size:=(Array.getElem?_eq_some_iff.1 ho).1;have hid:i<done.size:=by omega
   have hf:done[i]=false:=by simpa [hid] using h1
   have deps:∀ j,Region.waitsFor .any ops i j=true->done.getD j false=true:=fun j hj=>by
    obtain ⟨o',ho',e,he,hb,hon⟩:=Region.waitsFor_spec hj;rw[ho] at ho';cases ho'
    rw[<-hon];exact haft e he hb
   have hin:i<n:=by
    rcases Nat.lt_or_ge i n with h|h
    ·exact h
    ·exact absurd (tail_all (fun k hk j hj=>I.closed k hk j hj) hT h hsz deps) hall
   have hwant:Region.wanted o (yielded ops a'.tmps)=true:=by
    obtain ⟨H,-⟩:=run I;obtain ⟨b',kn',o',ho',hG,Lx,-,-⟩:=H i (Nat.zero_le _) hin;rw[ho] at ho';cases ho'
    rw[<-Lx.wanted (relB_spec hB hin ho) deps];exact hG
   have hgo:o.wp P a' w' (fun a1 w1=>RelInv P L ops n T a w (upd (fun j=>done.getD j false) i) a1 w1) Q:=by
    obtain ⟨H,-⟩:=run I;obtain ⟨b',kn',o',ho',-,Lx,hob,hTi⟩:=H i (Nat.zero_le _) hin;rw[ho] at ho';cases ho'
    have B:=relB_spec hB hin ho;have hexec:=Lx.exec B (fun cs b=>Region.noSelect_spec hsel i o cs b ho) deps;have next:=fun v w1 h2 h3 h4=>RelInv.next (v:=v) (w1:=w1) pre hsel hB I hin ho (getD_both h1) deps h2 h3 h4
    cases hc:T.getD i none with
    |none =>
     rw[hc] at hob hTi;obtain ⟨v,hv⟩:=hob;have hp:=B.pure (by simp[List.getD_eq_getElem?_getD,hTi]);have hv1:=hv w' I.world;have hN:=next v w' (pre.refl _) (fun _ v' hv'=>(quiet_unique hp hexec hv1 (hv' w' I.world)).symm) (fun ds R h=>by rw[hTi] at h;cases h)
     unfold Oper.quietAt at hv1;rw[hexec] at hv1;have hne:=fun f args w''=>pureB_spec (P:=P) hp (ρ:=a'.eval) (w:=w') (w':=w'') (f:=f) (args:=args)
     unfold Oper.wp;generalize (execOp a'.eval o).run P w'=r at *;unfold Oper.quietUpon at hv1
     split at hv1
     ·obtain ⟨rfl,rfl⟩:=hv1;exact hN
     ·obtain ⟨rfl,rfl⟩:=hv1;exact hN
     ·exact absurd rfl (hne _ _ _)
     ·exact hv1.elim
    |some q =>
     obtain ⟨ds,R⟩:=q;rw[hc] at hob hTi;have hstep:=hob w' I.world fun p hp hpd=>by
      have hdp:done.getD p.1 false=true:=reach_done (d:=fun j=>done.getD j false) (fun k hk j hj=>I.closed k hk j hj) _ i p.1 (depB_spec hD hTi p.1 hpd) deps;obtain ⟨h5,h9⟩:=Lx.known p hp;obtain ⟨o5,ds5,R5,h6,h7,h8⟩:=h9 hdp;rw[h8];exact I.rel p.1 o5 ds5 R5 (by omega) h6 h7 hdp
     refine wp_transfer (fun s hs=>by rw[Lx.size];exact B.room s hs) hexec hstep fun v w1 h2 h3=>?_
     exact next v w1 h3 (fun h=>by rw[hTi] at h;cases h) (fun ds' R' h=>by rw[hTi] at h;cases h;exact h2)
   unfold wpOp;simp only[ho,hwant,if_true];refine .inl (Oper.wp_mono (fun a1 w1 h=>?_) hgo);refine ih _ a1 w1 (by simpa using hs) ?_ ?_ ?_
   ·have h0:done.toList[i]'(by simpa using hid)=false:=by simpa using hf
    rw[Array.toList_setIfInBounds,List.count_set (by simpa using hid),h0,hc];simp
   ·intro t ht';rw[getD_set_ne false (by omega)];exact ht t ht'
   ·have e:(fun j=>(done.setIfInBounds i true).getD j false)=upd (fun j=>done.getD j false) i:=by
     funext j
     unfold upd
     by_cases hj:j=i
     ·subst hj;simp[hid]
     ·rw[if_neg hj,getD_set_ne false (Ne.symm hj)]
    rw[e];exact h
theorem wp_region_rel {id:Nat} {Q:Exit->Act->World->Prop} {a:Act} {w:World} {l:List Oper} (n:Nat) (T:List (Option (List Nat×SR Grows))) (hm:P.follows .mixedOrders=true)
  (hB:(lowG l.toArray&&Region.noSelect l.toArray&&relB l.toArray n a.tmps.size (T.map Option.isSome)&&tailB l.toArray n&&depB l.toArray (T.map (Option.map Prod.fst))&&decide (T.length=n)&&decide (n<=l.length)&&Region.seqB .any l.toArray (l.length-n) n (headDone l.toArray n))=true)
  (h:relWalk P l.toArray Grows w (fun a' kn=>∀ w',(∃ X,w'=w.ext X)->(∀ p∈kn,p.2 w')->wpList P l.toArray Q (l.drop n) a' w') 0 (l.take n) T a []):(Code.region id l.toArray true).wp P Q a w:=by
 simp only[Bool.and_eq_true,decide_eq_true_eq] at hB;obtain ⟨⟨⟨⟨⟨⟨⟨h1,h2⟩,h3⟩,h4⟩,h5⟩,h6⟩,h7⟩,h8⟩:=hB;refine wp_region_any hm (wpAny_of_rel (L:=Grows) (n:=n) (g:=l.length-n) (T:=T) (w:=w) (a:=a) pre_grows (by simp;omega) h6 h1 h2 h3 h4 h5 h (fun a' w' kn hK hw' hkn=>?_) _ _ _ _ (by simp) (by simp) (fun t _=>getD_replicate_false _ _) ?_)
 ·have hdl:(l.drop n).length=l.length-n:=by simp
  have:=wpAny_of_seq (md:=.any) (Q':=Q) (l.drop n) n (headDone l.toArray n) a' w' (fun j=>by simp[List.getElem?_drop]) (by rw[hdl];exact h8) (hK w' hw' hkn)
  rwa [hdl] at this
 ·have no:∀ {j:Nat} {p:Prop},(Array.replicate l.toArray.size false).getD j false=true->p:=fun hj=>by rw[getD_replicate_false] at hj;cases hj
  exact ⟨rfl,rfl,pre_grows.drew w,fun k hk=>no hk,fun s _=>rfl,fun k o _ _ _ hk=>no hk,fun k o ds R _ _ _ hk=>no hk⟩
theorem rel_none {K:Act->List (Nat×(World->Prop))->Prop} {k:Nat} {o:Oper} {os:List Oper} {T:List (Option (List Nat×SR Grows))} {a:Act} {kn:List (Nat×(World->Prop))}
  (h:∀ K':Act->Prop,(∀ a',relWalk P ops Grows w K (k+1) os T a' kn->K' a')->o.quiet P a (fun w'=>∃ X,w'=w.ext X) K') (hg:okG ops o a:=by first|exact okG_none rfl|(unfold okG;simp[Region.wanted,yielded];done)):relWalk P ops Grows w K k (o::os) (none::T) a kn:=⟨hg,h _ fun _ h=>h⟩
theorem rel_some {K:Act->List (Nat×(World->Prop))->Prop} {k:Nat} {o:Oper} {os:List Oper} {T:List (Option (List Nat×SR Grows))} {a:Act} {kn:List (Nat×(World->Prop))} {ds:List Nat} {R:SR Grows} (hs:o.dst.isSome=true)
  (h:∀ w',(∃ X,w'=w.ext X)->(∀ p∈kn,p.1∈ds->p.2 w')->∀ K':Act->World->Prop,(∀ v w1,R.R v w1->(∃ X,w1=w'.ext X)->K' (a.put o.dst v) w1)->o.wp P a w' K' (fun _ _ _=>False))
  (h2:∀ v,R.F v->relWalk P ops Grows w K (k+1) os T (a.put o.dst v) ((k,R.R v)::kn)) (hg:okG ops o a:=by first|exact okG_none rfl|(unfold okG;simp[Region.wanted,yielded];done)):relWalk P ops Grows w K k (o::os) (some (ds,R)::T) a kn :=
 ⟨hg,fun w' hw' hk=>h w' hw' hk _ fun v w1 h1 h2=>⟨v,rfl,by
  cases e:o.dst with
  |none=>rw[e] at hs;cases hs
  |some s=>simpa [yld,e] using h1,h2⟩,h2⟩
theorem rel_nil {K:Act->List (Nat×(World->Prop))->Prop} {k:Nat} {T:List (Option (List Nat×SR L))} {a:Act} {kn:List (Nat×(World->Prop))} (h:K a kn):relWalk P ops L w K k [] T a kn:=by
 cases T<;>exact h
end
end
end Go
end
section
namespace Go
structure Fr (a:Act) (σ:Nat->Tmp) (m:Nat) (val:Nat->Value) (d:Nat->Bool) (a':Act):Prop where
 size:a'.tmps.size=a.tmps.size
 defers:a'.defers=a.defers
 off:∀ s,(∀ i,i<m->σ i≠s)->a'.tmps[s]?=a.tmps[s]?
 on:∀ i,i<m->d i=true->a'.tmps[σ i]?=some (val i)
section
variable {a a':Act} {σ:Nat->Tmp} {m:Nat} {val:Nat->Value} {d:Nat->Bool}
def vset (val:Nat->Value) (i:Nat) (v:Value):Nat->Value:=fun j=>if j=i then v else val j
theorem vset_at (val:Nat->Value) (i:Nat) (v:Value):vset val i v i=v:=if_pos rfl
theorem vset_ne (val:Nat->Value) {i j:Nat} (v:Value) (h:j≠i):vset val i v j=val j:=if_neg h
theorem Fr.put (h:Fr a σ m val d a') (hinj:∀ i j,i<m->j<m->σ i=σ j->i=j) (hlt:∀ i,i<m->σ i<a.tmps.size) (i:Nat) (hi:i<m) (v:Value) :
  Fr a σ m (vset val i v) (upd d i) (a'.put (some (σ i)) v):=by
 refine ⟨by rw[<-h.size];simp[Act.put],by rw[<-h.defers];rfl,fun s hs=>?_,fun j hj hd=>?_⟩
 ·rw[Act.put_at rfl,if_neg (hs i hi)];exact h.off s hs
 ·by_cases hji:j=i
  ·subst hji;have hs:σ j<a'.tmps.size:=by rw[h.size];exact hlt j hj
   rw[Act.put_at rfl,if_pos rfl,vset_at];simp[hs]
  ·rw[Act.put_at rfl,if_neg fun he=>hji (hinj _ _ hi hj he).symm,vset_ne _ _ hji];unfold upd at hd;rw[if_neg hji] at hd;exact h.on j hj hd
theorem Fr.skip (h:Fr a σ m val d a') {i:Nat} (hi:m<=i):Fr a σ m val (upd d i) a' :=
 ⟨h.size,h.defers,h.off,fun j hj hd=>h.on j hj (by unfold upd at hd;rwa [if_neg (by omega)] at hd)⟩
theorem Fr.eval (h:Fr a σ m val d a') {i:Nat} (hi:i<m) (hd:d i=true):a'.eval (.tmp (σ i))=val i:=by
 have:=h.on i hi hd;simp[Act.eval,this]
end
end Go
end
end
namespace Go.Proofs.YthcjfanigfgckaaGreat
open Go.RowKit
section
section
section
variable {p q:Nat->Prop} {w w1 w2:World}
theorem Chg.rd (h:Chg p w w1) {v:Value} {zs:List Int} (hr:Rd w v zs) (hb:∀ b,v.ownBlock=some b->b<w.heap.size->¬p b):Rd w1 v zs:=by
 obtain ⟨h0,h1,a,cap,rfl,h2,h3⟩:=hr;refine ⟨h0,h1,a,cap,rfl,h2,?_⟩;rcases h3 with h3|⟨b,off,rfl,hb',hc⟩
 ·exact .inl h3
 ·exact .inr ⟨b,off,rfl,Nat.lt_of_lt_of_le hb' h.size,fun i hi=>by rw[h.cell hb' (hb b rfl hb')];exact hc i hi⟩
end
def Arr (w:World) (g cap:Nat) (xs:List Int):Prop :=
 xs.length<=cap/\∃ cur,Row w g cur 3/\∀ i,i<xs.length->cur[i]?=some (.int .i64 (elt xs i))
section
variable {w w1:World} {g cap:Nat} {xs:List Int}
theorem Arr.lt (h:Arr w g cap xs):g<w.heap.size:=by obtain ⟨-,cur,hr,-⟩:=h;exact hr.lt
theorem Arr.cell (h:Arr w g cap xs) {i:Nat} (hi:i<xs.length):w.cell? ⟨g,i,none⟩=some (.int .i64 (elt xs i)):=by
 obtain ⟨-,cur,hr,hc⟩:=h;rw[hr.cell];exact hc i hi
theorem Arr.frozen (h:Arr w g cap xs) (i:Nat):w.frozen? ⟨g,i,none⟩=false:=by obtain ⟨-,cur,hr,-⟩:=h;exact hr.frozen i
theorem Arr.chg {p:Nat->Prop} (h:Arr w g cap xs) (hc:Chg p w w1) (hp:¬p g):Arr w1 g cap xs:=by
 obtain ⟨h1,cur,hr,h2⟩:=h;exact ⟨h1,cur,hc.row hr hp,h2⟩
theorem elt_set (l:List Int) (i j:Nat) (v:Int) (hi:i<l.length):elt (l.set i v) j=if i=j then v else elt l j:=by
 unfold elt;simp only[List.getD,List.getElem?_set]
 by_cases h:i=j
 ·subst h;simp[hi]
 ·simp[h]
theorem Arr.set (h:Arr w g cap xs) {i:Nat} (hi:i<xs.length) (v:Int):Arr (w.setCell ⟨g,i,none⟩ (.int .i64 v)) g cap (xs.set i v):=by
 obtain ⟨h1,cur,hr,h2⟩:=h;refine ⟨by simpa using h1,_,hr.set i _,fun j hj=>?_⟩;rw[List.length_set] at hj;rw[Array.getElem?_setIfInBounds,elt_set _ _ _ _ hi];have hin:i<cur.size:=by
  have:=h2 i hi;exact (Array.getElem?_eq_some_iff.1 this).1
 by_cases e:i=j
 ·subst e;simp[hin]
 ·simp[e];exact h2 j hj
theorem Arr.rd (h:Arr w g cap xs) (hb:∀ z∈xs,-9223372036854775808<=z/\z<=9223372036854775807) (hl:xs.length<=1048576):Rd w (sl g xs.length cap) xs :=
 ⟨hb,by omega,some ⟨g,0,none⟩,cap,rfl,h.1,.inr ⟨g,0,rfl,h.lt,fun i hi=>by rw[Nat.zero_add];exact h.cell hi⟩⟩
theorem Arr.of_own {base n k:Nat} (h:w.ownsRow base 3 1 (sl g n k) n (xs.map (Value.int .i64))):Arr w g k xs:=by
 obtain ⟨hl,h2⟩:=h;rw[Nat.mul_one,List.length_map] at hl;rcases h2 with ⟨h2,h3⟩|⟨g',c',cur,e',h4,h5,h6,h7,h8,h9⟩
 ·cases h2
 ·obtain ⟨rfl,rfl⟩:g=g'/\k=c':=by simpa using e'
  refine ⟨by omega,cur,h5,fun i hi=>?_⟩;have:(cur.toList.take (n*1))[i]?=(xs.map (Value.int .i64))[i]?:=by rw[h9]
  rw[List.getElem?_take,if_pos (by omega)] at this;simp[hi] at this;rw[this];simp[elt,hi]
end
structure Img (w:World) (bm g1 k1 g2 k2:Nat) (W H:Int) (C Z:List Int):Prop where
 ok:ImOk W H C Z
 row:Row w bm #[.int .i64 W,.int .i64 H,sl g1 C.length k1,sl g2 C.length k2] 54
 c:Arr w g1 k1 C
 z:Arr w g2 k2 Z
 n1:g1≠bm
 n2:g2≠bm
 n3:g1≠g2
section
variable {w w1:World} {bm g1 k1 g2 k2:Nat} {W H:Int} {C Z:List Int}
theorem ImOk.same (h:ImOk W H C Z):Z.length=C.length:=by have:=h.c;have:=h.z;omega
theorem ImOk.bd (h:ImOk W H C Z):1<=C.length/\C.length<=1048576:=by
 have:=area_01 h.w0 h.w1 h.h0 h.h1;have:=h.c;omega
theorem Img.chg {p:Nat->Prop} (h:Img w bm g1 k1 g2 k2 W H C Z) (hc:Chg p w w1) (h0:¬p bm) (h1:¬p g1) (h2:¬p g2):Img w1 bm g1 k1 g2 k2 W H C Z :=
 ⟨h.ok,hc.row h.row h0,h.c.chg hc h1,h.z.chg hc h2,h.n1,h.n2,h.n3⟩
theorem Img.ext (h:Img w bm g1 k1 g2 k2 W H C Z) (X:Xt):Img (w.ext X) bm g1 k1 g2 k2 W H C Z:=h.chg (p:=fun _=>False) (Chg.of_ext X) id id id
theorem Img.wr (h:Img w bm g1 k1 g2 k2 W H C Z):Wr w bm g1 g2 0 0 k1 k2 C.length W H 0 0:=by
 refine ⟨h.ok.w0,h.ok.w1,h.ok.h0,h.ok.h1,?_,?_,?_,?_,h.ok.c,h.row.lt,h.c.lt,h.z.lt⟩
 ·exact h.row.cell 0
 ·exact h.row.cell 1
 ·exact h.row.cell 2
 ·exact h.row.cell 3
theorem Wr.at' {pc pz oc oz cc cz n:Nat} {x y x' y':Int} (h:Wr w bm pc pz oc oz cc cz n W H x y):Wr w bm pc pz oc oz cc cz n W H x' y':=⟨h.w0,h.w1,h.h0,h.h1,h.c0,h.c1,h.c2,h.c3,h.n0,h.bm,h.pc,h.pz⟩
theorem ix_lt (h:ImOk W H C Z) {x y:Int} (hi:inB W H x y):(y*W+x).toNat<C.length/\(y*W+x).toNat<Z.length:=by
 obtain ⟨x0,x1,y0,y1⟩:=hi;have:=ix_in x0 x1 y0 y1;have:=h.c;have:=h.z
 omega
theorem ImOk.setC (h:ImOk W H C Z) (i:Nat) {v:Int} (hi:i<C.length) (hv:0<=v/\v<=4294967295):ImOk W H (C.set i v) Z :=
 ⟨h.w0,h.w1,h.h0,h.h1,by rw[List.length_set];exact h.c,h.z,fun j hj=>by
  rw[elt_set _ _ _ _ hi];split
  ·exact hv
  ·exact h.cs j (by simpa using hj),fun j hj=>h.zs j (by simpa using hj)⟩
theorem ImOk.setZ (h:ImOk W H C Z) (i:Nat) {v:Int} (hi:i<Z.length) (hv:0<=v/\v<=16777215):ImOk W H C (Z.set i v) :=
 ⟨h.w0,h.w1,h.h0,h.h1,h.c,by rw[List.length_set];exact h.z,h.cs,fun j hj=>by
  rw[elt_set _ _ _ _ hi];split
  ·exact hv
  ·exact h.zs j hj⟩
theorem Arr.bd {w:World} {g cap:Nat} {xs:List Int} (b:Int) (h1:∀ i,i<xs.length->0<=elt xs i/\elt xs i<=b) (hb:b<=9223372036854775807):∀ z∈xs,-9223372036854775808<=z/\z<=9223372036854775807:=by
 intro z hz;obtain ⟨i,hi,rfl⟩:=List.mem_iff_getElem.1 hz;have:=h1 i hi;simp only[elt,List.getD,List.getElem?_eq_getElem hi,Option.getD_some] at this;omega
theorem ImOk.bz (h:ImOk W H C Z):Z.length<=1048576:=by have:=h.bd;have:=h.same;omega
theorem Img.rds (h:Img w bm g1 k1 g2 k2 W H C Z):Rd w (sl g1 C.length k1) C/\Rd w (sl g2 C.length k2) Z:=by
 have e:=h.ok.same;refine ⟨h.c.rd (Arr.bd (w:=w) (g:=g1) (cap:=k1) 4294967295 h.ok.cs (by decide)) h.ok.bd.2,?_⟩;have:=h.z.rd (Arr.bd (w:=w) (g:=g1) (cap:=k1) 16777215 (fun i hi=>h.ok.zs i (by omega)) (by decide)) h.ok.bz
 rwa [e] at this
theorem Img.setC (h:Img w bm g1 k1 g2 k2 W H C Z) {i:Nat} {v:Int} (hi:i<C.length) (hv:0<=v/\v<=4294967295):Img (w.setCell ⟨g1,i,none⟩ (.int .i64 v)) bm g1 k1 g2 k2 W H (C.set i v) Z:=by
 have hc:Chg (fun k=>k=g1) w (w.setCell ⟨g1,i,none⟩ (.int .i64 v)):=Chg.one _ _ _ _;refine ⟨h.ok.setC i hi hv,?_,h.c.set hi v,h.z.chg hc (Ne.symm h.n3),h.n1,h.n2,h.n3⟩;rw[List.length_set];exact hc.row h.row (Ne.symm h.n1)
theorem Img.setZ (h:Img w bm g1 k1 g2 k2 W H C Z) {i:Nat} {v:Int} (hi:i<Z.length) (hv:0<=v/\v<=16777215):Img (w.setCell ⟨g2,i,none⟩ (.int .i64 v)) bm g1 k1 g2 k2 W H C (Z.set i v):=by
 have hc:Chg (fun k=>k=g2) w (w.setCell ⟨g2,i,none⟩ (.int .i64 v)):=Chg.one _ _ _ _;exact ⟨h.ok.setZ i hi hv,hc.row h.row (Ne.symm h.n2),h.c.chg hc h.n3,h.z.set hi v,h.n1,h.n2,h.n3⟩
end
theorem mixN_01 (v x y z t:Int) (m0 m1 m2 m3:Bool) (k:May x y z t):0<=mixN v x y z t m0 m1 m2 m3/\mixN v x y z t m0 m1 m2 m3<=4294967295:=by
 obtain ⟨a0,a1,b0,b1,c0,c1,d0,d1⟩:=mix_may v x y z t m0 m1 m2 m3 k;unfold mixN pk;omega
def putC (W H:Int) (C:List Int) (x y a b c d:Int) (m0 m1 m2 m3:Bool):List Int :=
 if inB W H x y then C.set (y*W+x).toNat (mixN (elt C (y*W+x).toNat) a b c d m0 m1 m2 m3) else C
def putZ (W H:Int) (Z:List Int) (x y u:Int):List Int :=
 if inB W H x y then Z.set (y*W+x).toNat u else Z
def Puts (bm g1 k1 g2 k2:Nat) (W H:Int) (C Z:List Int) (p:Nat->Prop) (v:Value) (w:World) (e:Ending) (w':World):Prop :=
 e=.returned v/\Img w' bm g1 k1 g2 k2 W H C Z/\Chg p w w'
section
variable {w:World} {bm g1 k1 g2 k2:Nat} {W H:Int} {C Z:List Int}
theorem put_img (h:Img w bm g1 k1 g2 k2 W H C Z) (x y a b c d:Int) (m0 m1 m2 m3:Bool) (bx0:-9223372036854775808<=x) (bx1:x<=9223372036854775807) (by0:-9223372036854775808<=y) (by1:y<=9223372036854775807) (k:May a b c d) :
  Calls Tryz.prog 162 #[.pointer (some ⟨bm,0,none⟩),.int .i64 x,.int .i64 y,C4 a b c d,M4 m0 m1 m2 m3] w (Puts bm g1 k1 g2 k2 W H (putC W H C x y a b c d m0 m1 m2 m3) Z (fun k=>k=g1) (.bool (decide (inB W H x y))) w):=by
 by_cases hi:inB W H x y
 ·obtain ⟨l1,l2⟩:=ix_lt h.ok hi;obtain ⟨v0,v1⟩:=h.ok.cs _ l1;refine (put_in bm g1 g2 0 0 k1 k2 C.length W H x y a b c d (elt C (y*W+x).toNat) m0 m1 m2 m3 w h.wr.at' hi k v0 v1 (by rw[Nat.zero_add];exact h.c.cell l1) (h.c.frozen _)).mono ?_;rintro _ _ ⟨rfl,X,rfl⟩;rw[Nat.zero_add];refine ⟨by simp[hi],?_,(Chg.one _ _ _ _).ext X⟩;unfold putC;rw[if_pos hi]
  exact (h.setC l1 (mixN_01 _ _ _ _ _ _ _ _ _ k)).ext X
 ·refine (put_no bm g1 g2 0 0 k1 k2 C.length W H x y a b c d m0 m1 m2 m3 w h.wr.at' bx0 bx1 by0 by1 hi).mono ?_;rintro _ _ ⟨rfl,X,rfl⟩;refine ⟨by simp[hi],?_,Chg.of_ext X⟩;unfold putC;rw[if_neg hi];exact h.ext X
theorem deep_img (h:Img w bm g1 k1 g2 k2 W H C Z) (x y u:Int) (bx0:-9223372036854775808<=x) (bx1:x<=9223372036854775807) (by0:-9223372036854775808<=y) (by1:y<=9223372036854775807) (hu:0<=u/\u<=16777215) :
  Calls Tryz.prog 163 #[.pointer (some ⟨bm,0,none⟩),.int .i64 x,.int .i64 y,.int .i64 u] w (Puts bm g1 k1 g2 k2 W H C (putZ W H Z x y u) (fun k=>k=g2) (.bool (decide (inB W H x y))) w):=by
 by_cases hi:inB W H x y
 ·obtain ⟨l1,l2⟩:=ix_lt h.ok hi;refine (deep_in bm g1 g2 0 0 k1 k2 C.length W H x y u (elt Z (y*W+x).toNat) w h.wr.at' hi (by rw[Nat.zero_add];exact h.z.cell l2) (h.z.frozen _)).mono ?_;rintro _ _ ⟨rfl,X,rfl⟩;rw[Nat.zero_add];refine ⟨by simp[hi],?_,(Chg.one _ _ _ _).ext X⟩;unfold putZ;rw[if_pos hi]
  exact (h.setZ l2 hu).ext X
 ·refine (deep_no bm g1 g2 0 0 k1 k2 C.length W H x y u w h.wr.at' bx0 bx1 by0 by1 hi).mono ?_;rintro _ _ ⟨rfl,X,rfl⟩;refine ⟨by simp[hi],?_,Chg.of_ext X⟩;unfold putZ;rw[if_neg hi];exact h.ext X
end
theorem rd_some {w:World} {v:Value} {xs:List Int} (h:Rd w v xs) (h0:1<=xs.length):∃ b off cap,v=.slice (some ⟨b,off,none⟩) xs.length cap/\b<w.heap.size/\∀ i,i<xs.length->w.cell? ⟨b,off+i,none⟩=some (.int .i64 (elt xs i)):=by
 obtain ⟨-,-,a,cap,rfl,-,h3⟩:=h;rcases h3 with rfl|⟨b,off,rfl,hb,hc⟩
 ·simp at h0
 ·exact ⟨b,off,cap,rfl,hb,hc⟩
def Copies (W H:Int) (C Z:List Int) (w:World) (e:Ending) (w':World):Prop :=
 ∃ g1 k1 g2 k2:Nat,e=.returned (Im W H (sl g1 C.length k1) (sl g2 C.length k2))/\(∃ X,w'=w.ext X)/\Arr w' g1 k1 C/\Arr w' g2 k2 Z/\w.heap.size<=g1/\w.heap.size<=g2/\g1≠g2
theorem addr_add (b off j:Nat):(⟨b,off,none⟩:Addr).add j=⟨b,off+j,none⟩:=by
 unfold Addr.add;split
 ·subst_vars;rfl
 ·rfl
theorem rcopy_is (W H:Int) (c z:Value) (C Z:List Int) (w:World) (hc:Rd w c C) (hz:Rd w z Z) (h:ImOk W H C Z) :
  Calls Tryz.prog 30 #[Im W H c z] w (Copies W H C Z w):=by
 obtain ⟨n0,n1⟩:=h.bd;have e:=h.same;obtain ⟨b,off,cap,rfl,hb,hcell⟩:=rd_some hc n0;obtain ⟨b',off',cap',rfl,hb',hcell'⟩:=rd_some hz (by omega);rw[e];refine (rcopy_any W H b off cap b' off' cap' C.length (C.map (Value.int .i64)) (Z.map (Value.int .i64)) w n0 n1 hb hb' (by simp) (by simp[e]) ?_ ?_ ?_ ?_).mono ?_
 ·intro u hu;obtain ⟨x,-,rfl⟩:=List.mem_map.1 hu;rfl
 ·intro u hu;obtain ⟨x,-,rfl⟩:=List.mem_map.1 hu;rfl
 ·intro W' hW j u hj;have hl:j<C.length:=by have:=(List.getElem?_eq_some_iff.1 hj).1;simpa using this
  rw[addr_add,hW.cell (p:=⟨b,off+j,none⟩) hb,hcell j hl];simp[hl] at hj;rw[<-hj];simp[elt,hl]
 ·intro W' hW j u hj;have hl:j<Z.length:=by have:=(List.getElem?_eq_some_iff.1 hj).1;simpa using this
  rw[addr_add,hW.cell (p:=⟨b',off'+j,none⟩) hb',hcell' j hl];simp[hl] at hj;rw[<-hj];simp[elt,hl]
 ·rintro _ w' ⟨g1,k1,g2,k2,rfl,hX,o1,o2,ne⟩;have b1:=o1.lt g1 rfl;have b2:=o2.lt g2 rfl;exact ⟨g1,k1,g2,k2,rfl,hX,Arr.of_own o1,Arr.of_own o2,by omega,by omega,ne⟩
end
section
abbrev IC (W H:Int) (n g1 k1 g2 k2:Nat):Array Value:=#[.int .i64 W,.int .i64 H,sl g1 n k1,sl g2 n k2]
abbrev c0I:Array Value:=#[.int .i64 0,.int .i64 0,.slice none 0 0,.slice none 0 0]
def ow (j:Nat):Nat:=if j<2 then 1 else if j<4 then 3 else j
def vv (W H:Int) (n:Nat) (V:Value) (e k:Nat->Nat) (i:Nat):Value :=
 if i=0 then V else if i=1 then .agg (IC W H n (e 0) (k 0) (e 1) (k 1)) else if i=2 then V else if i=3 then .agg (IC W H n (e 2) (k 2) (e 3) (k 3)) else ptr (e i)
structure CI (w:World) (a:Act) (W H:Int) (C Z:List Int) (V:Value) (σ:Nat->Tmp) (e k:Nat->Nat) (d:Nat->Bool) (a':Act) (w':World):Prop where
 size:a'.tmps.size=a.tmps.size
 defers:a'.defers=a.defers
 off:∀ s,(∀ i,i<6->σ i≠s)->a'.tmps[s]?=a.tmps[s]?
 on:∀ i,i<6->d i=true->a'.tmps[σ i]?=some (vv W H C.length V e k i)
 world:∃ X,w'=w.ext X
 lo:∀ j,j<6->d (ow j)=true->w.heap.size<=e j/\e j<w'.heap.size
 ne:∀ i j,i<6->j<6->d (ow i)=true->d (ow j)=true->i≠j->e i≠e j
 c0:d 1=true->Arr w' (e 0) (k 0) C/\Arr w' (e 1) (k 1) Z
 c1:d 3=true->Arr w' (e 2) (k 2) C/\Arr w' (e 3) (k 3) Z
 r4:d 4=true->Row w' (e 4) (if d 6 then IC W H C.length (e 0) (k 0) (e 1) (k 1) else c0I) 54
 r5:d 5=true->Row w' (e 5) (if d 7 then IC W H C.length (e 2) (k 2) (e 3) (k 3) else c0I) 54
theorem upd_eq (d:Nat->Bool) (i j:Nat):upd d i j=true↔j=i\/d j=true:=by
 unfold upd;by_cases h:j=i<;>simp[h]
theorem upd_ne (d:Nat->Bool) {i j:Nat} (h:j≠i):upd d i j=d j:=by unfold upd;rw[if_neg h]
section
variable {w:World} {a:Act} {W H:Int} {C Z:List Int} {V:Value} {σ:Nat->Tmp} {e k:Nat->Nat} {d:Nat->Bool} {a':Act} {w':World}
theorem CI.put (h:CI w a W H C Z V σ e k d a' w') (hinj:∀ i j,i<6->j<6->σ i=σ j->i=j) (hlt:∀ i,i<6->σ i<a.tmps.size) (e' k':Nat->Nat) (i:Nat) (hi:i<6) (v:Value) (hv:v=vv W H C.length V e' k' i)
  (hk:∀ j,j<6->j≠i->d j=true->vv W H C.length V e' k' j=vv W H C.length V e k j) :
  (a'.put (some (σ i)) v).tmps.size=a.tmps.size/\(a'.put (some (σ i)) v).defers=a.defers/\(∀ s,(∀ i,i<6->σ i≠s)->(a'.put (some (σ i)) v).tmps[s]?=a.tmps[s]?) /\
   (∀ j,j<6->upd d i j=true->(a'.put (some (σ i)) v).tmps[σ j]?=some (vv W H C.length V e' k' j)):=by
 refine ⟨by rw[<-h.size];simp[Act.put],by rw[<-h.defers];rfl,fun s hs=>?_,fun j hj hd=>?_⟩
 ·rw[Act.put_at rfl,if_neg (hs i hi)];exact h.off s hs
 ·by_cases hji:j=i
  ·subst hji;rw[Act.put_at rfl,if_pos rfl];have:σ j<a'.tmps.size:=by rw[h.size];exact hlt j hj
   simp[this,hv]
  ·rw[Act.put_at rfl,if_neg fun he=>hji (hinj _ _ hi hj he).symm];rw[upd_ne _ hji] at hd;rw[h.on j hj hd,hk j hj hji hd]
theorem CI.load (h:CI w a W H C Z V σ e k d a' w') (hinj:∀ i j,i<6->j<6->σ i=σ j->i=j) (hlt:∀ i,i<6->σ i<a.tmps.size) (i:Nat) (hi:i=0\/i=2):CI w a W H C Z V σ e k (upd d i) (a'.put (some (σ i)) V) w':=by
 obtain ⟨f1,f2,f3,f4⟩:=h.put hinj hlt e k i (by omega) V (by rcases hi with rfl|rfl<;>rfl) fun j _ _ _=>rfl
 have hu:∀ j,j≠0->j≠2->upd d i j=d j:=fun j h0 h2=>upd_ne _ (by omega)
 have how:∀ j,upd d i (ow j)=d (ow j):=fun j=>hu _ (by unfold ow;split<;>(try split)<;>omega) (by unfold ow;split<;>(try split)<;>omega)
 refine ⟨f1,f2,f3,f4,h.world,fun j hj hd=>h.lo j hj (by rwa [how] at hd),fun x y hx hy h1 h2=>h.ne x y hx hy (by rwa [how] at h1) (by rwa [how] at h2),?_,?_,?_,?_⟩
 ·rw[hu 1 (by decide) (by decide)];exact h.c0
 ·rw[hu 3 (by decide) (by decide)];exact h.c1
 ·rw[hu 4 (by decide) (by decide),hu 6 (by decide) (by decide)];exact h.r4
 ·rw[hu 5 (by decide) (by decide),hu 7 (by decide) (by decide)];exact h.r5
theorem CI.call (h:CI w a W H C Z V σ e k d a' w') (hinj:∀ i j,i<6->j<6->σ i=σ j->i=j) (hlt:∀ i,i<6->σ i<a.tmps.size) (b:Nat) (hb:b=0\/b=2) (hd0:d (b+1)=false) (h6:d (if b=0 then 6 else 7)=false)
  (g1 k1 g2 k2:Nat) (X:Xt) (A1:Arr (w'.ext X) g1 k1 C) (A2:Arr (w'.ext X) g2 k2 Z) (b1:w'.heap.size<=g1) (b2:w'.heap.size<=g2) (hne:g1≠g2) :
  ∃ e' k',CI w a W H C Z V σ e' k' (upd d (b+1)) (a'.put (some (σ (b+1))) (.agg (IC W H C.length g1 k1 g2 k2))) (w'.ext X):=by
 obtain ⟨e',he'⟩:∃ e':Nat->Nat,∀ j,e' j=if j=b then g1 else if j=b+1 then g2 else e j:=⟨_,fun _=>rfl⟩
 obtain ⟨k',hk'⟩:∃ k':Nat->Nat,∀ j,k' j=if j=b then k1 else if j=b+1 then k2 else k j:=⟨_,fun _=>rfl⟩
 have eo:∀ j,j≠b->j≠b+1->e' j=e j:=fun j h1 h2=>by rw[he',if_neg h1,if_neg h2]
 have ko:∀ j,j≠b->j≠b+1->k' j=k j:=fun j h1 h2=>by rw[hk',if_neg h1,if_neg h2]
 have e0:e' b=g1:=by rw[he',if_pos rfl]
 have e1:e' (b+1)=g2:=by rw[he',if_neg (by omega),if_pos rfl]
 have q0:k' b=k1:=by rw[hk',if_pos rfl]
 have q1:k' (b+1)=k2:=by rw[hk',if_neg (by omega),if_pos rfl]
 have hC:Chg (fun _=>False) w' (w'.ext X):=Chg.of_ext X;obtain ⟨f1,f2,f3,f4⟩:=h.put hinj hlt e' k' (b+1) (by omega) (.agg (IC W H C.length g1 k1 g2 k2)) (by
   rcases hb with rfl|rfl
   ·simp only[vv];simp only[Nat.zero_add] at e1 q1 ⊢;simp[e0,e1,q0,q1]
   ·simp only[vv];simp only[Nat.reduceAdd] at e1 q1 ⊢;simp[e0,e1,q0,q1]) (by
   intro j hj hji hdj;unfold vv;rcases hb with rfl|rfl
   ·rw[eo 2 (by decide) (by decide),ko 2 (by decide) (by decide),eo 3 (by decide) (by decide),ko 3 (by decide) (by decide)];have:j=0\/j=2\/j=3\/j=4\/j=5:=by omega
    rcases this with rfl|rfl|rfl|rfl|rfl<;>simp[eo]
   ·rw[eo 0 (by decide) (by decide),ko 0 (by decide) (by decide),eo 1 (by decide) (by decide),ko 1 (by decide) (by decide)];have:j=0\/j=1\/j=2\/j=4\/j=5:=by omega
    rcases this with rfl|rfl|rfl|rfl|rfl<;>simp[eo])
 have hsz:(w'.ext X).heap.size=w'.heap.size+X.sz:=World.size_ext;obtain ⟨X0,hX0⟩:=h.world;have hw0:w.heap.size<=w'.heap.size:=by rw[hX0];simp
 have how:∀ j,j<6->j≠b->j≠b+1->upd d (b+1) (ow j)=d (ow j):=fun j hj h1 h2=>upd_ne _ (by
  unfold ow;rcases hb with rfl|rfl<;>split<;>(try split)<;>omega)
 have hu:∀ j,j≠b+1->upd d (b+1) j=d j:=fun j h=>upd_ne _ h
 have A1l:=A1.lt;have A2l:=A2.lt;refine ⟨e',k',f1,f2,f3,f4,⟨_,by rw[hX0,World.ext_ext]⟩,?_,?_,?_,?_,?_,?_⟩
 ·intro j hj hd
  by_cases hjb:j=b
  ·subst hjb;rw[e0];omega
  ·by_cases hjb1:j=b+1
   ·subst hjb1;rw[e1];omega
   ·rw[how j hj hjb hjb1] at hd;have:=h.lo j hj hd;rw[eo j hjb hjb1];omega
 ·have hbig:∀ j,j<6->upd d (b+1) (ow j)=true->j≠b->j≠b+1->e' j<w'.heap.size:=fun j hj hd h1 h2=>by
   rw[how j hj h1 h2] at hd;rw[eo j h1 h2];exact (h.lo j hj hd).2
  intro i j hi hj h1 h2 hij
  by_cases ib:i=b
  ·subst ib
   by_cases jb1:j=i+1
   ·subst jb1;rw[e0,e1];exact hne
   ·have:=hbig j hj h2 (Ne.symm hij) jb1;rw[e0];omega
  ·by_cases ib1:i=b+1
   ·subst ib1
    by_cases jb:j=b
    ·subst jb;rw[e0,e1];exact Ne.symm hne
    ·have:=hbig j hj h2 jb (Ne.symm hij);rw[e1];omega
   ·have hi':=hbig i hi h1 ib ib1
    by_cases jb:j=b
    ·subst jb;rw[e0];omega
    ·by_cases jb1:j=b+1
     ·subst jb1;rw[e1];omega
     ·rw[eo i ib ib1,eo j jb jb1];rw[how i hi ib ib1] at h1;rw[how j hj jb jb1] at h2
      exact h.ne i j hi hj h1 h2 hij
 ·intro hd;rcases hb with rfl|rfl
  ·simp only[Nat.zero_add] at e1 q1;rw[e0,e1,q0,q1];exact ⟨A1,A2⟩
  ·rw[eo 0 (by decide) (by decide),ko 0 (by decide) (by decide),eo 1 (by decide) (by decide),ko 1 (by decide) (by decide)];rw[hu 1 (by decide)] at hd;exact ⟨(h.c0 hd).1.chg hC id,(h.c0 hd).2.chg hC id⟩
 ·intro hd;rcases hb with rfl|rfl
  ·rw[eo 2 (by decide) (by decide),ko 2 (by decide) (by decide),eo 3 (by decide) (by decide),ko 3 (by decide) (by decide)];rw[hu 3 (by decide)] at hd;exact ⟨(h.c1 hd).1.chg hC id,(h.c1 hd).2.chg hC id⟩
  ·simp only[Nat.reduceAdd] at e1 q1;rw[e0,e1,q0,q1];exact ⟨A1,A2⟩
 ·intro hd;rw[hu 4 (by omega)] at hd;rw[hu 6 (by omega),eo 4 (by omega) (by omega)];have:=hC.row (h.r4 hd) id;rcases hb with rfl|rfl
  ·simp only[if_true] at h6;rw[h6] at this ⊢;exact this
  ·rw[eo 0 (by decide) (by decide),ko 0 (by decide) (by decide),eo 1 (by decide) (by decide),ko 1 (by decide) (by decide)];exact this
 ·intro hd;rw[hu 5 (by omega)] at hd;rw[hu 7 (by omega),eo 5 (by omega) (by omega)];have:=hC.row (h.r5 hd) id;rcases hb with rfl|rfl
  ·rw[eo 2 (by decide) (by decide),ko 2 (by decide) (by decide),eo 3 (by decide) (by decide),ko 3 (by decide) (by decide)];exact this
  ·simp only[if_neg (show ¬(2:Nat)=0 by decide)] at h6;rw[h6] at this ⊢;exact this
theorem CI.alloc (h:CI w a W H C Z V σ e k d a' w') (hinj:∀ i j,i<6->j<6->σ i=σ j->i=j) (hlt:∀ i,i<6->σ i<a.tmps.size) (t:Nat) (ht:t=4\/t=5) (hd0:d t=false) (h6:d (t+2)=false) :
  ∃ e' k',CI w a W H C Z V σ e' k' (upd d t) (a'.put (some (σ t)) (ptr w'.heap.size)) (w'.alloc (.cells c0I 54)):=by
 obtain ⟨e',he'⟩:∃ e':Nat->Nat,∀ j,e' j=if j=t then w'.heap.size else e j:=⟨_,fun _=>rfl⟩
 have eo:∀ j,j≠t->e' j=e j:=fun j h1=>by rw[he',if_neg h1]
 have e0:e' t=w'.heap.size:=by rw[he',if_pos rfl]
 have hC:Chg (fun _=>False) w' (w'.alloc (.cells c0I 54)):=Chg.refl.alloc _;obtain ⟨f1,f2,f3,f4⟩:=h.put hinj hlt e' k t (by omega) (ptr w'.heap.size) (by
   rcases ht with rfl|rfl<;>simp[vv,e0]) (by
   intro j hj hji hdj;unfold vv;rw[eo 0 (by omega),eo 1 (by omega),eo 2 (by omega),eo 3 (by omega),eo j hji])
 have hsz:(w'.alloc (.cells c0I 54)).heap.size=w'.heap.size+1:=by rw[World.hp_alloc,Array.size_push]
 obtain ⟨X0,hX0⟩:=h.world;have hw0:w.heap.size<=w'.heap.size:=by rw[hX0];simp
 have how:∀ j,j<6->j≠t->upd d t (ow j)=d (ow j):=fun j hj h1=>upd_ne _ (by
  unfold ow;rcases ht with rfl|rfl<;>split<;>(try split)<;>omega)
 have hu:∀ j,j≠t->upd d t j=d j:=fun j h=>upd_ne _ h
 refine ⟨e',k,f1,f2,f3,f4,?_,?_,?_,?_,?_,?_,?_⟩
 ·rw[hX0];exact Below.toExt ((Below.refl _ _).ext (Nat.le_refl _) X0 |>.alloc (by simp) _)
 ·intro j hj hd;rw[hsz]
  by_cases hjb:j=t
  ·subst hjb;rw[e0];omega
  ·rw[how j hj hjb] at hd;have:=h.lo j hj hd;rw[eo j hjb];omega
 ·intro i j hi hj h1 h2 hij
  by_cases ib:i=t
  ·subst ib;rw[how j hj (Ne.symm hij)] at h2;have:=h.lo j hj h2;rw[e0,eo j (Ne.symm hij)];omega
  ·rw[how i hi ib] at h1;have hi':=h.lo i hi h1
   by_cases jb:j=t
   ·subst jb;rw[e0,eo i ib];omega
   ·rw[how j hj jb] at h2;rw[eo i ib,eo j jb];exact h.ne i j hi hj h1 h2 hij
 ·intro hd;rw[hu 1 (by omega)] at hd;rw[eo 0 (by omega),eo 1 (by omega)];exact ⟨(h.c0 hd).1.chg hC id,(h.c0 hd).2.chg hC id⟩
 ·intro hd;rw[hu 3 (by omega)] at hd;rw[eo 2 (by omega),eo 3 (by omega)];exact ⟨(h.c1 hd).1.chg hC id,(h.c1 hd).2.chg hC id⟩
 ·intro hd;rw[hu 6 (by omega),eo 0 (by omega),eo 1 (by omega)];rcases ht with rfl|rfl
  ·simp only[Nat.reduceAdd] at h6;rw[h6,e0];exact row_last rfl
  ·rw[hu 4 (by decide)] at hd;rw[eo 4 (by decide)];exact hC.row (h.r4 hd) id
 ·intro hd;rw[hu 7 (by omega),eo 2 (by omega),eo 3 (by omega)];rcases ht with rfl|rfl
  ·rw[hu 5 (by decide)] at hd;rw[eo 5 (by decide)];exact hC.row (h.r5 hd) id
  ·simp only[Nat.reduceAdd] at h6;rw[h6,e0];exact row_last rfl
theorem CI.store (h:CI w a W H C Z V σ e k d a' w') (t:Nat) (ht:t=6\/t=7) (hall:∀ j,j<6->d j=true) :
  CI w a W H C Z V σ e k (upd d t) a' (w'.setRow (e (t-2)) (if t=6 then IC W H C.length (e 0) (k 0) (e 1) (k 1) else IC W H C.length (e 2) (k 2) (e 3) (k 3))):=by
 have hu:∀ j,j≠t->upd d t j=d j:=fun j h=>upd_ne _ h
 have how:∀ j,j<6->d (ow j)=true:=fun j hj=>hall _ (by unfold ow;split<;>(try split)<;>omega)
 have how':∀ j,j<6->upd d t (ow j)=true:=fun j hj=>(upd_eq _ _ _).2 (.inr (how j hj))
 have hoth:∀ (g:Nat) (cs:Array Value) (b:Nat) (c:Array Value) (T:TypeId),Row w' b c T->b≠g->Row (w'.setRow g cs) b c T:=fun g cs b c T hr hne=>by
  unfold Row;rw[setRow_other w' g b cs hne];exact hr
 have aoth:∀ (g:Nat) (cs:Array Value) (b cap:Nat) (xs:List Int),Arr w' b cap xs->b≠g->Arr (w'.setRow g cs) b cap xs:=fun g cs b cap xs ⟨h1,cur,h2,h3⟩ hne =>
  ⟨h1,cur,hoth g cs b _ _ h2 hne,h3⟩
 have hne:∀ i j,i<6->j<6->i≠j->e i≠e j:=fun i j hi hj hij=>h.ne i j hi hj (how i hi) (how j hj) hij
 have hlo:=h.lo (t-2) (by omega) (how _ (by omega));refine ⟨h.size,h.defers,h.off,fun i hi hd=>h.on i hi (hall i hi),?_,fun j hj _=>by rw[size_setRow];exact h.lo j hj (how j hj),fun i j hi hj _ _ hij=>hne i j hi hj hij,?_,?_,?_,?_⟩
 ·obtain ⟨X0,hX0⟩:=h.world;refine Below.toExt ?_;refine ⟨?_,?_,?_,by rw[size_setRow,hX0];simp,fun j hj=>?_⟩
  ·rw[hX0];rfl
  ·rw[hX0];rfl
  ·rw[hX0];rfl
  ·rw[setRow_other w' _ j _ (by omega),hX0];exact World.heap_ext hj
 ·intro _;have hA:=h.c0 (hall 1 (by decide));exact ⟨aoth _ _ _ _ _ hA.1 (hne _ _ (by decide) (by omega) (by omega)),aoth _ _ _ _ _ hA.2 (hne _ _ (by decide) (by omega) (by omega))⟩
 ·intro _;have hA:=h.c1 (hall 3 (by decide));exact ⟨aoth _ _ _ _ _ hA.1 (hne _ _ (by decide) (by omega) (by omega)),aoth _ _ _ _ _ hA.2 (hne _ _ (by decide) (by omega) (by omega))⟩
 ·intro _;have hR:=h.r4 (hall 4 (by decide));rcases ht with rfl|rfl
  ·rw[show upd d 6 6=true from by simp[upd]];exact setRow_heap _ _ _ _ _ _ hR
  ·rw[hu 6 (by decide)];exact hoth _ _ _ _ _ hR (hne 4 5 (by decide) (by decide) (by decide))
 ·intro _;have hR:=h.r5 (hall 5 (by decide));rcases ht with rfl|rfl
  ·rw[hu 7 (by decide)];exact hoth _ _ _ _ _ hR (hne 5 4 (by decide) (by decide) (by decide))
  ·rw[show upd d 7 7=true from by simp[upd]];exact setRow_heap _ _ _ _ _ _ hR
end
def sg (s0 s1 s2 s3 d1 d2:Tmp) (i:Nat):Tmp:=if i=0 then s0 else if i=1 then s1 else if i=2 then s2 else if i=3 then s3 else if i=4 then d1 else d2
theorem six {p:Nat->Prop} (h0:p 0) (h1:p 1) (h2:p 2) (h3:p 3) (h4:p 4) (h5:p 5):∀ j,j<6->p j:=by
 intro j hj;have:j=0\/j=1\/j=2\/j=3\/j=4\/j=5:=by omega
 rcases this with rfl|rfl|rfl|rfl|rfl|rfl<;>assumption
theorem put_some {a:Act} {v:Value} {d s:Tmp}:(a.put (some d) v).tmps[s]?=if d=s then (a.tmps[s]?).map (fun _=>v) else a.tmps[s]?:=Act.put_at rfl
structure Two (w wx:World) (W H:Int) (C Z:List Int) (pa g1 k1 g2 k2 pb g3 k3 g4 k4:Nat):Prop where
 a:Img wx pa g1 k1 g2 k2 W H C Z
 b:Img wx pb g3 k3 g4 k4 W H C Z
 lo:w.heap.size<=pa/\w.heap.size<=g1/\w.heap.size<=g2/\w.heap.size<=pb/\w.heap.size<=g3/\w.heap.size<=g4
 ap:(pb≠g1/\pb≠g2/\g3≠g1/\g3≠g2/\g4≠g1/\g4≠g2)/\(pa≠g3/\pa≠g4)/\pa≠pb
theorem Img.drew {w:World} {bm g1 k1 g2 k2:Nat} {W H:Int} {C Z:List Int} (h:Img w bm g1 k1 g2 k2 W H C Z):Img w.drew bm g1 k1 g2 k2 W H C Z:=h.chg (p:=fun _=>False) Chg.refl.drew id id id
theorem Img.alloc {w:World} {bm g1 k1 g2 k2:Nat} {W H:Int} {C Z:List Int} (h:Img w bm g1 k1 g2 k2 W H C Z) (o:Obj):Img (w.alloc o) bm g1 k1 g2 k2 W H C Z:=h.chg (p:=fun _=>False) (Chg.refl.alloc o) id id id
structure Pair (w wx:World) (W H:Int) (Ca Za Cb Zb:List Int) (pa g1 k1 g2 k2 pb g3 k3 g4 k4:Nat):Prop where
 a:Img wx pa g1 k1 g2 k2 W H Ca Za
 b:Img wx pb g3 k3 g4 k4 W H Cb Zb
 lo:w.heap.size<=pa/\w.heap.size<=g1/\w.heap.size<=g2/\w.heap.size<=pb/\w.heap.size<=g3/\w.heap.size<=g4
 ap:(pb≠g1/\pb≠g2/\g3≠g1/\g3≠g2/\g4≠g1/\g4≠g2)/\(pa≠g3/\pa≠g4)/\pa≠pb
 bel:Below w.heap.size w wx
section
variable {w wx w1:World} {W H:Int} {Ca Za Cb Zb C' Z':List Int} {pa g1 k1 g2 k2 pb g3 k3 g4 k4:Nat} {p:Nat->Prop}
theorem Below.chg {B:Nat} {w0:World} (h:Below B w0 wx) (hc:Chg p wx w1) (hB:B<=wx.heap.size) (hp:∀ k,k<B->¬p k):Below B w0 w1:=h.trans (hc.below hp hB)
theorem Pair.stepA (h:Pair w wx W H Ca Za Cb Zb pa g1 k1 g2 k2 pb g3 k3 g4 k4) (hc:Chg p wx w1) (hp:∀ k,p k->k=g1\/k=g2) (hI:Img w1 pa g1 k1 g2 k2 W H C' Z'):Pair w w1 W H C' Z' Cb Zb pa g1 k1 g2 k2 pb g3 k3 g4 k4:=by
 obtain ⟨a,b,lo,ap,bel⟩:=h;exact ⟨hI,b.chg hc (fun h=>by have:=hp _ h;omega) (fun h=>by have:=hp _ h;omega) (fun h=>by have:=hp _ h;omega),lo,ap,Below.chg bel hc bel.size fun k hk h=>by have:=hp _ h;omega⟩
theorem Pair.stepB (h:Pair w wx W H Ca Za Cb Zb pa g1 k1 g2 k2 pb g3 k3 g4 k4) (hc:Chg p wx w1) (hp:∀ k,p k->k=g3\/k=g4) (hI:Img w1 pb g3 k3 g4 k4 W H C' Z'):Pair w w1 W H Ca Za C' Z' pa g1 k1 g2 k2 pb g3 k3 g4 k4:=by
 obtain ⟨a,b,lo,ap,bel⟩:=h;exact ⟨a.chg hc (fun h=>by have:=hp _ h;omega) (fun h=>by have:=hp _ h;omega) (fun h=>by have:=hp _ h;omega),hI,lo,ap,Below.chg bel hc bel.size fun k hk h=>by have:=hp _ h;omega⟩
theorem Pair.drew (h:Pair w wx W H Ca Za Cb Zb pa g1 k1 g2 k2 pb g3 k3 g4 k4):Pair w wx.drew W H Ca Za Cb Zb pa g1 k1 g2 k2 pb g3 k3 g4 k4:=⟨h.a.drew,h.b.drew,h.lo,h.ap,h.bel.drew⟩
theorem Pair.ext (h:Pair w wx W H Ca Za Cb Zb pa g1 k1 g2 k2 pb g3 k3 g4 k4) (X:Xt):Pair w (wx.ext X) W H Ca Za Cb Zb pa g1 k1 g2 k2 pb g3 k3 g4 k4:=⟨h.a.ext X,h.b.ext X,h.lo,h.ap,h.bel.ext h.bel.size X⟩
theorem Pair.keep (h:Pair w wx W H Ca Za Cb Zb pa g1 k1 g2 k2 pb g3 k3 g4 k4) (hc:Chg p wx w1) (hp:∀ k,p k->k=g1\/k=g2\/k=g3\/k=g4) {b:Nat} {c:Array Value} {T:TypeId} (hr:Row wx b c T) (hb:b<w.heap.size):Row w1 b c T :=
 hc.row hr fun h'=>by have:=hp _ h';have:=h.lo;omega
end
end
section
def gotC (f:Int->Int) (W H:Int) (C:List Int) (x y:Int):Int:=if inB W H x y then f (elt C (y*W+x).toNat) else 0
abbrev gotV (W H:Int) (C Z:List Int) (x y:Int):Value:=.tuple #[C4 (gotC up0 W H C x y) (gotC up1 W H C x y) (gotC up2 W H C x y) (gotC up3 W H C x y),.int .i64 (gotC id W H Z x y),.bool (decide (inB W H x y))]
theorem get_is (W H:Int) (c z:Value) (C Z:List Int) (x y:Int) (w:World) (hc:Rd w c C) (hz:Rd w z Z) (h:ImOk W H C Z) (bx0:-9223372036854775808<=x) (bx1:x<=9223372036854775807) (by0:-9223372036854775808<=y) (by1:y<=9223372036854775807) :
  Calls Tryz.prog 160 #[Im W H c z,.int .i64 x,.int .i64 y] w (Ret (gotV W H C Z x y) w):=by
 unfold gotV gotC
 by_cases hi:inB W H x y
 ·simp only[if_pos hi,id,hi,decide_true];exact get_in W H c z C Z x y w hc hz h hi
 ·simp only[if_neg hi,hi,decide_false];exact get_out W H c z C Z x y w hc hz h bx0 bx1 by0 by1 hi
end
section
theorem kth {W H:Int} {C Z:List Int} (h:ImOk W H C Z) {k:Nat} (hk:k<C.length):inB W H ((k:Int)%W) ((k:Int)/W)/\(k:Int)/W*W+(k:Int)%W=k:=by
 have w0:=h.w0;have h1:=Int.emod_nonneg (k:Int) (show W≠0 by omega);have h2:=Int.emod_lt_of_pos (k:Int) (show 0<W by omega);have h3:(k:Int)/W*W+(k:Int)%W=k:=by have:=Int.mul_ediv_add_emod (k:Int) W;rw[Int.mul_comm];omega
 have h4:0<=(k:Int)/W:=Int.ediv_nonneg (by omega) (by omega);have hc:=h.c;refine ⟨⟨h1,h2,h4,?_⟩,h3⟩;refine Int.ediv_lt_of_lt_mul (by omega) ?_;rw[Int.mul_comm H W];omega
theorem kth_of {W H x y:Int} (hi:inB W H x y):((y*W+x).toNat:Int)%W=x/\((y*W+x).toNat:Int)/W=y:=by
 obtain ⟨x0,x1,y0,y1⟩:=hi;have:=ix_in x0 x1 y0 y1;have e:((y*W+x).toNat:Int)=x+y*W:=by omega
 rw[e];refine ⟨?_,?_⟩
 ·rw[Int.add_mul_emod_self_right];exact Int.emod_eq_of_lt x0 x1
 ·rw[Int.add_mul_ediv_right _ _ (by omega),Int.ediv_eq_zero_of_lt x0 x1];omega
theorem putC_at {W H:Int} {C Z:List Int} (h:ImOk W H C Z) {x y a b c d:Int} (k:Nat) (hk:k<C.length) (hm:May a b c d) (e:(k:Int)%W=x) (e':(k:Int)/W=y):elt (putC W H C x y a b c d true true true true) k=pk a b c d:=by
 obtain ⟨h1,h2⟩:=kth h hk;subst e e';unfold putC;rw[if_pos h1,h2,elt_set _ _ _ _ (by simpa using hk),if_pos (by simp)];simp[mixN]
theorem putC_off {W H:Int} {C Z:List Int} (h:ImOk W H C Z) {x y a b c d:Int} {m0 m1 m2 m3:Bool} (k:Nat) (ne:¬((k:Int)%W=x/\(k:Int)/W=y)):elt (putC W H C x y a b c d m0 m1 m2 m3) k=elt C k:=by
 unfold putC
 split
 ·rename_i hi
  rw[elt_set _ _ _ _ (ix_lt h hi).1,if_neg];intro e;subst e;exact ne (kth_of hi)
 ·rfl
end
end
end Go.Proofs.YthcjfanigfgckaaGreat
