import Derived.Test.YthcjfanigfgckaaGreatSHidb19
import Derived.Test.YthcjfanigfgckaaGreatSHidb26
set_option linter.unusedVariables false
set_option linter.unusedSimpArgs false
set_option maxRecDepth 100000
set_option maxHeartbeats 16000000
namespace Go.Proofs.YthcjfanigfgckaaGreat
open Go.RowKit
instance jh34 : Coe Nat Value := ⟨fun n => .int .i64 n⟩
end Go.Proofs.YthcjfanigfgckaaGreat
section
namespace Go
section
variable {P:Program} {ops:Array Oper} {md:Region.Mode} {C:World->Prop}
def aQ6 (R:Act->World->Prop):Exit->Act->World->Prop:=fun e a w=>e=.normal/\R a w
theorem aFj {R:Act->World->Prop}:¬LetsOut (aQ6 R):=fun ⟨_,_,h⟩=>by cases h.1
theorem aIx {s:Sem Unit} {w w':World} {n:Next} (h:(s >>= fun _=>pure Next.skip:Sem Next).run P w=.ok n w'):n=.skip:=by
 rw[Sem.run_bind] at h;cases hs:s.run P w with
 |ok v w2=>rw[hs] at h;simp[Result.andThen] at h;exact h.1.symm
 |halt x w2=>rw[hs] at h;simp[Result.andThen] at h
def Oper.isStore (o:Oper):Bool:=match o.op with | .store ..=>o.dst.isNone&&o.guard.isNone|_=>false
def Oper.isExtract (o:Oper):Bool:=match o.op with | .extract ..=>o.guard.isNone|_=>false
theorem rU {s:Oper} (hs:s.isStore=true) {R:Act->World->Prop} {a:Act} {w:World} (h:wpList P ops (aQ6 R) [s] a w):∃ w',(execOp a.eval s).run P w=.ok .skip w'/\R a w':=by
 obtain ⟨dst,op,type,pos,after,guard⟩:=s;cases op<;>simp only[Oper.isStore,Bool.false_eq_true,Bool.and_eq_true,Option.isNone_iff_eq_none] at hs
 obtain ⟨rfl,rfl⟩:=hs;simp only[wpList,Region.wanted,if_true] at h;rcases h with h|⟨-,h⟩
 ·unfold Oper.wp at h;cases hr:(execOp a.eval _).run P w with
  |ok n w' =>
   rw[hr] at h;have:n=.skip:=by simp only[execOp] at hr;exact aIx hr
   subst this;exact ⟨w',rfl,h.2⟩
  |halt x w' =>
   rw[hr] at h;cases x<;>simp only[Oper.upon] at h
   cases h.1
 ·exact absurd h aFj
theorem wE {x:Value} {k:Nat} {w w':World} {v:Value} (h:Oper.quietUpon P C w v ((do pure (Next.value (<-Instr.extract x k)):Sem Next).run P w)):((do pure (Next.value (<-Instr.extract x k)):Sem Next).run P w')=.ok (.value v) w':=by
 cases x
 case tuple vs =>
  cases hk:vs[k]? with
  |some u =>
   simp only[Instr.extract,hk,Sem.run_bind,Sem.run_pure,Result.andThen_ok,Oper.quietUpon] at h ⊢;rw[h.2]
  |none=>simp[Instr.extract,hk,stuck,Oper.quietUpon,Sem.run_bind,Result.andThen] at h
 all_goals simp[Instr.extract,stuck,Oper.quietUpon,Sem.run_bind,Result.andThen] at h
theorem zL {o:Oper} (ho:o.isExtract=true) {a:Act} {v:Value} {w:World} (hw:C w) (hy:YieldsIn P ops C o v a) (w':World):(execOp a.eval o).run P w'=.ok (.value v) w':=by
 obtain ⟨dst,op,type,pos,after,guard⟩:=o;cases op<;>simp only[Oper.isExtract,Bool.false_eq_true,Option.isNone_iff_eq_none] at ho
 subst ho;rcases hy with ⟨-,h⟩|⟨h,-⟩
 ·have:=h w hw;unfold Oper.quietAt at this;simp only[execOp] at this ⊢;exact wE this
 ·simp[Region.wanted] at h
def aGy (md:Region.Mode) (ops:Array Oper) (n d:Nat):Bool :=
 decide (ops.size=n+1)&&decide (d<n)&&((List.range n).all fun i=>decide (i=d) || Region.waitsFor md ops n i)&&((ops[n]?).map Oper.isStore).getD false&&((ops[d]?).map Oper.isExtract).getD false &&
  (match ops[n]?,ops[d]? with|some s,some o=>(match o.dst with|some t=>!(s.looksAt ops).contains t|none=>false)|_,_=>false)
structure FloatOk (md:Region.Mode) (ops:Array Oper) (n d:Nat) (s o:Oper):Prop where
 size:ops.size=n+1
 lt:d<n
 waits:∀ i,i<n->i≠d->Region.waitsFor md ops n i=true
 hs:ops[n]?=some s
 ho:ops[d]?=some o
 st:s.isStore=true
 ex:o.isExtract=true
 apart:∀ t∈s.looksAt ops,o.dst≠some t
theorem aCv {n d:Nat} (h:aGy md ops n d=true):∃ s o,FloatOk md ops n d s o:=by
 simp only[aGy,Bool.and_eq_true,decide_eq_true_eq] at h;obtain ⟨⟨⟨⟨⟨h1,h2⟩,h3⟩,h4⟩,h5⟩,h6⟩:=h;cases hs:ops[n]? with
 |none=>rw[hs] at h4;cases h4
 |some s =>
  cases ho:ops[d]? with
  |none=>rw[ho] at h5;cases h5
  |some o =>
   rw[hs] at h4;rw[ho] at h5;rw[hs,ho] at h6;refine ⟨s,o,h1,h2,fun i hi hne=>?_,hs,ho,h4,h5,fun t ht e=>?_⟩
   ·have:=List.all_eq_true.1 h3 i (List.mem_range.2 hi);simp only[Bool.or_eq_true,decide_eq_true_eq] at this;exact this.resolve_left hne
   ·simp only[e] at h6;simp only[Bool.not_eq_true',List.contains_eq_mem,decide_eq_false_iff_not] at h6;exact h6 ht
section
variable {n d:Nat} {s o:Oper} (F:FloatOk md ops n d s o)
theorem FloatOk.waits_ready {listed:Array Bool} (F:FloatOk md ops n d s o) (hr:n∈Region.ready md ops listed) {i:Nat} (hi:i<n) (hne:i≠d):listed.getD i false=true:=by
 obtain ⟨_,os,hos,hall⟩:=mem_ready.1 hr;obtain ⟨oj,hoj,e,he,hb,hon⟩:=Region.waitsFor_spec (F.waits i hi hne);have:oj=os:=Option.some.inj (hoj.symm.trans hos);subst this;have:=hall e he hb
 rwa [hon] at this
theorem FloatOk.early (F:FloatOk md ops n d s o) {Q:Exit->Act->World->Prop} {listed:Array Bool} {a:Act} {v:Value} {w w0:World} (hC:C w0) (hy:YieldsIn P ops C o v a) (hsz:listed.size=ops.size)
  (hn:n∈Region.ready md ops listed) (hd:d∈Region.ready md ops listed) (h:wpList P ops (aQ6 (Q .normal)) [s] (a.put o.dst v) w):wpOp P ops Q n (wpAny P md ops Q 1 (listed.setIfInBounds n true)) a w:=by
 obtain ⟨w',hrun,hR⟩:=rU F.st h;have hsel:∀ cs b,s.op≠.select cs b:=fun cs b e=>by have:=F.st;unfold Oper.isStore at this;rw[e] at this;cases this
 have hag:∀ t∈s.looksAt ops,a.tmps[t]?=(a.put o.dst v).tmps[t]?:=fun t ht=>by
  have hne:=F.apart t ht;unfold Act.put;cases hdst:o.dst with
  |none=>rfl
  |some q =>
   have:q≠t:=fun e=>hne (by rw[hdst,e])
   simp only[Array.getElem?_setIfInBounds_ne this]
 have hex:=iA (ops:=ops) hsel hag;have hdst:s.dst=none:=by
  have:=F.st;unfold Oper.isStore at this;split at this
  ·simp only[Bool.and_eq_true,Option.isNone_iff_eq_none] at this;exact this.1
  ·cases this
 have hgs:s.guard=none:=by
  have:=F.st;unfold Oper.isStore at this;split at this
  ·simp only[Bool.and_eq_true,Option.isNone_iff_eq_none] at this;exact this.2
  ·cases this
 have hgo:o.guard=none:=by
  have:=F.ex;unfold Oper.isExtract at this;split at this
  ·simpa using this
  ·cases this
 have hdn:d≠n:=by have:=F.lt;omega
 unfold wpOp;simp only[F.hs,Region.wanted,hgs,if_true];refine .inl ?_;unfold Oper.wp;rw[hex,hrun,Oper.upon_skip,hdst];change wpAny P md ops Q 1 (listed.setIfInBounds n true) a w';have hd':d∈Region.ready md ops (listed.setIfInBounds n true):=ready_mono hd hdn;refine ⟨fun h0=>(by rw[h0] at hd';cases hd'),fun i hi=>?_⟩;obtain ⟨hun,oi,hoi,-⟩:=mem_ready.1 hi;have hil:i<ops.size:=(Array.getElem?_eq_some_iff.1 hoi).1;have hin:i≠n:=fun e=>by
  subst e;have:(listed.setIfInBounds i true).getD i true=true:=by
   rw[Array.getD_eq_getD_getElem?,Array.getElem?_setIfInBounds_self_of_lt (by rw[hsz];exact hil)];rfl
  rw[this] at hun;cases hun
 have hid:i=d:=Classical.byContradiction fun hne=>by
  have hi':i<n:=by have:=F.size;omega
  have h1:=F.waits_ready hn hi' hne;rw[getD_set_ne true (Ne.symm hin)] at hun;have h2:=getD_both hun;rw[h1] at h2;cases h2
 subst hid;unfold wpOp;simp only[F.ho,Region.wanted,hgo,if_true];refine .inl ?_;unfold Oper.wp;rw[zL F.ex hC hy w',Oper.upon_value];refine ⟨?_,hR⟩;refine List.eq_nil_iff_forall_not_mem.2 fun j hj=>?_
 obtain ⟨hju,oj,hoj,-⟩:=mem_ready.1 hj;have hjl:j<ops.size:=(Array.getElem?_eq_some_iff.1 hoj).1;have hji:j≠i:=fun e=>by
  subst e;have:((listed.setIfInBounds n true).setIfInBounds j true).getD j true=true:=by
   rw[Array.getD_eq_getD_getElem?,Array.getElem?_setIfInBounds_self_of_lt (by simp;rw[hsz];exact hjl)];rfl
  rw[this] at hju;cases hju
 rw[getD_set_ne true (Ne.symm hji)] at hju
 by_cases hjn:j=n
 ·subst hjn;have:(listed.setIfInBounds j true).getD j true=true:=by
   rw[Array.getD_eq_getD_getElem?,Array.getElem?_setIfInBounds_self_of_lt (by rw[hsz];exact hjl)];rfl
  rw[this] at hju;cases hju
 ·rw[getD_set_ne true (Ne.symm hjn)] at hju;have h1:=F.waits_ready hn (by have:=F.size;omega) hji;have h2:=getD_both hju;rw[h1] at h2;cases h2
end
def aGp (P:Program) (md:Region.Mode) (ops:Array Oper) (C:World->Prop) (n d:Nat) (L:Array Bool->Act->Prop) (E:Array Bool->Act->Prop):Nat->Array Bool->Act->Prop
 |0,done,a=>L done a
 |f+1,done,a=>Region.ready md ops done≠[]/\∀ i∈Region.ready md ops done,(i<n/\qOp P ops C i (aGp P md ops C n d L E f (done.setIfInBounds i true)) a)\/(i=n/\f=0/\done.getD d true=false/\E done a)
theorem rI {n d:Nat} {L E:Array Bool->Act->Prop} {Q:Exit->Act->World->Prop} (hL:∀ done a w,C w->L done a->wpAny P md ops Q 1 done a w)
  (hE:∀ done a w,C w->E done a->wpOp P ops Q n (wpAny P md ops Q 1 (done.setIfInBounds n true)) a w) (f:Nat) :
  ∀ (done:Array Bool) (a:Act) (w:World),C w->aGp P md ops C n d L E f done a->wpAny P md ops Q (f+1) done a w:=by
 induction f with
 |zero=>intro done a w hw h;exact hL _ _ _ hw h
 |succ f ih =>
  intro done a w hw h;refine ⟨fun h0=>absurd h0 h.1,fun i hi=>?_⟩;rcases h.2 i hi with ⟨_,hq⟩|⟨rfl,rfl,_,he⟩
  ·exact wpOp_of_qOp hw (fun a' w' hw' h'=>ih _ a' w' hw' h') hq
  ·exact hE _ _ _ hw he
theorem yW {n d i:Nat} {s od o:Oper} {v:Value} {L E:Array Bool->Act->Prop} (F:FloatOk md ops n d s od) (hi:ops[i]?=some o) (hsel:Region.noSelect ops=true) (hin:i<n)
  (hL:∀ done a,L done a->∀ j∈Region.ready md ops done,n<=j)
  (hE:∀ done a v,HeadInv md ops n done->n∈Region.ready md ops done->d∈Region.ready md ops done->YieldsIn P ops C od v a->L (done.setIfInBounds d true) (a.put od.dst v)->E done a) (f:Nat) :
  ∀ (done:Array Bool) (a:Act),HeadInv md ops n done ->
   (∀ j oj,ops[j]?=some oj->j≠i->done.getD j true=false->(∀ e∈oj.after,Region.binds md e=true->e.on≠i)->o.apart ops oj=true) ->
   i∈Region.ready md ops done->YieldsIn P ops C o v a->aGp P md ops C n d L E f (done.setIfInBounds i true) (a.put o.dst v)->aGp P md ops C n d L E (f+1) done a:=by
 have nosel:=fun (j:Nat) (o:Oper) cs b (h:ops[j]?=some o)=>Region.noSelect_spec hsel j o cs b h
 have hlt:∀ (done:Array Bool) j,j∈Region.ready md ops done->j<n\/j=n:=fun done j hj=>by
  obtain ⟨_,oj,hoj,_⟩:=mem_ready.1 hj;have:=(Array.getElem?_eq_some_iff.1 hoj).1;have:=F.size;omega
 have hdn:=F.lt
 induction f with
 |zero =>
  intro done a inv _ hr hy H;refine ⟨fun h=>(by rw[h] at hr;cases hr),fun j hj=>?_⟩;rcases hlt done j hj with hjn|hjn
  ·by_cases e:j=i
   ·subst e;exact .inl ⟨hjn,hy.qOp hi H⟩
   ·have:=hL _ _ H j (ready_mono hj e);omega
  ·subst hjn;have hid:i=d:=Classical.byContradiction fun hne=>by
    have h1:=F.waits_ready hj hin hne;have h2:=getD_both (mem_ready.1 hr).1;rw[h1] at h2;cases h2
   subst hid;obtain rfl:o=od:=Option.some.inj (hi.symm.trans F.ho);exact .inr ⟨rfl,rfl,(mem_ready.1 hr).1,hE _ _ _ inv hj hr hy H⟩
 |succ f ih =>
  intro done a inv hfree hr hy H;refine ⟨fun h=>(by rw[h] at hr;cases hr),fun j hj=>?_⟩;rcases hlt done j hj with hjn|hjn
  ·by_cases e:j=i
   ·subst e;exact .inl ⟨hjn,hy.qOp hi H⟩
   ·obtain ⟨hjun,oj,hoj,hall⟩:=mem_ready.1 hj;have hun:=(mem_ready.1 hr).1;have hnot:∀ e∈oj.after,Region.binds md e=true->e.on≠i:=fun e he hb heq=>by
     have h1:=hall e he hb;rw[heq,getD_both hun] at h1;cases h1
    rcases H.2 j (ready_mono hj e) with ⟨_,hq⟩|⟨hjn',_⟩
    ·have h2:=qOp_put hoj (hfree j oj hoj e hjun hnot) (fun cs b=>nosel i o cs b hi) (fun cs b=>nosel j oj cs b hoj) hy hq;refine .inl ⟨hjn,qOp_mono (fun a' h3=>ih (done.setIfInBounds j true) a' (inv.set hj hjn) (fun k ok hk hki hku hno=>?_) (ready_mono hr (Ne.symm e)) h3.1 ?_) h2⟩
     ·refine hfree k ok hk hki ?_ hno
      by_cases hjk:j=k
      ·subst hjk;exact hjun
      ·rw[getD_set_ne true hjk] at hku;exact hku
     ·rw[Array.setIfInBounds_comm _ _ e];exact h3.2
    ·omega
  ·subst hjn;have hid:i=d:=Classical.byContradiction fun hne=>by
    have h1:=F.waits_ready hj hin hne;have h2:=getD_both (mem_ready.1 hr).1;rw[h1] at h2;cases h2
   subst hid;have hj':j∈Region.ready md ops (done.setIfInBounds i true):=ready_mono hj (by omega);have hil:i<done.size:=by rw[inv.size];exact (Array.getElem?_eq_some_iff.1 hi).1
   have hdd:(done.setIfInBounds i true).getD i true=true:=by
    rw[Array.getD_eq_getD_getElem?,Array.getElem?_setIfInBounds_self_of_lt hil];rfl
   rcases H.2 j hj' with ⟨hjn,_⟩|⟨_,_,hk,_⟩
   ·omega
   ·rw[hdd] at hk;cases hk
theorem aGo {n d:Nat} {s od:Oper} {K:Act->Prop} {E:Array Bool->Act->Prop} (F:FloatOk md ops n d s od) (hsel:Region.noSelect ops=true)
  (hE:∀ done a v,HeadInv md ops n done->n∈Region.ready md ops done->d∈Region.ready md ops done->YieldsIn P ops C od v a->(Region.seqB md ops 1 n (done.setIfInBounds d true)=true/\K (a.put od.dst v))->E done a) (l:List Oper) :
  ∀ (k:Nat) (done:Array Bool) (a:Act),(∀ j,j<l.length->l[j]?=ops[k+j]?)->k+l.length=n->HeadInv md ops n done ->
  Region.lexHead md ops 1 l.length k done=true->wpQuiet P ops C K l a ->
  aGp P md ops C n d (fun done' a'=>Region.seqB md ops 1 n done'=true/\K a') E l.length done a:=by
 induction l with
 |nil =>
  intro k done a _ hk _ hB h;obtain rfl:k=n:=by simpa using hk
  exact ⟨by simpa [Region.lexHead] using hB,h⟩
 |cons o l ih =>
  intro k done a hl hk inv hB h;have h0:ops[k]?=some o:=by simpa using (hl 0 (by simp)).symm
  simp only[List.length_cons,Region.lexHead,Bool.and_eq_true] at hB;obtain ⟨⟨hr,hf⟩,hB'⟩:=hB;have hkn:k<n:=by simp only[List.length_cons] at hk;omega
  have hr':k∈Region.ready md ops done:=by simpa using hr
  have hq:qOp P ops C k (wpQuiet P ops C K l) a:=by unfold qOp;simp only[h0];exact h
  obtain ⟨v,hy,hK⟩:=yieldsIn_of_qOp h0 hq;refine yW F h0 hsel hkn (fun done' a' hL=>seqB_ready hL.1) hE l.length done a inv (Region.free_spec h0 hf) hr' hy ?_;exact ih (k+1) _ _ (fun j hj=>by have:=hl (j+1) (by simp;omega);simpa [Nat.add_assoc,Nat.add_comm 1 j] using this) (by simp only[List.length_cons] at hk;omega) (inv.set hr' hkn) hB' hK
def vR (md:Region.Mode) (ops:Array Oper) (n d:Nat):Bool:=Region.noSelect ops&&aGy md ops n d&&Region.lexHead md ops 1 n 0 (Array.replicate ops.size false)
theorem kN {id:Nat} {Q:Exit->Act->World->Prop} {a:Act} {w:World} {l:List Oper} (n d:Nat) (hm:P.follows .mixedOrders=true) (hB:vR .any l.toArray n d=true)
  (h:wpQuiet P l.toArray (fun w'=>∃ X,w'=w.ext X) (fun a'=>∀ w',(∃ X,w'=w.ext X)->wpList P l.toArray (aQ6 (Q .normal)) (l.drop n) a' w') (l.take n) a):(Code.region id l.toArray true).wp P Q a w:=by
 simp only[vR,Bool.and_eq_true] at hB;obtain ⟨⟨hsel,hfl⟩,hlex⟩:=hB;obtain ⟨s,od,F⟩:=aCv hfl;have hsz:l.length=n+1:=by simpa using F.size
 have htl:(l.take n).length=n:=by simp;omega
 have hs:l[n]?=some s:=by simpa using F.hs
 have hdrop:l.drop n=[s]:=by
  have hnl:n<l.length:=by omega
  rw[List.drop_eq_getElem_cons hnl];have:l[n]=s:=by rw[List.getElem?_eq_getElem hnl] at hs;exact Option.some.inj hs
  rw[this,List.drop_eq_nil_of_le (by omega)]
 rw[hdrop] at h;have hC0:(fun w'=>∃ X,w'=w.ext X) { w with drawn:=w.drawn+1 }:=⟨⟨#[],w.drawn+1⟩,by simp[World.ext]⟩;have inv0:HeadInv .any l.toArray n (Array.replicate l.toArray.size false) :=
  ⟨by simp,fun j oj _ hl=>(by rw[getD_replicate_false] at hl;cases hl),fun t _ ht=>getD_in (by simpa using ht) (getD_replicate_false _ _)⟩
 have H:=aGo (md:=.any) (K:=fun a'=>∀ w',(∃ X,w'=w.ext X)->wpList P l.toArray (aQ6 (Q .normal)) [s] a' w') (E:=fun done a'=>∀ w',(∃ X,w'=w.ext X)->wpOp P l.toArray Q n (wpAny P .any l.toArray Q 1 (done.setIfInBounds n true)) a' w') F hsel
  (fun done a' v inv hn hd hy hL w' hw'=>F.early hC0 hy inv.size hn hd (hL.2 w' hw')) (l.take n) 0 _ a (fun j hj=>by
  rw[htl] at hj;simp[hj]) (by simpa using htl) inv0 (by rw[htl];exact hlex) h
 refine wp_region_any hm ?_;have:=rI (Q:=Q) (fun done a' w' hw' hL=>by
  obtain ⟨w2,hrun,hR⟩:=rU F.st (hL.2 w' hw');have hwl:wpList P l.toArray Q [s] a' w':=by
   have hdst:s.dst=none:=by
    have:=F.st;unfold Oper.isStore at this;split at this
    ·simp only[Bool.and_eq_true,Option.isNone_iff_eq_none] at this;exact this.1
    ·cases this
   have hgs:s.guard=none:=by
    have:=F.st;unfold Oper.isStore at this;split at this
    ·simp only[Bool.and_eq_true,Option.isNone_iff_eq_none] at this;exact this.2
    ·cases this
   simp only[wpList,Region.wanted,hgs,if_true];refine .inl ?_;unfold Oper.wp;rw[hrun,Oper.upon_skip,hdst];exact hR
  exact wpAny_of_seq (md:=.any) (Q':=Q) [s] n done a' w' (fun j=>by
   cases j with
   |zero=>simpa using F.hs.symm
   |succ j=>simp;omega) hL.1 hwl) (fun done a' w' hw' hE=>hE w' hw') _ _ _ { w with drawn:=w.drawn+1 } hC0 H
 rw[htl,show n+1=l.toArray.size by simp;omega] at this;exact this
end
end Go
end
namespace Go.Proofs.YthcjfanigfgckaaGreat
open Go.RowKit _root_.Go.Proofs.Tryz
theorem aGf:(prog.info? 166).map (fun i=>(i.zero,i.size,i.bytes))=some (some (.agg #[.int .i64 0,.int .i64 0,.int .i64 0]),3,24):=by kernel_rfl
theorem aD6 (a b c:WinP) (x0 y0 x1 y1:Int) (ha:a.fits) (hb:b.fits) (hc:c.fits) (h:ar a b c=0) (w:World):Calls prog 121 #[a.v,b.v,c.v,R4 x0 y0 x1 y1] w (cS spK w (dL a b c x0 y0 x1 y1)):=by
 have e:dL a b c x0 y0 x1 y1=[]:=if_pos (.inl h);rw[e];have S:=jj (fun w=>aI8 a b c ha hb hc h w);clear ha hb hc h e
 go_enter func121,ntmps121
 go_wp2_with (first|(go_at_call 178;with_reducible refine jn (S.out _) fun X_=>?_))
 go_ret;exact ⟨_,rfl,bJ _,jz (by exact bl_)⟩
theorem aD5 (a b c:WinP) (x0 y0 x1 y1:Int) (ha:a.fits) (hb:b.fits) (hc:c.fits) (h:ar a b c≠0) (hr:¬aM x0 y0 x1 y1) (w:World):Calls prog 121 #[a.v,b.v,c.v,R4 x0 y0 x1 y1] w (cS spK w (dL a b c x0 y0 x1 y1)):=by
 have e:dL a b c x0 y0 x1 y1=[]:=if_pos (.inr hr);rw[e];have S:=jj (fun w=>uW a b c ha hb hc h w);have HR:=jj (fun w=>decide_eq_false hr▸bM x0 y0 x1 y1 w);clear ha hb hc h hr e
 go_enter func121,ntmps121
 go_wp2_with (first|(go_at_call 178;(with_reducible refine (S.out _).mono ?_);rintro _ _ ⟨g,rfl,⟨X_,rfl⟩,hg,hrow⟩)|(go_at_call 46;with_reducible refine jn (HR.out _) fun X_=>?_))
 go_ret;exact ⟨_,rfl,bJ _,jz (by exact bl_)⟩
abbrev SpH (w:World) (a b c B C:WinP) (g:Nat) (x0 y0 x1 y1:Int) (v:Value) (L:List SpP) (wr:World):Prop:=Hold spK w wr 166 [(w.heap.size,#[.int .i64 a.x,.int .i64 a.y,.int .i64 a.z,.int .i64 a.c0,.int .i64 a.c1,.int .i64 a.c2,.int .i64 a.c3],45),(w.heap.size+1,#[.int .i64 b.x,.int .i64 b.y,.int .i64 b.z,.int .i64 b.c0,.int .i64 b.c1,.int .i64 b.c2,.int .i64 b.c3],45),(w.heap.size+1+1,#[.int .i64 c.x,.int .i64 c.y,.int .i64 c.z,.int .i64 c.c0,.int .i64 c.c1,.int .i64 c.c2,.int .i64 c.c3],45),(w.heap.size+1+1+1,#[.int .i64 x0,.int .i64 y0,.int .i64 x1,.int .i64 y1],29),(g,#[.int .i64 a.x,.int .i64 a.y,.int .i64 (B.x-a.x),.int .i64 (B.y-a.y),.int .i64 (dN a B),.int .i64 B.x,.int .i64 B.y,.int .i64 (C.x-B.x),.int .i64 (C.y-B.y),.int .i64 (dN B C),.int .i64 C.x,.int .i64 C.y,.int .i64 (a.x-C.x),.int .i64 (a.y-C.y),.int .i64 (dN C a)],210)] v L
theorem aI3 (a b c:WinP) (x0 y0 x1 y1:Int) (ha:a.fits) (hb:b.fits) (hc:c.fits) (h:ar a b c≠0) (hr:aM x0 y0 x1 y1) (w:World):Calls prog 121 #[a.v,b.v,c.v,R4 x0 y0 x1 y1] w (cS spK w (dL a b c x0 y0 x1 y1)):=by
 have e:dL a b c x0 y0 x1 y1=bL a b c x0 x1 y0 y1:=if_neg (fun h'=>h'.elim h (fun k=>k hr));rw[e];clear e;have S:=jj (fun w=>uW a b c ha hb hc h w);have HR:=jj (fun w=>decide_eq_true hr▸bM x0 y0 x1 y1 w);obtain ⟨fb,fc⟩:=gO (a:=a) hb hc;obtain ⟨⟨r0,r1⟩,⟨r2,r3⟩,⟨r4,r5⟩,⟨r6,r7⟩,rx,ry⟩:=hr;have RW:=jj (fun (y:Int) (hy:Near 0 y)=>And.intro (fun w=>pK a (bE a b c) y x0 x1 ha fb hy w) (And.intro (fun w=>pK (bE a b c) (bO a b c) y (lY a (bE a b c) y x0) (tH a (bE a b c) y x0 x1) fb fc hy w) (fun w=>pK (bO a b c) a y (lY (bE a b c) (bO a b c) y (lY a (bE a b c) y x0)) (tH (bE a b c) (bO a b c) y (lY a (bE a b c) y x0) (tH a (bE a b c) y x0 x1)) fc ha hy w)));have SP:=jj (fun y=>show gQ a b c x0 x1 y=if lY (bO a b c) a y (lY (bE a b c) (bO a b c) y (lY a (bE a b c) y x0))<tH (bO a b c) a y (lY (bE a b c) (bO a b c) y (lY a (bE a b c) y x0)) (tH (bE a b c) (bO a b c) y (lY a (bE a b c) y x0) (tH a (bE a b c) y x0 x1)) then [⟨y,lY (bO a b c) a y (lY (bE a b c) (bO a b c) y (lY a (bE a b c) y x0)),tH (bO a b c) a y (lY (bE a b c) (bO a b c) y (lY a (bE a b c) y x0)) (tH (bE a b c) (bO a b c) y (lY a (bE a b c) y x0) (tH a (bE a b c) y x0 x1))⟩] else [] from rfl);have SN:=jj (fun y (hy:y0<=y)=>i7 a b c x0 x1 y0 y hy);have SL:=jj (fun y=>pD a b c x0 x1 y0 y);have SS:=xF h x0 x1 y0;have SE:=aD7 h x0 x1 y0 y1;have lob:-268435456<=min a.y (min b.y c.y)/\min a.y (min b.y c.y)<=max a.y (max b.y c.y)/\max a.y (max b.y c.y)<=268435456:=by have:=ha.y0;have:=ha.y1;have:=hb.y0;have:=hb.y1;have:=hc.y0;have:=hc.y1;omega
 obtain ⟨lo,hlo⟩:∃ l,min a.y (min b.y c.y)=l:=⟨_,rfl⟩;obtain ⟨hi,hhi⟩:∃ l,max a.y (max b.y c.y)=l:=⟨_,rfl⟩;rw[hlo,hhi] at lob;rw[hlo] at SS;rw[hlo,hhi] at SE;obtain ⟨lo0,lo1,hi1⟩:=lob;have YB:=And.intro ha.y0 (And.intro ha.y1 (And.intro hb.y0 (And.intro hb.y1 (And.intro hc.y0 hc.y1))));obtain ⟨ya0,ya1,yb0,yb1,yc0,yc1⟩:=YB;obtain ⟨B,hB⟩:∃ B,bE a b c=B:=⟨_,rfl⟩;obtain ⟨C,hC⟩:∃ B,bO a b c=B:=⟨_,rfl⟩;simp only[hB,hC] at S RW SP;obtain ⟨T,hT⟩:∃ T,T=bL a b c x0 x1 y0:=⟨_,rfl⟩;obtain ⟨D,hD⟩:∃ D,D=gQ a b c x0 x1:=⟨_,rfl⟩;simp only[<-hT,<-hD] at SP SN SL SS SE ⊢;have HS:=jj SS;have HE:=jj SE;clear hT hD ha hb hc fb fc h hB hC SS SE;have HLO:=jj hlo;have HHI:=jj hhi;clear hlo hhi
 go_enter func121,ntmps121
 go_upto_region 4 with (first|(go_at_call 178;(with_reducible refine (S.out _).mono ?_);rintro _ _ ⟨g,rfl,⟨XA,rfl⟩,hg,hrow⟩;have HG:=jj hg;have HRW:=jj hrow;clear hg hrow)|(go_at_call 46;with_reducible refine jn (HR.out _) fun X_=>?_))
 refine aE (F:=fun w1=>SpH w a b c B C g x0 y0 x1 y1 (.slice none 0 0) [] w1) (Hold.start (List.forall_mem_cons.2 ⟨by exact rx_,List.forall_mem_cons.2 ⟨by exact rx_,List.forall_mem_cons.2 ⟨by exact rx_,List.forall_mem_cons.2 ⟨by exact rx_,List.forall_mem_cons.2 ⟨HRW.out.ext _,by simp⟩⟩⟩⟩⟩) (by simp) (jz (by exact bl_))) ?_;intro w1 h1;have H1:=jj h1;clear h1;have a0:=H1.out.rows _ jq;simp only at a0;have a1:=a0.cell;have a2:=a0.frozen;have a3:=a0.lt;clear a0;have b0:=H1.out.rows _ (jk jq);simp only at b0;have b1:=b0.cell;have b2:=b0.frozen;have b3:=b0.lt;clear b0;have c0:=H1.out.rows _ (jk (jk jq));simp only at c0;have c1:=c0.cell;have c2:=c0.frozen;have c3:=c0.lt;clear c0;have d0:=H1.out.rows _ (jk (jk (jk jq)));simp only at d0;have d1:=d0.cell;have d2:=d0.frozen;have d3:=d0.lt;clear d0;go_upto_region 6 with fail
 clear a1 a2 a3 b1 b2 b3 c1 c2 c3 d1 d2 d3;rw[HLO.out,HHI.out];obtain ⟨LO,hLO⟩:∃ L,max y0 (lo/256-1)=L:=⟨_,rfl⟩;obtain ⟨HI,hHI⟩:∃ L,min y1 (hi/256+2)=L:=⟨_,rfl⟩;rw[hLO,hHI];rw[hLO] at HS;rw[hLO,hHI] at HE;have LO0:y0<=LO:=by omega
 have LO1:LO<=4194304:=by omega
 have HI1:HI<=y1:=by omega
 have HI0:-4194304<=HI:=by omega
 clear hLO hHI lo0 lo1 hi1 ya0 ya1 yb0 yb1 yc0 yc1 HLO HHI;obtain ⟨i0,hii,hz0,hz1,hz2⟩:=info_parts aGf;go_wp2;go_loopw [13,12] (fun i o wr=>∃ (y:Int) (v:Value) (L:List SpP),LO<=y/\y<=max LO HI/\i=.int .i64 y/\o=v/\Hid (L=T y)/\Hid (SpH w a b c B C g x0 y0 x1 y1 v L wr))
  (fun i _ _=>(HI-intOf i).toNat)
 case atStart=>exact ⟨LO,_,[],by omega,by omega,rfl,rfl,jj HS.out.symm,H1⟩
 case round =>
  clear H1;obtain ⟨y,v,L,hy0,hy1,rfl,hv,hL,hR⟩:=hrel;have hv:=hv.symm;subst hv
  by_cases hlt:y<HI
  ·obtain ⟨R1,R2,R3⟩:=RW.out y ⟨by omega,by omega,by omega,by omega⟩;have P1:=jj R1;have P2:=jj R2;have P3:=jj R3;have sp:=SP.out y;clear R1 R2 R3;have SQ:=jj sp;clear sp;obtain ⟨F1,hF1⟩:∃ F,lY a B y x0=F:=⟨_,rfl⟩;obtain ⟨T1,hT1⟩:∃ F,tH a B y x0 x1=F:=⟨_,rfl⟩;simp only[hF1,hT1] at P1 P2 P3 SQ;obtain ⟨F2,hF2⟩:∃ F,lY B C y F1=F:=⟨_,rfl⟩;obtain ⟨T2,hT2⟩:∃ F,tH B C y F1 T1=F:=⟨_,rfl⟩;simp only[hF2,hT2] at P2 P3 SQ;obtain ⟨F3,hF3⟩:∃ F,lY C a y F2=F:=⟨_,rfl⟩;obtain ⟨T3,hT3⟩:∃ F,tH C a y F2 T2=F:=⟨_,rfl⟩;simp only[hF3,hT3] at P3 SQ;clear hF1 hT1 hF2 hT2 hF3 hT3;have d0:=hR.out.rows _ (jk (jk (jk jq)));simp only at d0;have d1:=d0.cell;have d2:=d0.frozen;have d3:=d0.lt;clear d0;have s0:=hR.out.rows _ (jk (jk (jk (jk jq))));simp only at s0;have s1:=s0.cell;have s2:=s0.frozen;have s3:=s0.lt;clear s0;go_wp2;refine jy ?_
   repeat (go_big_quiet_step ((fail)))
   refine jv fun X=>?_
   go_wp2;refine wp_loop_rounds 4 ?_;rw[rounds_succ];go_wp2_with (first|(go_at_call 179;with_reducible refine jn (P1.out _) fun X_=>?_))
   refine aO (F:=SpH w a b c B C g x0 y0 x1 y1 v L) (hR.out.grown (by exact bl_)) ?_;clear hR d1 d2 d3 s1 s2 s3;refine fun w2 h2=>?_
   have hR:=jj h2;clear h2;have s0:=hR.out.rows _ (jk (jk (jk (jk jq))));simp only at s0;have s1:=s0.cell;have s2:=s0.frozen;have s3:=s0.lt;clear s0;have d0:=hR.out.rows _ (jk (jk (jk jq)));simp only at d0;have d1:=d0.cell;have d2:=d0.frozen;have d3:=d0.lt;clear d0;rw[rounds_succ];go_wp2_with (first|(go_at_call 179;with_reducible refine jn (P2.out _) fun X_=>?_))
   refine aO (F:=SpH w a b c B C g x0 y0 x1 y1 v L) (hR.out.grown (by exact bl_)) ?_;clear hR d1 d2 d3 s1 s2 s3;refine fun w2 h2=>?_
   have hR:=jj h2;clear h2;have s0:=hR.out.rows _ (jk (jk (jk (jk jq))));simp only at s0;have s1:=s0.cell;have s2:=s0.frozen;have s3:=s0.lt;clear s0;have d0:=hR.out.rows _ (jk (jk (jk jq)));simp only at d0;have d1:=d0.cell;have d2:=d0.frozen;have d3:=d0.lt;clear d0;rw[rounds_succ];go_wp2_with (first|(go_at_call 179;with_reducible refine jn (P3.out _) fun X_=>?_))
   refine aO (F:=SpH w a b c B C g x0 y0 x1 y1 v L) (hR.out.grown (by exact bl_)) ?_;clear hR d1 d2 d3 s1 s2 s3;refine fun w2 h2=>?_
   have hR:=jj h2;clear h2;rw[rounds_succ]
   by_cases hft:F3<T3
   ·have e1:T (y+1)=L++[⟨y,F3,T3⟩]:=by rw[SN.out y (by omega),SQ.out,if_pos hft,<-hL.out]
    have E1:=jj e1;clear e1 SP SN SQ;have hsz:=hR.out.size;have hlb:L.length<=8388608:=by rw[hL.out];have:=SL y;omega
    have LB1:=jj (show L.length+1<=maxLen by unfold maxLen;omega);have LB2:=jj (show (L.length+1)*24<=140737488355328 by omega);clear hlb
    go_wp2_with (first
     |(at_builtin;refine wpList_append_own _ rfl _ _ 155 rfl w.heap.size 166 i0 (.agg #[.int .i64 0,.int .i64 0,.int .i64 0]) 3 24 Tryz.underlying155 hii hz0 hz1 hz2 rfl (by decide) v L.length (L.flatMap SpP.cells) rfl (hR.out.own.alloc _) ⟨w2.heap.size,0,none⟩ 1 1 (SpP.cells ⟨y,F3,T3⟩) rfl rfl (cF rfl _ _) (spK.one ⟨y,F3,T3⟩) LB1.out LB2.out (by simp;omega) ?_;intro v' w5 hown hgrow _;have h5:=hR.out.snoc (s:=⟨y,F3,T3⟩) hown hgrow;have H5:=jj h5;clear hown hgrow h5))
    go_roundw
    case rel=>exact ⟨y+1,_,L++[⟨y,F3,T3⟩],by omega,by omega,rfl,rfl,jj E1.out.symm,H5⟩
    case measure=>simp[intOf];omega
   ·have e1:T (y+1)=L:=by rw[SN.out y (by omega),SQ.out,if_neg hft,List.append_nil,<-hL.out]
    have E1:=jj e1;clear e1 SP SN SQ;go_wp2;go_roundw
    case rel=>exact ⟨y+1,_,L,by omega,by omega,rfl,rfl,jj E1.out.symm,hR⟩
    case measure=>simp[intOf];omega
  ·clear SP SN;have e:=HE.out y (by omega) (by omega) (by omega) (by omega);have hL2:=jj (hL.out.trans e);clear e hL;go_wp2;go_ret;refine ⟨_,rfl,?_,hR.out.ext⟩;rw[<-hL2.out];exact cM hR.out.own (by rw[hL2.out];have:=SL y1;omega)
abbrev BxH {α:Type} (K:RecK α) (E:TypeId) (w:World) (a b c:WinP) (x0 y0 x1 y1:Int) (v:Value) (L:List α) (wr:World):Prop:=Hold K w wr E [(w.heap.size,#[.int .i64 a.x,.int .i64 a.y,.int .i64 a.z,.int .i64 a.c0,.int .i64 a.c1,.int .i64 a.c2,.int .i64 a.c3],45),(w.heap.size+1,#[.int .i64 b.x,.int .i64 b.y,.int .i64 b.z,.int .i64 b.c0,.int .i64 b.c1,.int .i64 b.c2,.int .i64 b.c3],45),(w.heap.size+1+1,#[.int .i64 c.x,.int .i64 c.y,.int .i64 c.z,.int .i64 c.c0,.int .i64 c.c1,.int .i64 c.c2,.int .i64 c.c3],45),(w.heap.size+1+1+1,#[.int .i64 x0,.int .i64 y0,.int .i64 x1,.int .i64 y1],29)] v L
theorem rV (a b c:WinP) (x0 y0 x1 y1:Int) (hr:aM x0 y0 x1 y1):dL a b c x0 y0 x1 y1=(if ar a b c=0 then [] else bL a b c x0 x1 y0 y1):=by
 unfold dL
 by_cases h:ar a b c=0
 ·rw[if_pos (.inl h),if_pos h]
 ·rw[if_neg (fun k=>k.elim h (fun k=>k hr)),if_neg h]
def aLj (a b c:WinP) (x0 x1 y0 y:Int):List SpP:=if ar a b c=0 then [] else bL a b c x0 x1 y0 y
def gS (a b c:WinP) (x0 x1 y:Int):Int×Int:=if ar a b c=0 then (0,0) else (spF a b c x0 y,spT a b c x0 x1 y)
theorem aD8 (a b c:WinP) (x0 x1 y0 y:Int) (h:y0<=y):aLj a b c x0 x1 y0 (y+1)=aLj a b c x0 x1 y0 y++(if (gS a b c x0 x1 y).1<(gS a b c x0 x1 y).2 then [⟨y,(gS a b c x0 x1 y).1,(gS a b c x0 x1 y).2⟩] else []):=by
 unfold aLj gS
 by_cases h0:ar a b c=0
 ·simp[h0]
 ·simp only[if_neg h0];rw[i7 _ _ _ _ _ _ _ h];rfl
theorem aB2 (a b c:WinP) (x0 x1 y0:Int):aLj a b c x0 x1 y0 y0=[]:=by
 unfold aLj bL;rw[aEi (Int.le_refl _)];simp
theorem aEh (a b c:WinP) {x0 x1 y x:Int} (h0:x0<=x) (h1:x<x1):cO a b c x y↔((gS a b c x0 x1 y).1<=x/\x<(gS a b c x0 x1 y).2):=by
 unfold gS
 by_cases h:ar a b c=0
 ·rw[if_pos h];exact ⟨fun k=>absurd h k.1,fun k=>by simp only at k;omega⟩
 ·rw[if_neg h];exact aNz h h0 h1
theorem tI (a b c:WinP) (x0 x1 y:Int) (hl:(gS a b c x0 x1 y).1<(gS a b c x0 x1 y).2):x0<=(gS a b c x0 x1 y).1/\(gS a b c x0 x1 y).2<=x1:=by
 unfold gS at *
 by_cases h:ar a b c=0
 ·rw[if_pos h] at hl;simp at hl
 ·rw[if_neg h] at hl ⊢;simp only at *;have k1:=(dS h x0 x1 (spF a b c x0 y) y).1 ⟨Int.le_refl _,hl⟩;have k2:=(dS h x0 x1 (spT a b c x0 x1 y-1) y).1 ⟨by omega,by omega⟩;omega
def aG6 (a b c:WinP) (o x0 x1 y0 y:Int):List FrP:=bF a b c o (aLj a b c x0 x1 y0 y)
theorem aCx (a b c:WinP) (o x0 x1 y0:Int):aG6 a b c o x0 x1 y0 y0=[]:=by
 unfold aG6;rw[aB2];rfl
theorem aG4 (a b c:WinP) (o x0 x1 y0 y:Int) (h:y0<=y):aG6 a b c o x0 x1 y0 (y+1)=aG6 a b c o x0 x1 y0 y++uZ a b c o y (gS a b c x0 x1 y).1 (gS a b c x0 x1 y).2 x1:=by
 unfold aG6;rw[aD8 _ _ _ _ _ _ _ h,iN,aJh _ _ _ _ _ _ _ _ fun k=>(tI a b c x0 x1 y k).2]
theorem tV (a b c:WinP) (o x0 x1 y0 y:Int) (hx:x0<=x1):(aG6 a b c o x0 x1 y0 y).length<=(x1-x0).toNat * (y-y0).toNat:=by
 unfold aG6 aLj
 split
 ·show ([]:List FrP).length<=_;simp
 ·next h=>exact sR a b c o x0 x1 y0 y h hx
theorem aG5 (a b c:WinP) (o x0 x1 y0 y1 y x:Int) (hx:x0<=x1) (h0:y0<=y) (h1:y<y1):(aG6 a b c o x0 x1 y0 y++uZ a b c o y (gS a b c x0 x1 y).1 (gS a b c x0 x1 y).2 x).length<=(x1-x0).toNat * (y1-y0).toNat:=by
 have k1:=tV a b c o x0 x1 y0 y hx;have k2:=aJg a b c o y (gS a b c x0 x1 y).1 (gS a b c x0 x1 y).2 x0 x1 x (tI a b c x0 x1 y);have k3:(x1-x0).toNat * ((y-y0).toNat+1)<=(x1-x0).toNat * (y1-y0).toNat:=Nat.mul_le_mul_left _ (by omega);rw[Nat.mul_succ] at k3;rw[List.length_append];omega
theorem vZ (a b c:WinP) (o x0 y0 x1 y1:Int) (hr:aM x0 y0 x1 y1):eW a b c o x0 y0 x1 y1=aG6 a b c o x0 x1 y0 y1:=by
 unfold eW aG6 aLj;rw[rV a b c x0 y0 x1 y1 hr]
theorem aJk (a b c:WinP) (o x0 y0 x1 y1:Int) (hr:¬aM x0 y0 x1 y1) (w:World):Calls prog 51 #[a.v,b.v,c.v,o,R4 x0 y0 x1 y1] w (cS frK w (eW a b c o x0 y0 x1 y1)):=by
 have e:eW a b c o x0 y0 x1 y1=[]:=by unfold eW dL;rw[if_pos (.inr hr)];rfl
 rw[e];have HR:=jj (fun w=>decide_eq_false hr▸bQ x0 y0 x1 y1 w);clear hr e
 go_enter func51,ntmps51
 go_wp2_with (first|(go_at_call 38;with_reducible refine jn (HR.out _) fun X_=>?_))
 go_ret;exact ⟨_,rfl,bJ _,jz (by exact bl_)⟩
theorem aJl (a b c:WinP) (o x0 y0 x1 y1:Int) (ha:a.fits) (hb:b.fits) (hc:c.fits) (o0:-33554432<=o) (o1:o<=33554432) (hr:aM x0 y0 x1 y1) (har:(x1-x0).toNat * (y1-y0).toNat<=1048576) (w:World) :
  Calls prog 51 #[a.v,b.v,c.v,o,R4 x0 y0 x1 y1] w (cS frK w (eW a b c o x0 y0 x1 y1)):=by
 rw[vZ a b c o x0 y0 x1 y1 hr];have HR:=jj (fun w=>decide_eq_true hr▸bQ x0 y0 x1 y1 w);obtain ⟨⟨r0,r1⟩,⟨r2,r3⟩,⟨r4,r5⟩,⟨r6,r7⟩,rx,ry⟩:=hr;have HA:=jj (fun x y (hx:Near x y) w=>aCb a b c x y ha hb hc hx w);have HAT:=jj (fun x y (hx:Near x y) (h:cO a b c x y) w=>aEz ha hb hc hx h w);have HZ:=jj (fun x y (h:cO a b c x y)=>aQ0 ha hb hc h);have HI:=jj (fun x y h0 h1=>aEh a b c (x0:=x0) (x1:=x1) (x:=x) (y:=y) h0 h1);have HIN:=jj (fun y hl=>tI a b c x0 x1 y hl);have HSN:=jj (fun y h=>aG4 a b c o x0 x1 y0 y h);have HST:=jj (aCx a b c o x0 x1 y0);have HSL:=jj (fun y=>Nat.le_trans (tV a b c o x0 x1 y0 y (by omega)) (Nat.le_refl _));have HSL2:=jj (fun y x h0 h1=>Nat.le_trans (aG5 a b c o x0 x1 y0 y1 y x (by omega) h0 h1) har);have HAR:=jj har;obtain ⟨T,hT⟩:∃ T,T=aG6 a b c o x0 x1 y0:=⟨_,rfl⟩;obtain ⟨D,hD⟩:∃ D,D=gS a b c x0 x1:=⟨_,rfl⟩;simp only[<-hT,<-hD] at *;clear hT hD ha hb hc har
 go_enter func51,ntmps51
 go_upto_region 3 with (first|(go_at_call 38;with_reducible refine jn (HR.out _) fun X_=>?_))
 refine aE (F:=BxH frK 73 w a b c x0 y0 x1 y1 (.slice none 0 0) []) (Hold.start (List.forall_mem_cons.2 ⟨by exact rx_,List.forall_mem_cons.2 ⟨by exact rx_,List.forall_mem_cons.2 ⟨by exact rx_,List.forall_mem_cons.2 ⟨by exact rx_,by simp⟩⟩⟩⟩) (by simp) (jz (by exact bl_))) ?_;intro w1 h1;have H1:=jj h1;clear h1;obtain ⟨i0,hii,hz0,hz1,hz2⟩:=info_parts qG;have d0:=H1.out.rows _ (jk (jk (jk jq)));simp only at d0;have d1:=d0.cell;have d2:=d0.frozen;have d3:=d0.lt;clear d0;go_wp2;clear d1 d2 d3;go_loopw [12,11] (fun i u wr=>∃ (y:Int) (v:Value) (L:List FrP),y0<=y/\y<=y1/\i=.int .i64 y/\u=v/\Hid (L=T y)/\Hid (BxH frK 73 w a b c x0 y0 x1 y1 v L wr))
  (fun i _ _=>(y1-intOf i).toNat)
 case atStart=>exact ⟨y0,_,[],by omega,by omega,rfl,rfl,jj HST.out.symm,H1⟩
 case round =>
  clear H1;obtain ⟨y,v,L,hy0,hy1,rfl,hv,hL,hR⟩:=hrel;have hv:=hv.symm;subst hv;have d0:=hR.out.rows _ (jk (jk (jk jq)));simp only at d0;have d1:=d0.cell;have d2:=d0.frozen;have d3:=d0.lt;clear d0
  by_cases hlt:y<y1
  ·go_wp2;have SQ:=jj (HSN.out y (by omega));have DI:=jj (HIN.out y);have LE:=jj (fun x=>HSL2.out y x (by omega) hlt);obtain ⟨F,hF⟩:∃ F,(D y).1=F:=⟨_,rfl⟩;obtain ⟨G,hG⟩:∃ F,(D y).2=F:=⟨_,rfl⟩;have FI:=jj (fun x h0 h1=>HI.out x y h0 h1);simp only[hF,hG] at SQ DI FI LE;clear hF hG d1 d2 d3;have HP:=jj (show L=T y++uZ a b c o y F G x0 by rw[aB8 _ _ _ _ _ _ _ _ (fun h=>(DI.out h).1),List.append_nil];exact hL.out);go_loopw [13,11] (fun i u wr=>∃ (x:Int) (v:Value) (L:List FrP),x0<=x/\x<=x1/\i=.int .i64 x/\u=v/\Hid (L=T y++uZ a b c o y F G x)/\Hid (BxH frK 73 w a b c x0 y0 x1 y1 v L wr))
    (fun i _ _=>(x1-intOf i).toNat)
   case atStart=>exact ⟨x0,v,L,by omega,by omega,rfl,rfl,HP,hR⟩
   case round =>
    clear hR hL HP;obtain ⟨x,v,L,hx0,hx1,rfl,hv,hL,hR⟩:=hrel;have hv:=hv.symm;subst hv;have a0:=hR.out.rows _ jq;simp only at a0;have a1:=a0.cell;have a2:=a0.frozen;have a3:=a0.lt;clear a0;have b0:=hR.out.rows _ (jk jq);simp only at b0;have b1:=b0.cell;have b2:=b0.frozen;have b3:=b0.lt;clear b0;have c0:=hR.out.rows _ (jk (jk jq));simp only at c0;have c1:=c0.cell;have c2:=c0.frozen;have c3:=c0.lt;clear c0;have d0:=hR.out.rows _ (jk (jk (jk jq)));simp only at d0;have d1:=d0.cell;have d2:=d0.frozen;have d3:=d0.lt;clear d0
    by_cases hl2:x<x1
    ·obtain ⟨t,ht⟩:∃ t,decide (cO a b c x y)=t:=⟨_,rfl⟩;have HA1:=jj (fun w=>ht▸HA.out x y ⟨by omega,by omega,by omega,by omega⟩ w);have fi:=FI.out x (by omega) hl2;have HFI:=jj fi;have HT:=jj ht;clear fi ht;cases t
     ·have P2:=jj (show L=T y++uZ a b c o y F G (x+1) by rw[aM1 _ _ _ _ _ _ _ _ (fun k=>of_decide_eq_false HT.out (HFI.out.2 k))];exact hL.out)
      go_wp2_with (first|(go_at_call 90;with_reducible refine jn (HA1.out _) fun X_=>?_))
      go_roundw
      case rel=>exact ⟨x+1,_,L,by omega,by omega,rfl,rfl,P2,jj (hR.out.grow _)⟩
      case measure=>simp[intOf];omega
     ·have hth:=of_decide_eq_true HT.out;have hk:=HFI.out.1 hth;have A0:=HAT.out x y ⟨by omega,by omega,by omega,by omega⟩ hth;simp only[atP] at A0;have P2:=jj (show T y++uZ a b c o y F G (x+1)=L++[aIp a b c o x y] by rw[aJf _ _ _ _ _ _ _ _ hk,<-List.append_assoc,<-hL.out]);obtain ⟨zb0,zb1⟩:=HZ.out x y hth;have P3:=jj (show aIp a b c o x y=⟨x,y,max 0 (min (atV a b c x y (·.z)+o) 16777215),atV a b c x y (·.c0),atV a b c x y (·.c1),atV a b c x y (·.c2),atV a b c x y (·.c3),64⟩ from rfl);generalize atV a b c x y (·.z)=zz at *;generalize atV a b c x y (·.c0)=g0 at *;generalize atV a b c x y (·.c1)=g1 at *;generalize atV a b c x y (·.c2)=g2 at *;generalize atV a b c x y (·.c3)=g3 at *;have A1:=jj A0;clear A0;have le:=LE.out x;rw[<-hL.out] at le;have LB1:=jj (show L.length+1<=maxLen by unfold maxLen;omega);have LB2:=jj (show (L.length+1)*64<=140737488355328 by omega);clear hth hk le;go_upto_region 12 with (first
       |(go_at_call 90;(with_reducible refine (HA1.out _).mono ?_);rintro _ _ ⟨rfl,XH,rfl⟩)
       |(go_at_call 91;(with_reducible refine (A1.out _).mono ?_);rintro _ _ ⟨rfl,XT,rfl⟩))
      refine aE (F:=fun w5=>∃ B,B=wr.heap.size+XH.sz+XT.sz/\Row w5 B #[g0,g1,g2,g3] 43/\BxH frK 73 w a b c x0 y0 x1 y1 v L w5) ⟨_,rfl,by exact rx_,hR.out.grown (by exact bl_)⟩ ?_;rintro w5 ⟨B,hB,hs,h2⟩;rw[<-hB];have hR2:=jj h2;have e1:=hs.cell;have e2:=hs.frozen;have e3:=hs.lt;have hsz:=hR2.out.size;clear hB hs h2 hR a1 a2 a3 b1 b2 b3 c1 c2 c3 d1 d2 d3
      go_wp2_with (first
       |(at_builtin;refine wpList_append_own _ rfl _ _ 36 rfl w.heap.size 73 i0 (.agg #[.int .i64 0,.int .i64 0,.int .i64 0,.int .i64 0,.int .i64 0,.int .i64 0,.int .i64 0,.int .i64 0]) 8 64 Tryz.underlying36 hii hz0 hz1 hz2 rfl (by decide) v L.length (L.flatMap FrP.cells) rfl (hR2.out.own.alloc _) ⟨w5.heap.size,0,none⟩ 1 1 (FrP.cells ⟨x,y,max 0 (min (zz+o) 16777215),g0,g1,g2,g3,64⟩) rfl rfl (cF rfl _ _) (frK.one ⟨x,y,max 0 (min (zz+o) 16777215),g0,g1,g2,g3,64⟩) LB1.out LB2.out (by simp;omega) ?_;intro v' w6 hown hgrow _;have h5:=hR2.out.snoc (s:=⟨x,y,max 0 (min (zz+o) 16777215),g0,g1,g2,g3,64⟩) hown hgrow;have H5:=jj h5;clear hown hgrow h5))
      go_roundw
      case rel=>exact ⟨x+1,_,L++[⟨x,y,max 0 (min (zz+o) 16777215),g0,g1,g2,g3,64⟩],by omega,by omega,rfl,rfl,jj (by rw[P2.out,P3.out]),H5⟩
      case measure=>simp[intOf];omega
    ·obtain rfl:x=x1:=by omega
     have P2:=jj (show L=T (y+1) by rw[SQ.out];exact hL.out);go_wp2;go_roundw
     case rel=>exact ⟨y+1,_,L,by omega,by omega,rfl,rfl,P2,hR⟩
     case measure=>simp[intOf];omega
  ·obtain rfl:y=y1:=by omega
   go_wp2;go_ret;refine ⟨_,rfl,?_,hR.out.ext⟩;rw[<-hL.out];exact cM hR.out.own (by rw[hL.out];have:=HSL.out y;have:=HAR.out;omega)
theorem uS (a b c:WinP) (x0 y0 x1 y1:Int) (ha:a.fits) (hb:b.fits) (hc:c.fits) (w:World):Calls prog 121 #[a.v,b.v,c.v,R4 x0 y0 x1 y1] w (cS spK w (dL a b c x0 y0 x1 y1)):=by
 by_cases h:ar a b c=0
 ·exact aD6 a b c x0 y0 x1 y1 ha hb hc h w
 ·by_cases hr:aM x0 y0 x1 y1
  ·exact aI3 a b c x0 y0 x1 y1 ha hb hc h hr w
  ·exact aD5 a b c x0 y0 x1 y1 ha hb hc h hr w
end Go.Proofs.YthcjfanigfgckaaGreat
