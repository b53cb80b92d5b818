import Derived.Deep.AppendSrc
import Derived.Room.Entries
import Derived.Test.YthcjfanigfgckaaGreatSHiddenOrder03
import Derived.Test.YthcjfanigfgckaaGreatSHiddenOrder16
set_option linter.unusedVariables false
set_option linter.unusedSimpArgs false
set_option maxRecDepth 100000
set_option maxHeartbeats 16000000
section
namespace Go
section
variable {P:Program} {ops:Array Oper} {md:Region.Mode} {C:World->Prop}
def Only (R:Act->World->Prop):Exit->Act->World->Prop:=fun e a w=>e=.normal/\R a w
theorem only_lets {R:Act->World->Prop}:¬LetsOut (Only R):=fun ⟨_,_,h⟩=>by cases h.1
theorem unit_run {s:Sem Unit} {w w':World} {n:Next} (h:(s >>= fun _=>pure Next.skip:Sem Next).run P w=.ok n w'):n=.skip:=by
 rw[Sem.run_bind] at h;cases hs:s.run P w with
 |ok v w2=>rw[hs] at h;simp[Result.andThen] at h;exact h.1.symm
 |halt x w2=>rw[hs] at h;simp[Result.andThen] at h
def Oper.isStore (o:Oper):Bool:=match o.op with | .store ..=>o.dst.isNone&&o.guard.isNone|_=>false
def Oper.isExtract (o:Oper):Bool:=match o.op with | .extract ..=>o.guard.isNone|_=>false
theorem store_only {s:Oper} (hs:s.isStore=true) {R:Act->World->Prop} {a:Act} {w:World} (h:wpList P ops (Only R) [s] a w):∃ w',(execOp a.eval s).run P w=.ok .skip w'/\R a w':=by
 obtain ⟨dst,op,type,pos,after,guard⟩:=s;cases op<;>simp only[Oper.isStore,Bool.false_eq_true,Bool.and_eq_true,Option.isNone_iff_eq_none] at hs
 obtain ⟨rfl,rfl⟩:=hs;simp only[wpList,Region.wanted,if_true] at h;rcases h with h|⟨-,h⟩
 ·unfold Oper.wp at h;cases hr:(execOp a.eval _).run P w with
  |ok n w' =>
   rw[hr] at h;have:n=.skip:=by simp only[execOp] at hr;exact unit_run hr
   subst this;exact ⟨w',rfl,h.2⟩
  |halt x w' =>
   rw[hr] at h;cases x<;>simp only[Oper.upon] at h
   cases h.1
 ·exact absurd h only_lets
theorem extract_pure {x:Value} {k:Nat} {w w':World} {v:Value} (h:Oper.quietUpon P C w v ((do pure (Next.value (<-Instr.extract x k)):Sem Next).run P w)):((do pure (Next.value (<-Instr.extract x k)):Sem Next).run P w')=.ok (.value v) w':=by
 cases x
 case tuple vs =>
  cases hk:vs[k]? with
  |some u =>
   simp only[Instr.extract,hk,Sem.run_bind,Sem.run_pure,Result.andThen_ok,Oper.quietUpon] at h ⊢;rw[h.2]
  |none=>simp[Instr.extract,hk,stuck,Oper.quietUpon,Sem.run_bind,Result.andThen] at h
 all_goals simp[Instr.extract,stuck,Oper.quietUpon,Sem.run_bind,Result.andThen] at h
theorem extract_any {o:Oper} (ho:o.isExtract=true) {a:Act} {v:Value} {w:World} (hw:C w) (hy:YieldsIn P ops C o v a) (w':World):(execOp a.eval o).run P w'=.ok (.value v) w':=by
 obtain ⟨dst,op,type,pos,after,guard⟩:=o;cases op<;>simp only[Oper.isExtract,Bool.false_eq_true,Option.isNone_iff_eq_none] at ho
 subst ho;rcases hy with ⟨-,h⟩|⟨h,-⟩
 ·have:=h w hw;unfold Oper.quietAt at this;simp only[execOp] at this ⊢;exact extract_pure this
 ·simp[Region.wanted] at h
def floatB (md:Region.Mode) (ops:Array Oper) (n d:Nat):Bool :=
 decide (ops.size=n+1)&&decide (d<n)&&((List.range n).all fun i=>decide (i=d) || Region.waitsFor md ops n i)&&((ops[n]?).map Oper.isStore).getD false&&((ops[d]?).map Oper.isExtract).getD false &&
  (match ops[n]?,ops[d]? with|some s,some o=>(match o.dst with|some t=>!(s.looksAt ops).contains t|none=>false)|_,_=>false)
structure FloatOk (md:Region.Mode) (ops:Array Oper) (n d:Nat) (s o:Oper):Prop where
 size:ops.size=n+1
 lt:d<n
 waits:∀ i,i<n->i≠d->Region.waitsFor md ops n i=true
 hs:ops[n]?=some s
 ho:ops[d]?=some o
 st:s.isStore=true
 ex:o.isExtract=true
 apart:∀ t∈s.looksAt ops,o.dst≠some t
theorem floatOk_of {n d:Nat} (h:floatB md ops n d=true):∃ s o,FloatOk md ops n d s o:=by
 simp only[floatB,Bool.and_eq_true,decide_eq_true_eq] at h;obtain ⟨⟨⟨⟨⟨h1,h2⟩,h3⟩,h4⟩,h5⟩,h6⟩:=h;cases hs:ops[n]? with
 |none=>rw[hs] at h4;cases h4
 |some s =>
  cases ho:ops[d]? with
  |none=>rw[ho] at h5;cases h5
  |some o =>
   rw[hs] at h4;rw[ho] at h5;rw[hs,ho] at h6;refine ⟨s,o,h1,h2,fun i hi hne=>?_,hs,ho,h4,h5,fun t ht e=>?_⟩
   ·have:=List.all_eq_true.1 h3 i (List.mem_range.2 hi);simp only[Bool.or_eq_true,decide_eq_true_eq] at this;exact this.resolve_left hne
   ·simp only[e] at h6;simp only[Bool.not_eq_true',List.contains_eq_mem,decide_eq_false_iff_not] at h6;exact h6 ht
section
variable {n d:Nat} {s o:Oper} (F:FloatOk md ops n d s o)
theorem FloatOk.waits_ready {listed:Array Bool} (F:FloatOk md ops n d s o) (hr:n∈Region.ready md ops listed) {i:Nat} (hi:i<n) (hne:i≠d):listed.getD i false=true:=by
 obtain ⟨_,os,hos,hall⟩:=mem_ready.1 hr;obtain ⟨oj,hoj,e,he,hb,hon⟩:=Region.waitsFor_spec (F.waits i hi hne);have:oj=os:=Option.some.inj (hoj.symm.trans hos);subst this;have:=hall e he hb
 rwa [hon] at this
theorem FloatOk.early (F:FloatOk md ops n d s o) {Q:Exit->Act->World->Prop} {listed:Array Bool} {a:Act} {v:Value} {w w0:World} (hC:C w0) (hy:YieldsIn P ops C o v a) (hsz:listed.size=ops.size)
  (hn:n∈Region.ready md ops listed) (hd:d∈Region.ready md ops listed) (h:wpList P ops (Only (Q .normal)) [s] (a.put o.dst v) w):wpOp P ops Q n (wpAny P md ops Q 1 (listed.setIfInBounds n true)) a w:=by
 obtain ⟨w',hrun,hR⟩:=store_only F.st h;have hsel:∀ cs b,s.op≠.select cs b:=fun cs b e=>by have:=F.st;unfold Oper.isStore at this;rw[e] at this;cases this
 have hag:∀ t∈s.looksAt ops,a.tmps[t]?=(a.put o.dst v).tmps[t]?:=fun t ht=>by
  have hne:=F.apart t ht;unfold Act.put;cases hdst:o.dst with
  |none=>rfl
  |some q =>
   have:q≠t:=fun e=>hne (by rw[hdst,e])
   simp only[Array.getElem?_setIfInBounds_ne this]
 have hex:=exec_agree (ops:=ops) hsel hag;have hdst:s.dst=none:=by
  have:=F.st;unfold Oper.isStore at this;split at this
  ·simp only[Bool.and_eq_true,Option.isNone_iff_eq_none] at this;exact this.1
  ·cases this
 have hgs:s.guard=none:=by
  have:=F.st;unfold Oper.isStore at this;split at this
  ·simp only[Bool.and_eq_true,Option.isNone_iff_eq_none] at this;exact this.2
  ·cases this
 have hgo:o.guard=none:=by
  have:=F.ex;unfold Oper.isExtract at this;split at this
  ·simpa using this
  ·cases this
 have hdn:d≠n:=by have:=F.lt;omega
 unfold wpOp;simp only[F.hs,Region.wanted,hgs,if_true];refine .inl ?_;unfold Oper.wp;rw[hex,hrun,Oper.upon_skip,hdst];change wpAny P md ops Q 1 (listed.setIfInBounds n true) a w';have hd':d∈Region.ready md ops (listed.setIfInBounds n true):=ready_mono hd hdn;refine ⟨fun h0=>(by rw[h0] at hd';cases hd'),fun i hi=>?_⟩;obtain ⟨hun,oi,hoi,-⟩:=mem_ready.1 hi;have hil:i<ops.size:=(Array.getElem?_eq_some_iff.1 hoi).1;have hin:i≠n:=fun e=>by
  subst e;have:(listed.setIfInBounds i true).getD i true=true:=by
   rw[Array.getD_eq_getD_getElem?,Array.getElem?_setIfInBounds_self_of_lt (by rw[hsz];exact hil)];rfl
  rw[this] at hun;cases hun
 have hid:i=d:=Classical.byContradiction fun hne=>by
  have hi':i<n:=by have:=F.size;omega
  have h1:=F.waits_ready hn hi' hne;rw[getD_set_ne true (Ne.symm hin)] at hun;have h2:=getD_both hun;rw[h1] at h2;cases h2
 subst hid;unfold wpOp;simp only[F.ho,Region.wanted,hgo,if_true];refine .inl ?_;unfold Oper.wp;rw[extract_any F.ex hC hy w',Oper.upon_value];refine ⟨?_,hR⟩;refine List.eq_nil_iff_forall_not_mem.2 fun j hj=>?_
 obtain ⟨hju,oj,hoj,-⟩:=mem_ready.1 hj;have hjl:j<ops.size:=(Array.getElem?_eq_some_iff.1 hoj).1;have hji:j≠i:=fun e=>by
  subst e;have:((listed.setIfInBounds n true).setIfInBounds j true).getD j true=true:=by
   rw[Array.getD_eq_getD_getElem?,Array.getElem?_setIfInBounds_self_of_lt (by simp;rw[hsz];exact hjl)];rfl
  rw[this] at hju;cases hju
 rw[getD_set_ne true (Ne.symm hji)] at hju
 by_cases hjn:j=n
 ·subst hjn;have:(listed.setIfInBounds j true).getD j true=true:=by
   rw[Array.getD_eq_getD_getElem?,Array.getElem?_setIfInBounds_self_of_lt (by rw[hsz];exact hjl)];rfl
  rw[this] at hju;cases hju
 ·rw[getD_set_ne true (Ne.symm hjn)] at hju;have h1:=F.waits_ready hn (by have:=F.size;omega) hji;have h2:=getD_both hju;rw[h1] at h2;cases h2
end
def headF (P:Program) (md:Region.Mode) (ops:Array Oper) (C:World->Prop) (n d:Nat) (L:Array Bool->Act->Prop) (E:Array Bool->Act->Prop):Nat->Array Bool->Act->Prop
 |0,done,a=>L done a
 |f+1,done,a=>Region.ready md ops done≠[]/\∀ i∈Region.ready md ops done,(i<n/\qOp P ops C i (headF P md ops C n d L E f (done.setIfInBounds i true)) a)\/(i=n/\f=0/\done.getD d true=false/\E done a)
theorem wpAny_of_headF {n d:Nat} {L E:Array Bool->Act->Prop} {Q:Exit->Act->World->Prop} (hL:∀ done a w,C w->L done a->wpAny P md ops Q 1 done a w)
  (hE:∀ done a w,C w->E done a->wpOp P ops Q n (wpAny P md ops Q 1 (done.setIfInBounds n true)) a w) (f:Nat) :
  ∀ (done:Array Bool) (a:Act) (w:World),C w->headF P md ops C n d L E f done a->wpAny P md ops Q (f+1) done a w:=by
 induction f with
 |zero=>intro done a w hw h;exact hL _ _ _ hw h
 |succ f ih =>
  intro done a w hw h;refine ⟨fun h0=>absurd h0 h.1,fun i hi=>?_⟩;rcases h.2 i hi with ⟨_,hq⟩|⟨rfl,rfl,_,he⟩
  ·exact wpOp_of_qOp hw (fun a' w' hw' h'=>ih _ a' w' hw' h') hq
  ·exact hE _ _ _ hw he
theorem headF_first {n d i:Nat} {s od o:Oper} {v:Value} {L E:Array Bool->Act->Prop} (F:FloatOk md ops n d s od) (hi:ops[i]?=some o) (hsel:Region.noSelect ops=true) (hin:i<n)
  (hL:∀ done a,L done a->∀ j∈Region.ready md ops done,n<=j)
  (hE:∀ done a v,HeadInv md ops n done->n∈Region.ready md ops done->d∈Region.ready md ops done->YieldsIn P ops C od v a->L (done.setIfInBounds d true) (a.put od.dst v)->E done a) (f:Nat) :
  ∀ (done:Array Bool) (a:Act),HeadInv md ops n done ->
   (∀ j oj,ops[j]?=some oj->j≠i->done.getD j true=false->(∀ e∈oj.after,Region.binds md e=true->e.on≠i)->o.apart ops oj=true) ->
   i∈Region.ready md ops done->YieldsIn P ops C o v a->headF P md ops C n d L E f (done.setIfInBounds i true) (a.put o.dst v)->headF P md ops C n d L E (f+1) done a:=by
 have nosel:=fun (j:Nat) (o:Oper) cs b (h:ops[j]?=some o)=>Region.noSelect_spec hsel j o cs b h
 have hlt:∀ (done:Array Bool) j,j∈Region.ready md ops done->j<n\/j=n:=fun done j hj=>by
  obtain ⟨_,oj,hoj,_⟩:=mem_ready.1 hj;have:=(Array.getElem?_eq_some_iff.1 hoj).1;have:=F.size;omega
 have hdn:=F.lt
 induction f with
 |zero =>
  intro done a inv _ hr hy H;refine ⟨fun h=>(by rw[h] at hr;cases hr),fun j hj=>?_⟩;rcases hlt done j hj with hjn|hjn
  ·by_cases e:j=i
   ·subst e;exact .inl ⟨hjn,hy.qOp hi H⟩
   ·have:=hL _ _ H j (ready_mono hj e);omega
  ·subst hjn;have hid:i=d:=Classical.byContradiction fun hne=>by
    have h1:=F.waits_ready hj hin hne;have h2:=getD_both (mem_ready.1 hr).1;rw[h1] at h2;cases h2
   subst hid;obtain rfl:o=od:=Option.some.inj (hi.symm.trans F.ho);exact .inr ⟨rfl,rfl,(mem_ready.1 hr).1,hE _ _ _ inv hj hr hy H⟩
 |succ f ih =>
  intro done a inv hfree hr hy H;refine ⟨fun h=>(by rw[h] at hr;cases hr),fun j hj=>?_⟩;rcases hlt done j hj with hjn|hjn
  ·by_cases e:j=i
   ·subst e;exact .inl ⟨hjn,hy.qOp hi H⟩
   ·obtain ⟨hjun,oj,hoj,hall⟩:=mem_ready.1 hj;have hun:=(mem_ready.1 hr).1;have hnot:∀ e∈oj.after,Region.binds md e=true->e.on≠i:=fun e he hb heq=>by
     have h1:=hall e he hb;rw[heq,getD_both hun] at h1;cases h1
    rcases H.2 j (ready_mono hj e) with ⟨_,hq⟩|⟨hjn',_⟩
    ·have h2:=qOp_put hoj (hfree j oj hoj e hjun hnot) (fun cs b=>nosel i o cs b hi) (fun cs b=>nosel j oj cs b hoj) hy hq;refine .inl ⟨hjn,qOp_mono (fun a' h3=>ih (done.setIfInBounds j true) a' (inv.set hj hjn) (fun k ok hk hki hku hno=>?_) (ready_mono hr (Ne.symm e)) h3.1 ?_) h2⟩
     ·refine hfree k ok hk hki ?_ hno
      by_cases hjk:j=k
      ·subst hjk;exact hjun
      ·rw[getD_set_ne true hjk] at hku;exact hku
     ·rw[Array.setIfInBounds_comm _ _ e];exact h3.2
    ·omega
  ·subst hjn;have hid:i=d:=Classical.byContradiction fun hne=>by
    have h1:=F.waits_ready hj hin hne;have h2:=getD_both (mem_ready.1 hr).1;rw[h1] at h2;cases h2
   subst hid;have hj':j∈Region.ready md ops (done.setIfInBounds i true):=ready_mono hj (by omega);have hil:i<done.size:=by rw[inv.size];exact (Array.getElem?_eq_some_iff.1 hi).1
   have hdd:(done.setIfInBounds i true).getD i true=true:=by
    rw[Array.getD_eq_getD_getElem?,Array.getElem?_setIfInBounds_self_of_lt hil];rfl
   rcases H.2 j hj' with ⟨hjn,_⟩|⟨_,_,hk,_⟩
   ·omega
   ·rw[hdd] at hk;cases hk
theorem headF_lex {n d:Nat} {s od:Oper} {K:Act->Prop} {E:Array Bool->Act->Prop} (F:FloatOk md ops n d s od) (hsel:Region.noSelect ops=true)
  (hE:∀ done a v,HeadInv md ops n done->n∈Region.ready md ops done->d∈Region.ready md ops done->YieldsIn P ops C od v a->(Region.seqB md ops 1 n (done.setIfInBounds d true)=true/\K (a.put od.dst v))->E done a) (l:List Oper) :
  ∀ (k:Nat) (done:Array Bool) (a:Act),(∀ j,j<l.length->l[j]?=ops[k+j]?)->k+l.length=n->HeadInv md ops n done ->
  Region.lexHead md ops 1 l.length k done=true->wpQuiet P ops C K l a ->
  headF P md ops C n d (fun done' a'=>Region.seqB md ops 1 n done'=true/\K a') E l.length done a:=by
 induction l with
 |nil =>
  intro k done a _ hk _ hB h;obtain rfl:k=n:=by simpa using hk
  exact ⟨by simpa [Region.lexHead] using hB,h⟩
 |cons o l ih =>
  intro k done a hl hk inv hB h;have h0:ops[k]?=some o:=by simpa using (hl 0 (by simp)).symm
  simp only[List.length_cons,Region.lexHead,Bool.and_eq_true] at hB;obtain ⟨⟨hr,hf⟩,hB'⟩:=hB;have hkn:k<n:=by simp only[List.length_cons] at hk;omega
  have hr':k∈Region.ready md ops done:=by simpa using hr
  have hq:qOp P ops C k (wpQuiet P ops C K l) a:=by unfold qOp;simp only[h0];exact h
  obtain ⟨v,hy,hK⟩:=yieldsIn_of_qOp h0 hq;refine headF_first F h0 hsel hkn (fun done' a' hL=>seqB_ready hL.1) hE l.length done a inv (Region.free_spec h0 hf) hr' hy ?_;exact ih (k+1) _ _ (fun j hj=>by have:=hl (j+1) (by simp;omega);simpa [Nat.add_assoc,Nat.add_comm 1 j] using this) (by simp only[List.length_cons] at hk;omega) (inv.set hr' hkn) hB' hK
def lexFloatB (md:Region.Mode) (ops:Array Oper) (n d:Nat):Bool:=Region.noSelect ops&&floatB md ops n d&&Region.lexHead md ops 1 n 0 (Array.replicate ops.size false)
theorem wp_region_ext_float {id:Nat} {Q:Exit->Act->World->Prop} {a:Act} {w:World} {l:List Oper} (n d:Nat) (hm:P.follows .mixedOrders=true) (hB:lexFloatB .any l.toArray n d=true)
  (h:wpQuiet P l.toArray (fun w'=>∃ X,w'=w.ext X) (fun a'=>∀ w',(∃ X,w'=w.ext X)->wpList P l.toArray (Only (Q .normal)) (l.drop n) a' w') (l.take n) a):(Code.region id l.toArray true).wp P Q a w:=by
 simp only[lexFloatB,Bool.and_eq_true] at hB;obtain ⟨⟨hsel,hfl⟩,hlex⟩:=hB;obtain ⟨s,od,F⟩:=floatOk_of hfl;have hsz:l.length=n+1:=by simpa using F.size
 have htl:(l.take n).length=n:=by simp;omega
 have hs:l[n]?=some s:=by simpa using F.hs
 have hdrop:l.drop n=[s]:=by
  have hnl:n<l.length:=by omega
  rw[List.drop_eq_getElem_cons hnl];have:l[n]=s:=by rw[List.getElem?_eq_getElem hnl] at hs;exact Option.some.inj hs
  rw[this,List.drop_eq_nil_of_le (by omega)]
 rw[hdrop] at h;have hC0:(fun w'=>∃ X,w'=w.ext X) { w with drawn:=w.drawn+1 }:=⟨⟨#[],w.drawn+1⟩,by simp[World.ext]⟩;have inv0:HeadInv .any l.toArray n (Array.replicate l.toArray.size false) :=
  ⟨by simp,fun j oj _ hl=>(by rw[getD_replicate_false] at hl;cases hl),fun t _ ht=>getD_in (by simpa using ht) (getD_replicate_false _ _)⟩
 have H:=headF_lex (md:=.any) (K:=fun a'=>∀ w',(∃ X,w'=w.ext X)->wpList P l.toArray (Only (Q .normal)) [s] a' w') (E:=fun done a'=>∀ w',(∃ X,w'=w.ext X)->wpOp P l.toArray Q n (wpAny P .any l.toArray Q 1 (done.setIfInBounds n true)) a' w') F hsel
  (fun done a' v inv hn hd hy hL w' hw'=>F.early hC0 hy inv.size hn hd (hL.2 w' hw')) (l.take n) 0 _ a (fun j hj=>by
  rw[htl] at hj;simp[hj]) (by simpa using htl) inv0 (by rw[htl];exact hlex) h
 refine wp_region_any hm ?_;have:=wpAny_of_headF (Q:=Q) (fun done a' w' hw' hL=>by
  obtain ⟨w2,hrun,hR⟩:=store_only F.st (hL.2 w' hw');have hwl:wpList P l.toArray Q [s] a' w':=by
   have hdst:s.dst=none:=by
    have:=F.st;unfold Oper.isStore at this;split at this
    ·simp only[Bool.and_eq_true,Option.isNone_iff_eq_none] at this;exact this.1
    ·cases this
   have hgs:s.guard=none:=by
    have:=F.st;unfold Oper.isStore at this;split at this
    ·simp only[Bool.and_eq_true,Option.isNone_iff_eq_none] at this;exact this.2
    ·cases this
   simp only[wpList,Region.wanted,hgs,if_true];refine .inl ?_;unfold Oper.wp;rw[hrun,Oper.upon_skip,hdst];exact hR
  exact wpAny_of_seq (md:=.any) (Q':=Q) [s] n done a' w' (fun j=>by
   cases j with
   |zero=>simpa using F.hs.symm
   |succ j=>simp;omega) hL.1 hwl) (fun done a' w' hw' hE=>hE w' hw') _ _ _ { w with drawn:=w.drawn+1 } hC0 H
 rw[htl,show n+1=l.toArray.size by simp;omega] at this;exact this
end
end Go
end
namespace Go.Proofs.YthcjfanigfgckaaGreat
open Go.RowKit
section
def bt (l:List Int) (i:Nat):Int:=l.getD i 0
def bv:List Int->Int
 | []=>0
 |d::l=>d+2*bv l
def Bin (l:List Int):Prop:=∀ i,0<=bt l i/\bt l i<=1
theorem bt_nil (i:Nat):bt [] i=0:=by simp[bt]
theorem bt_zero (d:Int) (l:List Int):bt (d::l) 0=d:=rfl
theorem bt_succ (d:Int) (l:List Int) (i:Nat):bt (d::l) (i+1)=bt l i:=by simp[bt]
theorem Bin.tail {d:Int} {l:List Int} (h:Bin (d::l)):Bin l:=fun i=>by have:=h (i+1);rwa [bt_succ] at this
theorem Bin.head {d:Int} {l:List Int} (h:Bin (d::l)):0<=d/\d<=1:=h 0
theorem Bin.nil:Bin []:=fun i=>by rw[bt_nil];decide
theorem Bin.cons {l:List Int} (h:Bin l) {d:Int} (h0:0<=d) (h1:d<=1):Bin (d::l):=fun i=>by
 cases i with
 |zero=>exact ⟨h0,h1⟩
 |succ i=>rw[bt_succ];exact h i
theorem p2_succ (i:Nat):(2:Int)^(i+1)=2*2^i:=by rw[Int.pow_succ,Int.mul_comm]
theorem p2_pos (i:Nat):(0:Int)<2^i:=Int.pow_pos (by decide)
theorem bv_bd {l:List Int} (h:Bin l):0<=bv l/\bv l<2^l.length:=by
 induction l with
 |nil=>simp[bv]
 |cons e l ih =>
  have:=ih h.tail;have:=h.head;simp only[bv,List.length_cons,p2_succ];omega
theorem mod_step {l:List Int} (h:Bin l):∀ i,bv l%2^(i+1)=bv l%2^i+bt l i*2^i:=by
 induction l with
 |nil=>intro i;simp[bv,bt_nil]
 |cons e l ih =>
  intro i;have he:=h.head;have hi:=ih h.tail;simp only[bv];cases i with
  |zero=>rw[bt_zero];simp[Int.pow_succ];omega
  |succ i =>
   rw[bt_succ];have k:=hi i;have p:=p2_pos i;have e1:(e+2*bv l)%2^(i+1)=e+2*(bv l%2^i):=by
    rw[p2_succ];have m0:=Int.emod_nonneg (bv l) (show (2:Int)^i≠0 by omega);have m1:=Int.emod_lt_of_pos (bv l) p;have em:=Int.emod_add_mul_ediv (bv l) (2^i);have:e+2*bv l=(e+2*(bv l%2^i))+2*2^i*(bv l/2^i):=by
     have:2*2^i*(bv l/2^i)=2*(2^i*(bv l/2^i)):=by grind
     omega
    rw[this,Int.add_mul_emod_self_left,Int.emod_eq_of_lt (by omega) (by omega)]
   have e2:(e+2*bv l)%2^(i+1+1)=e+2*(bv l%2^(i+1)):=by
    rw[p2_succ (i+1)];have p':=p2_pos (i+1);have m0:=Int.emod_nonneg (bv l) (show (2:Int)^(i+1)≠0 by omega);have m1:=Int.emod_lt_of_pos (bv l) p';have em:=Int.emod_add_mul_ediv (bv l) (2^(i+1));have:e+2*bv l=(e+2*(bv l%2^(i+1)))+2*2^(i+1)*(bv l/2^(i+1)):=by
     have:2*2^(i+1)*(bv l/2^(i+1))=2*(2^(i+1)*(bv l/2^(i+1))):=by grind
     omega
    rw[this,Int.add_mul_emod_self_left,Int.emod_eq_of_lt (by omega) (by omega)]
   rw[e1,e2,k,p2_succ];have:bt l i*(2*2^i)=2*(bt l i*2^i):=by grind
   omega
theorem mod_all {l:List Int} (h:Bin l) {i:Nat} (hi:l.length<=i):bv l%2^i=bv l:=by
 have:=bv_bd h;refine Int.emod_eq_of_lt this.1 (Int.lt_of_lt_of_le this.2 ?_);obtain ⟨k,rfl⟩:=Nat.exists_eq_add_of_le hi;rw[Int.pow_add];have:=p2_pos k;have:=p2_pos l.length;have:=Int.mul_le_mul_of_nonneg_left (show (1:Int)<=2^k by omega) (show (0:Int)<=2^l.length by omega)
 rwa [Int.mul_one] at this
theorem div_step {l:List Int} (h:Bin l) (i:Nat):bv l/2^i=2*(bv l/2^(i+1))+bt l i:=by
 have s:=mod_step h i;have e1:=Int.emod_add_mul_ediv (bv l) (2^i);have e2:=Int.emod_add_mul_ediv (bv l) (2^(i+1));have p:=p2_pos i;rw[s,p2_succ] at e2;have e3:2^i*(bv l/2^i)=2^i*(2*(bv l/(2*2^i))+bt l i):=by
  have:2^i*(2*(bv l/(2*2^i))+bt l i)=2*2^i*(bv l/(2*2^i))+bt l i*2^i:=by grind
  omega
 rw[p2_succ];exact Int.eq_of_mul_eq_mul_left (by omega) e3
theorem div_all {l:List Int} (h:Bin l) {i:Nat} (hi:l.length<=i):bv l/2^i=0:=by
 have:=mod_all h hi;have e1:=Int.emod_add_mul_ediv (bv l) (2^i);have p:=p2_pos i;rw[this] at e1;have:2^i*(bv l/2^i)=0:=by omega
 rcases Int.mul_eq_zero.1 this with h|h
 ·omega
 ·exact h
def Can (l:List Int):Prop:=Bin l/\(0<l.length->bt l (l.length-1)=1)
theorem Can.low {l:List Int} (h:Can l) (hl:0<l.length):2^(l.length-1)<=bv l:=by
 have s:=div_step h.1 (l.length-1);rw[show l.length-1+1=l.length by omega,div_all h.1 (Nat.le_refl _),h.2 hl] at s;have p:=p2_pos (l.length-1);have:=(Int.le_ediv_iff_mul_le p).1 (show 1<=bv l/2^(l.length-1) by omega);omega
theorem Can.zero {l:List Int} (h:Can l):bv l=0↔l.length=0:=by
 constructor
 ·intro h0
  apply Classical.byContradiction
  intro hl;have:=h.low (by omega);have:=p2_pos (l.length-1);omega
 ·intro h0;rw[List.length_eq_zero_iff.1 h0];rfl
end
section
structure Rb (w:World) (v:Value) (l:List Int):Prop where
 bin:Bin l
 len:l.length<=1048576
 form:∃ a cap,v=.slice a l.length cap/\l.length<=cap/\cap<=maxLen/\(l=[]\/∃ b off,a=some ⟨b,off,none⟩/\b<w.heap.size/\∀ i,i<l.length->w.cell? ⟨b,off+i,none⟩=some (.int .u8 (bt l i)))
theorem Rb.ext {w:World} {v:Value} {l:List Int} (h:Rb w v l) (X:Xt):Rb (w.ext X) v l:=by
 obtain ⟨h0,h1,a,cap,rfl,h2,h3,h4⟩:=h;refine ⟨h0,h1,a,cap,rfl,h2,h3,?_⟩;rcases h4 with h4|⟨b,off,rfl,hb,hc⟩
 ·exact .inl h4
 ·exact .inr ⟨b,off,rfl,by simp;omega,fun i hi=>by rw[World.cell?_ext hb];exact hc i hi⟩
theorem Rb.drew {w:World} {v:Value} {l:List Int} (h:Rb w v l):Rb w.drew v l:=⟨h.1,h.2,h.3⟩
theorem Rb.chg {w w1:World} {p:Nat->Prop} {v:Value} {l:List Int} (h:Rb w v l) (hc:Chg p w w1) (hp:∀ b,v.ownBlock=some b->¬p b):Rb w1 v l:=by
 obtain ⟨h0,h1,a,cap,rfl,h2,h3,h4⟩:=h;refine ⟨h0,h1,a,cap,rfl,h2,h3,?_⟩;rcases h4 with h4|⟨b,off,rfl,hb,hcell⟩
 ·exact .inl h4
 ·exact .inr ⟨b,off,rfl,Nat.lt_of_lt_of_le hb hc.size,fun i hi=>by rw[hc.cell hb (hp b rfl)];exact hcell i hi⟩
theorem Rb.nil {w:World}:Rb w (.slice none 0 0) []:=⟨Bin.nil,by simp,Option.none,0,rfl,Nat.le_refl _,by simp[maxLen],.inl rfl⟩
def isSl (v:Value):Prop:=∃ a k cap,v=.slice a k cap
theorem Rb.isSl {w:World} {v:Value} {l:List Int} (h:Rb w v l):isSl v:=by
 obtain ⟨a,cap,rfl,-⟩:=h.form;exact ⟨_,_,_,rfl⟩
theorem rb_own {w:World} {base n:Nat} {v:Value} {l:List Int} (hb:Bin l) (hl:l.length<=1048576) (h:w.ownsRow base 5 1 v n (l.map (Value.int .u8))):Rb w v l:=by
 obtain ⟨hl',h⟩:=h;obtain rfl:n=l.length:=by simpa using hl'.symm
 rcases h with ⟨rfl,h0⟩|⟨g,cap,cur,rfl,-,hg,h1,h2,h3,h4⟩
 ·obtain rfl:l=[]:=List.length_eq_zero_iff.1 h0;exact Rb.nil
 ·refine ⟨hb,hl,_,cap,rfl,h1,by simp only[maxLen] at h2 ⊢;omega,.inr ⟨g,0,rfl,(Array.getElem?_eq_some_iff.1 hg).1,fun i hi=>?_⟩⟩;have e:cur.toList[i]?=(cur.toList.take (l.length*1))[i]?:=by rw[List.getElem?_take,if_pos (by omega)]
  rw[Nat.zero_add,World.cell?];simp only[hg];rw[<-Array.getElem?_toList,e,h4];simp[bt,hi]
theorem Rb.below {w w1:World} {v:Value} {l:List Int} (h:Rb w v l) (hb:Below w.heap.size w w1):Rb w1 v l:=by
 obtain ⟨X,rfl⟩:=hb.toExt;exact h.ext X
theorem grown_ext (w:World) (X:Xt):w.grownBy (w.ext X) none:=⟨rfl,rfl,rfl,by simp,fun k hk _=>World.heap_ext hk⟩
structure GB (w wr:World) (v:Value) (l:List Int):Prop where
 bel:Below w.heap.size w wr
 own:wr.ownsRow w.heap.size 5 1 v l.length (l.map (Value.int .u8))
theorem GB.nil (w:World):GB w w (.slice none 0 0) []:=⟨Below.refl _ _,World.ownsRow_nil _ _ _ _⟩
theorem GB.ext {w wr:World} {v:Value} {l:List Int} (h:GB w wr v l) (X:Xt):GB w (wr.ext X) v l :=
 ⟨h.bel.ext h.bel.size X,h.own.kept (grown_ext _ _) (by cases e:v.ownBlock with
  |none=>exact .inl rfl
  |some q=>exact .inr (by simp))⟩
theorem GB.rb {w wr:World} {v:Value} {l:List Int} (h:GB w wr v l) (hb:Bin l) (hl:l.length<=1048576):Rb wr v l:=rb_own hb hl h.own
end
section
end
section
theorem Rb.cells {w:World} {b off n cap:Nat} {l:List Int} (h:Rb w (.slice (some ⟨b,off,none⟩) n cap) l):∀ j u,(l.map (Value.int .u8))[j]?=some u->w.cell? ((⟨b,off,none⟩:Addr).add j)=some u:=by
 obtain ⟨h0,h1,a,cap',e,h2,h3,h4⟩:=h;intro j u hu;obtain ⟨d,hd,rfl⟩:∃ d,l[j]?=some d/\u=Value.int .u8 d:=by
  rw[List.getElem?_map] at hu;cases hl:l[j]? with
  |none=>rw[hl] at hu;cases hu
  |some d=>rw[hl] at hu;exact ⟨d,rfl,by simpa using hu.symm⟩
 have hj:j<l.length:=(List.getElem?_eq_some_iff.1 hd).1;rcases h4 with rfl|⟨b',off',rfl,hb,hc⟩
 ·simp at hj
 ·cases e
  have hadd:(⟨b,off,none⟩:Addr).add j=⟨b,off+j,none⟩:=by unfold Addr.add;split<;>simp_all
  rw[hadd,hc j hj,bt,List.getD_eq_getElem?_getD,hd];rfl
end
section
def RN (w:World) (v:Value) (z:Int) (n:Nat):Prop:=∃ m sv l,v=.agg #[.bool m,sv]/\Rb w sv l/\Can l/\(m=true->bv l≠0)/\z=pmv (bv l) m/\l.length<=n
theorem RN.ext {w:World} {v:Value} {z:Int} {n:Nat} (h:RN w v z n) (X:Xt):RN (w.ext X) v z n:=by
 obtain ⟨m,sv,l,h1,h2,h3⟩:=h;exact ⟨m,sv,l,h1,h2.ext X,h3⟩
theorem RN.below {w w1:World} {v:Value} {z:Int} {n:Nat} (h:RN w v z n) (hb:Below w.heap.size w w1):RN w1 v z n:=by
 obtain ⟨X,rfl⟩:=hb.toExt;exact h.ext X
def isNm (v:Value):Prop:=∃ m a k cap,v=.agg #[.bool m,.slice a k cap]
theorem RN.form {w:World} {v:Value} {z:Int} {n:Nat} (h:RN w v z n):isNm v:=by
 obtain ⟨m,sv,l,rfl,h2,h3⟩:=h;obtain ⟨a,cap,rfl,-⟩:=h2.form;exact ⟨m,_,_,_,rfl⟩
theorem Rb.take {w:World} {a:Option Addr} {cap:Nat} {l:List Int} {k:Nat} (h:Rb w (.slice a l.length cap) l) (hk:k<=l.length) (hb:Bin (l.take k)):Rb w (.slice a k cap) (l.take k):=by
 obtain ⟨h0,h1,a',cap',e,h2,h3,h4⟩:=h;cases e
 refine ⟨hb,by rw[List.length_take];omega,a,cap,by rw[List.length_take,Nat.min_eq_left hk],by rw[List.length_take];omega,h3,?_⟩;rcases h4 with rfl|⟨b,off,rfl,hlt,hc⟩
 ·left;simp
 ·refine .inr ⟨b,off,rfl,hlt,fun i hi=>?_⟩;simp only[List.length_take] at hi;rw[hc i (by omega)];simp only[bt,List.getD_eq_getElem?_getD,List.getElem?_take,if_pos (show i<k by omega)]
end
section
theorem RN.drew {w:World} {v:Value} {z:Int} {n:Nat} (h:RN w v z n):RN w.drew v z n:=by
 obtain ⟨m,sv,l,h1,h2,h3⟩:=h;exact ⟨m,sv,l,h1,h2.drew,h3⟩
theorem Rb.cell {w:World} {b off n cap i:Nat} {l:List Int} (h:Rb w (.slice (some ⟨b,off,none⟩) n cap) l) (hi:i<l.length):w.cell? ⟨b,off+i,none⟩=some (.int .u8 (bt l i))/\b<w.heap.size:=by
 obtain ⟨h0,h1,a,cap',e,h2,h3,h4⟩:=h;rcases h4 with rfl|⟨b',off',rfl,hb,hc⟩
 ·simp at hi
 ·cases e
  exact ⟨hc i hi,hb⟩
theorem Chg.both {p:Nat->Prop} {w w1:World} (C:Chg p w w1) (hs:w1.heap.size=w.heap.size) (X:Xt):Chg p (w.ext X) (w1.ext X) :=
 ⟨C.os,C.tape,C.output,by simp[hs],fun k hk hp=>by
  simp only[World.ext,Array.getElem?_append,hs]
  split
  ·exact C.block k (by assumption) hp
  ·rfl⟩
end
end Go.Proofs.YthcjfanigfgckaaGreat
