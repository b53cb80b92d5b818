import Derived.Test.YthcjfanigfgckaaGreatSHiddenOrder44
set_option linter.unusedVariables false
set_option linter.unusedSimpArgs false
set_option maxRecDepth 100000
set_option maxHeartbeats 16000000
namespace Go.Proofs.YthcjfanigfgckaaGreat
open Go.RowKit
theorem bk_X {w:World} {o:Obj}:∃ X,w.alloc o=w.ext X:=(Below.alloc (Below.refl _ _) (Nat.le_refl _) _).toExt
theorem one_R {α:Type} {K:RecK α} {f:α} {S:List α} {w:World} {n:Nat} {c:Array Value} {T:TypeId} (hS:S=[f]) (hn:w.heap.size=n) (hc:c=(K.cells f).toArray):Recs K (w.alloc (.cells c T)) (.slice (some ⟨n,0,none⟩) 1 1) S:=by
 subst hS;have hr:=row_last (w:=w) (c:=c) (T:=T) hn;refine ⟨by simp,_,_,rfl,Nat.le_refl _,.inr ⟨n,0,rfl,hr.lt,fun i g hi q u hq=>?_⟩⟩;have hi0:i=0:=by
  have:=(List.getElem?_eq_some_iff.1 hi).1
  simpa using this
 subst hi0;simp only[List.getElem?_cons_zero,Option.some.injEq] at hi;subst hi;rw[hr.cell,hc]
 simpa using hq
theorem take_next {α:Type} {L:List α} {j:Nat} {a:α} (h:L[j]?=some a):L.take (j+1)=L.take j++[a]:=by
 obtain ⟨hj,rfl⟩:=List.getElem?_eq_some_iff.1 h;exact List.take_succ_eq_append_getElem hj
theorem sls_form {w:World} {k:Nat} {R:List Value->Prop} {v:Value} {zs:List (List Value)} (h:Sls w k R v zs):∃ a cap,v=.slice a zs.length cap/\zs.length<=maxLen:=by
 obtain ⟨-,h1,a,cap,h2,-⟩:=h;exact ⟨a,cap,h2,h1⟩
def boolR (r:List Value):Prop:=∃ (b:Bool),r=[.bool b]/\True
theorem sls_bool {w:World} {v:Value} {zs:List (List Value)} (h:Sls w 1 boolR v zs) (hn:zs.length<=1099511627776):∃ B:List Bool,B.length=zs.length/\Recs boK w v B:=by
 obtain ⟨hr,-,a,cap,rfl,hc,-,h3⟩:=h;obtain ⟨L,hL,hrow⟩:=list_build zs.length (fun i (b:Bool)=>∃ r,zs[i]?=some r/\r=boK.cells b) (fun i hi=>by
  obtain ⟨-,b,e,-⟩:=hr _ (List.getElem_mem hi);exact ⟨b,_,List.getElem?_eq_getElem hi,e⟩)
 refine ⟨L,hL,⟨by omega,a,cap,by rw[hL],by omega,?_⟩⟩;rcases h3 with h3|⟨b,off,rfl,hb,hcl⟩
 ·exact .inl (List.eq_nil_of_length_eq_zero (by rw[hL,h3];rfl))
 ·refine .inr ⟨b,off,rfl,hb,fun i f hi j u hj=>?_⟩;obtain ⟨r,h4,h5⟩:=hrow i f hi;exact hcl i r h4 j u (by rw[h5];exact hj)
end Go.Proofs.YthcjfanigfgckaaGreat
