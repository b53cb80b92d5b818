import Derived.Test.YthcjfanigfgckaaGreatSHiddenOrder50
set_option linter.unusedVariables false
set_option linter.unusedSimpArgs false
set_option maxRecDepth 100000
set_option maxHeartbeats 16000000
namespace Go.Proofs.YthcjfanigfgckaaGreat
open Go.RowKit
def v3R (r:List Value):Prop:=∃ (x y z:Int),r=[.int .i64 x,.int .i64 y,.int .i64 z]/\(-9223372036854775808<=x/\x<=9223372036854775807)/\(-9223372036854775808<=y/\y<=9223372036854775807)/\(-9223372036854775808<=z/\z<=9223372036854775807)
def polyR (w:World) (r:List Value):Prop:=∃ (a b:Value),r=[a,b]/\(∃ z,Sls w 3 v3R a z)/\(∃ z,Sls w 1 boolR b z)
theorem sls_v3 {w:World} {v:Value} {zs:List (List Value)} (h:Sls w 3 v3R v zs) (hn:zs.length<=1099511627776):∃ L:List V3P,L.length=zs.length/\Recs v3K w v L/\∀ a∈L,w64 a.z:=by
 obtain ⟨hr,-,a,cap,rfl,hc,-,h3⟩:=h;obtain ⟨L,hL,hrow⟩:=list_build zs.length (fun i (a:V3P)=>∃ r,zs[i]?=some r/\r=a.cells/\w64 a.z) (fun i hi=>by
  obtain ⟨-,x,y,z,e,b1,b2,b3⟩:=hr _ (List.getElem_mem hi);exact ⟨⟨x,y,z⟩,_,List.getElem?_eq_getElem hi,e,b3⟩)
 refine ⟨L,hL,⟨by omega,a,cap,by rw[hL],by omega,?_⟩,fun f hf=>?_⟩
 ·rcases h3 with h3|⟨b,off,rfl,hb,hcl⟩
  ·exact .inl (List.eq_nil_of_length_eq_zero (by rw[hL,h3];rfl))
  ·refine .inr ⟨b,off,rfl,hb,fun i f hi j u hj=>?_⟩;obtain ⟨r,h4,h5,-⟩:=hrow i f hi;exact hcl i r h4 j u (by rw[h5];exact hj)
 ·obtain ⟨i,hi,rfl⟩:=List.mem_iff_getElem.1 hf;obtain ⟨r,-,-,h6⟩:=hrow i _ (List.getElem?_eq_getElem hi);exact h6
theorem sls_ps {w:World} {v:Value} {zs:List (List Value)} (h:Sls w 2 (polyR w) v zs) (hn:zs.length<=1099511627776):∃ S:List PsP,S.length=zs.length/\Recs psK w v S/\∀ s∈S,(∃ z,Sls w 3 v3R s.vs z)/\(∃ z,Sls w 1 boolR s.es z):=by
 obtain ⟨hr,-,a,cap,rfl,hc,-,h3⟩:=h;obtain ⟨L,hL,hrow⟩:=list_build zs.length (fun i (s:PsP)=>∃ r,zs[i]?=some r/\r=s.cells/\(∃ z,Sls w 3 v3R s.vs z)/\(∃ z,Sls w 1 boolR s.es z)) (fun i hi=>by
  obtain ⟨-,a,b,e,⟨z1,b1⟩,⟨z2,b2⟩⟩:=hr _ (List.getElem_mem hi);obtain ⟨a1,c1,rfl,-⟩:=sls_form b1;obtain ⟨a2,c2,rfl,-⟩:=sls_form b2;exact ⟨⟨a1,z1.length,c1,a2,z2.length,c2⟩,_,List.getElem?_eq_getElem hi,e,⟨z1,b1⟩,⟨z2,b2⟩⟩)
 refine ⟨L,hL,⟨by omega,a,cap,by rw[hL],by omega,?_⟩,fun f hf=>?_⟩
 ·rcases h3 with h3|⟨b,off,rfl,hb,hcl⟩
  ·exact .inl (List.eq_nil_of_length_eq_zero (by rw[hL,h3];rfl))
  ·refine .inr ⟨b,off,rfl,hb,fun i f hi j u hj=>?_⟩;obtain ⟨r,h4,h5,-⟩:=hrow i f hi;exact hcl i r h4 j u (by rw[h5];exact hj)
 ·obtain ⟨i,hi,rfl⟩:=List.mem_iff_getElem.1 hf;obtain ⟨r,-,-,h6⟩:=hrow i _ (List.getElem?_eq_getElem hi);exact h6
theorem few_pols {w:World} {v:Value} {S:List PsP} (h:Recs psK w v S) (hs:∀ s∈S,(∃ z,Sls w 3 v3R s.vs z)/\(∃ z,Sls w 1 boolR s.es z)) (hf:fewS S):∃ l,PolsR w v S l:=by
 obtain ⟨l,hl,hrow⟩:=list_build S.length (fun i (p:PolP)=>∃ s,S[i]?=some s/\PolR w s p) (fun i hi=>by
  obtain ⟨⟨z1,b1⟩,⟨z2,b2⟩⟩:=hs _ (List.getElem_mem hi);obtain ⟨k1,k2⟩:=hf.2 _ (List.getElem_mem hi);obtain ⟨a1,c1,e1,-⟩:=sls_form b1;obtain ⟨a2,c2,e2,-⟩:=sls_form b2;have n1:(S[i]).vn=z1.length:=by injection e1
  have n2:(S[i]).en=z2.length:=by injection e2
  obtain ⟨V,-,hV,hz⟩:=sls_v3 b1 (by omega);obtain ⟨E,-,hE⟩:=sls_bool b2 (by omega);exact ⟨⟨V,E⟩,_,List.getElem?_eq_getElem hi,hV,hE,hz⟩)
 refine ⟨l,h,hl.symm,fun i s p h1 h2=>?_⟩;obtain ⟨s',h3,h4⟩:=hrow i p h2;rw[h1] at h3;cases h3
 exact h4
def may27 (S:List PsP) (far:Int):Prop:=fewS S/\0<=far/\far<=16777215
theorem may27_no {S:List PsP} {far:Int} (h:¬may27 S far):(decide (fewS S)&&(decide (0<=far)&&decide (far<=16777215)))=false:=by
 by_cases h1:fewS S
 ·by_cases h2:0<=far
  ·have h3:¬far<=16777215:=fun h3=>h ⟨h1,h2,h3⟩
   simp[h3]
  ·simp[h2]
 ·simp[h1]
theorem may27_yes {S:List PsP} {far:Int} (h:may27 S far):(decide (fewS S)&&(decide (0<=far)&&decide (far<=16777215)))=true:=by
 obtain ⟨h1,h2,h3⟩:=h;simp[h1,h2,h3]
theorem art_cases (aL:Value) (s:SkP) (aW aH far:Int) (w:World) (h:∃ z,Sls w 2 (polyR w) aL z):((∃ a n cap,aL=.slice a n cap/\n<=maxLen/\∀ X,Calls Tryz.prog 24 #[artV aL s aW aH far] (w.ext X) (Ret (.bool false) (w.ext X))))\/(∃ S l,S.length<=12/\PolsR w aL S l/\0<=far/\far<=16777215/\∀ X,Calls Tryz.prog 24 #[artV aL s aW aH far] (w.ext X) (Ret (.bool true) (w.ext X))):=by
 obtain ⟨z,hz⟩:=h;obtain ⟨a,cap,rfl,hm⟩:=sls_form hz
 by_cases h12:12<z.length
 ·refine .inl ⟨a,_,cap,rfl,hm,fun X=>?_⟩;have:=hmay27 a z.length cap s aW aH far false (w.ext X) (fun Y=>rhfew_big a z.length cap _ h12 hm)
  simpa using this
 ·obtain ⟨S,hS,hr,hs⟩:=sls_ps hz (by omega)
  by_cases k:may27 S far
  ·obtain ⟨l,hl⟩:=few_pols hr hs k.1;refine .inr ⟨S,l,by omega,hl,k.2.1,k.2.2,fun X=>?_⟩;have:=hmay27 a z.length cap s aW aH far (decide (fewS S)) (w.ext X) (fun Y=>rhfew _ S _ ((hr.ext X).ext Y) (by omega));rw[may27_yes k] at this;exact this
  ·refine .inl ⟨a,_,cap,rfl,hm,fun X=>?_⟩;have:=hmay27 a z.length cap s aW aH far (decide (fewS S)) (w.ext X) (fun Y=>rhfew _ S _ ((hr.ext X).ext Y) (by omega));rw[may27_no k] at this;exact this
end Go.Proofs.YthcjfanigfgckaaGreat
