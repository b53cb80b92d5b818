import Derived.Test.YthcjfanigfgckaaGreatSHiddenOrder40
set_option linter.unusedVariables false
set_option linter.unusedSimpArgs false
set_option maxRecDepth 100000
set_option maxHeartbeats 16000000
namespace Go.Proofs.YthcjfanigfgckaaGreat
open Go.RowKit
abbrev V3P.cells (a:V3P):List Value:=[.int .i64 a.x,.int .i64 a.y,.int .i64 a.z]
def v3K:RecK V3P:=⟨3,V3P.cells,fun _=>rfl,by decide,fun a u hu=>by simp at hu;rcases hu with rfl|rfl|rfl<;>rfl⟩
structure PsP where
 va:Option Addr
 vn:Nat
 vc:Nat
 ea:Option Addr
 en:Nat
 ec:Nat
abbrev PsP.vs (s:PsP):Value:=.slice s.va s.vn s.vc
abbrev PsP.es (s:PsP):Value:=.slice s.ea s.en s.ec
abbrev PsP.cells (s:PsP):List Value:=[s.vs,s.es]
def psK:RecK PsP:=⟨2,PsP.cells,fun _=>rfl,by decide,fun a u hu=>by simp at hu;rcases hu with rfl|rfl<;>rfl⟩
structure PolR (w:World) (s:PsP) (p:PolP):Prop where
 v:Recs v3K w s.vs p.v
 e:Recs boK w s.es p.e
 z:∀ a∈p.v,w64 a.z
theorem PolR.ext {w:World} {s:PsP} {p:PolP} (h:PolR w s p) (X:Xt):PolR (w.ext X) s p:=⟨h.v.ext X,h.e.ext X,h.z⟩
theorem PolR.alloc {w:World} {s:PsP} {p:PolP} (h:PolR w s p) (o:Obj):PolR (w.alloc o) s p:=⟨h.v.alloc o,h.e.alloc o,h.z⟩
theorem PolR.drew {w:World} {s:PsP} {p:PolP} (h:PolR w s p):PolR w.drew s p:=⟨h.v.drew,h.e.drew,h.z⟩
theorem PolR.len {w:World} {s:PsP} {p:PolP} (h:PolR w s p):s.vn=p.v.length/\s.en=p.e.length:=by
 obtain ⟨⟨-,a,c,e1,-⟩,⟨-,a2,c2,e2,-⟩,-⟩:=h;exact ⟨by simpa using congrArg (fun v=>match v with | .slice _ n _=>n|_=>0) e1,by simpa using congrArg (fun v=>match v with | .slice _ n _=>n|_=>0) e2⟩
structure PolsR (w:World) (v:Value) (S:List PsP) (l:List PolP):Prop where
 r:Recs psK w v S
 n:S.length=l.length
 p:∀ (i:Nat) (s:PsP) (p:PolP),S[i]?=some s->l[i]?=some p->PolR w s p
theorem PolsR.ext {w:World} {v:Value} {S:List PsP} {l:List PolP} (h:PolsR w v S l) (X:Xt):PolsR (w.ext X) v S l:=⟨h.r.ext X,h.n,fun i s p h1 h2=>(h.p i s p h1 h2).ext X⟩
theorem PolsR.alloc {w:World} {v:Value} {S:List PsP} {l:List PolP} (h:PolsR w v S l) (o:Obj):PolsR (w.alloc o) v S l:=⟨h.r.alloc o,h.n,fun i s p h1 h2=>(h.p i s p h1 h2).alloc o⟩
theorem PolsR.drew {w:World} {v:Value} {S:List PsP} {l:List PolP} (h:PolsR w v S l):PolsR w.drew v S l:=⟨h.r.drew,h.n,fun i s p h1 h2=>(h.p i s p h1 h2).drew⟩
theorem v3_no {a:V3P} (hz:w64 a.z) (h:¬a.ok):a.x < -1048576\/(¬a.x < -1048576/\1048576<a.x)\/(¬a.x < -1048576/\¬1048576<a.x/\a.y < -1048576)\/(¬a.x < -1048576/\¬1048576<a.x/\¬a.y < -1048576/\1048576<a.y)\/(¬a.x < -1048576/\¬1048576<a.x/\¬a.y < -1048576/\¬1048576<a.y/\65536<IntKind.u64.wrap a.z):=by
 have u:=u64_small hz 65536 (by omega) (by omega);unfold V3P.ok amongP at h;omega
theorem v3_yes {a:V3P} (hz:w64 a.z) (h:a.ok):¬a.x < -1048576/\¬1048576<a.x/\¬a.y < -1048576/\¬1048576<a.y/\¬65536<IntKind.u64.wrap a.z:=by
 have u:=u64_small hz 65536 (by omega) (by omega);unfold V3P.ok amongP at h;omega
theorem take_ok {α:Type} {q:α->Prop} {L:List α} {j:Nat} {a:α} (h:∀ i f,i<j->L[i]?=some f->q f) (ha:L[j]?=some a) (hf:q a):∀ i f,i<j+1->L[i]?=some f->q f:=fun i f hi hf'=>by
 by_cases e:i=j
 ·subst e;rw[ha] at hf';cases hf';exact hf
 ·exact h i f (by omega) hf'
theorem all_ok {α:Type} {q:α->Prop} {L:List α} (h:∀ i f,i<L.length->L[i]?=some f->q f):∀ a∈L,q a:=fun a ha=>by
 obtain ⟨i,hi,rfl⟩:=List.mem_iff_getElem.1 ha;exact h i _ hi (List.getElem?_eq_getElem hi)
theorem ramong27 (n l h:Int) (w:World):Calls Tryz.prog 77 #[.int .i64 n,.int .i64 l,.int .i64 h] w (Ret (.bool (decide (amongP n l h))) w):=by
 unfold amongP
 by_cases h1:l<=n
 ·by_cases h2:n<=h
  ·rw[decide_eq_true (show l<=n/\n<=h from ⟨h1,h2⟩)]
   go_enter Tryz.func77,Tryz.ntmps77
   go_wp2;go_ret;exact Ret.of' (by simp;try omega) (by exact bl_)
  ·rw[decide_eq_false (show ¬(l<=n/\n<=h) from fun k=>h2 k.2)]
   go_enter Tryz.func77,Tryz.ntmps77
   go_wp2;go_ret;exact Ret.of' (by simp;try omega) (by exact bl_)
 ·rw[decide_eq_false (show ¬(l<=n/\n<=h) from fun k=>h1 k.1)]
  go_enter Tryz.func77,Tryz.ntmps77
  go_wp2;go_ret;exact Ret.of' (by simp;try omega) (by exact bl_)
theorem hmay (s:PsP) (p:PolP) (w:World) (h:PolR w s p):Calls Tryz.prog 106 #[.agg #[s.vs,s.es]] w (Ret (.bool (decide p.ok)) w):=by
 have HV:=jj h.v;have HZ3:=jj h.z;obtain ⟨n1,n2⟩:=h.len;obtain ⟨va,vn,vc,ea,en,ec⟩:=s;simp only at n1 n2;subst n1;subst n2
 by_cases h3:p.v.length<3
 case pos =>
  have h3i:(p.v.length:Int)<3:=by omega
  have hf:decide p.ok=false:=decide_eq_false fun q=>by unfold PolP.ok at q;omega
  rw[hf];clear hf
  go_enter Tryz.func106,Tryz.ntmps106
  go_wp2;go_ret;exact Ret.of' rfl (by exact bl_)
 have h3i:¬((p.v.length:Int)<3):=by omega
 by_cases h64:64<p.v.length
 case pos =>
  have h64i:(64:Int)<p.v.length:=by omega
  have hf:decide p.ok=false:=decide_eq_false fun q=>by unfold PolP.ok at q;omega
  rw[hf];clear hf
  go_enter Tryz.func106,Tryz.ntmps106
  go_wp2;go_ret;exact Ret.of' rfl (by exact bl_)
 have h64i:¬((64:Int)<p.v.length):=by omega
 by_cases hb:p.e.length=p.v.length
 case neg =>
  have hbi:((p.e.length:Int) != (p.v.length:Int))=true:=by simp;omega
  have hf:decide p.ok=false:=decide_eq_false fun q=>hb q.2.1
  rw[hf];clear hf hb
  go_enter Tryz.func106,Tryz.ntmps106
  go_wp2;go_ret;exact Ret.of' rfl (by exact bl_)
 have hbi:((p.e.length:Int) != (p.v.length:Int))=false:=by simp;omega
 have HB:=jj hb;clear hb;obtain ⟨Z,hZ⟩:∃ Z,decide p.ok=Z:=⟨_,rfl⟩;rw[hZ];have HZ:=jj hZ;clear hZ;obtain ⟨nb,hnb⟩:∃ n,p.e.length=n:=⟨_,rfl⟩;have HNB:=jj hnb;rw[hnb] at hbi;rw[hnb];clear hnb h
 go_enter Tryz.func106,Tryz.ntmps106
 go_upto_region 3 with fail
 refine wp_abs (F:=fun w1=>Row w1 w.heap.size #[.slice va p.v.length vc,.slice ea nb ec] 68/\Recs v3K w1 (.slice va p.v.length vc) p.v/\∃ X,w1=w.ext X) ⟨by exact rx_,(by exact rc_ HV.out),jz (by exact bl_)⟩ ?_;rintro w1 ⟨Rl,hv1,hX⟩;have HX:=jj hX;have cl:=Rl.cell;have fl:=Rl.frozen;have ll:=Rl.lt;obtain ⟨-,av',cap',hq,-,hcl⟩:=hv1;obtain ⟨rfl,rfl⟩:va=av'/\vc=cap':=by simpa using hq
 rcases hcl with e|⟨lb,lo,rfl,hlb,hcl⟩
 ·rw[e] at h3;simp at h3
 have HCL:=jj hcl;clear hq hX hcl Rl;go_wp2;go_loopw [27] (fun i wr=>∃ (j:Nat),j<=p.v.length/\i=.int .i64 j/\Hid (∀ i f,i<j->p.v[i]?=some f->f.ok)/\∃ X,wr=w1.ext X)
  (fun i _=>p.v.length-(intOf i).toNat)
 case atStart=>exact ⟨0,by omega,rfl,jj (fun i f hi=>by omega),_,(ext_none' _).symm⟩
 case round =>
  obtain ⟨j,hj,rfl,hF,X,rfl⟩:=hrel
  by_cases hlt:j<p.v.length
  ·have HJ:=jj (show j+1<=p.v.length from hlt);have hji:(j:Int)<p.v.length:=by omega
   obtain ⟨a,ha⟩:∃ f,p.v[j]?=some f:=⟨_,List.getElem?_eq_getElem hlt⟩;have hcl:=HCL.out;have pa0:w1.cell? ⟨lb,lo+j*3,none⟩=some (.int .i64 a.x):=hcl j _ ha 0 _ rfl;have pa1:w1.cell? ⟨lb,lo+j*3+1,none⟩=some (.int .i64 a.y):=hcl j _ ha 1 _ rfl;have pa2:w1.cell? ⟨lb,lo+j*3+2,none⟩=some (.int .i64 a.z):=hcl j _ ha 2 _ rfl;have HA:=jj ha;have hz:=HZ3.out a (List.mem_of_getElem? ha);clear hcl ha
   by_cases hf:a.ok
   ·have nxt:=jj (take_ok hF.out HA.out hf);obtain ⟨t1,t2,t3,t4,t5⟩:=v3_yes hz hf;clear hf hF HA hz;go_wp2;go_roundw
    case rel=>exact ⟨j+1,HJ.out,by go_num,nxt,jz (by exact br_)⟩
    case measure=>have:=HJ.out;simp[intOf];omega
   ·have hff:decide p.ok=false:=decide_eq_false fun q=>hf (q.2.2 a (List.mem_of_getElem? HA.out))
    have e:=HZ.out;rw[hff] at e;subst e;have hn:=v3_no hz hf;clear hf hF HA hff HZ hz;rcases hn with t1|⟨t1,t2⟩|⟨t1,t2,t3⟩|⟨t1,t2,t3,t4⟩|⟨t1,t2,t3,t4,t5⟩
    all_goals
     go_wp2;go_ret;obtain ⟨X0,hX0⟩:=HX.out;subst hX0;exact Ret.of' rfl (by exact br_)
  ·obtain rfl:j=p.v.length:=by omega
   have ht:decide p.ok=true:=decide_eq_true ⟨by omega,HB.out,all_ok hF.out⟩;have e:=HZ.out;rw[ht] at e;subst e;clear ht HZ;go_wp2;go_ret;obtain ⟨X0,hX0⟩:=HX.out;subst hX0;exact Ret.of' rfl (by exact br_)
theorem v3_no2 {a:V3P} (h:¬a.ok):decide (amongP a.x (-1048576) 1048576)=false\/(decide (amongP a.x (-1048576) 1048576)=true/\decide (amongP a.y (-1048576) 1048576)=false)\/(decide (amongP a.x (-1048576) 1048576)=true/\decide (amongP a.y (-1048576) 1048576)=true/\decide (amongP a.z 0 65536)=false):=by
 simp only[decide_eq_true_eq,decide_eq_false_iff_not];unfold V3P.ok at h;unfold amongP at *;omega
theorem rhmay (s:PsP) (p:PolP) (w:World) (h:PolR w s p):Calls Tryz.prog 76 #[.agg #[s.vs,s.es]] w (Ret (.bool (decide p.ok)) w):=by
 have HV:=jj h.v;have HZ3:=jj h.z;obtain ⟨n1,n2⟩:=h.len;obtain ⟨va,vn,vc,ea,en,ec⟩:=s;simp only at n1 n2;subst n1;subst n2;have AM0:=fun w=>ramong27 (p.v.length:Int) 3 64 w
 by_cases h3:amongP (p.v.length:Int) 3 64
 case neg =>
  simp only[h3,decide_false] at AM0;have AM:=jj AM0;have hf:decide p.ok=false:=decide_eq_false fun q=>h3 (by have:=q.1;unfold amongP;omega)
  rw[hf];clear hf h3 AM0
  go_enter Tryz.func76,Tryz.ntmps76
  go_wp2_with (first|(go_at_call 77;(with_reducible refine (AM.out _).mono ?_);rintro _ _ ⟨rfl,X_,rfl⟩))
  go_ret;exact Ret.of' rfl (by exact bl_)
 simp only[h3,decide_true] at AM0;have AM:=jj AM0
 by_cases hb:p.e.length=p.v.length
 case neg =>
  have hbi:((p.e.length:Int) != (p.v.length:Int))=true:=by simp;omega
  have hf:decide p.ok=false:=decide_eq_false fun q=>hb q.2.1
  rw[hf];clear hf hb AM0 h3
  go_enter Tryz.func76,Tryz.ntmps76
  go_wp2_with (first|(go_at_call 77;(with_reducible refine (AM.out _).mono ?_);rintro _ _ ⟨rfl,X_,rfl⟩))
  go_ret;exact Ret.of' rfl (by exact bl_)
 have hbi:((p.e.length:Int) != (p.v.length:Int))=false:=by simp;omega
 have HB:=jj hb;clear hb;obtain ⟨Z,hZ⟩:∃ Z,decide p.ok=Z:=⟨_,rfl⟩;rw[hZ];have HZ:=jj hZ;clear hZ;obtain ⟨nb,hnb⟩:∃ n,p.e.length=n:=⟨_,rfl⟩;have HNB:=jj hnb;rw[hnb] at hbi;rw[hnb];have H3:=jj h3;have h3':3<=p.v.length/\p.v.length<=64:=by unfold amongP at h3;omega
 clear hnb h AM0 h3
 go_enter Tryz.func76,Tryz.ntmps76
 go_upto_region 3 with (first|(go_at_call 77;(with_reducible refine (AM.out _).mono ?_);rintro _ _ ⟨rfl,X_,rfl⟩))
 refine wp_abs (F:=fun w1=>Row w1 w.heap.size #[.slice va p.v.length vc,.slice ea nb ec] 68/\Recs v3K w1 (.slice va p.v.length vc) p.v/\∃ X,w1=w.ext X) ⟨by exact rx_,(by exact rc_ HV.out),jz (by exact bl_)⟩ ?_;rintro w1 ⟨Rl,hv1,hX⟩;have HX:=jj hX;have cl:=Rl.cell;have fl:=Rl.frozen;have ll:=Rl.lt;obtain ⟨-,av',cap',hq,-,hcl⟩:=hv1;obtain ⟨rfl,rfl⟩:va=av'/\vc=cap':=by simpa using hq
 rcases hcl with e|⟨lb,lo,rfl,hlb,hcl⟩
 ·rw[e] at h3';simp at h3'
 have HCL:=jj hcl;clear hq hX hcl Rl;go_wp2;go_loopw [3] (fun i wr=>∃ (j:Nat),j<=p.v.length/\i=.int .i64 j/\Hid (∀ i f,i<j->p.v[i]?=some f->f.ok)/\∃ X,wr=w1.ext X)
  (fun i _=>p.v.length-(intOf i).toNat)
 case atStart=>exact ⟨0,by omega,rfl,jj (fun i f hi=>by omega),_,(ext_none' _).symm⟩
 case round =>
  obtain ⟨j,hj,rfl,hF,X,rfl⟩:=hrel
  by_cases hlt:j<p.v.length
  ·have HJ:=jj (show j+1<=p.v.length from hlt);have hji:(j:Int)<p.v.length:=by omega
   obtain ⟨a,ha⟩:∃ f,p.v[j]?=some f:=⟨_,List.getElem?_eq_getElem hlt⟩;have hcl:=HCL.out;have pa0:w1.cell? ⟨lb,lo+j*3,none⟩=some (.int .i64 a.x):=hcl j _ ha 0 _ rfl;have pa1:w1.cell? ⟨lb,lo+j*3+1,none⟩=some (.int .i64 a.y):=hcl j _ ha 1 _ rfl;have pa2:w1.cell? ⟨lb,lo+j*3+2,none⟩=some (.int .i64 a.z):=hcl j _ ha 2 _ rfl;have HA:=jj ha;have A10:=fun w=>ramong27 a.x (-1048576) 1048576 w
   have A20:=fun w=>ramong27 a.y (-1048576) 1048576 w
   have A30:=fun w=>ramong27 a.z 0 65536 w
   clear hcl ha
   by_cases hf:a.ok
   ·have nxt:=jj (take_ok hF.out HA.out hf);simp only[decide_eq_true hf.1] at A10;simp only[decide_eq_true hf.2.1] at A20;simp only[decide_eq_true hf.2.2] at A30;have A1:=jj A10;have A2:=jj A20;have A3:=jj A30;clear hf hF HA A10 A20 A30
    go_wp2_with (first|(go_at_call 77;(with_reducible refine (A1.out _).mono ?_);rintro _ _ ⟨rfl,X_,rfl⟩)|(go_at_call 77;(with_reducible refine (A2.out _).mono ?_);rintro _ _ ⟨rfl,X_,rfl⟩)|(go_at_call 77;(with_reducible refine (A3.out _).mono ?_);rintro _ _ ⟨rfl,X_,rfl⟩))
    go_roundw
    case rel=>exact ⟨j+1,HJ.out,by go_num,nxt,jz (by exact br_)⟩
    case measure=>have:=HJ.out;simp[intOf];omega
   ·have hff:decide p.ok=false:=decide_eq_false fun q=>hf (q.2.2 a (List.mem_of_getElem? HA.out))
    have e:=HZ.out;rw[hff] at e;subst e;have hn:=v3_no2 hf;generalize decide (amongP a.x (-1048576) 1048576)=d1 at *;generalize decide (amongP a.y (-1048576) 1048576)=d2 at *;generalize decide (amongP a.z 0 65536)=d3 at *;have A1:=jj A10;have A2:=jj A20;have A3:=jj A30;clear hf hF HA hff HZ A10 A20 A30;rcases hn with rfl|⟨rfl,rfl⟩|⟨rfl,rfl,rfl⟩
    all_goals
     go_wp2_with (first|(go_at_call 77;(with_reducible refine (A1.out _).mono ?_);rintro _ _ ⟨rfl,X_,rfl⟩)|(go_at_call 77;(with_reducible refine (A2.out _).mono ?_);rintro _ _ ⟨rfl,X_,rfl⟩)|(go_at_call 77;(with_reducible refine (A3.out _).mono ?_);rintro _ _ ⟨rfl,X_,rfl⟩))
     go_ret;obtain ⟨X0,hX0⟩:=HX.out;subst hX0;exact Ret.of' rfl (by exact br_)
  ·obtain rfl:j=p.v.length:=by omega
   have ht:decide p.ok=true:=decide_eq_true ⟨h3',HB.out,all_ok hF.out⟩;have e:=HZ.out;rw[ht] at e;subst e;clear ht HZ;go_wp2;go_ret;obtain ⟨X0,hX0⟩:=HX.out;subst hX0;exact Ret.of' rfl (by exact br_)
end Go.Proofs.YthcjfanigfgckaaGreat
