import Derived.Test.YthcjfanigfgckaaGreatSHidb44
set_option linter.unusedVariables false
set_option linter.unusedSimpArgs false
set_option maxRecDepth 100000
set_option maxHeartbeats 16000000
namespace Go.Proofs.YthcjfanigfgckaaGreat
open Go.RowKit _root_.Go.Proofs.Tryz
instance jh44 : Coe Nat Value := ⟨fun n => .int .i64 n⟩
section
structure V3P where
 x:Int
 y:Int
 z:Int
structure PolP where
 v:List V3P
 e:List Bool
structure SkP where
 factor:Int
 units:Int
 ccw:Bool
 cull:Int
 width:Int
 c0:Int
 c1:Int
 c2:Int
 c3:Int
def V3P.ok (a:V3P):Prop:=aI a.x (-1048576) 1048576/\aI a.y (-1048576) 1048576/\aI a.z 0 65536
instance v3Dec (a : V3P) : Decidable a.ok := by unfold V3P.ok; exact inferInstance
def PolP.ok (p:PolP):Prop:=(3<=p.v.length/\p.v.length<=64)/\p.e.length=p.v.length/\∀ a∈p.v,a.ok
instance polDec (p : PolP) : Decidable p.ok := by unfold PolP.ok; exact inferInstance
def SkP.hue (s:SkP):Prop:=aI s.c0 0 255/\aI s.c1 0 255/\aI s.c2 0 255/\aI s.c3 0 255
instance (s : SkP) : Decidable s.hue := by unfold SkP.hue; exact inferInstance
def SkP.num (s:SkP):Prop:=aI s.factor (-65536) 65536/\aI s.units (-16777216) 16777216/\aI s.cull 0 3/\aI s.width 1 64
instance (s : SkP) : Decidable s.num := by unfold SkP.num; exact inferInstance
def iZ (l:List PolP) (s:SkP):Prop:=l.length<=64/\(∀ p∈l,p.ok)/\s.hue/\s.num
instance (l : List PolP) (s : SkP) : Decidable (iZ l s) := by unfold iZ; exact inferInstance
def lvl (z:Int):Int:=16777215*z/65536
def V3P.win (a:V3P) (s:SkP):WinP:=⟨a.x,a.y,lvl a.z,s.c0,s.c1,s.c2,s.c3⟩
def dW (p:PolP) (s:SkP):List WinP:=p.v.map (fun a=>a.win s)
def cI (s:SkP) (m:Bool):LookP:=⟨s.width,false,false,65535,1,0,1,0,if m then 1 else 0,if m then 1 else 0,s.ccw,s.cull,!m,s.factor,s.units⟩
def nN (p:PolP) (s:SkP) (m:Bool) (x0 y0 x1 y1:Int):List FrP:=aC3 (dW p s) p.e (cI s m) x0 y0 x1 y1
def dP (l:List PolP) (s:SkP) (m:Bool) (x0 y0 x1 y1:Int):List FrP:=l.flatMap (fun p=>nN p s m x0 y0 x1 y1)
theorem nJ (L:List WinP) (s:SkP) (m:Bool):iW L (cI s m)=if m then 1 else 0:=by
 unfold iW cI;simp
theorem jK (p:PolP) (s:SkP) (m:Bool) (x0 y0 x1 y1:Int):nN p s m x0 y0 x1 y1=if kG (dW p s) p.e (cI s m) x0 y0 x1 y1 then (if m then zK (dW p s) p.e (cI s m) x0 y0 x1 y1 else nP (dW p s) (cI s m) x0 y0 x1 y1) else []:=by
 unfold nN aC3;rw[nJ];cases m<;>simp
section
variable {p0 q0 p1 q1 x0 y0 x1 y1:Int} {f:FrP}
theorem vW {p:PolP} {s:SkP} {m:Bool} (h:Sub p0 q0 p1 q1 x0 y0 x1 y1):f∈nN p s m p0 q0 p1 q1↔f∈nN p s m x0 y0 x1 y1/\fU p0 q0 p1 q1 f=true:=by
 rw[jK,jK];have e:kG (dW p s) p.e (cI s m) p0 q0 p1 q1↔kG (dW p s) p.e (cI s m) x0 y0 x1 y1:=by
  unfold kG;exact ⟨fun k=>⟨k.1,k.2.1,h.R,k.2.2.2⟩,fun k=>⟨k.1,k.2.1,h.r,k.2.2.2⟩⟩
 by_cases k:kG (dW p s) p.e (cI s m) x0 y0 x1 y1
 ·rw[if_pos (e.2 k),if_pos k];cases m
  ·exact aC0 h
  ·exact aHe rfl h
 ·rw[if_neg fun q=>k (e.1 q),if_neg k];simp
theorem qJ {p:PolP} {s:SkP} {m:Bool} (h:f∈nN p s m x0 y0 x1 y1):f.fits/\fU x0 y0 x1 y1 f=true:=by
 rw[jK] at h
 split at h
 ·rename_i k
  cases m
  ·exact aC1 k.1.2.2 h
  ·exact aHf rfl h
 ·simp at h
theorem aGu {p:PolP} {s:SkP} (h:f∈nN p s true x0 y0 x1 y1):LineF s.c0 s.c1 s.c2 s.c3 f:=by
 have hq:=(qJ h).1;rw[jK] at h
 split at h
 ·rename_i k
  have:=aC2 (L:=dW p s) (k:=cI s true) rfl k.1.2.1 (c0:=s.c0) (c1:=s.c1) (c2:=s.c2) (c3:=s.c3) (fun a ha=>by
   obtain ⟨v,-,rfl⟩:=List.mem_map.1 ha;exact ⟨rfl,rfl,rfl,rfl⟩) h
  exact ⟨hq,⟨this.1,this.2.1,this.2.2.1,this.2.2.2.1⟩,this.2.2.2.2⟩
 ·simp at h
theorem mI {l:List PolP} {s:SkP} {m:Bool} (h:Sub p0 q0 p1 q1 x0 y0 x1 y1):f∈dP l s m p0 q0 p1 q1↔f∈dP l s m x0 y0 x1 y1/\fU p0 q0 p1 q1 f=true:=by
 unfold dP;simp only[List.mem_flatMap]
 constructor
 ·rintro ⟨p,hp,q⟩;have:=(vW h).1 q;exact ⟨⟨p,hp,this.1⟩,this.2⟩
 ·rintro ⟨⟨p,hp,q⟩,hf⟩;exact ⟨p,hp,(vW h).2 ⟨q,hf⟩⟩
theorem vX {l:List PolP} {s:SkP} {m:Bool} (h:f∈dP l s m x0 y0 x1 y1):f.fits/\fU x0 y0 x1 y1 f=true:=by
 obtain ⟨p,-,q⟩:=List.mem_flatMap.1 h;exact qJ q
theorem aGw {l:List PolP} {s:SkP} (h:f∈dP l s true x0 y0 x1 y1):LineF s.c0 s.c1 s.c2 s.c3 f:=by
 obtain ⟨p,-,q⟩:=List.mem_flatMap.1 h;exact aGu q
end
theorem aLt {W H:Int} {C Z:List Int} (h:ImOk W H C Z) {k:Nat} (hk:k<C.length):Sub ((k:Int)%W) ((k:Int)/W) ((k:Int)%W+1) ((k:Int)/W+1) 0 0 W H:=by
 obtain ⟨⟨h1,h2,h3,h4⟩,-⟩:=kth h hk;obtain ⟨w0,w1,h0,hh,-,-,-,-⟩:=h;refine ⟨?_,?_,by omega⟩<;>unfold aM<;>omega
theorem px_in {x y:Int} {f:FrP}:fU x y (x+1) (y+1) f=true↔f.x=x/\f.y=y:=by
 rw[frIn_iff];omega
def bK (l:List PolP) (s:SkP) (x y far:Int):Prop:=∃ f∈dP l s true x y (x+1) (y+1),f.z<=oA far (dP l s false x y (x+1) (y+1))
instance (l : List PolP) (s : SkP) (x y far : Int) : Decidable (bK l s x y far) := by unfold bK; exact inferInstance
def dO (l:List PolP) (s:SkP) (W H:Int) (C Z:List Int):List Int×List Int:=kH (iG true) W H (kH (iG false) W H (C,Z) (dP l s false 0 0 W H)) (dP l s true 0 0 W H)
section
variable {W H:Int} {C Z:List Int} {l:List PolP} {s:SkP} {k:Nat}
theorem tS (h:ImOk W H C Z) (hk:k<C.length) (z:Int):gE W k z (dP l s false 0 0 W H)=oA z (dP l s false ((k:Int)%W) ((k:Int)/W) ((k:Int)%W+1) ((k:Int)/W+1)):=by
 refine aA5 fun m=>?_
 rw[vT,tT];have sb:=aLt h hk;refine and_congr_right fun _=>?_
 constructor
 ·intro q f hf;have k1:=(mI sb).1 hf;have k2:=px_in.1 k1.2;exact q f k1.1 ⟨k2.1,k2.2,(vX hf).1⟩
 ·rintro q f hf ⟨k1,k2,-⟩;exact q f ((mI sb).2 ⟨hf,px_in.2 ⟨k1,k2⟩⟩)
theorem aNx (h:ImOk W H C Z) (hk:k<C.length):elt (dO l s W H C Z).2 k=gE W k (elt Z k) (dP l s false 0 0 W H):=by
 unfold dO;rw[aHh];exact aA3 h _ hk
theorem aNy (h:ImOk W H C Z) (hk:k<C.length):elt (dO l s W H C Z).1 k=if bK l s ((k:Int)%W) ((k:Int)/W) (elt Z k) then pk s.c0 s.c1 s.c2 s.c3 else elt C k:=by
 unfold dO;have ok:=aGi (o:=iG false) (L:=dP l s false 0 0 W H) (s:=(C,Z)) h;have e1:(kH (iG false) W H (C,Z) (dP l s false 0 0 W H)).1=C:=aA7 h;have e2:=aA3 h (dP l s false 0 0 W H) hk;rw[tS h hk] at e2;obtain ⟨C1,Z1,hI⟩:∃ a b,kH (iG false) W H (C,Z) (dP l s false 0 0 W H)=(a,b):=⟨_,_,rfl⟩;rw[hI] at ok e1 e2 ⊢;simp only at ok e1 e2;subst e1;rw[aA6 (fun f hf=>aGw hf) ok hk,e2];have sb:=aLt h hk;have:(∃ f∈dP l s true 0 0 W H,rQ W k (oA (elt Z k) (dP l s false ((k:Int)%W) ((k:Int)/W) ((k:Int)%W+1) ((k:Int)/W+1))) f)↔bK l s ((k:Int)%W) ((k:Int)/W) (elt Z k):=by
  unfold bK
  constructor
  ·rintro ⟨f,hf,⟨h1,h2⟩,h3⟩;exact ⟨f,(mI sb).2 ⟨hf,px_in.2 ⟨h1,h2⟩⟩,h3⟩
  ·rintro ⟨f,hf,h3⟩;have k1:=(mI sb).1 hf;exact ⟨f,k1.1,px_in.1 k1.2,h3⟩
 by_cases q:bK l s ((k:Int)%W) ((k:Int)/W) (elt Z k)
 ·rw[if_pos (this.2 q),if_pos q]
 ·rw[if_neg fun e=>q (this.1 e),if_neg q]
theorem hid_len:(dO l s W H C Z).1.length=C.length/\(dO l s W H C Z).2.length=Z.length:=by
 unfold dO;rw[imgF_len.1,imgF_len.2,imgF_len.1,imgF_len.2];exact ⟨rfl,rfl⟩
end
theorem aHg {a b:List Int} (hl:a.length=b.length) (h:∀ i,i<a.length->elt a i=elt b i):a=b:=by
 apply List.ext_getElem?
 intro i
 by_cases hi:i<a.length
 ·have:=h i hi;have hb:i<b.length:=by omega
  unfold elt at this;simp only[List.getD_eq_getElem?_getD,List.getElem?_eq_getElem hi,List.getElem?_eq_getElem hb,Option.getD_some] at this ⊢;rw[this]
 ·rw[List.getElem?_eq_none (by omega),List.getElem?_eq_none (by omega)]
theorem aRx {l l':List PolP} (hm:∀ p,p∈l↔p∈l') {s:SkP} {W H:Int} {C Z:List Int} (h:ImOk W H C Z):dO l s W H C Z=dO l' s W H C Z:=by
 have hf:∀ (m:Bool) (x0 y0 x1 y1:Int) (f:FrP),f∈dP l s m x0 y0 x1 y1↔f∈dP l' s m x0 y0 x1 y1:=fun m x0 y0 x1 y1 f=>by
  unfold dP;simp only[List.mem_flatMap,hm]
 have hz:∀ z x y,oA z (dP l s false x y (x+1) (y+1))=oA z (dP l' s false x y (x+1) (y+1)):=fun z x y=>aA5 fun m=>by
  rw[tT,tT];simp only[hf]
 have hs:∀ x y far,bK l s x y far↔bK l' s x y far:=fun x y far=>by
  unfold bK;simp only[hf,hz]
 refine Prod.ext (aHg (by rw[hid_len.1,hid_len.1]) fun i hi=>?_) (aHg (by rw[hid_len.2,hid_len.2]) fun i hi=>?_)
 ·rw[hid_len.1] at hi;rw[aNy h hi,aNy h hi]
  by_cases q:bK l s ((i:Int)%W) ((i:Int)/W) (elt Z i)
  ·rw[if_pos q,if_pos ((hs _ _ _).1 q)]
  ·rw[if_neg q,if_neg fun e=>q ((hs _ _ _).2 e)]
 ·rw[hid_len.2,h.same] at hi;rw[aNx h hi,aNx h hi,tS h hi,tS h hi,hz]
theorem sN (o:OpsP) (W H:Int) (s:SkP) (m:Bool) (x0 y0 x1 y1:Int) (l:List PolP) (S:List Int×List Int) (k:Nat) (p:PolP) (h:l[k]?=some p) :
  kH o W H S (dP (l.take (k+1)) s m x0 y0 x1 y1)=kH o W H (kH o W H S (dP (l.take k) s m x0 y0 x1 y1)) (nN p s m x0 y0 x1 y1):=by
 rw[<-yU,List.take_add_one,h];unfold dP;rw[List.flatMap_append];simp
end
abbrev V3P.cells (a:V3P):List Value:=[.int .i64 a.x,.int .i64 a.y,.int .i64 a.z]
def v3K:RecK V3P:=⟨3,V3P.cells,fun _=>rfl,by decide,fun a u hu=>by simp at hu;rcases hu with rfl|rfl|rfl<;>rfl⟩
structure PsP where
 va:Option Addr
 vn:Nat
 vc:Nat
 ea:Option Addr
 en:Nat
 ec:Nat
abbrev PsP.vs (s:PsP):Value:=.slice s.va s.vn s.vc
abbrev PsP.es (s:PsP):Value:=.slice s.ea s.en s.ec
abbrev PsP.cells (s:PsP):List Value:=[s.vs,s.es]
def psK:RecK PsP:=⟨2,PsP.cells,fun _=>rfl,by decide,fun a u hu=>by simp at hu;rcases hu with rfl|rfl<;>rfl⟩
structure PolR (w:World) (s:PsP) (p:PolP):Prop where
 v:Recs v3K w s.vs p.v
 e:Recs boK w s.es p.e
 z:∀ a∈p.v,w64 a.z
theorem PolR.ext {w:World} {s:PsP} {p:PolP} (h:PolR w s p) (X:Xt):PolR (w.ext X) s p:=⟨h.v.ext X,h.e.ext X,h.z⟩
theorem PolR.alloc {w:World} {s:PsP} {p:PolP} (h:PolR w s p) (o:Obj):PolR (w.alloc o) s p:=⟨h.v.alloc o,h.e.alloc o,h.z⟩
theorem PolR.drew {w:World} {s:PsP} {p:PolP} (h:PolR w s p):PolR w.drew s p:=⟨h.v.drew,h.e.drew,h.z⟩
theorem PolR.len {w:World} {s:PsP} {p:PolP} (h:PolR w s p):s.vn=p.v.length/\s.en=p.e.length:=by
 obtain ⟨⟨-,a,c,e1,-⟩,⟨-,a2,c2,e2,-⟩,-⟩:=h;exact ⟨by simpa using congrArg (fun v=>match v with | .slice _ n _=>n|_=>0) e1,by simpa using congrArg (fun v=>match v with | .slice _ n _=>n|_=>0) e2⟩
structure PolsR (w:World) (v:Value) (S:List PsP) (l:List PolP):Prop where
 r:Recs psK w v S
 n:S.length=l.length
 p:∀ (i:Nat) (s:PsP) (p:PolP),S[i]?=some s->l[i]?=some p->PolR w s p
theorem PolsR.ext {w:World} {v:Value} {S:List PsP} {l:List PolP} (h:PolsR w v S l) (X:Xt):PolsR (w.ext X) v S l:=⟨h.r.ext X,h.n,fun i s p h1 h2=>(h.p i s p h1 h2).ext X⟩
theorem PolsR.alloc {w:World} {v:Value} {S:List PsP} {l:List PolP} (h:PolsR w v S l) (o:Obj):PolsR (w.alloc o) v S l:=⟨h.r.alloc o,h.n,fun i s p h1 h2=>(h.p i s p h1 h2).alloc o⟩
theorem PolsR.drew {w:World} {v:Value} {S:List PsP} {l:List PolP} (h:PolsR w v S l):PolsR w.drew v S l:=⟨h.r.drew,h.n,fun i s p h1 h2=>(h.p i s p h1 h2).drew⟩
theorem aR5 {a:V3P} (hz:w64 a.z) (h:¬a.ok):a.x < -1048576\/(¬a.x < -1048576/\1048576<a.x)\/(¬a.x < -1048576/\¬1048576<a.x/\a.y < -1048576)\/(¬a.x < -1048576/\¬1048576<a.x/\¬a.y < -1048576/\1048576<a.y)\/(¬a.x < -1048576/\¬1048576<a.x/\¬a.y < -1048576/\¬1048576<a.y/\65536<IntKind.u64.wrap a.z):=by
 have u:=aU hz 65536 (by omega) (by omega);unfold V3P.ok aI at h;omega
theorem aOu {a:V3P} (hz:w64 a.z) (h:a.ok):¬a.x < -1048576/\¬1048576<a.x/\¬a.y < -1048576/\¬1048576<a.y/\¬65536<IntKind.u64.wrap a.z:=by
 have u:=aU hz 65536 (by omega) (by omega);unfold V3P.ok aI at h;omega
theorem kO {α:Type} {q:α->Prop} {L:List α} {j:Nat} {a:α} (h:∀ i f,i<j->L[i]?=some f->q f) (ha:L[j]?=some a) (hf:q a):∀ i f,i<j+1->L[i]?=some f->q f:=fun i f hi hf'=>by
 by_cases e:i=j
 ·subst e;rw[ha] at hf';cases hf';exact hf
 ·exact h i f (by omega) hf'
theorem rE {α:Type} {q:α->Prop} {L:List α} (h:∀ i f,i<L.length->L[i]?=some f->q f):∀ a∈L,q a:=fun a ha=>by
 obtain ⟨i,hi,rfl⟩:=List.mem_iff_getElem.1 ha;exact h i _ hi (List.getElem?_eq_getElem hi)
theorem dD (n l h:Int) (w:World):Calls prog 77 #[n,l,h] w (Ret (.bool (decide (aI n l h))) w):=by
 unfold aI
 by_cases h1:l<=n
 ·by_cases h2:n<=h
  ·rw[decide_eq_true (show l<=n/\n<=h from ⟨h1,h2⟩)]
   go_enter func77,ntmps77
   go_wp2;go_ret;exact Ret.of' (by simp;try omega) (by exact bl_)
  ·rw[decide_eq_false (show ¬(l<=n/\n<=h) from fun k=>h2 k.2)]
   go_enter func77,ntmps77
   go_wp2;go_ret;exact Ret.of' (by simp;try omega) (by exact bl_)
 ·rw[decide_eq_false (show ¬(l<=n/\n<=h) from fun k=>h1 k.1)]
  go_enter func77,ntmps77
  go_wp2;go_ret;exact Ret.of' (by simp;try omega) (by exact bl_)
theorem aP5 (s:PsP) (p:PolP) (w:World) (h:PolR w s p):Calls prog 106 #[.agg #[s.vs,s.es]] w (Ret (.bool (decide p.ok)) w):=by
 have HV:=jj h.v;have HZ3:=jj h.z;obtain ⟨n1,n2⟩:=h.len;obtain ⟨va,vn,vc,ea,en,ec⟩:=s;simp only at n1 n2;subst n1;subst n2
 by_cases h3:p.v.length<3
 case pos =>
  have h3i:(p.v.length:Int)<3:=by omega
  have hf:decide p.ok=false:=decide_eq_false fun q=>by unfold PolP.ok at q;omega
  rw[hf];clear hf
  go_enter func106,ntmps106
  go_wp2;go_ret;exact Ret.of' rfl (by exact bl_)
 have h3i:¬((p.v.length:Int)<3):=by omega
 by_cases h64:64<p.v.length
 case pos =>
  have h64i:(64:Int)<p.v.length:=by omega
  have hf:decide p.ok=false:=decide_eq_false fun q=>by unfold PolP.ok at q;omega
  rw[hf];clear hf
  go_enter func106,ntmps106
  go_wp2;go_ret;exact Ret.of' rfl (by exact bl_)
 have h64i:¬((64:Int)<p.v.length):=by omega
 by_cases hb:p.e.length=p.v.length
 case neg =>
  have hbi:((p.e.length:Int) != (p.v.length:Int))=true:=by simp;omega
  have hf:decide p.ok=false:=decide_eq_false fun q=>hb q.2.1
  rw[hf];clear hf hb
  go_enter func106,ntmps106
  go_wp2;go_ret;exact Ret.of' rfl (by exact bl_)
 have hbi:((p.e.length:Int) != (p.v.length:Int))=false:=by simp;omega
 have HB:=jj hb;clear hb;obtain ⟨Z,hZ⟩:∃ Z,decide p.ok=Z:=⟨_,rfl⟩;rw[hZ];have HZ:=jj hZ;clear hZ;obtain ⟨nb,hnb⟩:∃ n,p.e.length=n:=⟨_,rfl⟩;have HNB:=jj hnb;rw[hnb] at hbi;rw[hnb];clear hnb h
 go_enter func106,ntmps106
 go_upto_region 3 with fail
 refine aE (F:=fun w1=>Row w1 w.heap.size #[.slice va p.v.length vc,.slice ea nb ec] 68/\Recs v3K w1 (.slice va p.v.length vc) p.v/\∃ X,w1=w.ext X) ⟨by exact rx_,(by exact rc_ HV.out),jz (by exact bl_)⟩ ?_;rintro w1 ⟨Rl,hv1,hX⟩;have HX:=jj hX;have cl:=Rl.cell;have fl:=Rl.frozen;have ll:=Rl.lt;obtain ⟨-,av',cap',hq,-,hcl⟩:=hv1;obtain ⟨rfl,rfl⟩:va=av'/\vc=cap':=by simpa using hq
 rcases hcl with e|⟨lb,lo,rfl,hlb,hcl⟩
 ·rw[e] at h3;simp at h3
 have HCL:=jj hcl;clear hq hX hcl Rl;go_wp2;go_loopw [27] (fun i wr=>∃ (j:Nat),j<=p.v.length/\i=.int .i64 j/\Hid (∀ i f,i<j->p.v[i]?=some f->f.ok)/\∃ X,wr=w1.ext X)
  (fun i _=>p.v.length-(intOf i).toNat)
 case atStart=>exact ⟨0,by omega,rfl,jj (fun i f hi=>by omega),_,(aN _).symm⟩
 case round =>
  obtain ⟨j,hj,rfl,hF,X,rfl⟩:=hrel
  by_cases hlt:j<p.v.length
  ·have HJ:=jj (show j+1<=p.v.length from hlt);have hji:(j:Int)<p.v.length:=by omega
   obtain ⟨a,ha⟩:∃ f,p.v[j]?=some f:=⟨_,List.getElem?_eq_getElem hlt⟩;have hcl:=HCL.out;have pa0:w1.cell? ⟨lb,lo+j*3,none⟩=some (.int .i64 a.x):=hcl j _ ha 0 _ rfl;have pa1:w1.cell? ⟨lb,lo+j*3+1,none⟩=some (.int .i64 a.y):=hcl j _ ha 1 _ rfl;have pa2:w1.cell? ⟨lb,lo+j*3+2,none⟩=some (.int .i64 a.z):=hcl j _ ha 2 _ rfl;have HA:=jj ha;have hz:=HZ3.out a (List.mem_of_getElem? ha);clear hcl ha
   by_cases hf:a.ok
   ·have nxt:=jj (kO hF.out HA.out hf);obtain ⟨t1,t2,t3,t4,t5⟩:=aOu hz hf;clear hf hF HA hz;go_wp2;go_roundw
    case rel=>exact ⟨j+1,HJ.out,by go_num,nxt,jz (by exact br_)⟩
    case measure=>have:=HJ.out;simp[intOf];omega
   ·have hff:decide p.ok=false:=decide_eq_false fun q=>hf (q.2.2 a (List.mem_of_getElem? HA.out))
    have e:=HZ.out;rw[hff] at e;subst e;have hn:=aR5 hz hf;clear hf hF HA hff HZ hz;rcases hn with t1|⟨t1,t2⟩|⟨t1,t2,t3⟩|⟨t1,t2,t3,t4⟩|⟨t1,t2,t3,t4,t5⟩
    all_goals
     go_wp2;go_ret;obtain ⟨X0,hX0⟩:=HX.out;subst hX0;exact Ret.of' rfl (by exact br_)
  ·obtain rfl:j=p.v.length:=by omega
   have ht:decide p.ok=true:=decide_eq_true ⟨by omega,HB.out,rE hF.out⟩;have e:=HZ.out;rw[ht] at e;subst e;clear ht HZ;go_wp2;go_ret;obtain ⟨X0,hX0⟩:=HX.out;subst hX0;exact Ret.of' rfl (by exact br_)
theorem aOv {a:V3P} (h:¬a.ok):decide (aI a.x (-1048576) 1048576)=false\/(decide (aI a.x (-1048576) 1048576)=true/\decide (aI a.y (-1048576) 1048576)=false)\/(decide (aI a.x (-1048576) 1048576)=true/\decide (aI a.y (-1048576) 1048576)=true/\decide (aI a.z 0 65536)=false):=by
 simp only[decide_eq_true_eq,decide_eq_false_iff_not];unfold V3P.ok at h;unfold aI at *;omega
theorem aPf (s:PsP) (p:PolP) (w:World) (h:PolR w s p):Calls prog 76 #[.agg #[s.vs,s.es]] w (Ret (.bool (decide p.ok)) w):=by
 have HV:=jj h.v;have HZ3:=jj h.z;obtain ⟨n1,n2⟩:=h.len;obtain ⟨va,vn,vc,ea,en,ec⟩:=s;simp only at n1 n2;subst n1;subst n2;have AM0:=fun w=>dD (p.v.length:Int) 3 64 w
 by_cases h3:aI (p.v.length:Int) 3 64
 case neg =>
  simp only[h3,decide_false] at AM0;have AM:=jj AM0;have hf:decide p.ok=false:=decide_eq_false fun q=>h3 (by have:=q.1;unfold aI;omega)
  rw[hf];clear hf h3 AM0
  go_enter func76,ntmps76
  go_wp2_with (first|(go_at_call 77;with_reducible refine jn (AM.out _) fun X_=>?_))
  go_ret;exact Ret.of' rfl (by exact bl_)
 simp only[h3,decide_true] at AM0;have AM:=jj AM0
 by_cases hb:p.e.length=p.v.length
 case neg =>
  have hbi:((p.e.length:Int) != (p.v.length:Int))=true:=by simp;omega
  have hf:decide p.ok=false:=decide_eq_false fun q=>hb q.2.1
  rw[hf];clear hf hb AM0 h3
  go_enter func76,ntmps76
  go_wp2_with (first|(go_at_call 77;with_reducible refine jn (AM.out _) fun X_=>?_))
  go_ret;exact Ret.of' rfl (by exact bl_)
 have hbi:((p.e.length:Int) != (p.v.length:Int))=false:=by simp;omega
 have HB:=jj hb;clear hb;obtain ⟨Z,hZ⟩:∃ Z,decide p.ok=Z:=⟨_,rfl⟩;rw[hZ];have HZ:=jj hZ;clear hZ;obtain ⟨nb,hnb⟩:∃ n,p.e.length=n:=⟨_,rfl⟩;have HNB:=jj hnb;rw[hnb] at hbi;rw[hnb];have H3:=jj h3;have h3':3<=p.v.length/\p.v.length<=64:=by unfold aI at h3;omega
 clear hnb h AM0 h3
 go_enter func76,ntmps76
 go_upto_region 3 with (first|(go_at_call 77;with_reducible refine jn (AM.out _) fun X_=>?_))
 refine aE (F:=fun w1=>Row w1 w.heap.size #[.slice va p.v.length vc,.slice ea nb ec] 68/\Recs v3K w1 (.slice va p.v.length vc) p.v/\∃ X,w1=w.ext X) ⟨by exact rx_,(by exact rc_ HV.out),jz (by exact bl_)⟩ ?_;rintro w1 ⟨Rl,hv1,hX⟩;have HX:=jj hX;have cl:=Rl.cell;have fl:=Rl.frozen;have ll:=Rl.lt;obtain ⟨-,av',cap',hq,-,hcl⟩:=hv1;obtain ⟨rfl,rfl⟩:va=av'/\vc=cap':=by simpa using hq
 rcases hcl with e|⟨lb,lo,rfl,hlb,hcl⟩
 ·rw[e] at h3';simp at h3'
 have HCL:=jj hcl;clear hq hX hcl Rl;go_wp2;go_loopw [3] (fun i wr=>∃ (j:Nat),j<=p.v.length/\i=.int .i64 j/\Hid (∀ i f,i<j->p.v[i]?=some f->f.ok)/\∃ X,wr=w1.ext X)
  (fun i _=>p.v.length-(intOf i).toNat)
 case atStart=>exact ⟨0,by omega,rfl,jj (fun i f hi=>by omega),_,(aN _).symm⟩
 case round =>
  obtain ⟨j,hj,rfl,hF,X,rfl⟩:=hrel
  by_cases hlt:j<p.v.length
  ·have HJ:=jj (show j+1<=p.v.length from hlt);have hji:(j:Int)<p.v.length:=by omega
   obtain ⟨a,ha⟩:∃ f,p.v[j]?=some f:=⟨_,List.getElem?_eq_getElem hlt⟩;have hcl:=HCL.out;have pa0:w1.cell? ⟨lb,lo+j*3,none⟩=some (.int .i64 a.x):=hcl j _ ha 0 _ rfl;have pa1:w1.cell? ⟨lb,lo+j*3+1,none⟩=some (.int .i64 a.y):=hcl j _ ha 1 _ rfl;have pa2:w1.cell? ⟨lb,lo+j*3+2,none⟩=some (.int .i64 a.z):=hcl j _ ha 2 _ rfl;have HA:=jj ha;have A10:=fun w=>dD a.x (-1048576) 1048576 w
   have A20:=fun w=>dD a.y (-1048576) 1048576 w
   have A30:=fun w=>dD a.z 0 65536 w
   clear hcl ha
   by_cases hf:a.ok
   ·have nxt:=jj (kO hF.out HA.out hf);simp only[decide_eq_true hf.1] at A10;simp only[decide_eq_true hf.2.1] at A20;simp only[decide_eq_true hf.2.2] at A30;have A1:=jj A10;have A2:=jj A20;have A3:=jj A30;clear hf hF HA A10 A20 A30
    go_wp2_with (first|(go_at_call 77;with_reducible refine jn (A1.out _) fun X_=>?_)|(go_at_call 77;with_reducible refine jn (A2.out _) fun X_=>?_)|(go_at_call 77;with_reducible refine jn (A3.out _) fun X_=>?_))
    go_roundw
    case rel=>exact ⟨j+1,HJ.out,by go_num,nxt,jz (by exact br_)⟩
    case measure=>have:=HJ.out;simp[intOf];omega
   ·have hff:decide p.ok=false:=decide_eq_false fun q=>hf (q.2.2 a (List.mem_of_getElem? HA.out))
    have e:=HZ.out;rw[hff] at e;subst e;have hn:=aOv hf;generalize decide (aI a.x (-1048576) 1048576)=d1 at *;generalize decide (aI a.y (-1048576) 1048576)=d2 at *;generalize decide (aI a.z 0 65536)=d3 at *;have A1:=jj A10;have A2:=jj A20;have A3:=jj A30;clear hf hF HA hff HZ A10 A20 A30;rcases hn with rfl|⟨rfl,rfl⟩|⟨rfl,rfl,rfl⟩
    all_goals
     go_wp2_with (first|(go_at_call 77;with_reducible refine jn (A1.out _) fun X_=>?_)|(go_at_call 77;with_reducible refine jn (A2.out _) fun X_=>?_)|(go_at_call 77;with_reducible refine jn (A3.out _) fun X_=>?_))
     go_ret;obtain ⟨X0,hX0⟩:=HX.out;subst hX0;exact Ret.of' rfl (by exact br_)
  ·obtain rfl:j=p.v.length:=by omega
   have ht:decide p.ok=true:=decide_eq_true ⟨h3',HB.out,rE hF.out⟩;have e:=HZ.out;rw[ht] at e;subst e;clear ht HZ;go_wp2;go_ret;obtain ⟨X0,hX0⟩:=HX.out;subst hX0;exact Ret.of' rfl (by exact br_)
end Go.Proofs.YthcjfanigfgckaaGreat
