import Derived.Test.YthcjfanigfgckaaGreatSHidb13
import Derived.Test.YthcjfanigfgckaaGreatSHidb16
set_option linter.unusedVariables false
set_option linter.unusedSimpArgs false
set_option maxRecDepth 100000
set_option maxHeartbeats 16000000
namespace Go.Proofs.YthcjfanigfgckaaGreat
open Go.RowKit _root_.Go.Proofs.Tryz
instance jh20 : Coe Nat Value := ⟨fun n => .int .i64 n⟩
section
section
def aR (a b:WinP) (n z:Int):Int:=if aB a.x a.y b.x b.y then z-(n-1)*128 else z
def aQ (a b:WinP) (n z:Int):Int:=if aB a.x a.y b.x b.y then z else z-(n-1)*128
def bS (a b:WinP) (n:Int):List St:=eP (aR a b n a.x) (aQ a b n a.y) (aR a b n b.x) (aQ a b n b.y)
theorem qS (a b:WinP) (n:Int):aB (aR a b n a.x) (aQ a b n a.y) (aR a b n b.x) (aQ a b n b.y)↔aB a.x a.y b.x b.y:=by
 unfold aR aQ
 by_cases h:aB a.x a.y b.x b.y
 ·simp only[if_pos h];unfold aB;omega
 ·simp only[if_neg h];unfold aB;omega
def aKe (p r c k:Int):Prop:=p/2^((c+k)/r%16).toNat%2=1
instance (p r c k : Int) : Decidable (aKe p r c k) := by unfold aKe; exact inferInstance
def kL (dd:Bool) (p r c:Int) (s:St):Bool:=!dd || decide (aKe p r c s.K)
def rP (dd:Bool) (r c:Int) (k:Nat):Int:=if dd then (c+k)%(r*16) else c
def alV (a b:WinP) (x y:Int):Int×Int×Int×Int×Int:=(mid a.z b.z (alN a b x y) (alD a b),mid a.c0 b.c0 (alN a b x y) (alD a b),mid a.c1 b.c1 (alN a b x y) (alD a b),mid a.c2 b.c2 (alN a b x y) (alD a b),mid a.c3 b.c3 (alN a b x y) (alD a b))
def dX (a b:WinP) (s:St) (m:Nat):FrP:=⟨if aB a.x a.y b.x b.y then s.X+m else s.X,if aB a.x a.y b.x b.y then s.Y else s.Y+m,(alV a b s.X s.Y).1,(alV a b s.X s.Y).2.1,(alV a b s.X s.Y).2.2.1,(alV a b s.X s.Y).2.2.2.1,(alV a b s.X s.Y).2.2.2.2,64⟩
def iH (a b:WinP) (n:Int) (s:St):List FrP:=(List.range n.toNat).map (dX a b s)
def fU (x0 y0 x1 y1:Int) (f:FrP):Bool:=decide (x0<=f.x/\f.x<x1/\y0<=f.y/\f.y<y1)
theorem frIn_iff {x0 y0 x1 y1:Int} {f:FrP}:fU x0 y0 x1 y1 f=true↔(x0<=f.x/\f.x<x1/\y0<=f.y/\f.y<y1):=by unfold fU;exact decide_eq_true_iff
def mT (a b:WinP) (n x0 y0 x1 y1:Int) (L:List St):List FrP:=(L.flatMap (iH a b n)).filter (fU x0 y0 x1 y1)
def o7 (a b:WinP) (n:Int) (dd:Bool) (p r c x0 y0 x1 y1:Int):List FrP:=mT a b n x0 y0 x1 y1 ((bS a b n).filter (kL dd p r c))
def wdL (a b:WinP) (n:Int) (dd:Bool) (p r c x0 y0 x1 y1:Int):List FrP:=if gM a b n p r c/\aM x0 y0 x1 y1 then o7 a b n dd p r c x0 y0 x1 y1 else []
theorem o9 (a b:WinP) (n x0 y0 x1 y1:Int) (L M:List St):mT a b n x0 y0 x1 y1 (L++M)=mT a b n x0 y0 x1 y1 L++mT a b n x0 y0 x1 y1 M:=by
 unfold mT;rw[List.flatMap_append,List.filter_append]
theorem wdRow_mem {a b:WinP} {n:Int} {s:St} {f:FrP}:f∈iH a b n s↔∃ m:Nat,(m:Int)<n/\f=dX a b s m:=by
 unfold iH;simp only[List.mem_map,List.mem_range]
 constructor
 ·rintro ⟨m,h,rfl⟩;exact ⟨m,by omega,rfl⟩
 ·rintro ⟨m,h,rfl⟩;exact ⟨m,by omega,rfl⟩
theorem aDl (a b:WinP) (n:Int) (s:St):(iH a b n s).length=n.toNat:=by unfold iH;simp
def aCd (a b:WinP) (n x0:Int):Int:=if aB a.x a.y b.x b.y then max (x0-n+1) (-4194304) else x0
def aCc (a b:WinP) (n y0:Int):Int:=if aB a.x a.y b.x b.y then y0 else max (y0-n+1) (-4194304)
theorem aBt {a b:WinP} {n x0 y0 x1 y1:Int} {s:St} (h:¬((aCd a b n x0<=s.X/\s.X<x1)/\aCc a b n y0<=s.Y/\s.Y<y1)) (hx:-4194304<=s.X) (hy:-4194304<=s.Y):(iH a b n s).filter (fU x0 y0 x1 y1)=[]:=by
 rw[List.filter_eq_nil_iff];intro f hf;obtain ⟨m,hm,rfl⟩:=wdRow_mem.1 hf;rw[frIn_iff];unfold aCd aCc at h;unfold dX
 by_cases t:aB a.x a.y b.x b.y
 ·simp only[if_pos t] at h ⊢;omega
 ·simp only[if_neg t] at h ⊢;omega
theorem qT {a b:WinP} {n:Int} (ha:a.fitsP) (hb:b.fitsP) (hn:cH n) {s:St} (hs:s∈bS a b n):(-1048641<=s.X/\s.X<=1048576)/\-1048641<=s.Y/\s.Y<=1048576:=by
 have h:=aKg _ _ _ _ s hs;unfold WinP.fitsP at ha hb;unfold cH at hn;unfold aR aQ at h
 by_cases t:aB a.x a.y b.x b.y
 ·simp only[if_pos t] at h;omega
 ·simp only[if_neg t] at h;omega
theorem kB {a b:WinP} {n:Int} (ha:a.fitsP) (hb:b.fitsP) (hn:cH n):MayP (aR a b n a.x) (aQ a b n a.y)/\MayP (aR a b n b.x) (aQ a b n b.y):=by
 unfold WinP.fitsP at ha hb;unfold cH at hn;unfold aR aQ
 by_cases t:aB a.x a.y b.x b.y
 ·simp only[if_pos t];exact ⟨⟨by omega,by omega,by omega,by omega⟩,⟨by omega,by omega,by omega,by omega⟩⟩
 ·simp only[if_neg t];exact ⟨⟨by omega,by omega,by omega,by omega⟩,⟨by omega,by omega,by omega,by omega⟩⟩
theorem aEw {a b:WinP} {n x0 y0 x1 y1:Int} (hn:cH n) (h:aM x0 y0 x1 y1):aM (aCd a b n x0) (aCc a b n y0) x1 y1:=by
 unfold aM aCd aCc cH at *
 by_cases t:aB a.x a.y b.x b.y
 ·simp only[if_pos t];omega
 ·simp only[if_neg t];omega
theorem yZ {α:Type} (p q:α->Bool) (L:List α):(L.filter p).filter q=(L.filter q).filter p:=by
 rw[List.filter_filter,List.filter_filter]
 congr 1;funext x;exact Bool.and_comm _ _
theorem fV {α β:Type} (g:α->List β) (p:α->Bool) (L:List α) (h:∀ s∈L,p s=false->g s=[]):(L.filter p).flatMap g=L.flatMap g:=by
 induction L with
 |nil=>rfl
 |cons s L ih =>
  have ih:=ih fun t ht=>h t (jk ht)
  by_cases hp:p s=true
  ·rw[List.filter_cons_of_pos hp,List.flatMap_cons,List.flatMap_cons,ih]
  ·rw[List.filter_cons_of_neg hp,List.flatMap_cons,h s List.mem_cons_self (by simpa using hp),ih,List.nil_append]
theorem o8 (a b:WinP) (n x0 y0 x1 y1:Int) (L:List St):mT a b n x0 y0 x1 y1 L=L.flatMap (fun s=>(iH a b n s).filter (fU x0 y0 x1 y1)):=by
 unfold mT
 induction L with
 |nil=>rfl
 |cons s L ih=>rw[List.flatMap_cons,List.filter_append,ih,List.flatMap_cons]
theorem o6 {a b:WinP} {n:Int} {dd:Bool} {p r c x0 y0 x1 y1:Int} (ha:a.fitsP) (hb:b.fitsP) (hn:cH n) (hr:aM x0 y0 x1 y1) :
  mT a b n x0 y0 x1 y1 ((dK (aR a b n a.x) (aQ a b n a.y) (aR a b n b.x) (aQ a b n b.y) (aCd a b n x0) (aCc a b n y0) x1 y1).filter (kL dd p r c))=o7 a b n dd p r c x0 y0 x1 y1:=by
 unfold o7;have rr:=aEw (a:=a) (b:=b) hn hr
 by_cases hz:aR a b n a.x=aR a b n b.x/\aQ a b n a.y=aQ a b n b.y
 ·have:bS a b n=[]:=by unfold bS;rw[hz.1,hz.2,fJ]
  rw[this];unfold dK;rw[if_pos (.inl hz)]
 ·unfold dK;rw[if_neg (fun k=>k.elim hz fun k=>k rr),yZ,o8,o8];refine fV _ _ _ fun s hs hp=>?_
  have hb':=qT ha hb hn (List.mem_filter.1 hs).1;refine aBt (fun k=>?_) (by omega) (by omega);have hp:=of_decide_eq_false hp;exact hp ⟨rr,k.1.1,k.1.2,k.2.1,k.2.2⟩
theorem aDk {a b:WinP} {n:Int} {dd:Bool} {p r c x0 y0 x1 y1 p0 q0 p1 q1:Int} (h:x0<=p0/\y0<=q0/\p1<=x1/\q1<=y1):o7 a b n dd p r c p0 q0 p1 q1=(o7 a b n dd p r c x0 y0 x1 y1).filter (fU p0 q0 p1 q1):=by
 unfold o7 mT;rw[List.filter_filter];refine List.filter_congr fun f _=>?_
 rw[Bool.eq_iff_iff,Bool.and_eq_true,frIn_iff,frIn_iff];omega
theorem aBb {a b:WinP} {n:Int} {s:St} (hs:s∈bS a b n):∃ d e:Int,(e=1\/e=-1)/\∀ t∈bS a b n,t.K=d+e*uC (decide (aB a.x a.y b.x b.y)) t.X t.Y:=by
 by_cases hz:aR a b n a.x=aR a b n b.x/\aQ a b n a.y=aQ a b n b.y
 ·have:bS a b n=[]:=by unfold bS;rw[hz.1,hz.2,fJ]
  rw[this] at hs;cases hs
 ·have ht:decide (aB (aR a b n a.x) (aQ a b n a.y) (aR a b n b.x) (aQ a b n b.y))=decide (aB a.x a.y b.x b.y):=decide_eq_decide.2 (qS a b n)
  by_cases hu:(aG (aR a b n a.x) (aQ a b n a.y) (aR a b n b.x) (aQ a b n b.y)).au<(aG (aR a b n a.x) (aQ a b n a.y) (aR a b n b.x) (aQ a b n b.y)).bu
  ·refine ⟨-iX (decide (aB a.x a.y b.x b.y)) (aR a b n a.x) (aQ a b n a.y),1,.inl rfl,fun t ht'=>?_⟩;have:=((mH _ _ _ _ hz t).1 ht').2;unfold wU at this;rw[if_pos hu,ht] at this;omega
  ·refine ⟨iY (decide (aB a.x a.y b.x b.y)) (aR a b n a.x) (aQ a b n a.y),-1,.inr rfl,fun t ht'=>?_⟩;have:=((mH _ _ _ _ hz t).1 ht').2;unfold wU at this;rw[if_neg hu,ht] at this;omega
theorem mO (a b:WinP) (n:Int):(bS a b n).Pairwise (fun s t=>s.K<t.K):=by
 unfold bS eP
 split
 ·exact aAg _ _ _ _
 ·exact aAg _ _ _ _
def FrP.off (f g:FrP):Prop:=¬(f.x=g.x/\f.y=g.y)
theorem z8 {a b:WinP} {n:Int} {dd:Bool} {p r c x0 y0 x1 y1:Int} {f:FrP} (h:f∈o7 a b n dd p r c x0 y0 x1 y1):(x0<=f.x/\f.x<x1/\y0<=f.y/\f.y<y1)/\∃ (s:St) (m:Nat),s∈bS a b n/\(m:Int)<n/\f=dX a b s m:=by
 unfold o7 mT at h;obtain ⟨h1,h2⟩:=List.mem_filter.1 h;obtain ⟨s,hs,hf⟩:=List.mem_flatMap.1 h1;obtain ⟨m,hm,rfl⟩:=wdRow_mem.1 hf;exact ⟨frIn_iff.1 h2,s,m,(List.mem_filter.1 hs).1,hm,rfl⟩
theorem qM {α β:Type} (g:α->List β) (k:Nat) (L:List α) (h:∀ s∈L,(g s).length<=k):(L.flatMap g).length<=L.length*k:=by
 induction L with
 |nil=>simp
 |cons s L ih =>
  rw[List.flatMap_cons,List.length_append,List.length_cons,Nat.succ_mul];have:=ih fun t ht=>h t (jk ht)
  have:=h s List.mem_cons_self;omega
theorem oM {a b:WinP} {n:Int} {dd:Bool} {p r c x0 y0 x1 y1:Int} (hn:0<=n) (m:Nat) (hx:x0<=x1) (hy:y0<=y1) (h1:x1-x0<=m) (h2:y1-y0<=m):(o7 a b n dd p r c x0 y0 x1 y1).length<=m*n.toNat:=by
 unfold o7;rw[o8];have e:∀ L:List St,(L.filter (fun s=>decide ((if aB a.x a.y b.x b.y then y0 else x0)<=uC (decide (aB a.x a.y b.x b.y)) s.X s.Y/\uC (decide (aB a.x a.y b.x b.y)) s.X s.Y<if aB a.x a.y b.x b.y then y1 else x1))).flatMap (fun s=>(iH a b n s).filter (fU x0 y0 x1 y1))=L.flatMap (fun s=>(iH a b n s).filter (fU x0 y0 x1 y1)):=fun L=>by
  refine fV _ _ _ fun s hs hp=>?_
  rw[List.filter_eq_nil_iff];intro f hf;obtain ⟨j,hj,rfl⟩:=wdRow_mem.1 hf;rw[frIn_iff];have hp:=of_decide_eq_false hp;unfold uC at hp;unfold dX
  by_cases t:aB a.x a.y b.x b.y
  ·simp only[t,decide_true,if_true] at hp ⊢;omega
  ·simp only[t,decide_false,if_false,Bool.false_eq_true] at hp ⊢;omega
 rw[<-e];refine Nat.le_trans (qM _ n.toNat _ fun s _=>Nat.le_trans (List.length_filter_le _ _) (Nat.le_of_eq (aDl a b n s))) ?_;refine Nat.mul_le_mul_right _ ?_;generalize hM:((bS a b n).filter (kL dd p r c)).filter _=M;cases hc:M with
 |nil=>simp
 |cons s0 M' =>
  rw[<-hc];have hmem:∀ s∈M,s∈bS a b n/\((if aB a.x a.y b.x b.y then y0 else x0)<=uC (decide (aB a.x a.y b.x b.y)) s.X s.Y/\uC (decide (aB a.x a.y b.x b.y)) s.X s.Y<if aB a.x a.y b.x b.y then y1 else x1):=fun s hs=>by
   rw[<-hM] at hs;obtain ⟨h3,h4⟩:=List.mem_filter.1 hs;exact ⟨(List.mem_filter.1 h3).1,of_decide_eq_true h4⟩
  have hp:M.Pairwise (fun s t=>s.K<t.K):=by rw[<-hM];exact ((mO a b n).filter _).filter _
  obtain ⟨d,e,he,hK⟩:=aBb (hmem s0 (by rw[hc];exact List.mem_cons_self)).1;have hlen:(if aB a.x a.y b.x b.y then y0 else x0)<=(if aB a.x a.y b.x b.y then y1 else x1)/\(if aB a.x a.y b.x b.y then y1 else x1)-(if aB a.x a.y b.x b.y then y0 else x0)<=m:=by
   by_cases t:aB a.x a.y b.x b.y
   ·simp only[t,if_true];omega
   ·simp only[t,if_false];omega
  generalize (if aB a.x a.y b.x b.y then y0 else x0)=lo at *;generalize (if aB a.x a.y b.x b.y then y1 else x1)=hi at *;rcases he with rfl|rfl
  ·have:=l7 M (d+lo) (d+hi) hp (fun q hq=>by have:=hK q (hmem q hq).1;have:=(hmem q hq).2;omega) (by omega);omega
  ·have:=l7 M (d-hi+1) (d-lo+1) hp (fun q hq=>by have:=hK q (hmem q hq).1;have:=(hmem q hq).2;omega) (by omega);omega
end
section
structure Parts (a c b:WinP) (dx dy m k:Int):Prop where
 m0:0<=m
 k0:0<=k
 cx:c.x=a.x+m*dx
 cy:c.y=a.y+m*dy
 bx:b.x=c.x+k*dx
 y2:b.y=c.y+k*dy
section
variable {a b c:WinP} {dx dy m k n:Int}
end
section
variable {a b c:WinP} {dx dy m k n p r q x0 y0 x1 y1:Int} {dd:Bool}
end
theorem zP {a b:WinP} {n:Int} {i:Nat} {s:St} (h:(bS a b n)[i]?=some s):s.K=i:=tP h
theorem fG {a b:WinP} {n:Int} (ha:a.fitsP) (hb:b.fitsP) (hn:cH n):(bS a b n).length<=2097220:=by
 cases hc:bS a b n with
 |nil=>simp
 |cons s0 L =>
  rw[<-hc];obtain ⟨d,e,he,hK⟩:=aBb (n:=n) (a:=a) (b:=b) (s:=s0) (by rw[hc];exact List.mem_cons_self);have hu:∀ s∈bS a b n,-1048641<=uC (decide (aB a.x a.y b.x b.y)) s.X s.Y/\uC (decide (aB a.x a.y b.x b.y)) s.X s.Y<=1048576:=fun s hs=>by
   have:=qT ha hb hn hs;unfold uC
   split<;>omega
  rcases he with rfl|rfl
  ·have:=l7 (bS a b n) (d-1048641) (d+1048577) (mO a b n) (fun q hq=>by have:=hK q hq;have:=hu q hq;omega) (by omega);omega
  ·have:=l7 (bS a b n) (d-1048576) (d+1048642) (mO a b n) (fun q hq=>by have:=hK q hq;have:=hu q hq;omega) (by omega);omega
end
end
section
theorem zV (x:Int) (hx0:0<=x) (hx1:x<9223372036854775808):bits .and .i64 x 15=x%16:=by
 rw[gG x 15 hx0 hx1 (by decide) (by decide)];have:x.toNat &&& 15=x.toNat%16:=Nat.and_two_pow_sub_one_eq_mod x.toNat 4;rw[show (15:Int).toNat=15 from rfl,this];omega
theorem aDa (x:Int) (hx0:0<=x) (hx1:x<9223372036854775808):bits .and .i64 x 1=x%2:=by
 rw[gG x 1 hx0 hx1 (by decide) (by decide)];have:x.toNat &&& 1=x.toNat%2:=Nat.and_two_pow_sub_one_eq_mod x.toNat 1;rw[show (1:Int).toNat=1 from rfl,this];omega
theorem aPd {p:Int} (p0:0<=p) (p1:p<=65535) (k:Nat):0<=p/2^k/\p/2^k<=65535:=by
 have h:(0:Int)<2^k:=Int.pow_pos (by decide);refine ⟨Int.ediv_nonneg p0 (by omega),Int.le_trans (Int.ediv_le_self _ p0) p1⟩
theorem aK1 (p n:Int) (p0:0<=p) (p1:p<=65535) (n0:0<=n) (n1:n<=4611686018427387904) (w:World):Calls prog 230 #[p,n] w (Ret (.bool (decide (p/2^(n%16).toNat%2=1))) w):=by
 have e0:=zV n n0 (by omega);obtain ⟨q0,q1⟩:=aPd p0 p1 (n%16).toNat;have e1:=aDa (p/2^(n%16).toNat) q0 (by omega);obtain ⟨q,hq⟩:∃ q,p/2^(n%16).toNat=q:=⟨_,rfl⟩;rw[hq] at q0 q1 e1 ⊢;have m0:0<=n%16:=by omega
 have m1:n%16<16:=by omega
 go_enter func230,ntmps230
 go_wp2;go_ret;exact Ret.of' (by first|rfl|(simp;rfl)) (by exact bl_)
theorem aA9 (p r c k:Int) (h:bW p r c) (k0:0<=k) (k1:k<=1099511627776) (w:World):Calls prog 194 #[D3 p r c,k] w (Ret (.bool (decide (aKe p r c k))) w):=by
 obtain ⟨⟨p0,p1⟩,⟨r0,r1⟩,c0,c1⟩:=h;have q0:0<=(c+k)/r:=Int.ediv_nonneg (by omega) (by omega);have q1:(c+k)/r<=c+k:=Int.ediv_le_self _ (by omega);have B:=jj (fun w=>aK1 p ((c+k)/r) p0 p1 q0 (by omega) w);unfold aKe;generalize decide (p/2^((c+k)/r%16).toNat%2=1)=b at *
 go_enter func194,ntmps194
 go_wp2;refine jy ?_
 repeat (go_big_quiet_step ((first|(go_at_call 230;with_reducible exact Calls.quiet_ret (B.out _)))))
 refine jv fun X=>?_
 go_wp2;go_ret;exact Ret.of' rfl (by exact bl_)
theorem aAj (p r c k:Int) (h:bW p r c) (k0:0<=k) (k1:k<=1099511627776) (w:World):Calls prog 150 #[D3 p r c,k] w (Ret (.bool (decide (aKe p r c k))) w):=by
 obtain ⟨⟨p0,p1⟩,⟨r0,r1⟩,c0,c1⟩:=h;have q0:0<=(c+k)/r:=Int.ediv_nonneg (by omega) (by omega);have q1:(c+k)/r<=c+k:=Int.ediv_le_self _ (by omega);have m0:0<=(c+k)/r%16:=by omega
 have m1:(c+k)/r%16<16:=by omega
 go_enter func150,ntmps150
 go_wp2;go_loopw [6,7] (fun n i wr=>∃ (j:Nat) (q:Int),(j:Int)<=(c+k)/r%16/\n=.int .i64 q/\i=.int .i64 j/\Hid (p/2^j=q)/\(0<=q/\q<=65535)/\∃ X,wr=w.ext X)
  (fun _ i _=>(((c+k)/r%16)-intOf i).toNat)
 case atStart=>exact ⟨0,p,by omega,rfl,rfl,jj (by simp),⟨p0,p1⟩,jz (by exact bl_)⟩
 case round =>
  obtain ⟨j,q,hj,rfl,rfl,hq,⟨s0,s1⟩,X,rfl⟩:=hrel
  by_cases hlt:(j:Int)<(c+k)/r%16
  ·have HS:=jj (show p/2^(j+1)=q/2 by rw[Int.pow_succ,<-hq.out,Int.ediv_ediv,if_neg (fun h=>absurd h.1 (by have:(0:Int)<2^j:=Int.pow_pos (by decide);omega)),Int.sub_zero]);go_wp2;go_roundw
   case rel=>exact ⟨j+1,q/2,by omega,by go_num,by go_num,HS,by omega,jz (by exact bl_)⟩
   case measure=>simp[intOf];omega
  ·have ej:((c+k)/r%16).toNat=j:=by omega
   have EJ:=jj ej;clear ej;go_wp2;go_ret;exact Ret.of' (eR (by unfold aKe;rw[EJ.out,hq.out];simp)) (by exact bl_)
theorem qQ (p r c k:Int) (h:bW p r c) (k0:0<=k) (k1:k<=1099511627776) (w:World):Calls prog 188 #[D3 p r c,k] w (Ret (D3 p r ((c+k)%(r*16))) w):=by
 obtain ⟨⟨p0,p1⟩,⟨r0,r1⟩,c0,c1⟩:=h;have m0:0<=(c+k)%(r*16):=Int.emod_nonneg _ (by omega);have m1:(c+k)%(r*16)<r*16:=Int.emod_lt_of_pos _ (by omega)
 go_enter func188,ntmps188
 go_wp2;refine bodyPost_ret (v:=D3 p r ((c+k)%(r*16))) (by simp[results,results188,go_sem];try rfl) rfl ?_;exact Ret.of' rfl (by exact bl_)
theorem pL (p r c k:Int) (h:bW p r c) (k0:0<=k) (k1:k<=1099511627776) (w:World):Calls prog 146 #[D3 p r c,k] w (Ret (D3 p r ((c+k)%(r*16))) w):=by
 obtain ⟨⟨p0,p1⟩,⟨r0,r1⟩,c0,c1⟩:=h;have m0:0<=(c+k)%(r*16):=Int.emod_nonneg _ (by omega);have m1:(c+k)%(r*16)<r*16:=Int.emod_lt_of_pos _ (by omega);have e:16*r=r*16:=by omega
 go_enter func146,ntmps146
 go_wp2;refine bodyPost_ret (v:=D3 p r ((c+k)%(r*16))) (by simp[results,results146,go_sem];try rfl) rfl ?_;exact Ret.of' rfl (by exact bl_)
end
section
abbrev aC8 (a b:WinP) (n:Int):Value:=.agg #[.int .i64 (aR a b n a.x),.int .i64 (aQ a b n a.y),.int .i64 (aR a b n b.x),.int .i64 (aQ a b n b.y),.bool (!decide (aB a.x a.y b.x b.y))]
theorem kD (a b:WinP) (n:Int) (ha:a.fits) (hb:b.fits) (hn:cH n) (w:World):Calls prog 187 #[a.v,b.v,n] w (Ret (aC8 a b n) w):=by
 obtain ⟨a0,a1,a2,a3,-,-,-⟩:=ha;obtain ⟨b0,b1,b2,b3,-,-,-⟩:=hb;obtain ⟨n0,n1⟩:=hn;unfold aC8 aR aQ
 by_cases t:aB a.x a.y b.x b.y
 ·have t1:decide (max (b.y-a.y) (-(b.y-a.y))<=max (b.x-a.x) (-(b.x-a.x)))=false:=by unfold aB at t;simp;omega
  simp only[t,decide_true,if_true,Bool.not_true];clear t
  go_enter func187,ntmps187
  go_upto_region 1 with fail
  refine jy ?_
  repeat (go_big_quiet_step ((fail)))
  refine jv fun X=>?_
  go_wp2;refine bodyPost_ret (v:=.agg #[.int .i64 (a.x-(n-1)*128),a.y,.int .i64 (b.x-(n-1)*128),b.y,.bool false]) (by simp[results,results187,go_sem];try rfl) rfl ?_;exact Ret.of' rfl (by exact bl_)
 ·have t1:decide (max (b.y-a.y) (-(b.y-a.y))<=max (b.x-a.x) (-(b.x-a.x)))=true:=by unfold aB at t;simp;omega
  simp only[t,decide_false,if_false,Bool.not_false];clear t
  go_enter func187,ntmps187
  go_upto_region 1 with fail
  refine jy ?_
  repeat (go_big_quiet_step ((fail)))
  refine jv fun X=>?_
  go_wp2;refine bodyPost_ret (v:=.agg #[a.x,.int .i64 (a.y-(n-1)*128),b.x,.int .i64 (b.y-(n-1)*128),.bool true]) (by simp[results,results187,go_sem];try rfl) rfl ?_;exact Ret.of' rfl (by exact bl_)
theorem vA (a b:WinP) (n x0 y0 x1 y1:Int) (hn:cH n) (hr:aM x0 y0 x1 y1) (w:World):Calls prog 193 #[aC8 a b n,R4 x0 y0 x1 y1,n] w (Ret (R4 (aCd a b n x0) (aCc a b n y0) x1 y1) w):=by
 obtain ⟨n0,n1⟩:=hn;unfold aM at hr;unfold aCd aCc aC8;generalize aR a b n a.x=c0;generalize aR a b n b.x=c1;generalize aQ a b n a.y=c2;generalize aQ a b n b.y=c3
 by_cases t:aB a.x a.y b.x b.y
 ·simp only[t,decide_true,if_true,Bool.not_true];clear t
  go_enter func193,ntmps193
  go_wp2;refine bodyPost_ret (v:=R4 (max (x0-n+1) (-4194304)) y0 x1 y1) (by simp[results,results193,go_sem];try rfl) rfl ?_;exact Ret.of' rfl (by exact bl_)
 ·simp only[t,decide_false,if_false,Bool.not_false];clear t
  go_enter func193,ntmps193
  go_wp2;refine bodyPost_ret (v:=R4 x0 (max (y0-n+1) (-4194304)) x1 y1) (by simp[results,results193,go_sem];try rfl) rfl ?_;exact Ret.of' rfl (by exact bl_)
theorem pT (ax ay bx y2:Int) (ha:MayP ax ay) (hb:MayP bx y2) (w:World):Calls prog 148 #[P2 ax ay,P2 bx y2] w (Ret (.bool (!decide (aB ax ay bx y2))) w):=by
 have H:=jj (fun w=>lU ax ay bx y2 ha hb w);generalize (!decide (aB ax ay bx y2))=b at *
 go_enter func148,ntmps148
 go_wp2_with (first|(go_at_call 202;with_reducible refine jn (H.out _) fun X_=>?_))
 go_ret;exact Ret.of' rfl (by exact bl_)
theorem mB (a b:WinP) (n:Int) (ha:a.fits) (hb:b.fits) (hn:cH n) (w:World):Calls prog 145 #[a.v,b.v,n] w (Ret (.tuple #[P2 (aR a b n a.x) (aQ a b n a.y),P2 (aR a b n b.x) (aQ a b n b.y)]) w):=by
 obtain ⟨a0,a1,a2,a3,-,-,-⟩:=ha;obtain ⟨b0,b1,b2,b3,-,-,-⟩:=hb;obtain ⟨n0,n1⟩:=hn;have H:=fun w=>pT a.x a.y b.x b.y ⟨by omega,by omega,by omega,by omega⟩ ⟨by omega,by omega,by omega,by omega⟩ w
 unfold aR aQ
 by_cases t:aB a.x a.y b.x b.y
 ·simp only[t,decide_true,if_true,Bool.not_true] at H ⊢;have HW:=jj H;clear t H
  go_enter func145,ntmps145
  go_upto_region 1 with fail
  refine aP (by kernel_rfl) ?_
  repeat (first|(refine dE rfl ?_;simp only[List.nil_append,List.cons_append])|(refine bN rfl rfl rfl ?_;simp only[jw,List.nil_append,List.cons_append])|(refine dF rfl rfl ?_;intro K_ hK_;go_big_quiet_op;go_big_quiet_on;simp only[List.nil_append,List.cons_append])|(refine bX rfl rfl Tryz.zeroValue181 ?_;simp only[List.nil_append,List.cons_append])|(refine aY 10 rfl rfl rfl rfl (by simp[Value.oneCell']) (by kernel_rfl) (by simp) rfl rfl rfl rfl ?_;simp only[List.nil_append,List.cons_append])|(refine aY 11 rfl rfl rfl rfl (by simp[Value.oneCell']) (by kernel_rfl) (by simp) rfl rfl rfl rfl ?_;simp only[List.nil_append,List.cons_append]))
  refine eV (jX 10 11 12 13 ⟨by kernel_rfl,by kernel_rfl⟩ rfl rfl rfl rfl rfl (by kernel_rfl) rfl rfl rfl rfl (by kernel_rfl) ?_);intro X p q h g ne_h;have c_h:=h.cell;have f_h:=h.frozen;have g_h:=h.gap;have b_h:=jj h.block;simp only[World.size_ext,World.size_alloc,World.size_drew,World.size_setCell] at g_h;clear h;have c_g:=g.cell;have f_g:=g.frozen;have g_g:=g.gap;have b_g:=jj g.block;simp only[World.size_ext,World.size_alloc,World.size_drew,World.size_setCell] at g_g;clear g;simp only[jw,ptr];go_upto_region 4 with (first|(go_at_call 148;with_reducible refine jn (HW.out _) fun X_=>?_))
  have gp:=g_h.1;have gq:=g_g.1;refine aE (F:=fun wx=>Row wx p #[a.x,a.y] 181/\Row wx q #[b.x,b.y] 181/\Row wx (w.heap.size+1+1) #[.int .i64 0,.int .i64 0] 181/\Row wx (w.heap.size+1+1+1) #[.int .i64 0,.int .i64 0] 181/\∃ X,wx=w.ext X) ⟨by (repeat (first|exact b_h.out|with_reducible refine Row.ext ?_ _|with_reducible refine aC ?_)),by (repeat (first|exact b_g.out|with_reducible refine Row.ext ?_ _|with_reducible refine aC ?_)),by exact rx_,by exact rx_,jz (by exact bl_)⟩ ?_;rintro wx ⟨Rp,Rq,Rr,Rs,hX⟩;have HX:=jj hX;have lp:=Rp.lt;have lq:=Rq.lt;have lr:=Rr.lt;have ls:=Rs.lt;have cp:=Rp.cell;have cq:=Rq.cell;have cr:=Rr.cell;have cs:=Rs.cell;have fp:=Rp.frozen;have fq:=Rq.frozen;have fr:=Rr.frozen;have fs:=Rs.frozen;have ne_g:=ne_h.symm;have e128:128*(n-1)=(n-1)*128:=by omega
  clear c_h c_g f_h f_g g_h g_g b_h b_g hX;go_region
  go_upto_region 6 with fail
  refine aE (F:=fun wy=>Row wy p #[.int .i64 (a.x-(n-1)*128),a.y] 181/\Row wy q #[.int .i64 (b.x-(n-1)*128),b.y] 181/\Row wy (w.heap.size+1+1) #[.int .i64 0,.int .i64 0] 181/\Row wy (w.heap.size+1+1+1) #[.int .i64 0,.int .i64 0] 181/\∃ X,wy=w.ext X) ⟨by (repeat (first|exact Rp.set 0 _|exact Row.other (Rp.set 0 _) ne_h _ _|exact Row.set (Row.other Rq ne_g _ _) 0 _|exact Rr|exact Rs|with_reducible refine Row.ext ?_ _|with_reducible refine aC ?_|(with_reducible refine Row.other ?_ (by first|assumption|omega) _ _))),by (repeat (first|exact Rp.set 0 _|exact Row.other (Rp.set 0 _) ne_h _ _|exact Row.set (Row.other Rq ne_g _ _) 0 _|exact Rr|exact Rs|with_reducible refine Row.ext ?_ _|with_reducible refine aC ?_|(with_reducible refine Row.other ?_ (by first|assumption|omega) _ _))),by (repeat (first|exact Rp.set 0 _|exact Row.other (Rp.set 0 _) ne_h _ _|exact Row.set (Row.other Rq ne_g _ _) 0 _|exact Rr|exact Rs|with_reducible refine Row.ext ?_ _|with_reducible refine aC ?_|(with_reducible refine Row.other ?_ (by first|assumption|omega) _ _))),by (repeat (first|exact Rp.set 0 _|exact Row.other (Rp.set 0 _) ne_h _ _|exact Row.set (Row.other Rq ne_g _ _) 0 _|exact Rr|exact Rs|with_reducible refine Row.ext ?_ _|with_reducible refine aC ?_|(with_reducible refine Row.other ?_ (by first|assumption|omega) _ _))),by obtain ⟨X0,hX0⟩:=HX.out;subst hX0;exact jz (by exact br_)⟩ ?_;clear lp lq lr ls cp cq cr cs fp fq fr fs HX Rp Rq Rr Rs;rintro wy ⟨Rp,Rq,Rr,Rs,hX⟩;have HX:=jj hX;have lp:=Rp.lt;have lq:=Rq.lt;have lr:=Rr.lt;have ls:=Rs.lt;have cp:=Rp.cell;have cq:=Rq.cell;have cr:=Rr.cell;have cs:=Rs.cell;have fp:=Rp.frozen;have fq:=Rq.frozen;have fr:=Rr.frozen;have fs:=Rs.frozen;clear hX Rp Rq Rr Rs;go_region
  go_wp2;refine bodyPost_ret (v:=.tuple #[.agg #[.int .i64 (a.x-(n-1)*128),a.y],.agg #[.int .i64 (b.x-(n-1)*128),b.y]]) (by simp[results,results145,go_sem,cr,cs];try rfl) rfl ?_;obtain ⟨X0,hX0⟩:=HX.out;subst hX0;exact Ret.of' rfl (by exact br_)
 ·simp only[t,decide_false,if_false,Bool.not_false] at H ⊢;have HW:=jj H;clear t H
  go_enter func145,ntmps145
  go_upto_region 1 with fail
  refine aP (by kernel_rfl) ?_
  repeat (first|(refine dE rfl ?_;simp only[List.nil_append,List.cons_append])|(refine bN rfl rfl rfl ?_;simp only[jw,List.nil_append,List.cons_append])|(refine dF rfl rfl ?_;intro K_ hK_;go_big_quiet_op;go_big_quiet_on;simp only[List.nil_append,List.cons_append])|(refine bX rfl rfl Tryz.zeroValue181 ?_;simp only[List.nil_append,List.cons_append])|(refine aY 10 rfl rfl rfl rfl (by simp[Value.oneCell']) (by kernel_rfl) (by simp) rfl rfl rfl rfl ?_;simp only[List.nil_append,List.cons_append])|(refine aY 11 rfl rfl rfl rfl (by simp[Value.oneCell']) (by kernel_rfl) (by simp) rfl rfl rfl rfl ?_;simp only[List.nil_append,List.cons_append]))
  refine eV (jX 10 11 12 13 ⟨by kernel_rfl,by kernel_rfl⟩ rfl rfl rfl rfl rfl (by kernel_rfl) rfl rfl rfl rfl (by kernel_rfl) ?_);intro X p q h g ne_h;have c_h:=h.cell;have f_h:=h.frozen;have g_h:=h.gap;have b_h:=jj h.block;simp only[World.size_ext,World.size_alloc,World.size_drew,World.size_setCell] at g_h;clear h;have c_g:=g.cell;have f_g:=g.frozen;have g_g:=g.gap;have b_g:=jj g.block;simp only[World.size_ext,World.size_alloc,World.size_drew,World.size_setCell] at g_g;clear g;simp only[jw,ptr];go_upto_region 4 with (first|(go_at_call 148;with_reducible refine jn (HW.out _) fun X_=>?_))
  have gp:=g_h.1;have gq:=g_g.1;refine aE (F:=fun wx=>Row wx p #[a.x,a.y] 181/\Row wx q #[b.x,b.y] 181/\Row wx (w.heap.size+1+1) #[.int .i64 0,.int .i64 0] 181/\Row wx (w.heap.size+1+1+1) #[.int .i64 0,.int .i64 0] 181/\∃ X,wx=w.ext X) ⟨by (repeat (first|exact b_h.out|with_reducible refine Row.ext ?_ _|with_reducible refine aC ?_)),by (repeat (first|exact b_g.out|with_reducible refine Row.ext ?_ _|with_reducible refine aC ?_)),by exact rx_,by exact rx_,jz (by exact bl_)⟩ ?_;rintro wx ⟨Rp,Rq,Rr,Rs,hX⟩;have HX:=jj hX;have lp:=Rp.lt;have lq:=Rq.lt;have lr:=Rr.lt;have ls:=Rs.lt;have cp:=Rp.cell;have cq:=Rq.cell;have cr:=Rr.cell;have cs:=Rs.cell;have fp:=Rp.frozen;have fq:=Rq.frozen;have fr:=Rr.frozen;have fs:=Rs.frozen;have ne_g:=ne_h.symm;have e128:128*(n-1)=(n-1)*128:=by omega
  clear c_h c_g f_h f_g g_h g_g b_h b_g hX;go_region
  go_upto_region 6 with fail
  refine aE (F:=fun wy=>Row wy p #[a.x,.int .i64 (a.y-(n-1)*128)] 181/\Row wy q #[b.x,.int .i64 (b.y-(n-1)*128)] 181/\Row wy (w.heap.size+1+1) #[.int .i64 0,.int .i64 0] 181/\Row wy (w.heap.size+1+1+1) #[.int .i64 0,.int .i64 0] 181/\∃ X,wy=w.ext X) ⟨by (repeat (first|exact Rp.set 1 _|exact Row.other (Rp.set 1 _) ne_h _ _|exact Row.set (Row.other Rq ne_g _ _) 1 _|exact Rr|exact Rs|with_reducible refine Row.ext ?_ _|with_reducible refine aC ?_|(with_reducible refine Row.other ?_ (by first|assumption|omega) _ _))),by (repeat (first|exact Rp.set 1 _|exact Row.other (Rp.set 1 _) ne_h _ _|exact Row.set (Row.other Rq ne_g _ _) 1 _|exact Rr|exact Rs|with_reducible refine Row.ext ?_ _|with_reducible refine aC ?_|(with_reducible refine Row.other ?_ (by first|assumption|omega) _ _))),by (repeat (first|exact Rp.set 1 _|exact Row.other (Rp.set 1 _) ne_h _ _|exact Row.set (Row.other Rq ne_g _ _) 1 _|exact Rr|exact Rs|with_reducible refine Row.ext ?_ _|with_reducible refine aC ?_|(with_reducible refine Row.other ?_ (by first|assumption|omega) _ _))),by (repeat (first|exact Rp.set 1 _|exact Row.other (Rp.set 1 _) ne_h _ _|exact Row.set (Row.other Rq ne_g _ _) 1 _|exact Rr|exact Rs|with_reducible refine Row.ext ?_ _|with_reducible refine aC ?_|(with_reducible refine Row.other ?_ (by first|assumption|omega) _ _))),by obtain ⟨X0,hX0⟩:=HX.out;subst hX0;exact jz (by exact br_)⟩ ?_;clear lp lq lr ls cp cq cr cs fp fq fr fs HX Rp Rq Rr Rs;rintro wy ⟨Rp,Rq,Rr,Rs,hX⟩;have HX:=jj hX;have lp:=Rp.lt;have lq:=Rq.lt;have lr:=Rr.lt;have ls:=Rs.lt;have cp:=Rp.cell;have cq:=Rq.cell;have cr:=Rr.cell;have cs:=Rs.cell;have fp:=Rp.frozen;have fq:=Rq.frozen;have fr:=Rr.frozen;have fs:=Rs.frozen;clear hX Rp Rq Rr Rs;go_region
  go_wp2;refine bodyPost_ret (v:=.tuple #[.agg #[a.x,.int .i64 (a.y-(n-1)*128)],.agg #[b.x,.int .i64 (b.y-(n-1)*128)]]) (by simp[results,results145,go_sem,cr,cs];try rfl) rfl ?_;obtain ⟨X0,hX0⟩:=HX.out;subst hX0;exact Ret.of' rfl (by exact br_)
theorem pU (ax ay bx y2 x y:Int) (ha:MayP ax ay) (hb:MayP bx y2) (hx:FarP x y) (w:World):Calls prog 149 #[P2 ax ay,P2 bx y2,x,y] w (Ret (.tuple #[.int .i64 (if exP ax ay bx y2 x y then wU ax ay bx y2 x y else 0),.bool (decide (exP ax ay bx y2 x y))]) w):=by
 have E:=fun w=>nC ax ay bx y2 x y ha hb hx w
 by_cases h:exP ax ay bx y2 x y
 ·have c:¬(ax=bx/\ay=y2):=fun k=>by obtain ⟨rfl,rfl⟩:=k;exact aA4 _ _ _ _ h
  have HN:=fun w=>xK (ofL ax ay bx y2) (aPr ax ay bx y2 ha hb) x y (uC (decide (aB ax ay bx y2)) x y) (by unfold uC;have:=hx.x0;have:=hx.y0;split<;>omega) (by unfold uC;have:=hx.x1;have:=hx.y1;split<;>omega) w
  rw[aNh ax ay bx y2 x y c h] at HN;have HO:=jj (fun w=>z7 ax ay bx y2 ha hb w);have HW:=fun w=>lU ax ay bx y2 ha hb w
  simp only[h,decide_true,if_true] at E ⊢;have HE:=jj E;generalize wU ax ay bx y2 x y=k at *;generalize ofL ax ay bx y2=l at *
  by_cases t:aB ax ay bx y2
  ·simp only[t,decide_true,Bool.not_true,uC,if_true] at HN HW;have H1:=jj HN;have H2:=jj HW;clear E h HN HW c ha hb hx t
   go_enter func149,ntmps149
   go_wp2_with (first|(go_at_call 203;with_reducible refine jn (HE.out _) fun X_=>?_)|(go_at_call 202;with_reducible refine jn (H2.out _) fun X_=>?_)|(go_at_call 200;with_reducible refine jn (HO.out _) fun X_=>?_)|(go_at_call 204;with_reducible refine jn (H1.out _) fun X_=>?_))
   go_ret2
   exact Ret.of' rfl (by exact bl_)
  ·simp only[t,decide_false,Bool.not_false,uC,if_false,Bool.false_eq_true] at HN HW;have H1:=jj HN;have H2:=jj HW;clear E h HN HW c ha hb hx t
   go_enter func149,ntmps149
   go_wp2_with (first|(go_at_call 203;with_reducible refine jn (HE.out _) fun X_=>?_)|(go_at_call 202;with_reducible refine jn (H2.out _) fun X_=>?_)|(go_at_call 200;with_reducible refine jn (HO.out _) fun X_=>?_)|(go_at_call 204;with_reducible refine jn (H1.out _) fun X_=>?_))
   go_ret2
   exact Ret.of' rfl (by exact bl_)
 ·simp only[h,decide_false,if_false] at E ⊢;have HE:=jj E;clear E h
  go_enter func149,ntmps149
  go_wp2_with (first|(go_at_call 203;with_reducible refine jn (HE.out _) fun X_=>?_))
  go_ret2
  exact Ret.of' rfl (by exact bl_)
end
end Go.Proofs.YthcjfanigfgckaaGreat
