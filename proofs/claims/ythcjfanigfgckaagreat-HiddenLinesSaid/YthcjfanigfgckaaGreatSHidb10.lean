import Derived.RangeFuncNested
import Derived.RangeFuncBound
import Derived.RangeFuncCalls
import Derived.RangeFuncLeaves
import Derived.Shelf.Abstract
import Derived.Shelf.RegionOpen
import Derived.OwnWalkIn
import Derived.TacticsInMore
import Derived.LoopNIn
import Derived.LoopIn
import Derived.RangeFuncFrom
import Derived.Test.YthcjfanigfgckaaGreatSHidb09
set_option linter.unusedVariables false
set_option linter.unusedSimpArgs false
set_option maxRecDepth 100000
set_option maxHeartbeats 16000000
namespace Go.Proofs.YthcjfanigfgckaaGreat
open Go.RowKit _root_.Go.Proofs.Tryz
section
theorem aGh (x y i k:Int):(fK x y=true/\inX x y=i/\inY x y=k)↔oB (x-256*i-128) (y-256*k-128):=by
 unfold inX inY oB;cases h:fK x y
 ·unfold fK at h;rw[decide_eq_false_iff_not] at h
  simp only[Bool.false_eq_true,if_false,false_and,false_iff];omega
 ·unfold fK at h;rw[decide_eq_true_iff] at h
  simp only[if_true,true_and]
  split<;>omega
structure Slope (t:Bool) (D E back:Int):Prop where
 pos:0<D
 le:E<=D
 ge:-D<=E
 lt:t=true->-D<E/\E<D
 back1:t=true\/E<=0->back=1
 back0:t=false->0<E->back=0
theorem Slope.b01 {t:Bool} {D E back:Int} (S:Slope t D E back):back=0/\t=false/\0<E\/back=1/\(t=true\/E<=0):=by
 cases t
 ·by_cases h:0<E
  ·exact Or.inl ⟨S.back0 rfl h,rfl,h⟩
  ·exact Or.inr ⟨S.back1 (Or.inr (by omega)),Or.inr (by omega)⟩
 ·exact Or.inr ⟨S.back1 (Or.inl rfl),Or.inl rfl⟩
def ins (t:Bool) (pu pv:Int):Prop:=oB (if t then pv else pu) (if t then pu else pv)
theorem yT (pu pv:Int):ins false pu pv↔oB pu pv:=Iff.rfl
theorem aCt (pu pv:Int):ins true pu pv↔oB pv pu:=Iff.rfl
def Mid (D back r:Int):Prop:=-128*D<=r-back/\r-back<128*D
theorem pm {a b c:Int} (h:a<=b) (c0:0<=c):a*c<=b*c:=Int.mul_le_mul_of_nonneg_right h c0
theorem aGd {t:Bool} {D E back pu pv:Int} (S:Slope t D E back) (h:ins t pu pv):Mid D back (pv*D-E*pu):=by
 have e:2*(pv*D-E*pu)=(pu+pv)*(D-E)-(pu-pv)*(D+E):=by grind
 have d0:0<=D-E:=by have:=S.le;omega
 have d1:0<=D+E:=by have:=S.ge;omega
 have p0:=S.pos;unfold Mid;rcases S.b01 with ⟨b,rfl,hE⟩|⟨b,hE⟩
 ·obtain ⟨h1,h2,h3,h4⟩:=(yT pu pv).1 h;have q1:=pm (a:=pu+pv) (b:=128) (by omega) d0;have q2:=pm (a:=-127) (b:=pu+pv) (by omega) d0;have q3:=pm (a:=pu-pv) (b:=128) (by omega) d1;have q4:=pm (a:=-127) (b:=pu-pv) (by omega) d1;omega
 ·cases t
  ·obtain ⟨h1,h2,h3,h4⟩:=(yT pu pv).1 h;have hE:E<=0:=by rcases hE with h|h;cases h;exact h
   have q1:=pm (a:=pu+pv) (b:=128) (by omega) d0;have q2:=pm (a:=-127) (b:=pu+pv) (by omega) d0;have q3:=pm (a:=pu-pv) (b:=128) (by omega) d1;have q4:=pm (a:=-127) (b:=pu-pv) (by omega) d1;omega
  ·obtain ⟨h1,h2,h3,h4⟩:=(aCt pu pv).1 h;have q1:=pm (a:=pu+pv) (b:=128) (by omega) d0;have q2:=pm (a:=-127) (b:=pu+pv) (by omega) d0;have q3:=pm (a:=pu-pv) (b:=127) (by omega) d1;have q4:=pm (a:=-128) (b:=pu-pv) (by omega) d1;omega
theorem dM {D a b:Int} (hD:0<D) (h:D*a<D*b):a<b:=Int.lt_of_mul_lt_mul_left h (by omega)
theorem aKi {t:Bool} {D E back pu pv qu qv:Int} (S:Slope t D E back) (h:ins t pu pv) (hr:qv*D-E*qu=pv*D-E*pu) (ho:pu<=qu/\qu<=0\/0<qu/\qu<=pu):ins t qu qv:=by
 have hM:=aGd S h;have p0:=S.pos;have d0:0<=D-E:=by have:=S.le;omega
 have d1:0<=D+E:=by have:=S.ge;omega
 obtain ⟨r,er⟩:∃ r,pv*D-E*pu=r:=⟨_,rfl⟩;rw[er] at hM hr;obtain ⟨m0,m1⟩:=hM;have a1:D*(qu+qv)=qu*(D+E)+r:=by grind
 have a2:D*(qu-qv)=qu*(D-E)-r:=by grind
 have a3:D*(pu+pv)=pu*(D+E)+r:=by grind
 have a4:D*(pu-pv)=pu*(D-E)-r:=by grind
 have key:∀ a b:Int,(D*a<D*b->a<b):=fun a b h=>dM p0 h
 have s1:=key (-128) (qu+qv);have s2:=key (qu+qv) 129;have s3:=key (-129) (qu-qv);have s4:=key (-128) (qu-qv);have s5:=key (qu-qv) 128;have s6:=key (qu-qv) 129;have z1:D*(-128)=-(128*D):=by grind
 have z2:D*128=128*D:=by grind
 have z3:D*(-129)=-(128*D)-D:=by grind
 have z4:D*129=128*D+D:=by grind
 have k1:∀ a b:Int,a<=b->D*a<=D*b:=fun a b h=>Int.mul_le_mul_of_nonneg_left h (by omega)
 rcases S.b01 with ⟨b,rfl,hE⟩|⟨b,hE⟩
 ·rw[yT] at h ⊢;obtain ⟨h1,h2,h3,h4⟩:=h;have g1:=k1 (-127) (pu+pv) (by omega);have g2:=k1 (pu+pv) 128 (by omega);have g3:=k1 (-127) (pu-pv) (by omega);have g4:=k1 (pu-pv) 128 (by omega);have z5:D*(-127)=-(128*D)+D:=by grind
  rcases ho with ⟨o1,o2⟩|⟨o1,o2⟩
  ·have q1:=pm o1 d1;have q2:=pm o1 d0;have q3:=pm o2 d1;have q4:=pm o2 d0
   unfold oB;omega
  ·have q1:=pm o2 d1;have q2:=pm o2 d0;have q3:=pm (show 1<=qu by omega) d1;have q4:=pm (show 1<=qu by omega) d0
   unfold oB;omega
 ·cases t
  ·have hE:E<=0:=by rcases hE with h|h;cases h;exact h
   rw[yT] at h ⊢;obtain ⟨h1,h2,h3,h4⟩:=h;have g1:=k1 (-127) (pu+pv) (by omega);have g2:=k1 (pu+pv) 128 (by omega);have g3:=k1 (-127) (pu-pv) (by omega);have g4:=k1 (pu-pv) 128 (by omega);have z5:D*(-127)=-(128*D)+D:=by grind
   rcases ho with ⟨o1,o2⟩|⟨o1,o2⟩
   ·have q1:=pm o1 d1;have q2:=pm o1 d0;have q3:=pm o2 d1;have q4:=pm o2 d0
    unfold oB;omega
   ·have q1:=pm o2 d1;have q2:=pm o2 d0;have q3:=pm (show 1<=qu by omega) d1;have q4:=pm (show 1<=qu by omega) d0
    unfold oB;omega
  ·have hl:=S.lt rfl;rw[aCt] at h ⊢;obtain ⟨h1,h2,h3,h4⟩:=h;have g1:=k1 (-127) (pu+pv) (by omega);have g2:=k1 (pu+pv) 128 (by omega);have g3:=k1 (-128) (pu-pv) (by omega);have g4:=k1 (pu-pv) 127 (by omega);have z5:D*(-127)=-(128*D)+D:=by grind
   have z6:D*127=128*D-D:=by grind
   rcases ho with ⟨o1,o2⟩|⟨o1,o2⟩
   ·have q1:=pm o1 d1;have q2:=pm o1 d0;have q3:=pm o2 d1;have q4:=pm o2 d0
    unfold oB;omega
   ·have q1:=pm o2 d1;have q2:=pm o2 d0;have q3:=pm (show 1<=qu by omega) d1;have q4:=pm (show 1<=qu by omega) d0
    unfold oB;omega
def aD (u:Int):Int:=(u+127)/256
def uC (t:Bool) (x y:Int):Int:=if t then y else x
def vC (t:Bool) (x y:Int):Int:=if t then x else y
def iC (t:Bool) (x y:Int):Int:=if t then inY x y else inX x y
def kC (t:Bool) (x y:Int):Int:=if t then inX x y else inY x y
theorem kY (t:Bool) (x y i k:Int):(fK x y=true/\iC t x y=i/\kC t x y=k)↔ins t (uC t x y-256*i-128) (vC t x y-256*k-128):=by
 cases t
 ·exact aGh x y i k
 ·rw[aCt];exact Iff.trans ⟨fun ⟨a,b,c⟩=>⟨a,c,b⟩,fun ⟨a,b,c⟩=>⟨a,c,b⟩⟩ (aGh x y k i)
theorem yV (t:Bool) (x y:Int) (h:fK x y=true):(iC t x y=aD (uC t x y)/\uC t x y<=256*iC t x y+128)\/(iC t x y=aD (uC t x y)-1/\256*iC t x y+128<uC t x y):=by
 have:=(kY t x y (iC t x y) (kC t x y)).1 ⟨h,rfl,rfl⟩;obtain ⟨i,hi⟩:∃ i,iC t x y=i:=⟨_,rfl⟩;rw[hi] at this ⊢;unfold aD;cases t
 ·obtain ⟨h1,h2,h3,h4⟩:=(yT _ _).1 this;omega
 ·obtain ⟨h1,h2,h3,h4⟩:=(aCt _ _).1 this;omega
theorem bC {u v:Int} (h:u<=v):aD u<=aD v:=by unfold aD;omega
def Way.Good (W:Way):Prop:=Slope W.turned W.du W.dv W.back
def Way.On (W:Way) (cu cv:Int):Prop:=W.du*(cv-W.av)=W.dv*(cu-W.au)
theorem aOl (W:Way):W.On W.au W.av:=by unfold Way.On;grind
theorem aSj (W:Way):W.On W.bu W.bv:=by unfold Way.On Way.du Way.dv;split<;>grind
theorem tZ (n d k:Int) (hd:0<d):n/d=k↔k*d<=n/\n<(k+1)*d:=by
 rw[Int.ediv_eq_iff_of_pos hd,Int.add_mul];omega
theorem kF {W:Way} (g:W.Good) (i k cu cv:Int) (o:W.On cu cv):W.across i=k↔Mid W.du W.back ((cv-256*k-128)*W.du-W.dv*(cu-256*i-128)):=by
 have p0:=Slope.pos g;unfold Way.across;rw[tZ _ _ _ (by unfold Way.den;omega)];unfold Way.On at o;unfold Way.num Way.den Mid;obtain ⟨D,hD⟩:∃ D,W.du=D:=⟨_,rfl⟩;obtain ⟨E,hE⟩:∃ E,W.dv=E:=⟨_,rfl⟩;obtain ⟨b,hb⟩:∃ b,W.back=b:=⟨_,rfl⟩;rw[hD,hE] at o;rw[hD,hE,hb];have e1:(cv-256*k-128)*D-E*(cu-256*i-128)=W.av*D+E*(256*i+128-W.au)-k*(256*D)-128*D:=by grind
 have e2:(k+1)*(256*D)=k*(256*D)+256*D:=by grind
 rw[e1,e2];obtain ⟨T,hT⟩:∃ T,W.av*D+E*(256*i+128-W.au)=T:=⟨_,rfl⟩;obtain ⟨K,hK⟩:∃ T,k*(256*D)=T:=⟨_,rfl⟩;rw[hT,hK];omega
theorem dV {W:Way} (g:W.Good) (x y:Int) (o:W.On (uC W.turned x y) (vC W.turned x y)) (h:fK x y=true):W.across (iC W.turned x y)=kC W.turned x y :=
 (kF g _ _ _ _ o).2 (aGd g ((kY W.turned x y _ _).1 ⟨h,rfl,rfl⟩))
theorem Way.near {W:Way} (g:W.Good) {x y x' y':Int} (o:W.On (uC W.turned x y) (vC W.turned x y)) (o':W.On (uC W.turned x' y') (vC W.turned x' y')) (h:fK x y=true)
  (ho:uC W.turned x y<=uC W.turned x' y'/\uC W.turned x' y'<=256*iC W.turned x y+128\/256*iC W.turned x y+128<uC W.turned x' y'/\uC W.turned x' y'<=uC W.turned x y) :
  fK x' y'=true/\iC W.turned x' y'=iC W.turned x y/\kC W.turned x' y'=kC W.turned x y:=by
 have hi:=(kY W.turned x y _ _).1 ⟨h,rfl,rfl⟩;rw[kY];refine aKi g hi ?_ (by omega);unfold Way.On at o o'
 grind
def iX (t:Bool) (x y:Int):Int:=aD (uC t x y)-if fK x y=true/\iC t x y=aD (uC t x y)-1 then 1 else 0
def iY (t:Bool) (x y:Int):Int:=aD (uC t x y)-if fK x y=true/\iC t x y=aD (uC t x y) then 0 else 1
structure St where
 K:Int
 X:Int
 Y:Int
def aB (ax ay bx y2:Int):Prop:=max (bx-ax) (-(bx-ax))<max (y2-ay) (-(y2-ay))
instance (ax ay bx y2 : Int) : Decidable (aB ax ay bx y2) := by unfold aB; exact inferInstance
def mX (w h:Int):Prop:=(0<w/\0<h)\/(w<0/\h<0)
instance (w h : Int) : Decidable (mX w h) := by unfold mX; exact inferInstance
def eD (ax ay bx y2:Int):Int:=if ¬aB ax ay bx y2/\mX (bx-ax) (y2-ay) then 0 else 1
def aBu (t:Bool) (back ax ay bx y2 z:Int):Way:=⟨uC t ax ay,vC t ax ay,uC t bx y2,vC t bx y2,t,back,aD (uC t ax ay)-z,aD (uC t bx y2)-z,false,false,0,0⟩
def aG (ax ay bx y2:Int):Way:=aBu (decide (aB ax ay bx y2)) (eD ax ay bx y2) ax ay bx y2 (if aD (uC (decide (aB ax ay bx y2)) bx y2)<aD (uC (decide (aB ax ay bx y2)) ax ay) then 1 else 0)
def gV (ax ay bx y2:Int):Way:=(aG ax ay bx y2).ended ax ay bx y2
theorem dR (ax ay bx y2 z:Int) (h:¬(ax=bx/\ay=y2)):(aBu (decide (aB ax ay bx y2)) (eD ax ay bx y2) ax ay bx y2 z).Good:=by
 unfold Way.Good aBu Way.du Way.dv eD
 by_cases t:aB ax ay bx y2
 ·simp only[t,decide_true,uC,vC,if_true,not_true,false_and,if_false];unfold aB at t
  split
  ·refine ⟨by omega,by omega,by omega,fun _=>by omega,fun _=>rfl,fun h=>by cases h⟩
  ·refine ⟨by omega,by omega,by omega,fun _=>by omega,fun _=>rfl,fun h=>by cases h⟩
 ·simp only[t,decide_false,uC,vC,Bool.false_eq_true,if_false,not_false_iff,true_and];unfold aB at t
  by_cases c:mX (bx-ax) (y2-ay)
  ·rw[if_pos c];unfold mX at c
   split
   ·refine ⟨by omega,by omega,by omega,(fun h=>by cases h),(fun h=>h.elim (fun h=>by cases h) (fun h=>by omega)),fun _ _=>rfl⟩
   ·refine ⟨by omega,by omega,by omega,(fun h=>by cases h),(fun h=>h.elim (fun h=>by cases h) (fun h=>by omega)),fun _ _=>rfl⟩
  ·rw[if_neg c];unfold mX at c
   split
   ·refine ⟨by omega,by omega,by omega,(fun h=>by cases h),fun _=>rfl,fun _ h=>by omega⟩
   ·refine ⟨by omega,by omega,by omega,(fun h=>by cases h),fun _=>rfl,fun _ h=>by omega⟩
def Way.len (W:Way):Int:=W.size-if W.opn=true then 1 else 0
def Way.cell (W:Way) (k u:Int):St:=⟨k,W.px u (W.across u),W.py u (W.across u)⟩
def Way.line (W:Way):List St:=(if W.extra=true then [⟨0,W.px W.u W.v,W.py W.u W.v⟩] else [])++(List.range W.len.toNat).map (fun j:Nat=>W.cell ((if W.extra=true then 1 else 0)+(j:Int)) (W.first+(j:Int)*W.step))
def Way.run (W:Way) (s σ N:Int):List St:=(List.range N.toNat).map (fun j:Nat=>W.cell (j:Int) (s+(j:Int)*σ))
theorem tG (W:Way) (s σ N:Int) (h:0<=N):W.run s σ (N+1)=W.cell 0 s::(List.range N.toNat).map (fun j:Nat=>W.cell (1+(j:Int)) (s+σ+(j:Int)*σ)):=by
 unfold Way.run;rw[show (N+1).toNat=N.toNat+1 from by omega,List.range_succ_eq_map,List.map_cons,List.map_map]
 congr 1
 ·congr 1;simp
 ·apply List.map_congr_left
  intro j _;show W.cell ((j+1:Nat):Int) (s+((j+1:Nat):Int)*σ)=_
  rw[Int.natCast_add,Int.add_mul]
  congr 1<;>simp<;>omega
theorem oQ (W:Way) (s σ N:Int) (h:N<=0):W.run s σ N=[]:=by
 unfold Way.run;rw[show N.toNat=0 from by omega];rfl
theorem aF3 (W:Way) (s N:Int) (e o:Int)
  (hE:W.extra=true/\e=1/\W.v=W.across W.u/\W.u=s\/W.extra=false/\e=0) (hO:W.len=N-e) (hN:0<=N-e) (hs:N=e\/W.first=s+e*W.step) :
  W.line=W.run s W.step N:=by
 rcases hE with ⟨h1,rfl,h2,h3⟩|⟨h1,rfl⟩
 ·unfold Way.line;rw[if_pos h1,if_pos h1,hO];have:=tG W s W.step (N-1) hN;rw[show N-1+1=N from by omega] at this;rw[this,List.cons_append,List.nil_append]
  congr 1
  ·unfold Way.cell;rw[h2,h3]
  ·rcases hs with rfl|hs
   ·rfl
   ·rw[hs,Int.one_mul]
 ·unfold Way.line Way.run;rw[if_neg (by rw[h1];simp),if_neg (by rw[h1];simp),hO];rcases hs with rfl|hs
  ·rfl
  ·rw[hs];simp
theorem j9 (W:Way) (h1:W.extra=false) (h2:W.opn=false) (ax ay bx y2:Int) :
  W.ended ax ay bx y2={ W with extra:=decide (W.endA ax ay bx y2),opn:=decide (W.endB bx y2/\W.across (iC W.turned bx y2)=kC W.turned bx y2),u:=if W.endA ax ay bx y2 then iC W.turned ax ay else W.u,v:=if W.endA ax ay bx y2 then kC W.turned ax ay else W.v }:=by
 unfold Way.ended Way.ended2 Way.ended1
 by_cases a:W.endA ax ay bx y2
 ·by_cases b:W.endB bx y2
  ·simp only[a,b,if_true,decide_true,true_and];rfl
  ·simp only[a,b,if_true,if_false,decide_true,false_and,decide_false,<-h2];rfl
 ·by_cases b:W.endB bx y2
  ·simp only[a,b,if_true,if_false,decide_true,true_and,decide_false,<-h1];rfl
  ·simp only[a,b,if_false,false_and,decide_false];cases W
   simp only at h1 h2;subst h1;subst h2;rfl
theorem aOa {PA PB EA OB:Prop} {i k i' k' La Lb ua ub:Int} (f:Int->Int) (hm:La<=Lb) (h:ua<ub)
  (la:ua<=256*La+128/\256*La-128<ua) (lb:ub<=256*Lb+128/\256*Lb-128<ub)
  (A:PA->(i=La/\ua<=256*i+128)\/(i=La-1/\256*i+128<ua)) (B:PB->(i'=Lb/\ub<=256*i'+128)\/(i'=Lb-1/\256*i'+128<ub))
  (NA:PA->(ua<=ub/\ub<=256*i+128\/256*i+128<ub/\ub<=ua)->PB/\i'=i/\k'=k)
  (NB:PB->(ub<=ua/\ua<=256*i'+128\/256*i'+128<ua/\ua<=ub)->PA/\i=i'/\k=k')
  (XA:PA->f i=k) (XB:PB->f i'=k')
  (hEA:EA↔PA/\(Lb-La=0\/i≠La)/\¬(PB/\i=i'/\k=k'))
  (hOB:OB↔(0<Lb-La/\PB/\i'=Lb-1)/\f i'=k') :
  (EA↔(PA/\i=La-1)/\¬(Lb=La/\PB/\i'=Lb-1))/\(OB↔La<Lb/\PB/\i'=Lb-1)/\(Lb=La->PB/\i'=Lb-1->PA/\i=La-1):=by
 rw[hEA,hOB];clear hEA hOB
 by_cases a:PA
 ·replace A:=A a;replace NA:=NA a;replace XA:=XA a
  by_cases b:PB
  ·replace B:=B b;replace NB:=NB b;replace XB:=XB b
   by_cases e:i=i'
   ·subst e;rw[XA] at XB
    refine ⟨⟨fun ⟨_,q1,q2⟩=>absurd ⟨b,rfl,XB⟩ q2,fun ⟨⟨_,q1⟩,q2⟩=>⟨a,by omega,fun q=>q2 ⟨by omega,b,by omega⟩⟩⟩,⟨fun q=>⟨by omega,b,q.1.2.2⟩,fun q=>⟨⟨by omega,b,q.2.2⟩,by omega⟩⟩,fun _ _=>⟨a,by omega⟩⟩
   ·refine ⟨⟨fun ⟨_,q1,q2⟩=>⟨⟨a,by omega⟩,fun ⟨q3,_,q4⟩=>by omega⟩,fun ⟨⟨_,q1⟩,q2⟩=>⟨a,by omega,fun q=>e q.2.1⟩⟩,⟨fun q=>⟨by omega,b,q.1.2.2⟩,fun q=>⟨⟨by omega,b,q.2.2⟩,XB⟩⟩,fun _ _=>⟨a,by omega⟩⟩
  ·have NA':¬(ua<=ub/\ub<=256*i+128\/256*i+128<ub/\ub<=ua):=fun c=>b (NA c).1
   refine ⟨⟨fun ⟨_,q1,q2⟩=>⟨⟨a,by omega⟩,fun q=>b q.2.1⟩,fun ⟨⟨_,q1⟩,q2⟩=>⟨a,by omega,fun q=>b q.1⟩⟩,⟨fun q=>absurd q.1.2.1 b,fun q=>absurd q.2.1 b⟩,fun _ q=>absurd q.1 b⟩
 ·refine ⟨⟨fun q=>absurd q.1 a,fun q=>absurd q.1.1 a⟩,⟨fun q=>⟨by omega,q.1.2.1,q.1.2.2⟩,fun q=>⟨⟨by omega,q.2.1,q.2.2⟩,XB q.2.1⟩⟩,fun q1 ⟨q2,q3⟩=>?_⟩;have NB':¬(ub<=ua/\ua<=256*i'+128\/256*i'+128<ua/\ua<=ub):=fun c=>a (NB q2 c).1
  exfalso;omega
theorem aV (u:Int):u<=256*aD u+128/\256*aD u-128<u:=by unfold aD;omega
theorem aK3 {EA OB A1 B1:Prop} [Decidable EA] [Decidable OB] [Decidable A1] [Decidable B1] {La Lb n first step:Int}
  (hm:La<=Lb) (hn:n=Lb-La) (hf:first=La) (hs:step=1)
  (k:(EA↔A1/\¬(Lb=La/\B1))/\(OB↔La<Lb/\B1)/\(Lb=La->B1->A1)) :
  (EA->A1)/\(EA->La-(if A1 then 1 else 0)=La-1)/\(n-(if OB then 1 else 0)=(Lb-(if B1 then 1 else 0))-(La-(if A1 then 1 else 0))-(if EA then 1 else 0))/\0<=(Lb-(if B1 then 1 else 0))-(La-(if A1 then 1 else 0))-(if EA then 1 else 0)/\((Lb-(if B1 then 1 else 0))-(La-(if A1 then 1 else 0))=(if EA then 1 else 0)\/first=La-(if A1 then 1 else 0)+(if EA then 1 else 0)*step):=by
 obtain ⟨k1,k2,k3⟩:=k;subst hn hf hs
 by_cases a:A1
 ·by_cases b:B1
  ·by_cases c:Lb=first
   ·have x1:¬EA:=fun h=>(k1.1 h).2 ⟨c,b⟩
    have x2:¬OB:=fun h=>by have:=(k2.1 h).1;omega
    simp only[if_pos a,if_pos b,if_neg x1,if_neg x2];refine ⟨fun _=>?_,fun _=>?_,?_,?_,?_⟩<;>first|exact trivial|assumption|contradiction|omega
   ·have x1:EA:=k1.2 ⟨a,fun h=>c h.1⟩;have x2:OB:=k2.2 ⟨by omega,b⟩;simp only[if_pos a,if_pos b,if_pos x1,if_pos x2];refine ⟨fun _=>?_,fun _=>?_,?_,?_,?_⟩<;>first|exact trivial|assumption|contradiction|omega
  ·have x1:EA:=k1.2 ⟨a,fun h=>b h.2⟩;have x2:¬OB:=fun h=>b (k2.1 h).2
   simp only[if_pos a,if_neg b,if_pos x1,if_neg x2];refine ⟨fun _=>?_,fun _=>?_,?_,?_,?_⟩<;>first|exact trivial|assumption|contradiction|omega
 ·have x1:¬EA:=fun h=>a (k1.1 h).1
  by_cases b:B1
  ·have c:Lb≠first:=fun h=>a (k3 h b)
   have x2:OB:=k2.2 ⟨by omega,b⟩;simp only[if_neg a,if_pos b,if_neg x1,if_pos x2];refine ⟨fun _=>?_,fun _=>?_,?_,?_,?_⟩<;>first|exact trivial|assumption|contradiction|omega
  ·have x2:¬OB:=fun h=>b (k2.1 h).2
   simp only[if_neg a,if_neg b,if_neg x1,if_neg x2];refine ⟨fun _=>?_,fun _=>?_,?_,?_,?_⟩<;>first|exact trivial|assumption|contradiction|omega
theorem aNp {W:Way} (g:W.Good) (h1:W.extra=false) (h2:W.opn=false) (ax ay bx y2:Int) (ea:W.au=uC W.turned ax ay) (eb:W.av=vC W.turned ax ay) (ec:W.bu=uC W.turned bx y2) (ed:W.bv=vC W.turned bx y2)
  (h:W.au<W.bu) (hf:W.first=aD W.au) (hl:W.last=aD W.bu) :
  (W.ended ax ay bx y2).line=W.run (iX W.turned ax ay) 1 (iX W.turned bx y2-iX W.turned ax ay):=by
 have oa:W.On (uC W.turned ax ay) (vC W.turned ax ay):=by rw[<-ea,<-eb];exact aOl W
 have ob:W.On (uC W.turned bx y2) (vC W.turned bx y2):=by rw[<-ec,<-ed];exact aSj W
 have hm:=bC (Int.le_of_lt h);have hstep:W.step=1:=by unfold Way.step;rw[if_neg (by omega)]
 have hsize:W.size=aD W.bu-aD W.au:=by unfold Way.size;omega
 have XA:=dV g ax ay oa;have K:=aOa (PA:=fK ax ay=true) (PB:=fK bx y2=true) (EA:=W.endA ax ay bx y2) (OB:=W.endB bx y2/\W.across (iC W.turned bx y2)=kC W.turned bx y2)
  (i:=iC W.turned ax ay) (k:=kC W.turned ax ay) (i':=iC W.turned bx y2) (k':=kC W.turned bx y2) (ua:=W.au) (ub:=W.bu) W.across hm h (aV _) (aV _)
  (by rw[ea];exact yV W.turned ax ay) (by rw[ec];exact yV W.turned bx y2) (by rw[ea,ec];exact Way.near g oa ob) (by rw[ea,ec];exact Way.near g ob oa)
  XA (dV g bx y2 ob)
  (by rw[<-hsize,<-hf];exact Iff.rfl) (by rw[<-hsize,<-hl,<-hstep];exact Iff.rfl)
 replace K:=aK3 (n:=W.size) (first:=W.first) (step:=W.step) hm hsize hf hstep K
 rw[j9 W h1 h2];unfold iX;rw[<-ea,<-ec];clear h1 h2;have e1:∀ s N,W.run s 1 N=W.run s W.step N:=fun s N=>by rw[hstep]
 rw[e1];refine aF3 _ _ _ (if W.endA ax ay bx y2 then 1 else 0) 0 ?_ ?_ ?_ ?_
 ·by_cases c:W.endA ax ay bx y2
  ·left
   refine ⟨decide_eq_true c,if_pos c,?_,?_⟩
   ·show (if W.endA ax ay bx y2 then _ else _)=W.across (if W.endA ax ay bx y2 then _ else _)
    rw[if_pos c,if_pos c];exact (XA (K.1 c).1).symm
   ·show (if W.endA ax ay bx y2 then _ else _)=_
    rw[if_pos c];have:=K.1 c;rw[if_pos this];exact this.2
  ·right;exact ⟨decide_eq_false c,if_neg c⟩
 ·show W.size-(if decide (W.endB bx y2/\W.across (iC W.turned bx y2)=kC W.turned bx y2)=true then 1 else 0)=_
  simp only[decide_eq_true_iff];exact K.2.2.1
 ·exact K.2.2.2.1
 ·exact K.2.2.2.2
theorem aMz (W:Way) (s σ σ' N:Int) (h:N<=1):W.run s σ N=W.run s σ' N:=by
 by_cases h0:N<=0
 ·rw[oQ _ _ _ _ h0,oQ _ _ _ _ h0]
 ·have:N=0+1:=by omega
  rw[this,tG _ _ _ _ (by omega),tG _ _ _ _ (by omega)]
  rfl
theorem aHt {PA PB EA OB:Prop} {i k i' k' La Lb ua ub first last step:Int} (f:Int->Int) (hm:Lb<=La) (h:ub<ua)
  (la:ua<=256*La+128/\256*La-128<ua) (lb:ub<=256*Lb+128/\256*Lb-128<ub)
  (hfl:Lb<La/\first=La-1/\last=Lb-1/\step=-1\/La=Lb/\first=La)
  (A:PA->(i=La/\ua<=256*i+128)\/(i=La-1/\256*i+128<ua)) (B:PB->(i'=Lb/\ub<=256*i'+128)\/(i'=Lb-1/\256*i'+128<ub))
  (NA:PA->(ua<=ub/\ub<=256*i+128\/256*i+128<ub/\ub<=ua)->PB/\i'=i/\k'=k)
  (NB:PB->(ub<=ua/\ua<=256*i'+128\/256*i'+128<ua/\ua<=ub)->PA/\i=i'/\k=k')
  (XA:PA->f i=k) (XB:PB->f i'=k')
  (hEA:EA↔PA/\(La-Lb=0\/i≠first)/\¬(PB/\i=i'/\k=k'))
  (hOB:OB↔(0<La-Lb/\PB/\i'=last-step)/\f i'=k') :
  (EA↔(PA/\i=La)/\¬(Lb=La/\PB/\i'=Lb))/\(OB↔Lb<La/\PB/\i'=Lb)/\(Lb=La->PB/\i'=Lb->PA/\i=La):=by
 rw[hEA,hOB];clear hEA hOB
 by_cases a:PA
 ·replace A:=A a;replace NA:=NA a;replace XA:=XA a
  by_cases b:PB
  ·replace B:=B b;replace NB:=NB b;replace XB:=XB b
   by_cases e:i=i'
   ·subst e;rw[XA] at XB
    refine ⟨⟨fun ⟨_,q1,q2⟩=>absurd ⟨b,rfl,XB⟩ q2,fun ⟨⟨_,q1⟩,q2⟩=>⟨a,by omega,fun q=>q2 ⟨by omega,b,by omega⟩⟩⟩,⟨fun q=>⟨by omega,b,by omega⟩,fun q=>⟨⟨by omega,b,by omega⟩,by omega⟩⟩,fun _ _=>⟨a,by omega⟩⟩
   ·refine ⟨⟨fun ⟨_,q1,q2⟩=>⟨⟨a,by omega⟩,fun ⟨q3,_,q4⟩=>by omega⟩,fun ⟨⟨_,q1⟩,q2⟩=>⟨a,by omega,fun q=>e q.2.1⟩⟩,⟨fun q=>⟨by omega,b,by omega⟩,fun q=>⟨⟨by omega,b,by omega⟩,XB⟩⟩,fun _ _=>⟨a,by omega⟩⟩
  ·have NA':¬(ua<=ub/\ub<=256*i+128\/256*i+128<ub/\ub<=ua):=fun c=>b (NA c).1
   refine ⟨⟨fun ⟨_,q1,q2⟩=>⟨⟨a,by omega⟩,fun q=>b q.2.1⟩,fun ⟨⟨_,q1⟩,q2⟩=>⟨a,by omega,fun q=>b q.1⟩⟩,⟨fun q=>absurd q.1.2.1 b,fun q=>absurd q.2.1 b⟩,fun _ q=>absurd q.1 b⟩
 ·refine ⟨⟨fun q=>absurd q.1 a,fun q=>absurd q.1.1 a⟩,⟨fun q=>⟨by omega,q.1.2.1,by omega⟩,fun q=>⟨⟨by omega,q.2.1,by omega⟩,XB q.2.1⟩⟩,fun q1 ⟨q2,q3⟩=>?_⟩;have NB':¬(ub<=ua/\ua<=256*i'+128\/256*i'+128<ua/\ua<=ub):=fun c=>a (NB q2 c).1
  exfalso;omega
theorem aC7 {EA OB A1 B1:Prop} [Decidable EA] [Decidable OB] [Decidable A1] [Decidable B1] {La Lb n first step:Int}
  (hm:Lb<=La) (hn:n=La-Lb) (hf:Lb<La/\first=La-1/\step=-1\/La=Lb/\first=La)
  (k:(EA↔A1/\¬(Lb=La/\B1))/\(OB↔Lb<La/\B1)/\(Lb=La->B1->A1)) :
  (EA->A1)/\(EA->La-(if A1 then 0 else 1)=La)/\(n-(if OB then 1 else 0)=(La-(if A1 then 0 else 1))-(Lb-(if B1 then 0 else 1))-(if EA then 1 else 0))/\0<=(La-(if A1 then 0 else 1))-(Lb-(if B1 then 0 else 1))-(if EA then 1 else 0) /\
   ((La-(if A1 then 0 else 1))-(Lb-(if B1 then 0 else 1))=(if EA then 1 else 0)\/step=-1/\first=La-(if A1 then 0 else 1)+(if EA then 1 else 0)*step):=by
 obtain ⟨k1,k2,k3⟩:=k;subst hn
 by_cases a:A1
 ·by_cases b:B1
  ·by_cases c:Lb=La
   ·have x1:¬EA:=fun h=>(k1.1 h).2 ⟨c,b⟩
    have x2:¬OB:=fun h=>by have:=(k2.1 h).1;omega
    simp only[if_pos a,if_pos b,if_neg x1,if_neg x2];refine ⟨fun _=>?_,fun _=>?_,?_,?_,?_⟩<;>first|exact trivial|assumption|contradiction|omega
   ·have x1:EA:=k1.2 ⟨a,fun h=>c h.1⟩;have x2:OB:=k2.2 ⟨by omega,b⟩;simp only[if_pos a,if_pos b,if_pos x1,if_pos x2];refine ⟨fun _=>?_,fun _=>?_,?_,?_,?_⟩<;>first|exact trivial|assumption|contradiction|omega
  ·have x1:EA:=k1.2 ⟨a,fun h=>b h.2⟩;have x2:¬OB:=fun h=>b (k2.1 h).2
   simp only[if_pos a,if_neg b,if_pos x1,if_neg x2];refine ⟨fun _=>?_,fun _=>?_,?_,?_,?_⟩<;>first|exact trivial|assumption|contradiction|omega
 ·have x1:¬EA:=fun h=>a (k1.1 h).1
  by_cases b:B1
  ·have c:Lb≠La:=fun h=>a (k3 h b)
   have x2:OB:=k2.2 ⟨by omega,b⟩;simp only[if_neg a,if_pos b,if_neg x1,if_pos x2];refine ⟨fun _=>?_,fun _=>?_,?_,?_,?_⟩<;>first|exact trivial|assumption|contradiction|omega
  ·have x2:¬OB:=fun h=>b (k2.1 h).2
   simp only[if_neg a,if_neg b,if_neg x1,if_neg x2];refine ⟨fun _=>?_,fun _=>?_,?_,?_,?_⟩<;>first|exact trivial|assumption|contradiction|omega
theorem aF4 {W:Way} (g:W.Good) (h1:W.extra=false) (h2:W.opn=false) (ax ay bx y2:Int) (ea:W.au=uC W.turned ax ay) (eb:W.av=vC W.turned ax ay) (ec:W.bu=uC W.turned bx y2) (ed:W.bv=vC W.turned bx y2)
  (h:W.bu<W.au) (hfl:aD W.bu<aD W.au/\W.first=aD W.au-1/\W.last=aD W.bu-1\/aD W.au=aD W.bu/\W.first=aD W.au/\W.last=W.first) :
  (W.ended ax ay bx y2).line=W.run (iY W.turned ax ay) (-1) (iY W.turned ax ay-iY W.turned bx y2):=by
 have oa:W.On (uC W.turned ax ay) (vC W.turned ax ay):=by rw[<-ea,<-eb];exact aOl W
 have ob:W.On (uC W.turned bx y2) (vC W.turned bx y2):=by rw[<-ec,<-ed];exact aSj W
 have hm:=bC (Int.le_of_lt h);have hfs:aD W.bu<aD W.au/\W.first=aD W.au-1/\W.last=aD W.bu-1/\W.step=-1\/aD W.au=aD W.bu/\W.first=aD W.au:=by
  rcases hfl with q|q
  ·left;refine ⟨q.1,q.2.1,q.2.2,?_⟩
   unfold Way.step;rw[if_pos (by omega)]
  ·right;exact ⟨q.1,q.2.1⟩
 have hsize:W.size=aD W.au-aD W.bu:=by unfold Way.size;omega
 have XA:=dV g ax ay oa;have K:=aHt (PA:=fK ax ay=true) (PB:=fK bx y2=true) (EA:=W.endA ax ay bx y2) (OB:=W.endB bx y2/\W.across (iC W.turned bx y2)=kC W.turned bx y2)
  (i:=iC W.turned ax ay) (k:=kC W.turned ax ay) (i':=iC W.turned bx y2) (k':=kC W.turned bx y2) (ua:=W.au) (ub:=W.bu) W.across hm h (aV _) (aV _) hfs
  (by rw[ea];exact yV W.turned ax ay) (by rw[ec];exact yV W.turned bx y2) (by rw[ea,ec];exact Way.near g oa ob) (by rw[ea,ec];exact Way.near g ob oa)
  XA (dV g bx y2 ob)
  (by rw[<-hsize];exact Iff.rfl) (by rw[<-hsize];exact Iff.rfl)
 replace K:=aC7 (n:=W.size) (first:=W.first) (step:=W.step) hm hsize (hfs.elim (fun q=>Or.inl ⟨q.1,q.2.1,q.2.2.2⟩) Or.inr) K
 rw[j9 W h1 h2];unfold iY;rw[<-ea,<-ec];clear h1 h2;have e1:∀ s N,N<=1\/W.step=-1->W.run s (-1) N=W.run s W.step N:=fun s N q=>by
  rcases q with q|q
  ·exact aMz W s _ _ N q
  ·rw[q]
 rw[e1 _ _ (by
  rcases K.2.2.2.2 with q|q
  ·left;rw[q];split<;>omega
  ·right;exact q.1)]
 refine aF3 _ _ _ (if W.endA ax ay bx y2 then 1 else 0) 0 ?_ ?_ ?_ ?_
 ·by_cases c:W.endA ax ay bx y2
  ·left
   refine ⟨decide_eq_true c,if_pos c,?_,?_⟩
   ·show (if W.endA ax ay bx y2 then _ else _)=W.across (if W.endA ax ay bx y2 then _ else _)
    rw[if_pos c,if_pos c];exact (XA (K.1 c).1).symm
   ·show (if W.endA ax ay bx y2 then _ else _)=_
    rw[if_pos c];have:=K.1 c;rw[if_pos this];exact this.2.trans (by omega)
  ·right;exact ⟨decide_eq_false c,if_neg c⟩
 ·show W.size-(if decide (W.endB bx y2/\W.across (iC W.turned bx y2)=kC W.turned bx y2)=true then 1 else 0)=_
  simp only[decide_eq_true_iff];exact K.2.2.1
 ·exact K.2.2.2.1
 ·exact K.2.2.2.2.elim Or.inl (fun q=>Or.inr q.2)
end
section
def eP (ax ay bx y2:Int):List St :=
 if (aG ax ay bx y2).au<(aG ax ay bx y2).bu then (aG ax ay bx y2).run (iX (decide (aB ax ay bx y2)) ax ay) 1 (iX (decide (aB ax ay bx y2)) bx y2-iX (decide (aB ax ay bx y2)) ax ay)
 else (aG ax ay bx y2).run (iY (decide (aB ax ay bx y2)) ax ay) (-1) (iY (decide (aB ax ay bx y2)) ax ay-iY (decide (aB ax ay bx y2)) bx y2)
theorem aDq (ax ay bx y2 z:Int) (h:¬(ax=bx/\ay=y2)):(aBu (decide (aB ax ay bx y2)) (eD ax ay bx y2) ax ay bx y2 z).au≠(aBu (decide (aB ax ay bx y2)) (eD ax ay bx y2) ax ay bx y2 z).bu:=by
 have:=Slope.pos (dR ax ay bx y2 z h);unfold Way.du at this;intro e;rw[e] at this;split at this<;>omega
theorem sK (ax ay bx y2:Int) (h:¬(ax=bx/\ay=y2)):(gV ax ay bx y2).line=eP ax ay bx y2:=by
 unfold eP gV;have hd:=aDq ax ay bx y2;have hg:=dR ax ay bx y2;unfold aG;obtain ⟨z,hz⟩:∃ z:Int,z=(if aD (uC (decide (aB ax ay bx y2)) bx y2)<aD (uC (decide (aB ax ay bx y2)) ax ay) then 1 else 0):=⟨_,rfl⟩;rw[<-hz];have hg:=hg z h;have hd:=hd z h;obtain ⟨W,hW⟩:∃ W,W=aBu (decide (aB ax ay bx y2)) (eD ax ay bx y2) ax ay bx y2 z:=⟨_,rfl⟩;rw[<-hW] at hg hd ⊢;have ht:W.turned=decide (aB ax ay bx y2):=by rw[hW];rfl
 rw[<-ht] at hz hW ⊢;have e1:W.au=uC W.turned ax ay:=congrArg Way.au hW;have e2:W.av=vC W.turned ax ay:=congrArg Way.av hW;have e3:W.bu=uC W.turned bx y2:=congrArg Way.bu hW;have e4:W.bv=vC W.turned bx y2:=congrArg Way.bv hW;have e5:W.first=aD W.au-z:=by rw[e1];exact congrArg Way.first hW
 have e6:W.last=aD W.bu-z:=by rw[e3];exact congrArg Way.last hW
 rw[<-e1,<-e3] at hz;have e7:W.extra=false:=by rw[hW];rfl
 have e8:W.opn=false:=by rw[hW];rfl
 clear hW
 by_cases c:W.au<W.bu
 ·rw[if_pos c];have:=bC (Int.le_of_lt c);rw[if_neg (by omega)] at hz;exact aNp hg e7 e8 ax ay bx y2 e1 e2 e3 e4 c (by omega) (by omega)
 ·rw[if_neg c];have c:W.bu<W.au:=by omega
  have:=bC (Int.le_of_lt c);refine aF4 hg e7 e8 ax ay bx y2 e1 e2 e3 e4 c ?_
  split at hz<;>omega
theorem tE (t:Bool) {x y:Int} (h:MayP x y):-536870912<=uC t x y/\uC t x y<=536870912:=by
 obtain ⟨a,b,c,d⟩:=h;unfold uC;split<;>omega
theorem aOt (t:Bool) {x y:Int} (h:MayP x y):-536870912<=vC t x y/\vC t x y<=536870912:=by
 obtain ⟨a,b,c,d⟩:=h;unfold vC;split<;>omega
theorem aMg (t:Bool) (ax ay bx y2 z:Int) (ha:MayP ax ay) (hb:MayP bx y2) (hz:z=0\/z=1):(aBu t (eD ax ay bx y2) ax ay bx y2 z).Ok:=by
 have a1:=tE t ha;have a2:=aOt t ha;have a3:=tE t hb;have a4:=aOt t hb
 have k:0<=eD ax ay bx y2/\eD ax ay bx y2<=1:=by unfold eD;split<;>omega
 refine ⟨a1.1,a1.2,a2.1,a2.2,a3.1,a3.2,a4.1,a4.2,k.1,k.2,?_,?_,?_,?_⟩
 all_goals simp only[aBu,aD]
 all_goals omega
theorem vL (ax ay bx y2:Int) (ha:MayP ax ay) (hb:MayP bx y2):(aG ax ay bx y2).Ok:=aMg _ _ _ _ _ _ ha hb (by split<;>simp)
theorem aKw {W:Way} (h1:W.extra=false) (h2:W.opn=false) (ax ay bx y2:Int) (ok:W.Ok):(W.ended ax ay bx y2).Ok:=by
 rw[j9 W h1 h2];exact ⟨ok.1,ok.2,ok.3,ok.4,ok.5,ok.6,ok.7,ok.8,ok.9,ok.10,ok.11,ok.12,ok.13,ok.14⟩
theorem aAu (ax ay bx y2:Int) (ha:MayP ax ay) (hb:MayP bx y2):(gV ax ay bx y2).Ok:=aKw rfl rfl _ _ _ _ (vL _ _ _ _ ha hb)
def dK (ax ay bx y2 x0 y0 x1 y1:Int):List St:=if (ax=bx/\ay=y2)\/¬aM x0 y0 x1 y1 then [] else (eP ax ay bx y2).filter (fun s=>decide (nM x0 y0 x1 y1 s.X s.Y))
def St.move (i k:Int) (s:St):St:=⟨s.K,s.X+i,s.Y+k⟩
end
section
theorem aAg (W:Way) (s σ N:Int):(W.run s σ N).Pairwise (fun a b=>a.K<b.K):=by
 unfold Way.run;rw[List.pairwise_map];exact List.pairwise_lt_range.imp (fun h=>by show ((_:Nat):Int)<((_:Nat):Int);omega)
theorem fJ (x y:Int):eP x y x y=[]:=by
 unfold eP
 split
 ·exact oQ _ _ _ _ (by omega)
 ·exact oQ _ _ _ _ (by omega)
theorem aIf {W:Way} (g:W.Good) (u:Int) (h0:min W.au W.bu<=256*u+128) (h1:256*u+128<=max W.au W.bu):min W.av W.bv-256<=256*W.across u/\256*W.across u<=max W.av W.bv:=by
 obtain ⟨k,hk⟩:∃ k,W.across u=k:=⟨_,rfl⟩;rw[hk];have p0:=Slope.pos g;have:=(tZ (W.num u) W.den k (by unfold Way.den;omega)).1 hk;obtain ⟨q1,q2⟩:=this;have hb:W.back=0\/W.back=1:=by rcases Slope.b01 g with q|q<;>simp[q.1]
 have key:∀ M:Int,(256*k)*W.du<=M*W.du->256*k<=M:=fun M h=>Int.le_of_mul_le_mul_right h p0
 have key2:∀ M:Int,M*W.du<(256*k+256+1)*W.du->M<256*k+256+1:=fun M h=>Int.lt_of_mul_lt_mul_right h (by omega)
 unfold Way.num Way.den at q1 q2;have e1:k*(256*W.du)=(256*k)*W.du:=by grind
 have e2:(k+1)*(256*W.du)=(256*k+256+1)*W.du-W.du:=by grind
 rw[e1] at q1;rw[e2] at q2
 obtain ⟨t,ht⟩:∃ t,256*u+128-W.au=t:=⟨_,rfl⟩;rw[ht] at q1 q2
 -- the line's height at the middle,times the width
 have b0:min W.av W.bv*W.du<=W.av*W.du+W.dv*t/\W.av*W.du+W.dv*t<=max W.av W.bv*W.du:=by
  by_cases c:W.bu-W.au<0
  ·have d1:W.du=-(W.bu-W.au):=if_pos c;have d2:W.dv=-(W.bv-W.av):=if_pos c;have e3:W.bv*W.du=W.av*W.du+W.dv*(-W.du):=by rw[d1,d2];grind
   have t0:-W.du<=t/\t<=0:=by omega
   by_cases s:0<=W.dv
   ·have m1:W.dv*(-W.du)<=W.dv*t:=Int.mul_le_mul_of_nonneg_left t0.1 s;have m2:W.dv*t<=W.dv*0:=Int.mul_le_mul_of_nonneg_left t0.2 s;have n1:W.bv<=W.av:=by omega
    rw[Int.min_eq_right n1,Int.max_eq_left n1];omega
   ·have m1:W.dv*t<=W.dv*(-W.du):=Int.mul_le_mul_of_nonpos_left (by omega) t0.1;have m2:W.dv*0<=W.dv*t:=Int.mul_le_mul_of_nonpos_left (by omega) t0.2;have n1:W.av<=W.bv:=by omega
    rw[Int.min_eq_left n1,Int.max_eq_right n1];omega
  ·have d1:W.du=W.bu-W.au:=if_neg c;have d2:W.dv=W.bv-W.av:=if_neg c;have e3:W.bv*W.du=W.av*W.du+W.dv*W.du:=by rw[d2];grind
   have t0:0<=t/\t<=W.du:=by omega
   by_cases s:0<=W.dv
   ·have m1:W.dv*0<=W.dv*t:=Int.mul_le_mul_of_nonneg_left t0.1 s;have m2:W.dv*t<=W.dv*W.du:=Int.mul_le_mul_of_nonneg_left t0.2 s;have n1:W.av<=W.bv:=by omega
    rw[Int.min_eq_left n1,Int.max_eq_right n1];omega
   ·have m1:W.dv*t<=W.dv*0:=Int.mul_le_mul_of_nonpos_left (by omega) t0.1;have m2:W.dv*W.du<=W.dv*t:=Int.mul_le_mul_of_nonpos_left (by omega) t0.2;have n1:W.bv<=W.av:=by omega
    rw[Int.min_eq_right n1,Int.max_eq_left n1];omega
 have k1:=key (max W.av W.bv) (by omega);have k2:=key2 (min W.av W.bv) (by omega);omega
theorem aP0 {t:Bool} {pu pv:Int} (h:ins t pu pv):-128<=pu/\pu<=128/\-128<=pv/\pv<=128:=by
 cases t
 ·obtain ⟨a,b,c,d⟩:=(yT _ _).1 h;omega
 ·obtain ⟨a,b,c,d⟩:=(aCt _ _).1 h;omega
theorem aHz {W:Way} (g:W.Good) (ax ay:Int) (ea:W.au=uC W.turned ax ay) (eb:W.av=vC W.turned ax ay) (u:Int)
  (hu:(min W.au W.bu<=256*u+128/\256*u+128<=max W.au W.bu)\/(fK ax ay=true/\u=iC W.turned ax ay)) :
  (min W.au W.bu-256<=256*u/\256*u<=max W.au W.bu)/\(min W.av W.bv-256<=256*W.across u/\256*W.across u<=max W.av W.bv):=by
 rcases hu with ⟨h0,h1⟩|⟨h0,rfl⟩
 ·exact ⟨by omega,aIf g u h0 h1⟩
 ·have o:W.On (uC W.turned ax ay) (vC W.turned ax ay):=by rw[<-ea,<-eb];exact aOl W
  rw[dV g ax ay o h0];have:=aP0 ((kY W.turned ax ay _ _).1 ⟨h0,rfl,rfl⟩);rw[<-ea,<-eb] at this;omega
theorem aKg (ax ay bx y2:Int) (q:St) (hq:q∈eP ax ay bx y2) :
  (min ax bx-256<=256*q.X/\256*q.X<=max ax bx)/\(min ay y2-256<=256*q.Y/\256*q.Y<=max ay y2):=by
 by_cases hz:ax=bx/\ay=y2
 ·obtain ⟨rfl,rfl⟩:=hz;rw[fJ] at hq;cases hq
 have g:(aG ax ay bx y2).Good:=dR _ _ _ _ _ hz;have hne:(aG ax ay bx y2).au≠(aG ax ay bx y2).bu:=aDq _ _ _ _ _ hz;unfold eP at hq;obtain ⟨W,hW⟩:∃ W,W=aG ax ay bx y2:=⟨_,rfl⟩;rw[<-hW] at g hne hq;have t1:decide (aB ax ay bx y2)=W.turned:=by rw[hW];rfl
 have e1:W.au=uC W.turned ax ay:=by rw[hW];rfl
 have e2:W.av=vC W.turned ax ay:=by rw[hW];rfl
 have e3:W.bu=uC W.turned bx y2:=by rw[hW];rfl
 have e4:W.bv=vC W.turned bx y2:=by rw[hW];rfl
 rw[t1] at hq;have fin:∀ u n:Int,q=W.cell n u->(min W.au W.bu-256<=256*u/\256*u<=max W.au W.bu)/\(min W.av W.bv-256<=256*W.across u/\256*W.across u<=max W.av W.bv)->(min ax bx-256<=256*q.X/\256*q.X<=max ax bx)/\(min ay y2-256<=256*q.Y/\256*q.Y<=max ay y2):=by
  intro u n hc hb;rw[hc];unfold Way.cell Way.px Way.py;rw[e1,e2,e3,e4] at hb;unfold uC vC at hb;cases ht:W.turned
  ·rw[ht] at hb;exact hb
  ·rw[ht] at hb;exact ⟨hb.2,hb.1⟩
 by_cases c:W.au<W.bu
 ·rw[if_pos c] at hq;unfold Way.run at hq;obtain ⟨j,hj,rfl⟩:=List.mem_map.1 hq;rw[List.mem_range] at hj;refine fin _ _ rfl (aHz g ax ay e1 e2 _ ?_);have la:=aV W.au;have lb:=aV W.bu;have hA:iX W.turned ax ay=aD W.au\/fK ax ay=true/\iC W.turned ax ay=aD W.au-1/\iX W.turned ax ay=aD W.au-1:=by
   unfold iX;rw[<-e1];split
   ·rename_i h;exact Or.inr ⟨h.1,h.2,rfl⟩
   ·left;omega
  have hB:iX W.turned bx y2<=aD W.bu:=by
   unfold iX;rw[<-e3];split<;>omega
  by_cases d:iX W.turned ax ay+(j:Int)*1=aD W.au-1
  ·right
   rcases hA with hA|hA
   ·omega
   ·exact ⟨hA.1,by omega⟩
  ·left;omega
 ·rw[if_neg c] at hq;unfold Way.run at hq;obtain ⟨j,hj,rfl⟩:=List.mem_map.1 hq;rw[List.mem_range] at hj;refine fin _ _ rfl (aHz g ax ay e1 e2 _ ?_);have la:=aV W.au;have lb:=aV W.bu;have hA:iY W.turned ax ay=aD W.au-1\/fK ax ay=true/\iC W.turned ax ay=aD W.au/\iY W.turned ax ay=aD W.au:=by
   unfold iY;rw[<-e1];split
   ·rename_i h;exact Or.inr ⟨h.1,h.2,by omega⟩
   ·left;omega
  have hB:aD W.bu-1<=iY W.turned bx y2:=by
   unfold iY;rw[<-e3];split<;>omega
  by_cases d:iY W.turned ax ay+(j:Int) * -1=aD W.au
  ·right
   rcases hA with hA|hA
   ·omega
   ·exact ⟨hA.1,by omega⟩
  ·left;omega
end
section
theorem vJ (ax ay bx y2:Int) (h:(gV ax ay bx y2).opn=true):0<(gV ax ay bx y2).size:=by
 unfold gV at h ⊢;rw[j9 _ rfl rfl] at h ⊢;exact (of_decide_eq_true h).1.1
theorem vK (ax ay bx y2:Int):0<=(gV ax ay bx y2).len:=by
 have h0:0<=(gV ax ay bx y2).size:=by unfold Way.size;omega
 unfold Way.len
 split
 ·have:=vJ ax ay bx y2 (by assumption);omega
 ·omega
theorem aD1 (W:Way):W.step=1\/W.step=-1:=by unfold Way.step;split<;>simp
theorem yL (W:Way) (h:0<=W.len):((W.line.length:Nat):Int)=W.count:=by
 unfold Way.line Way.count;unfold Way.len at h ⊢;rw[List.length_append,List.length_map,List.length_range]
 split<;>simp<;>omega
theorem yB (ax ay bx y2:Int) (h:¬(ax=bx/\ay=y2)):(gV ax ay bx y2).count=(((eP ax ay bx y2).length:Nat):Int):=by
 rw[<-sK ax ay bx y2 h,yL _ (vK _ _ _ _)]
theorem aE1 (n b m:Nat) (h:b+m<=n):List.range n=List.range b++((List.range m).map (b+·)++(List.range (n-b-m)).map (b+m+·)):=by
 have e:n=b+(m+(n-b-m)):=by omega
 rw[e,List.range_add,List.range_add,List.map_append,List.map_map];rw[show b+(m+(n-b-m))-b-m=n-b-m from by omega]
 congr 2
 apply List.map_congr_left
 intro j _;show b+(m+j)=b+m+j
 omega
theorem kZ {α:Type} (p:α->Bool) (l:List α) (h:∀ x,x∈l->p x=false):l.filter p=[]:=by
 induction l with
 |nil=>rfl
 |cons a l ih =>
  rw[List.filter_cons,h a List.mem_cons_self,ih (fun x hx=>h x (jk hx))];rfl
theorem zE {α:Type} (f:Nat->α) (p:α->Bool) (n b m:Nat) (h:b+m<=n) (h1:∀ j,j<b->p (f j)=false) (h2:∀ j,b+m<=j->j<n->p (f j)=false) :
  ((List.range n).map f).filter p=((List.range m).map (fun j=>f (b+j))).filter p:=by
 rw[aE1 n b m h,List.map_append,List.map_append,List.map_map,List.map_map,List.filter_append,List.filter_append];rw[kZ p ((List.range b).map f) (fun x hx=>by obtain ⟨j,hj,rfl⟩:=List.mem_map.1 hx;exact h1 j (List.mem_range.1 hj))];rw[kZ p ((List.range (n-b-m)).map (f∘(b+m+·))) (fun x hx=>by obtain ⟨j,hj,rfl⟩:=List.mem_map.1 hx;exact h2 _ (by show b+m<=b+m+j;omega) (by have:=List.mem_range.1 hj;show b+m+j<n;omega))];rw[List.nil_append,List.append_nil]
 rfl
theorem oJ {α:Type} (f:Nat->α) (p:α->Bool) (n:Nat) (h:∀ j,j<n->p (f j)=false):((List.range n).map f).filter p=[] :=
 kZ p _ (fun x hx=>by obtain ⟨j,hj,rfl⟩:=List.mem_map.1 hx;exact h j (List.mem_range.1 hj))
def Way.lo (W:Way) (x0 y0 x1 y1:Int):Int:=max (if W.step<0 then W.first-(if W.turned=true then y1 else x1)+1 else (if W.turned=true then y0 else x0)-W.first) 0
def Way.hi (W:Way) (x0 y0 x1 y1:Int):Int:=min (if W.step<0 then W.first-(if W.turned=true then y0 else x0) else (if W.turned=true then y1 else x1)-1-W.first) (W.len-1)
theorem t8 (W:Way) (x0 y0 x1 y1 k:Int) (j:Int) (h:nM x0 y0 x1 y1 (W.cell k (W.first+j*W.step)).X (W.cell k (W.first+j*W.step)).Y) (j0:0<=j) (j1:j<W.len) :
  W.lo x0 y0 x1 y1<=j/\j<=W.hi x0 y0 x1 y1:=by
 unfold nM Way.cell Way.px Way.py at h;unfold Way.lo Way.hi;have hs:W.step=1\/W.step=-1:=by unfold Way.step;split<;>simp
 obtain ⟨_,h1,h2,h3,h4⟩:=h;simp only at h1 h2 h3 h4;cases ht:W.turned
 ·rw[ht] at h1 h2 h3 h4;simp only[Bool.false_eq_true,if_false] at h1 h2 h3 h4 ⊢;rcases hs with hs|hs
  ·rw[hs] at h1 h2 ⊢;rw[if_neg (by omega),if_neg (by omega)];omega
  ·rw[hs] at h1 h2 ⊢;rw[if_pos (by omega),if_pos (by omega)];omega
 ·rw[ht] at h1 h2 h3 h4;simp only[if_true] at h1 h2 h3 h4 ⊢;rcases hs with hs|hs
  ·rw[hs] at h3 h4 ⊢;rw[if_neg (by omega),if_neg (by omega)];omega
  ·rw[hs] at h3 h4 ⊢;rw[if_pos (by omega),if_pos (by omega)];omega
def Way.loopL (W:Way) (x0 y0 x1 y1:Int) (m:Nat):List St:=((List.range m).map (fun j:Nat=>W.cell ((if W.extra=true then 1 else 0)+W.lo x0 y0 x1 y1+(j:Int)) (W.first+W.lo x0 y0 x1 y1*W.step+(j:Int)*W.step))).filter (fun s=>decide (nM x0 y0 x1 y1 s.X s.Y))
def Way.headL (W:Way) (x0 y0 x1 y1:Int):List St:=(if W.extra=true then [⟨0,W.px W.u W.v,W.py W.u W.v⟩] else []).filter (fun s=>decide (nM x0 y0 x1 y1 s.X s.Y))
theorem yM (W:Way) (x0 y0 x1 y1:Int):W.line.filter (fun s=>decide (nM x0 y0 x1 y1 s.X s.Y))=W.headL x0 y0 x1 y1++W.loopL x0 y0 x1 y1 (W.hi x0 y0 x1 y1-W.lo x0 y0 x1 y1+1).toNat:=by
 unfold Way.line Way.headL Way.loopL;rw[List.filter_append]
 congr 1
 have l0:0<=W.lo x0 y0 x1 y1:=by unfold Way.lo;omega
 have h1:W.hi x0 y0 x1 y1<=W.len-1:=by unfold Way.hi;omega
 by_cases c:W.lo x0 y0 x1 y1<=W.hi x0 y0 x1 y1
 ·rw[zE _ _ _ (W.lo x0 y0 x1 y1).toNat (W.hi x0 y0 x1 y1-W.lo x0 y0 x1 y1+1).toNat (by omega)]
  ·congr 1
   apply List.map_congr_left
   intro j _;show W.cell (_+(((W.lo x0 y0 x1 y1).toNat+j:Nat):Int)) (W.first+(((W.lo x0 y0 x1 y1).toNat+j:Nat):Int)*W.step)=_
   have e:(((W.lo x0 y0 x1 y1).toNat+j:Nat):Int)=W.lo x0 y0 x1 y1+j:=by omega
   rw[e,Int.add_mul]
   congr 1<;>omega
  ·intro j hj;rw[decide_eq_false_iff_not];intro q;have:=t8 W _ _ _ _ _ _ q (by omega) (by omega);omega
  ·intro j hj hj2;rw[decide_eq_false_iff_not];intro q;have:=t8 W _ _ _ _ _ _ q (by omega) (by omega);omega
 ·rw[show (W.hi x0 y0 x1 y1-W.lo x0 y0 x1 y1+1).toNat=0 from by omega]
  apply oJ
  intro j hj;rw[decide_eq_false_iff_not];intro q;have:=t8 W _ _ _ _ _ _ q (by omega) (by omega);omega
theorem aCn (W:Way) (x0 y0 x1 y1:Int) (m:Nat):W.loopL x0 y0 x1 y1 (m+1)=W.loopL x0 y0 x1 y1 m++[W.cell ((if W.extra=true then 1 else 0)+W.lo x0 y0 x1 y1+(m:Int)) (W.first+W.lo x0 y0 x1 y1*W.step+(m:Int)*W.step)].filter (fun s=>decide (nM x0 y0 x1 y1 s.X s.Y)):=by
 unfold Way.loopL;rw[List.range_succ,List.map_append,List.filter_append];rfl
end
section
section
theorem vS (u:Int) (u0:-536870912<=u) (u1:u<=536870912) (w:World):Calls prog 249 #[u] w (Ret (.int .i64 (aD u)) w):=by
 unfold aD
 go_enter func249,ntmps249
 go_wp2;go_ret;exact Ret.of' (by simp[aTf]) (by exact bl_)
def aOj (w:World) (V:Way) (e:Ending) (w':World):Prop:=∃ p,e=.returned (.pointer (some ⟨p,0,none⟩))/\bI w' p V/\w.heap.size<=p/\∃ X,w'=w.ext X
def aQ9 (t:Bool) (back ax ay bx y2:Int):Way:=⟨uC t ax ay,vC t ax ay,uC t bx y2,vC t bx y2,t,back,0,0,false,false,0,0⟩
theorem aOp (ax ay bx y2:Int) (h:aB ax ay bx y2):aQ9 (decide (aB ax ay bx y2)) (eD ax ay bx y2) ax ay bx y2=⟨ay,ax,y2,bx,true,1,0,0,false,false,0,0⟩:=by
 unfold eD;rw[decide_eq_true h,if_neg (fun q=>q.1 h)];rfl
theorem aOq (ax ay bx y2:Int) (h:¬aB ax ay bx y2) (k:mX (bx-ax) (y2-ay)):aQ9 (decide (aB ax ay bx y2)) (eD ax ay bx y2) ax ay bx y2=⟨ax,ay,bx,y2,false,0,0,0,false,false,0,0⟩:=by
 unfold eD;rw[decide_eq_false h,if_pos ⟨h,k⟩];rfl
theorem aOr (ax ay bx y2:Int) (h:¬aB ax ay bx y2) (k:¬mX (bx-ax) (y2-ay)):aQ9 (decide (aB ax ay bx y2)) (eD ax ay bx y2) ax ay bx y2=⟨ax,ay,bx,y2,false,1,0,0,false,false,0,0⟩:=by
 unfold eD;rw[decide_eq_false h,if_neg (fun q=>k q.2)];rfl
theorem aDp (ax ay bx y2:Int) (ha:MayP ax ay) (hb:MayP bx y2) (hz:¬(ax=bx/\ay=y2)) (w:World):Calls prog 224 #[P2 ax ay,P2 bx y2] w (aOj w (gV ax ay bx y2)):=by
 have HA:=jj ha;have HB:=jj hb;obtain ⟨a0,a1,a2,a3⟩:=ha;obtain ⟨b0,b1,b2,b3⟩:=hb;obtain ⟨V,hV⟩:∃ V,gV ax ay bx y2=V:=⟨_,rfl⟩;rw[hV];have HV:=jj hV;have HZ:=jj hz;clear hV hz;obtain ⟨W1,hW1⟩:∃ W1,aQ9 (decide (aB ax ay bx y2)) (eD ax ay bx y2) ax ay bx y2=W1:=⟨_,rfl⟩;have HW1:=jj hW1;clear hW1
 go_enter func224,ntmps224
 go_upto_region 1 with fail
 refine jy ?_
 repeat (go_big_quiet_step ((fail)))
 refine jv fun X1=>?_
 go_upto_if 36 with fail
 go_cut [7] (fun t7 wx=>∃ p,t7=ptr p/\bI wx p W1/\w.heap.size+2<=p/\Row wx w.heap.size #[ax,ay] 181/\Row wx (w.heap.size+1) #[bx,y2] 181/\∃ X,wx=w.ext X)
 case first =>
  go_wp2
  all_goals go_meet
  all_goals refine ⟨_,rfl,?_,by simp<;>omega,by exact rx_,by exact rx_,jz (by exact bl_)⟩
  all_goals rw[<-HW1.out]
  all_goals first
   |(rw[aOp _ _ _ _ (by unfold aB;omega)];exact rx_;done)
   |(rw[aOq _ _ _ _ (by unfold aB;omega) (by unfold mX;omega)];exact rx_;done)
   |(rw[aOr _ _ _ _ (by unfold aB;omega) (by unfold mX;omega)];exact rx_;done)
 case rest =>
  obtain ⟨p,rfl,h1,hp,ra,rb,hX⟩:=hcut;obtain ⟨w1,rfl⟩:∃ w1,w1=wc:=⟨_,rfl⟩;have U1:-536870912<=W1.au/\W1.au<=536870912:=by rw[<-HW1.out];exact tE _ HA.out
  have U2:-536870912<=W1.bu/\W1.bu<=536870912:=by rw[<-HW1.out];exact tE _ HB.out
  obtain ⟨L,hL⟩:∃ L,aD W1.au=L:=⟨_,rfl⟩;obtain ⟨M,hM⟩:∃ M,aD W1.bu=M:=⟨_,rfl⟩;have L0:-2097152<=L/\L<=2097152:=by rw[<-hL];unfold aD;omega
  have M0:-2097152<=M/\M<=2097152:=by rw[<-hM];unfold aD;omega
  obtain ⟨L0,L1⟩:=L0;obtain ⟨M0,M1⟩:=M0;have C1:=jj (fun w=>hL▸vS W1.au U1.1 U1.2 w);have C2:=jj (fun w=>hM▸vS W1.bu U2.1 U2.2 w);have HL:=jj hL;have HM:=jj hM;have H1:=jj h1;have RA:=jj ra;have RB:=jj rb;have HX:=jj hX;have hc:=h1.cell;simp only[Way.cells] at hc;have hf:=h1.frozen;have hl:=h1.lt;clear h1 ra rb hX hL hM U1 U2;simp only[ptr];go_upto_region 7 with fail
  have S1:=jj (fun a b:Int=>show bI ((w1.setCell ⟨p,6,none⟩ (.int .i64 a)).setCell ⟨p,7,none⟩ (.int .i64 b)) p { W1 with first:=a,last:=b } by
   have:=(H1.out.set 6 (.int .i64 a)).set 7 (.int .i64 b)
   simpa using this)
  have KS1:=jj (fun a b:Int=>show Chg (fun k=>k=p) w1 ((w1.setCell ⟨p,6,none⟩ (.int .i64 a)).setCell ⟨p,7,none⟩ (.int .i64 b)) from
   Chg.setCell (p:=fun k=>k=p) (Chg.setCell (p:=fun k=>k=p) Chg.refl (fun _=>rfl) _) (fun _=>rfl) _)
  go_cut [] (fun wx=>bI wx p { W1 with first:=L,last:=M }/\Chg (fun k=>k=p) w1 wx)
  case first =>
   go_region_with (first|(go_at_call 249;with_reducible refine jn (C1.out _) fun X_=>?_)|(go_at_call 249;with_reducible refine jn (C2.out _) fun X_=>?_))
   all_goals go_wp2
   all_goals go_meet
   all_goals refine ⟨?_,?_⟩
   any_goals exact ((S1.out L M).ext _).ext _
   any_goals exact ((KS1.out L M).ext _).ext _
  case rest =>
   obtain ⟨h2,k2⟩:=hcut;obtain ⟨w2,rfl⟩:∃ w2,w2=wc:=⟨_,rfl⟩;have H2:=jj h2;have K2:=jj k2;clear hc hf hl k2;have hc:=h2.cell;simp only[Way.cells] at hc;have hf:=h2.frozen;have hl:=h2.lt;clear h2;have S2:=jj (fun a b:Int=>show bI ((w2.setCell ⟨p,6,none⟩ (.int .i64 a)).setCell ⟨p,7,none⟩ (.int .i64 b)) p { W1 with first:=a,last:=b } by
    have:=(H2.out.set 6 (.int .i64 a)).set 7 (.int .i64 b)
    simpa using this)
   -- the last step,from whatever way
   have FIN:∀ (w3:World) (z:Int),z=(if M<L then 1 else 0)->bI w3 p { W1 with first:=L-z,last:=M-z }->Chg (fun k=>k=p) w1 w3->∃ W0:Way,bI w3 p W0/\W0.Ok/\0<W0.du/\W0.ended ax ay bx y2=V/\Row w3 w.heap.size #[ax,ay] 181/\Row w3 (w.heap.size+1) #[bx,y2] 181/\∃ X,w3=w.ext X:=by
    intro w3 z hz h k;refine ⟨aG ax ay bx y2,?_,vL _ _ _ _ HA.out HB.out,Slope.pos (dR _ _ _ _ _ HZ.out),HV.out,k.row RA.out (by omega),k.row RB.out (by omega),?_⟩
    ·have e:({ W1 with first:=L-z,last:=M-z }:Way)=aG ax ay bx y2:=by
      rw[hz,<-HL.out,<-HM.out,<-HW1.out];rfl
     rw[<-e];exact h
    ·obtain ⟨X,hX⟩:=HX.out;exact jz ((show Below w.heap.size w w1 from hX▸(Below.refl _ _).ext (Nat.le_refl _) X).trans (k.below (fun j hj=>by omega) (by rw[hX];simp)))
   have HF:=jj FIN;clear FIN;go_upto_region 8 with fail
   refine jy ?_
   repeat (go_big_quiet_step ((fail)))
   refine jv fun X3=>?_
   have KS2:=jj (fun a b:Int=>show Chg (fun k=>k=p) w2 ((w2.setCell ⟨p,6,none⟩ (.int .i64 a)).setCell ⟨p,7,none⟩ (.int .i64 b)) from
    Chg.setCell (p:=fun k=>k=p) (Chg.setCell (p:=fun k=>k=p) Chg.refl (fun _=>rfl) _) (fun _=>rfl) _)
   by_cases cML:M<L
   ·go_upto_region 9 with fail
    go_cut [] (fun wx=>bI wx p { W1 with first:=L-1,last:=M-1 }/\Chg (fun k=>k=p) w2 wx)
    case first =>
     go_region
     all_goals go_wp2
     all_goals go_meet
     all_goals refine ⟨?_,?_⟩
     any_goals first|exact S2.out (L-1) (M-1)|exact ((S2.out (L-1) (M-1)).ext _)|exact ((S2.out (L-1) (M-1)).ext _).ext _
     any_goals first|exact KS2.out (L-1) (M-1)|exact ((KS2.out (L-1) (M-1)).ext _)|exact ((KS2.out (L-1) (M-1)).ext _).ext _
    case rest =>
    obtain ⟨h3,k3⟩:=hcut;obtain ⟨w3,rfl⟩:∃ w3,w3=wc:=⟨_,rfl⟩;have k3:=K2.out.trans k3;clear hc hf hl;obtain ⟨W0,h3,ok0,hd0,hV0,ra,rb,hX3⟩:=HF.out w3 1 (by simp[cML]) h3 k3;have HW3:=jj h3;have OK0:=jj ok0;have HD0:=jj hd0;have HV0:=jj hV0;have HX3:=jj hX3;have hc:=ra.cell;have hf:=ra.frozen;have hl:=ra.lt;have hcb:=rb.cell;have hfb:=rb.frozen;have hlb:=rb.lt;clear h3 ok0 hd0 hV0 hX3 k3 ra rb;have HE:=jj (fun (w:World) (h:bI w p W0)=>show Calls prog 250 #[.pointer (some ⟨p,0,none⟩),P2 ax ay,P2 bx y2] w (aOh w p V) from HV0.out▸aAb OK0.out h ax ay bx y2 HA.out HB.out HD0.out)
    go_wp2_with (first|(go_at_call 250;(with_reducible refine (HE.out _ HW3.out).mono ?_);rintro _ w4 ⟨rfl,h4,k4⟩))
    go_ret;refine ⟨p,rfl,h4,by omega,?_⟩;obtain ⟨X,hX⟩:=HX3.out;exact jz ((show Below w.heap.size w w3 from hX▸(Below.refl _ _).ext (Nat.le_refl _) X).trans (k4.below (fun j hj=>by omega) (by rw[hX];simp)))
   ·go_upto_region 10 with fail
    refine aE (F:=fun w3=>bI w3 p { W1 with first:=L-0,last:=M-0 }/\Chg (fun k=>k=p) w1 w3) ⟨by rw[Int.sub_zero,Int.sub_zero];exact H2.out.ext _,K2.out.ext _⟩ ?_;rintro w3 ⟨h3,k3⟩;clear hc hf hl;obtain ⟨W0,h3,ok0,hd0,hV0,ra,rb,hX3⟩:=HF.out w3 0 (by simp[cML]) h3 k3;have HW3:=jj h3;have OK0:=jj ok0;have HD0:=jj hd0;have HV0:=jj hV0;have HX3:=jj hX3;have hc:=ra.cell;have hf:=ra.frozen;have hl:=ra.lt;have hcb:=rb.cell;have hfb:=rb.frozen;have hlb:=rb.lt;clear h3 ok0 hd0 hV0 hX3 k3 ra rb;have HE:=jj (fun (w:World) (h:bI w p W0)=>show Calls prog 250 #[.pointer (some ⟨p,0,none⟩),P2 ax ay,P2 bx y2] w (aOh w p V) from HV0.out▸aAb OK0.out h ax ay bx y2 HA.out HB.out HD0.out)
    go_wp2_with (first|(go_at_call 250;(with_reducible refine (HE.out _ HW3.out).mono ?_);rintro _ w4 ⟨rfl,h4,k4⟩))
    go_ret;refine ⟨p,rfl,h4,by omega,?_⟩;obtain ⟨X,hX⟩:=HX3.out;exact jz ((show Below w.heap.size w w3 from hX▸(Below.refl _ _).ext (Nat.le_refl _) X).trans (k4.below (fun j hj=>by omega) (by rw[hX];simp)))
end
section
theorem jW {ax ay bx y2:Int} (c:¬(ax=bx/\ay=y2)):(ax==bx)=false\/(ax==bx)=true/\(ay==y2)=false:=by
 by_cases h:ax=bx
 ·right;exact ⟨by simp[h],by simp;exact fun q=>c ⟨h,q⟩⟩
 ·left;simp[h]
theorem mV (ax ay bx y2:Int) (ha:MayP ax ay) (hb:MayP bx y2) (w:World):Calls prog 189 #[P2 ax ay,P2 bx y2] w (Ret (.int .i64 (((eP ax ay bx y2).length:Nat):Int)) w):=by
 by_cases c:ax=bx/\ay=y2
 ·obtain ⟨rfl,rfl⟩:=c;rw[fJ];have hz1:(ax==ax)=true:=by simp
  have hz2:(ay==ay)=true:=by simp
  go_enter func189,ntmps189
  go_wp2;go_ret;exact Ret.of' (by simp) (by exact bl_)
 ·have hn:=yB ax ay bx y2 c;rw[<-hn];obtain ⟨W,hW⟩:∃ W,W=gV ax ay bx y2:=⟨_,rfl⟩;have ok:W.Ok:=hW▸aAu ax ay bx y2 ha hb
  rw[<-hW];have HN:=jj (fun w=>show Calls prog 224 #[P2 ax ay,P2 bx y2] w (aOj w W) from hW▸aDp ax ay bx y2 ha hb c w);have hz:=jW c;have OK:=jj ok;have HC:=jj (fun w p (h:bI w p W)=>aDs ok h);simp only[ptr] at HC;clear hn hW c ok ha hb;rcases hz with hz1|⟨hz1,hz2⟩
  all_goals
   go_enter func189,ntmps189
   go_wp2_with (first|(go_at_call 224;(with_reducible refine (HN.out _).mono ?_);rintro _ w3 ⟨p,rfl,h3,hp,X3,rfl⟩;have H3:=jj h3;clear h3)|(go_at_call 225;with_reducible refine jn (HC.out _ _ H3.out) fun X_=>?_))
   go_ret;exact Ret.of' (by simp) (by exact bl_)
abbrev St.w (s:St):Value:=.agg #[s.K,s.X,s.Y]
def atL (ax ay bx y2 k:Int):Option St:=if k<0 then none else (eP ax ay bx y2)[k.toNat]?
end
section
theorem kE {P:Program} {f:Func} {R:Ending->World->Prop} {e:Exit} {a:Act} {w:World} (F:World->Prop) (h:F w) (k:∀ w1,F w1->bodyPost P f R e a w1):bodyPost P f R e a w:=k w h
theorem aLw (W:Way) (ok:W.Ok) (n:Int) (n0:0<=n) (n1:n<=W.size):-2097153<=W.first+n*W.step/\W.first+n*W.step<=2097153/\(-4194306<=n*W.step/\n*W.step<=4194306):=by
 obtain ⟨_,_,_,_,_,_,_,_,_,_,f0,f1,l0,l1⟩:=ok;unfold Way.size at n1;unfold Way.step
 split
 ·rw[show n*(-1:Int)=-n from by omega];omega
 ·rw[Int.mul_one];omega
end
section
theorem lI (W:Way) (u:Int) (h:0<W.den):0<=W.num u-W.across u*W.den/\W.num u-W.across u*W.den<W.den:=by
 unfold Way.across;have h2:=Int.ediv_mul_add_emod (W.num u) W.den;have h3:=Int.emod_nonneg (W.num u) (by omega:W.den≠0);have h4:=Int.emod_lt_of_pos (W.num u) h;omega
theorem rF (W:Way) (u v:Int) (h:0<W.den) (h0:0<=W.num u-v*W.den) (h1:W.num u-v*W.den<W.den):W.across u=v:=by
 unfold Way.across;rw[tZ _ _ _ h,Int.add_mul];omega
theorem aAq (W:Way) (hs:W.dv*W.step=W.bv-W.av) (u:Int):W.num (u+W.step)=W.num u+256*(W.bv-W.av):=by
 unfold Way.num;rw[<-hs];grind
theorem zX (W:Way) (hd:0<W.den) (hs:W.dv*W.step=W.bv-W.av) (u:Int) :
  (W.den<=(W.num u-W.across u*W.den)+(256*(W.bv-W.av)).tmod W.den->W.across (u+W.step)=W.across u+(256*(W.bv-W.av)).tdiv W.den+1) /\
  ((W.num u-W.across u*W.den)+(256*(W.bv-W.av)).tmod W.den<0->W.across (u+W.step)=W.across u+(256*(W.bv-W.av)).tdiv W.den-1) /\
  ((W.num u-W.across u*W.den)+(256*(W.bv-W.av)).tmod W.den<W.den->0<=(W.num u-W.across u*W.den)+(256*(W.bv-W.av)).tmod W.den->W.across (u+W.step)=W.across u+(256*(W.bv-W.av)).tdiv W.den):=by
 obtain ⟨r0,r1⟩:=lI W u hd;have e:=aAq W hs u;have h1:=Int.tdiv_mul_add_tmod (256*(W.bv-W.av)) W.den;have h5:-W.den<(256*(W.bv-W.av)).tmod W.den:=by
  have:=Int.tmod_lt_of_pos (-(256*(W.bv-W.av))) hd;rw[Int.neg_tmod] at this;omega
 have h6:(256*(W.bv-W.av)).tmod W.den<W.den:=Int.tmod_lt_of_pos _ hd;obtain ⟨q,hq⟩:∃ q,(256*(W.bv-W.av)).tdiv W.den=q:=⟨_,rfl⟩;obtain ⟨r,hr⟩:∃ q,(256*(W.bv-W.av)).tmod W.den=q:=⟨_,rfl⟩;obtain ⟨v,hv⟩:∃ q,W.across u=q:=⟨_,rfl⟩;rw[hq,hr] at h1;rw[hr] at h5 h6;rw[hq,hr,hv];rw[hv] at r0 r1;refine ⟨fun c=>rF W _ _ hd ?_ ?_,fun c=>rF W _ _ hd ?_ ?_,fun c c'=>rF W _ _ hd ?_ ?_⟩
 all_goals rw[e]
 all_goals simp only[Int.add_mul,Int.sub_mul,Int.one_mul]
 all_goals omega
theorem aIw (w:World) (p:Nat) (u m:Int):Calls prog 229 #[.pointer (some ⟨p,0,none⟩),u,m] w (fun e w'=>e=.returned (.func (.func 251) #[] #[.pointer (some ⟨w.heap.size,0,none⟩),.pointer (some ⟨w.heap.size+1,0,none⟩),.pointer (some ⟨w.heap.size+1+1,0,none⟩)]) /\
  w'=((w.alloc (.cells #[.pointer (some ⟨p,0,none⟩)] 249)).alloc (.cells #[u] 3)).alloc (.cells #[m] 3)):=by
 go_enter func229,ntmps229
 go_wp2;go_ret;exact ⟨rfl,rfl⟩
end
section
structure Bears (W:Way) (p B1 B2 B3:Nat) (m:Int) (J:Nat->World->Prop):Prop where
 put:∀ k w v,J k w->J k (w.setCell ⟨B2,0,none⟩ (.int .i64 v))
 ext:∀ k w X,J k w->J k (w.ext X)
 way:∀ k w,J k w->bI w p W
 box1:∀ k w,J k w->Row w B1 #[.pointer (some ⟨p,0,none⟩)] 249
 box2:∀ k w,J k w->∃ u:Int,Row w B2 #[u] 3
 box3:∀ k w,J k w->Row w B3 #[m] 3
theorem pJ {w:World} {b:Nat} {u v:Int} (h:Row w b #[u] 3) (hc:w.cell? ⟨b,0,none⟩=some (.int .i64 v)):Row w b #[v] 3:=by
 have:=h.cell 0;rw[hc] at this;simp at this;rw[this];exact h
theorem aDr {W:Way} (ok:W.Ok) (hdu:0<W.du) (hσ:W.dv*W.step=W.bv-W.av) {p B1 B2 B3 l N:Nat} (u0 m:Int) (m0:0<=m) (m1:m<=8388608)
  (ub:∀ k:Int,0<=k->k<=m->-8388600<=u0+k*W.step/\u0+k*W.step<=8388600)
  (J:Nat->World->Prop) (hJ:Bears W p B1 B2 B3 m J) (n1:B2≠p) (n2:B2≠B1) (n3:B2≠B3)
  (hY:∀ (k:Nat) w,J k w->(k:Int)<m->w.cell? ⟨B2,0,none⟩=some (.int .i64 (u0+(k:Int)*W.step)) ->
   YieldAt Fence.wide N prog l #[.int .i64 (u0+(k:Int)*W.step),.int .i64 (W.across (u0+(k:Int)*W.step))] w (fun e w'=>e=.returned (.bool true)/\J (k+1) w'/\w'.cell? ⟨B2,0,none⟩=w.cell? ⟨B2,0,none⟩))
  (w:World) (h0:J 0 w) (hu:w.cell? ⟨B2,0,none⟩=some (.int .i64 u0)) :
  Calls prog 251 #[.func (.yield l) #[] #[],.pointer (some ⟨B1,0,none⟩),.pointer (some ⟨B2,0,none⟩),.pointer (some ⟨B3,0,none⟩)] w (fun e w'=>(∃ v,e=.returned v)/\J m.toNat w'):=by
 have hden:0<W.den:=by unfold Way.den;omega
 have HY:=jj hY;have HJ:=jj hJ;have H0:=jj h0;have UB:=jj ub;have OK:=jj ok;have NX:=jj (zX W hden hσ);have NS:=jj (aAq W hσ);have RS:=jj (fun u=>lI W u hden);obtain ⟨s,hs⟩:∃ s,W.step=s:=⟨_,rfl⟩;have s01:=aD1 W;have HS:=jj (fun w (h:bI w p W)=>oN h ok);have HU:=jj (fun w u u0 u1 (h:bI w p W)=>uK ok h u u0 u1);have HA:=jj (fun w u u0 u1 (h:bI w p W)=>mU ok h u u0 u1 hdu);simp only[hs] at HY UB NX NS s01 HS
 -- bounds
 have db:W.den<=274877906944:=by
  have:=ok.au0;have:=ok.au1;have:=ok.bu0;have:=ok.bu1
  unfold Way.den Way.du;split<;>omega
 have w1:=hJ.way 0 w h0;have b1:=hJ.box1 0 w h0;have b2:=pJ (hJ.box2 0 w h0).choose_spec hu;have b3:=hJ.box3 0 w h0;have ha0:=ok.av0;have ha1:=ok.av1;have hb0:=ok.bv0;have hb1:=ok.bv1
 have nb:∀ u,-8388608<=u->u<=8388608->-5188146770730811392<=W.num u/\W.num u<=5188146770730811392:=by
  intro u u0 u1;obtain ⟨a0,a1,a2,a3,b0,b1,b2,b3,k0,k1,f0,f1,l0,l1⟩:=ok;have d0:-1073741824<=W.du/\W.du<=1073741824:=by unfold Way.du;split<;>omega
  have d1:-1073741824<=W.dv/\W.dv<=1073741824:=by unfold Way.dv;split<;>omega
  have m1:=eU (u:=W.av) (v:=W.du) (U:=536870912) (V:=1073741824) (by omega) (by omega) (by omega) (by omega) (by omega) (by omega);have m2:=eU (u:=W.dv) (v:=256*u+128-W.au) (U:=1073741824) (V:=2684354688) (by omega) (by omega) (by omega) (by omega) (by omega) (by omega);unfold Way.num;omega
 have vb:∀ u,-8388608<=u->u<=8388608->-5188146770730811392-274877906944<=W.across u*W.den/\W.across u*W.den<=5188146770730811392/\-5188146770730811392-274877906944<=W.across u/\W.across u<=5188146770730811392:=by
  intro u u0 u1;have r:=lI W u hden;have n:=nb u u0 u1;have k:-5188146770730811392-274877906944<=W.across u*W.den/\W.across u*W.den<=5188146770730811392:=by omega
  refine ⟨k.1,k.2,?_⟩
  by_cases c:0<=W.across u
  ·have:=Int.mul_le_mul_of_nonneg_left (show (1:Int)<=W.den by omega) c;omega
  ·have:=Int.mul_le_mul_of_nonpos_left (show W.across u<=0 by omega) (show (1:Int)<=W.den by omega);omega
 have NB:=jj nb;have VB:=jj vb;have ab:-274877906944<=256*(W.bv-W.av)/\256*(W.bv-W.av)<=274877906944:=by omega
 have qb:-274877906944<=(256*(W.bv-W.av)).tdiv W.den/\(256*(W.bv-W.av)).tdiv W.den<=274877906944:=by
  have:=Int.natAbs_tdiv_le_natAbs (256*(W.bv-W.av)) W.den;omega
 have rb:-W.den<(256*(W.bv-W.av)).tmod W.den/\(256*(W.bv-W.av)).tmod W.den<W.den:=by
  refine ⟨?_,Int.tmod_lt_of_pos _ hden⟩;have:=Int.tmod_lt_of_pos (-(256*(W.bv-W.av))) hden;rw[Int.neg_tmod] at this;omega
 obtain ⟨d,hd⟩:∃ d,W.den=d:=⟨_,rfl⟩;obtain ⟨q,hq⟩:∃ q,(256*(W.bv-W.av)).tdiv W.den=q:=⟨_,rfl⟩;obtain ⟨r,hr⟩:∃ r,(256*(W.bv-W.av)).tmod W.den=r:=⟨_,rfl⟩;rw[hq] at qb NX;rw[hr] at rb NX;rw[hd] at rb db NX VB RS hden;have AQ:=jj (show q*d+r=256*(W.bv-W.av) by rw[<-hq,<-hr,<-hd];exact Int.tdiv_mul_add_tmod _ _);have hq2:(256*(W.bv-W.av)).tdiv d=q:=by rw[<-hd];exact hq
 have hr2:(256*(W.bv-W.av)).tmod d=r:=by rw[<-hd];exact hr
 simp only[hd] at HU;obtain ⟨ab0,ab1⟩:=ab;obtain ⟨qb0,qb1⟩:=qb;obtain ⟨rb0,rb1⟩:=rb;have dne:d≠0:=by omega
 have ub0:=ub 0 (by omega) m0;rw[Int.zero_mul,Int.add_zero] at ub0;obtain ⟨ub00,ub01⟩:=ub0;have nb0:=nb u0 (by omega) (by omega);have vb0:=VB.out u0 (by omega) (by omega);have HU0:=jj (fun w h=>HU.out w u0 (by omega) (by omega) h);have HA0:=jj (fun w h=>HA.out w u0 (by omega) (by omega) h);obtain ⟨nn,hnn⟩:∃ nn,W.num u0=nn:=⟨_,rfl⟩;obtain ⟨v,hv⟩:∃ v,W.across u0=v:=⟨_,rfl⟩;rw[hnn] at HU0 nb0;rw[hv] at HA0 vb0;obtain ⟨nb00,nb01⟩:=nb0;obtain ⟨vb00,vb01,vb02,vb03⟩:=vb0;have rs0:=RS.out u0;rw[hnn,hv] at rs0;have HV0:=jj hv;have HN0:=jj hnn;have HSs:=jj hs;have hc:=w1.cell;simp only[Way.cells] at hc;have hf:=w1.frozen;have hl:=w1.lt;have c1:=b1.cell;have f1:=b1.frozen;have l1:=b1.lt;have c2:=b2.cell;have f2:=b2.frozen;have l2:=b2.lt;have c3:=b3.cell;have f3:=b3.frozen;have l3:=b3.lt;have HW1:=jj w1;clear hY hJ h0 ub ok hs hnn hv hq hr hd nb vb w1 b1 b2 b3 hu hσ hdu;simp only[ptr] at HU0 HA0 HS HA
 go_enter func251,ntmps251
 have w1:=HW1.out;go_upto_region 3 with (first|(go_at_call 252;(with_reducible refine (HU0.out _ ?_).mono ?_);exact rx_;rintro _ _ ⟨rfl,X_,rfl⟩)|(go_at_call 253;(with_reducible refine (HA0.out _ ?_).mono ?_);exact rx_;rintro _ _ ⟨rfl,X_,rfl⟩))
 refine jy ?_
 repeat (go_big_quiet_step ((fail)))
 refine jv fun X1=>?_
 go_upto_region 6 with fail
 go_wp2;go_loopw [7,8,42] (fun a b c wr=>∃ k:Nat,(k:Int)<=m/\c=.int .i64 k/\a=.int .i64 (W.across (u0+(k:Int)*s))/\b=.int .i64 (W.num (u0+(k:Int)*s)-W.across (u0+(k:Int)*s)*d)/\J k wr/\wr.cell? ⟨B2,0,none⟩=some (.int .i64 (u0+(k:Int)*s)))
  (fun _ _ c _=>(m-intOf c).toNat)
 case atStart =>
  refine ⟨0,m0,rfl,?_,?_,HJ.out.ext _ _ _ (HJ.out.ext _ _ _ (HJ.out.ext _ _ _ H0.out)),?_⟩
  ·rw[Int.ofNat_zero,Int.zero_mul,Int.add_zero,HV0.out]
  ·rw[Int.ofNat_zero,Int.zero_mul,Int.add_zero,HV0.out,HN0.out]
  ·rw[Int.ofNat_zero,Int.zero_mul,Int.add_zero];rw[World.cell?_ext' (by simp;omega),World.cell?_ext' (by simp;omega),World.cell?_ext' l2];exact c2 0
 case round =>
  obtain ⟨k,hk,rfl,rfl,rfl,hJk,hu⟩:=hrel;clear hc hf hl c1 f1 l1 c2 f2 l2 c3 f3 l3 w1 HW1 X1 HU0 HA0
  by_cases hlt:(k:Int)<m
  ·obtain ⟨fn,tmps,assign,body,hy,hR⟩:=HY.out k wr hJk hlt hu;obtain ⟨U,hU⟩:∃ U,u0+(k:Int)*s=U:=⟨_,rfl⟩;rw[hU] at hy hu;obtain ⟨V,hV⟩:∃ V,W.across U=V:=⟨_,rfl⟩;obtain ⟨R,hRR⟩:∃ R,W.num U-V*d=R:=⟨_,rfl⟩;rw[hV] at hy;rw[hU,hV,hRR];have HU1:=jj hU;have HV1:=jj hV;have HR1:=jj hRR;have HJk:=jj hJk;have HR:=jj hR;clear hU hV hRR hJk hR;go_upto_region 8 with fail
   refine (wpIn_wide (n:=N+1)).1 ?_;have c2:=(pJ (HJ.out.box2 _ _ HJk.out).choose_spec hu).cell
   gi_wp2
   refine HR.out.mono ?_;rintro e W3 ⟨rfl,hJ3,hk3⟩;rw[hu] at hk3;have HJ3:=jj hJ3;have r2:=pJ (HJ.out.box2 _ _ hJ3).choose_spec hk3;have r1:=HJ.out.box1 _ _ hJ3;have rw1:=HJ.out.way _ _ hJ3;have R2:=jj r2;clear c2 hJ3 hk3 hu hy;have c2:=r2.cell;have f2:=r2.frozen;have l2:=r2.lt;have c1:=r1.cell;have f1:=r1.frozen;have l1:=r1.lt;clear r1 r2
   gi_wp2
   obtain ⟨uU0,uU1⟩:-8388600<=U/\U<=8388600:=by rw[<-HU1.out];exact UB.out k (by omega) hk
   have sb:-1<=s/\s<=1:=by omega
   obtain ⟨sb0,sb1⟩:=sb;obtain ⟨vV0,vV1,vV2,vV3⟩:=VB.out U (by omega) (by omega);rw[HV1.out] at vV0 vV1 vV2 vV3;have rR:=RS.out U;rw[HV1.out,HR1.out] at rR;obtain ⟨rR0,rR1⟩:=rR;have NX1:=jj (by have:=NX.out U;rw[HV1.out,HR1.out] at this;exact this);clear vV0 vV1;go_upto_region 9 with fail
   refine jm 4 ?_;simp only[jx]
   repeat (go_big_quiet_step ((first|(go_at_call 228;with_reducible refine Calls.quiet_ret (HS.out _ ?_);exact rx_))))
   refine jv fun X2=>?_
   have FIN:∀ (V' R':Int),V'=W.across (U+s)->R'=W.num (U+s)-V'*d->∀ w',w'=(W3.setCell ⟨B2,0,none⟩ (.int .i64 (U+s))).ext X2 ->
     ∃ k':Nat,(k':Int)<=m/\((k:Int)+1)=k'/\V'=W.across (u0+(k':Int)*s)/\R'=W.num (u0+(k':Int)*s)-W.across (u0+(k':Int)*s)*d/\J k' w'/\w'.cell? ⟨B2,0,none⟩=some (.int .i64 (u0+(k':Int)*s)):=by
    intro V' R' h1 h2 w' hw;have e:u0+((k+1:Nat):Int)*s=U+s:=by rw[<-HU1.out,Int.natCast_add,Int.add_mul];simp;omega
    refine ⟨k+1,by omega,by omega,by rw[e];exact h1,by rw[e,<-h1];exact h2,?_,?_⟩
    ·rw[hw];exact HJ.out.ext _ _ _ (HJ.out.put _ _ _ HJ3.out)
    ·have r:=(R2.out.set 0 (.int .i64 (U+s))).ext X2;rw[<-hw] at r;rw[e];have:=r.cell 0
     simpa using this
   have HF:=jj FIN;clear FIN
   by_cases c1:d<=R+r
   ·have c2:R+r-d<d:=by omega
    have c3:0<=R+r-d:=by omega
    go_wp2;refine wp_loop_rounds 3 ?_
    iterate 3 try any_goals (rw[rounds_succ];go_wp2)
    refine wp_loop_rounds 3 ?_
    iterate 3 try any_goals (rw[rounds_succ];go_wp2)
    go_roundw
    case rel =>
     have e1:V+q+1=W.across (U+s):=(NX1.out.1 c1).symm;have e2:R+r-d=W.num (U+s)-(V+q+1)*d:=by
      rw[NS.out,<-AQ.out,<-HR1.out];simp only[Int.add_mul,Int.sub_mul,Int.one_mul];omega
     obtain ⟨k',h1,h2,h3,h4,h5,h6⟩:=HF.out _ _ e1 e2 _ rfl;refine ⟨k',h1,by rw[h2],by rw[h3],by rw[h4],h5,h6⟩
    case measure=>simp[intOf];omega
   ·have c1:R+r<d:=by omega
    by_cases c4:R+r<0
    ·have c2:0<=R+r+d:=by omega
     go_wp2;refine wp_loop_rounds 3 ?_
     iterate 3 try any_goals (rw[rounds_succ];go_wp2)
     refine wp_loop_rounds 3 ?_
     iterate 3 try any_goals (rw[rounds_succ];go_wp2)
     go_roundw
     case rel =>
      have e1:V+q-1=W.across (U+s):=(NX1.out.2.1 c4).symm;have e2:R+r+d=W.num (U+s)-(V+q-1)*d:=by
       rw[NS.out,<-AQ.out,<-HR1.out];simp only[Int.add_mul,Int.sub_mul,Int.one_mul];omega
      obtain ⟨k',h1,h2,h3,h4,h5,h6⟩:=HF.out _ _ e1 e2 _ rfl;refine ⟨k',h1,by rw[h2],by rw[h3],by rw[h4],h5,h6⟩
     case measure=>simp[intOf];omega
    ·have c4:0<=R+r:=by omega
     go_wp2;refine wp_loop_rounds 3 ?_
     iterate 3 try any_goals (rw[rounds_succ];go_wp2)
     refine wp_loop_rounds 3 ?_
     iterate 3 try any_goals (rw[rounds_succ];go_wp2)
     go_roundw
     case rel =>
      have e1:V+q=W.across (U+s):=(NX1.out.2.2 c1 c4).symm;have e2:R+r=W.num (U+s)-(V+q)*d:=by
       rw[NS.out,<-AQ.out,<-HR1.out];simp only[Int.add_mul,Int.sub_mul,Int.one_mul];omega
      obtain ⟨k',h1,h2,h3,h4,h5,h6⟩:=HF.out _ _ e1 e2 _ rfl;refine ⟨k',h1,by rw[h2],by rw[h3],by rw[h4],h5,h6⟩
     case measure=>simp[intOf];omega
  ·have ek:m.toNat=k:=by omega
   go_wp2
   go_end0
   exact ⟨⟨_,rfl⟩,ek▸hJk⟩
end
section
theorem qU {w:World} {j b i:Nat} {o:Obj} (h:b≠j):(w.putObj j o).cell? ⟨b,i,none⟩=w.cell? ⟨b,i,none⟩:=by
 unfold World.cell?;rw[World.putObj_heap_other h]
theorem Row.putObj {w:World} {j b:Nat} {o:Obj} {c:Array Value} {T:TypeId} (h:Row w b c T) (hj:b≠j):Row (w.putObj j o) b c T:=by
 have hc:Chg (fun k=>k=j) w (w.putObj j o):=⟨rfl,rfl,rfl,by simp,fun k hk hp=>World.putObj_heap_other hp⟩;exact hc.row h hj
theorem oZ {W:Way} (ok:W.Ok) (hdu:0<W.du) (hσ:W.dv*W.step=W.bv-W.av) {p B1 B2 B3 N n:Nat} (u0 m:Int) (m0:0<=m) (m1:m<=8388608)
  (ub:∀ k:Int,0<=k->k<=m->-8388600<=u0+k*W.step/\u0+k*W.step<=8388600)
  (n1:B2≠p) (n2:B2≠B1) (n3:B2≠B3)
  {g:Operand} {ps:Array Tmp} {assign body:Code} {Q:Exit->Act->World->Prop} {a:Act} {w:World}
  (hg:a.eval g=.func (.func 251) #[] #[.pointer (some ⟨B1,0,none⟩),.pointer (some ⟨B2,0,none⟩),.pointer (some ⟨B3,0,none⟩)])
  (hps:ps.size=2) (hB:p<w.heap.size/\B1<w.heap.size/\B2<w.heap.size/\B3<w.heap.size)
  (I:Nat->World->Prop) (hI:Bears W p B1 B2 B3 m I)
  (hput:∀ k W' j o o',w.heap.size<=j->W'.heap[j]?=some o->o.isCells=false->I k W'->I k (W'.putObj j o'))
  (h0:I 0 w) (hu:w.cell? ⟨B2,0,none⟩=some (.int .i64 u0))
  (a₁:Nat->Act)
  (hassign:∀ (l:Nat) (k:Nat) (W':World) (K:Act->World->Prop),K (a₁ k) W' ->
   assign.wpIn (Fence.wide.inRound l) N prog (Exit.then K (fun _ _ _=>False)) { tmps:=(ps.zip #[.int .i64 (u0+(k:Int)*W.step),.int .i64 (W.across (u0+(k:Int)*W.step))]).foldl (fun t (p,v)=>t.setIfInBounds p v) a.tmps,defers:=[] } W')
  (hbody:∀ (l:Nat) (k:Nat) (W':World),I k W'->(k:Int)<m->body.wpIn (Fence.wide.inRound l) N prog (fun e _ W2=>e=.normal/\KeepsOthers W' W2/\I (k+1) W2/\W2.cell? ⟨B2,0,none⟩=W'.cell? ⟨B2,0,none⟩) (a₁ k) W')
  (hdone:∀ (D:Nat) (W':World),w.heap.size<=D->I m.toNat W'->W'.heap[D]?=some (.deferred (some []))->Q .normal { a with defers:={ target:=.collected D,args:=#[] }::a.defers } W') :
  (Code.rangeFunc g ps assign body).wpIn Fence.wide n prog Q a w:=by
 refine wpIn_rangeFunc ?_;intro fn hfn;rw[show Fence.wide.round=none from rfl];obtain ⟨rec,hrec⟩:∃ rec:LoopState->Loop,rec=fun st=>{ state:=st,pending:=none,fn,tmps:=a.tmps,params:=ps,assign,body,defers:=w.heap.size }:=⟨_,rfl⟩
 obtain ⟨W1,hW1⟩:∃ W1,(w.alloc (.deferred (some []))).alloc (.loop (rec .ready))=W1:=⟨_,rfl⟩;have hL1:W1.heap[w.heap.size+1]?=some (.loop (rec .ready)):=by
  rw[<-hW1];have:=World.alloc_heap_new (w.alloc (.deferred (some []))) (.loop (rec .ready));rwa [World.size_alloc] at this
 have hK1:W1.heap[w.heap.size]?=some (.deferred (some [])):=by
  rw[<-hW1];exact (Below.heap_alloc _ _ _ (by simp)).trans (World.alloc_heap_new w _)
 have hX1:∃ X,W1=w.ext X:=by
  rw[<-hW1];exact jz (((Below.refl _ w).alloc (Nat.le_refl _) _).alloc (by simp) _)
 have hI1:I 0 W1:=by obtain ⟨X,rfl⟩:=hX1;exact hI.ext _ _ _ h0
 have hu1:W1.cell? ⟨B2,0,none⟩=some (.int .i64 u0):=by obtain ⟨X,rfl⟩:=hX1;rw[World.cell?_ext hB.2.2.1];exact hu
 refine ⟨w.heap.size+1,[{ target:=.collected w.heap.size,args:=#[] }],W1,{ target:=.fn (.func 251) #[.pointer (some ⟨B1,0,none⟩),.pointer (some ⟨B2,0,none⟩),.pointer (some ⟨B3,0,none⟩)],args:=#[.func (.yield (w.heap.size+1)) #[] #[]] },W1,251,
  #[.func (.yield (w.heap.size+1)) #[] #[],.pointer (some ⟨B1,0,none⟩),.pointer (some ⟨B2,0,none⟩),.pointer (some ⟨B3,0,none⟩)],W1,?_,?_,?_,?_,fun h=>(by cases h),?_⟩
 ·rw[<-hW1,hrec];exact run_enterLoop_outer _ _ _ _ _
 ·simp only[resolve,hg];simp[go_sem]
 ·intro f' hf';trivial
 ·have eg:=enters_of func251 (by kernel_rfl) rfl;simp[invoke,go_sem,eg]
 ·refine callsIn_wide.2 ?_;have hJ:Bears W p B1 B2 B3 m (fun k W'=>I k W'/\W'.heap[w.heap.size+1]?=some (.loop (rec .ready))/\W'.heap[w.heap.size]?=some (.deferred (some []))):=by
   refine ⟨?_,?_,fun k w' h=>hI.way k w' h.1,fun k w' h=>hI.box1 k w' h.1,fun k w' h=>hI.box2 k w' h.1,fun k w' h=>hI.box3 k w' h.1⟩
   ·rintro k w' v ⟨h1,h2,h3⟩;exact ⟨hI.put _ _ _ h1,(KeepsOthers.setCell _ _ _).same _ _ h2 rfl,(KeepsOthers.setCell _ _ _).same _ _ h3 rfl⟩
   ·rintro k w' X ⟨h1,h2,h3⟩;exact ⟨hI.ext _ _ _ h1,(World.heap_ext (Array.getElem?_eq_some_iff.1 h2).1).trans h2,(World.heap_ext (Array.getElem?_eq_some_iff.1 h3).1).trans h3⟩
  refine (aDr ok hdu hσ (N:=N) u0 m m0 m1 ub _ hJ n1 n2 n3 ?_ W1 ⟨hI1,hL1,hK1⟩ hu1).mono ?_
  ·rintro k W' ⟨hi,hl,hk⟩ hkm huW;have hlt:w.heap.size+1<W'.heap.size:=(Array.getElem?_eq_some_iff.1 hl).1;have hy:=run_yield (P:=prog) (args:=#[.int .i64 (u0+(k:Int)*W.step),.int .i64 (W.across (u0+(k:Int)*W.step))]) hl (by rw[hrec];simp[hps]);rw[hrec] at hy;refine ⟨fn,_,assign,body,hy,roundIn_of_wpIn trivial (hassign _ k W' _ ⟨_,run_beginRound hl (by rw[hrec]),?_⟩)⟩;have hl2:(W'.putObj (w.heap.size+1) (.loop { rec .ready with state:=.busy })).heap[w.heap.size+1]?=some (.loop { rec .ready with state:=.busy }):=World.putObj_heap_same hlt;have hk2:(W'.putObj (w.heap.size+1) (.loop { rec .ready with state:=.busy })).heap[w.heap.size]?=some (.deferred (some [])):=(World.putObj_heap_other (by omega)).trans hk;refine wpIn_mono (hbody _ k _ (hput _ _ _ _ _ (by omega) hl rfl hi) hkm) ?_;rintro e a3 W3 ⟨rfl,hk3,hi3,hc3⟩;have hl3:=hk3.same _ _ hl2 rfl;have hr:=run_endRound (P:=prog) none hl3;refine ⟨_,_,hr,rfl,⟨hput _ _ _ _ _ (by omega) hl3 rfl hi3,?_,(World.putObj_heap_other (by omega)).trans (hk3.same _ _ hk2 rfl)⟩,?_⟩
   ·rw[World.putObj_heap_same (Array.getElem?_eq_some_iff.1 hl3).1,hrec];rfl
   ·rw[qU (by omega),hc3,qU (by omega)]
  ·rintro e W2 ⟨⟨v,rfl⟩,hi,hl,hk⟩;exact ⟨none,_,by have:=run_endLoop (P:=prog) hl (by rw[hrec];simp);rw[hrec] at this;exact this,
    hdone _ _ (Nat.le_refl _) (hput _ _ _ _ _ (by omega) hl rfl hi) ((World.putObj_heap_other (by omega)).trans hk)⟩
end
section
abbrev St.cells (s:St):List Value:=[.int .i64 s.K,.int .i64 s.X,.int .i64 s.Y]
theorem aGe:(prog.info? 228).map (fun i=>(i.zero,i.size,i.bytes))=some (some (.agg #[.int .i64 0,.int .i64 0,.int .i64 0]),3,24):=by kernel_rfl
def Sts (w:World) (v:Value) (L:List St):Prop :=
 L.length<=8388608/\∃ a cap,v=.slice a L.length cap/\L.length<=cap /\
  (L=[]\/∃ b off,a=some ⟨b,off,none⟩/\b<w.heap.size/\∀ i s,L[i]?=some s->∀ j u,s.cells[j]?=some u->w.cell? ⟨b,off+i*3+j,none⟩=some u)
theorem Sts.chg {p:Nat->Prop} {w w1:World} {v:Value} {L:List St} (h:Sts w v L) (hc:Chg p w w1) (hb:∀ b,v.ownBlock=some b->L≠[]->b<w.heap.size->¬p b):Sts w1 v L:=by
 obtain ⟨h1,a,cap,rfl,h2,h3⟩:=h;refine ⟨h1,a,cap,rfl,h2,?_⟩
 by_cases hne:L=[]
 ·exact .inl hne
 rcases h3 with h3|⟨b,off,rfl,hb',hcl⟩
 ·exact .inl h3
 ·exact .inr ⟨b,off,rfl,Nat.lt_of_lt_of_le hb' hc.size,fun i f hi j u hj=>by rw[hc.cell hb' (hb b rfl hne hb')];exact hcl i f hi j u hj⟩
theorem Sts.ext {w:World} {v:Value} {L:List St} (h:Sts w v L) (X:Xt):Sts (w.ext X) v L:=h.chg (p:=fun _=>False) (Chg.of_ext X) (fun _ _ _ _ h=>h)
theorem aJz {w:World} {base n size:Nat} {e:TypeId} {v:Value} {xs:List Value} (h:w.ownsRow base e size v n xs) (X:Xt):(w.ext X).ownsRow base e size v n xs :=
 h.kept (row:=none) ⟨rfl,rfl,rfl,by simp,fun k hk _=>World.heap_ext hk⟩ (by cases v.ownBlock<;>simp)
theorem aA2:∀ (L:List St) (i:Nat) (f:St) (j:Nat) (u:Value),L[i]?=some f->f.cells[j]?=some u->(L.flatMap St.cells)[i*3+j]?=some u
 | [],_,_,_,_,h,_=>by simp at h
 |g::L,0,f,j,u,h,h'=>by
  obtain rfl:g=f:=by simpa using h
  have hj:j<(St.cells g).length:=by rw[List.getElem?_eq_some_iff] at h';exact h'.1
  rw[List.flatMap_cons,List.getElem?_append_left (by simpa using hj)]
  simpa using h'
 |g::L,i+1,f,j,u,h,h'=>by
  have e8:(St.cells g).length=3:=rfl;rw[List.flatMap_cons,List.getElem?_append_right (by rw[e8];omega),e8,show (i+1)*3+j-3=i*3+j by omega];exact aA2 L i f j u (by simpa using h) h'
theorem aFd {wr:World} {base:Nat} {vb:Value} {L:List St} (h:wr.ownsRow base 228 3 vb L.length (L.flatMap St.cells)) (hl:L.length<=8388608):Sts wr vb L:=by
 obtain ⟨hle,h1⟩:=h;rcases h1 with ⟨rfl,h0⟩|⟨g,cap,cur,rfl,hb,hg,h1,h2,h3,h4⟩
 ·obtain rfl:L=[]:=List.length_eq_zero_iff.1 h0;exact ⟨hl,none,0,rfl,Nat.le_refl _,.inl rfl⟩
 ·refine ⟨hl,_,cap,rfl,h1,.inr ⟨g,0,rfl,(Array.getElem?_eq_some_iff.1 hg).1,fun i f hi j u hj=>?_⟩⟩;have e:=aA2 L i f j u hi hj;rw[<-h4,List.getElem?_take] at e;rw[Nat.zero_add,World.cell?];simp only[hg]
  split at e
  ·rw[<-Array.getElem?_toList];exact e
  ·exact absurd e (by simp)
theorem aIb (b o j:Nat):(⟨b,o,none⟩:Addr).add j=⟨b,o+j,none⟩:=by simp[Addr.add]
theorem sY {w:World} {n:Nat} (h:w.heap.size=n) (c:Array Value) (t:TypeId):∀ j u,c.toList[j]?=some u->(w.alloc (.cells c t)).cell? ((⟨n,0,none⟩:Addr).add j)=some u:=by
 subst h;intro j u hj;rw[aIb,Nat.zero_add,World.cell?];simp only[World.hp_alloc,Array.getElem?_push,if_true];rw[<-Array.getElem?_toList];exact hj
def aOi (w:World) (L:List St) (e:Ending) (w':World):Prop:=∃ v,e=.returned v/\Sts w' v L/\∃ X,w'=w.ext X
structure Wi (w wr:World) (W:Way) (p Bw Bo:Nat) (x0 y0 x1 y1:Int) (v:Value) (L:List St):Prop where
 hp:w.heap.size+3<=p
 hw:w.heap.size+3<=Bw
 ho:w.heap.size+3<=Bo
 n1:p≠Bw
 n2:p≠Bo
 n3:Bw≠Bo
 way:bI wr p W
 bw:Row wr Bw #[.pointer (some ⟨p,0,none⟩)] 249
 bo:Row wr Bo #[v] 224
 br:Row wr (w.heap.size+1+1) #[x0,y0,x1,y1] 29
 own:wr.ownsRow w.heap.size 228 3 v L.length (L.flatMap St.cells)
 ext:∃ X,wr=w.ext X
section
variable {w wr:World} {W:Way} {p Bw Bo:Nat} {x0 y0 x1 y1:Int} {v:Value} {L:List St}
theorem Wi.grow (h:Wi w wr W p Bw Bo x0 y0 x1 y1 v L) (X:Xt):Wi w (wr.ext X) W p Bw Bo x0 y0 x1 y1 v L :=
 ⟨h.hp,h.hw,h.ho,h.n1,h.n2,h.n3,h.way.ext X,h.bw.ext X,h.bo.ext X,h.br.ext X,aJz h.own X,by obtain ⟨Y,rfl⟩:=h.ext;exact ⟨_,World.ext_ext⟩⟩
theorem Wi.size (h:Wi w wr W p Bw Bo x0 y0 x1 y1 v L):w.heap.size<=wr.heap.size:=by obtain ⟨X,rfl⟩:=h.ext;simp
theorem Wi.below (h:Wi w wr W p Bw Bo x0 y0 x1 y1 v L):Below w.heap.size w wr:=by obtain ⟨X,rfl⟩:=h.ext;exact (Below.refl _ _).ext (Nat.le_refl _) X
theorem bR {c:Array Value} {T:TypeId} {b:Nat} (h:Row wr b c T) (hT:T≠228) {base k:Nat} {xs:List Value} (hr:wr.ownsRow base 228 3 v k xs):some b≠v.ownBlock:=by
 rcases hr.2 with ⟨rfl,_⟩|⟨g,cap,cur,rfl,_,hgb,_⟩
 ·simp[Value.ownBlock]
 ·intro e';obtain rfl:b=g:=by simpa [Value.ownBlock] using e'
  have:=(show wr.heap[b]?=_ from h).symm.trans hgb;simp at this;exact hT this.2
theorem Row.kept {wr w1:World} {b:Nat} {c:Array Value} {T:TypeId} {row:Option Nat} (h:Row wr b c T) (hg:wr.grownBy w1 row) (hn:some b≠row):Row w1 b c T:=by
 unfold Row;rw[hg.block b h.lt hn];exact h
theorem Wi.snoc {w1:World} {s:St} {v':Value} {o:Obj} (h:Wi w wr W p Bw Bo x0 y0 x1 y1 v L) (hown:w1.ownsRow w.heap.size 228 3 v' (L.length+1) (L.flatMap St.cells++s.cells)) (hg:(wr.alloc o).grownBy w1 v.ownBlock) :
  Row w1 Bo #[v] 224/\Wi w (w1.setCell ⟨Bo,0,none⟩ v') W p Bw Bo x0 y0 x1 y1 v' (L++[s]):=by
 have r1:=(h.bo.alloc o).kept hg (bR h.bo (by decide) h.own);have r2:=(h.bw.alloc o).kept hg (bR h.bw (by decide) h.own);have r3:=(Row.alloc h.way o).kept hg (bR h.way (by decide) h.own);have r4:=(h.br.alloc o).kept hg (bR h.br (by decide) h.own);have hb1:Below w.heap.size w w1:=Below.grown (h.below.alloc h.size o) hg (by have:=h.size;rw[World.hp_alloc,Array.size_push];omega) fun k hk=>(h.own.lt k hk).1
 refine ⟨r1,h.hp,h.hw,h.ho,h.n1,h.n2,h.n3,r3.other h.n2 _ _,r2.other h.n3 _ _,?_,r4.other (by have:=h.ho;omega) _ _,?_,?_⟩
 ·have:=r1.set 0 v';simpa using this
 ·have e:(L++[s]).length=L.length+1:=by simp
  rw[e,List.flatMap_append];refine World.ownsRow.kept (row:=some Bo) (by simpa using hown) (grownBy_setCell' w1 Bo v') (.inr ?_);exact (bR (v:=v') r1 (by decide) hown).symm
 ·exact jz (hb1.setCell (p:=⟨Bo,0,none⟩) (by have:=h.ho;show w.heap.size<=Bo;omega) _)
end
end
section
theorem aBs (ax ay bx y2 x0 y0 x1 y1:Int) (c:¬(ax=bx/\ay=y2)) (r:aM x0 y0 x1 y1):dK ax ay bx y2 x0 y0 x1 y1 =
  (gV ax ay bx y2).headL x0 y0 x1 y1++(gV ax ay bx y2).loopL x0 y0 x1 y1 ((gV ax ay bx y2).hi x0 y0 x1 y1-(gV ax ay bx y2).lo x0 y0 x1 y1+1).toNat:=by
 unfold dK;rw[if_neg (fun q=>q.elim c (fun q=>q r)),<-sK ax ay bx y2 c,yM]
theorem aBr (ax ay bx y2 x0 y0 x1 y1:Int) (c:(ax=bx/\ay=y2)\/¬aM x0 y0 x1 y1):dK ax ay bx y2 x0 y0 x1 y1=[]:=if_pos c
theorem aD0 (w:World):Sts w (.slice none 0 0) []:=⟨by simp,none,0,rfl,Nat.le_refl _,.inl rfl⟩
theorem rK (ax ay bx y2 x0 y0 x1 y1:Int) (c:(ax=bx/\ay=y2)\/¬aM x0 y0 x1 y1) (w:World):Calls prog 192 #[P2 ax ay,P2 bx y2,R4 x0 y0 x1 y1] w (aOi w []):=by
 refine (callsIn_wide (n:=9)).1 ?_;refine callsIn_of_wp_marks func192 rfl trivial ?_ rfl;simp only[ntmps192,List.size_toArray,List.length_cons,List.length_nil,Nat.reduceAdd,Nat.reduceSub,Array.replicate_succ,Array.replicate_zero,List.push_toArray,List.append_toArray,List.nil_append,List.cons_append];refine wpIn_wide.2 ?_
 by_cases hc:ax=bx/\ay=y2
 ·obtain ⟨rfl,rfl⟩:=hc;have hz1:(ax==ax)=true:=by simp
  have hz2:(ay==ay)=true:=by simp
  go_wp2;exact ⟨_,results_tmp rfl _ _ _,_,rfl,aD0 _,jz (by exact bl_)⟩
 ·have hr:decide (aM x0 y0 x1 y1)=false:=decide_eq_false (c.resolve_left hc);have HR:=jj (fun w=>hr▸bM x0 y0 x1 y1 w);have hz:=jW hc;clear c hc hr;rcases hz with hz1|⟨hz1,hz2⟩
  all_goals
   go_wp2_with (first|(go_at_call 46;with_reducible refine jn (HR.out _) fun X_=>?_))
   exact ⟨_,results_tmp rfl _ _ _,_,rfl,aD0 _,jz (by exact bl_)⟩
end
end
end Go.Proofs.YthcjfanigfgckaaGreat
