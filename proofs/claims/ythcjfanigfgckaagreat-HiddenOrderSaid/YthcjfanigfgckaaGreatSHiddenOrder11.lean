import Derived.Test.YthcjfanigfgckaaGreatSHiddenOrder10
set_option linter.unusedVariables false
set_option linter.unusedSimpArgs false
set_option maxRecDepth 100000
set_option maxHeartbeats 16000000
namespace Go.Proofs.YthcjfanigfgckaaGreat
open Go.RowKit
section
theorem in_ins (x y i k:Int):(inOk x y=true/\inX x y=i/\inY x y=k)↔insP (x-256*i-128) (y-256*k-128):=by
 unfold inX inY insP;cases h:inOk x y
 ·unfold inOk at h;rw[decide_eq_false_iff_not] at h
  simp only[Bool.false_eq_true,if_false,false_and,false_iff];omega
 ·unfold inOk at h;rw[decide_eq_true_iff] at h
  simp only[if_true,true_and]
  split<;>omega
structure Slope (t:Bool) (D E back:Int):Prop where
 pos:0<D
 le:E<=D
 ge:-D<=E
 lt:t=true->-D<E/\E<D
 back1:t=true\/E<=0->back=1
 back0:t=false->0<E->back=0
theorem Slope.b01 {t:Bool} {D E back:Int} (S:Slope t D E back):back=0/\t=false/\0<E\/back=1/\(t=true\/E<=0):=by
 cases t
 ·by_cases h:0<E
  ·exact Or.inl ⟨S.back0 rfl h,rfl,h⟩
  ·exact Or.inr ⟨S.back1 (Or.inr (by omega)),Or.inr (by omega)⟩
 ·exact Or.inr ⟨S.back1 (Or.inl rfl),Or.inl rfl⟩
def ins (t:Bool) (pu pv:Int):Prop:=insP (if t then pv else pu) (if t then pu else pv)
theorem ins_f (pu pv:Int):ins false pu pv↔insP pu pv:=Iff.rfl
theorem ins_t (pu pv:Int):ins true pu pv↔insP pv pu:=Iff.rfl
def Mid (D back r:Int):Prop:=-128*D<=r-back/\r-back<128*D
theorem pm {a b c:Int} (h:a<=b) (c0:0<=c):a*c<=b*c:=Int.mul_le_mul_of_nonneg_right h c0
theorem ins_mid {t:Bool} {D E back pu pv:Int} (S:Slope t D E back) (h:ins t pu pv):Mid D back (pv*D-E*pu):=by
 have e:2*(pv*D-E*pu)=(pu+pv)*(D-E)-(pu-pv)*(D+E):=by grind
 have d0:0<=D-E:=by have:=S.le;omega
 have d1:0<=D+E:=by have:=S.ge;omega
 have p0:=S.pos;unfold Mid;rcases S.b01 with ⟨b,rfl,hE⟩|⟨b,hE⟩
 ·obtain ⟨h1,h2,h3,h4⟩:=(ins_f pu pv).1 h;have q1:=pm (a:=pu+pv) (b:=128) (by omega) d0;have q2:=pm (a:=-127) (b:=pu+pv) (by omega) d0;have q3:=pm (a:=pu-pv) (b:=128) (by omega) d1;have q4:=pm (a:=-127) (b:=pu-pv) (by omega) d1;omega
 ·cases t
  ·obtain ⟨h1,h2,h3,h4⟩:=(ins_f pu pv).1 h;have hE:E<=0:=by rcases hE with h|h;cases h;exact h
   have q1:=pm (a:=pu+pv) (b:=128) (by omega) d0;have q2:=pm (a:=-127) (b:=pu+pv) (by omega) d0;have q3:=pm (a:=pu-pv) (b:=128) (by omega) d1;have q4:=pm (a:=-127) (b:=pu-pv) (by omega) d1;omega
  ·obtain ⟨h1,h2,h3,h4⟩:=(ins_t pu pv).1 h;have q1:=pm (a:=pu+pv) (b:=128) (by omega) d0;have q2:=pm (a:=-127) (b:=pu+pv) (by omega) d0;have q3:=pm (a:=pu-pv) (b:=127) (by omega) d1;have q4:=pm (a:=-128) (b:=pu-pv) (by omega) d1;omega
theorem mul_pos_lt {D a b:Int} (hD:0<D) (h:D*a<D*b):a<b:=Int.lt_of_mul_lt_mul_left h (by omega)
theorem ins_near {t:Bool} {D E back pu pv qu qv:Int} (S:Slope t D E back) (h:ins t pu pv) (hr:qv*D-E*qu=pv*D-E*pu) (ho:pu<=qu/\qu<=0\/0<qu/\qu<=pu):ins t qu qv:=by
 have hM:=ins_mid S h;have p0:=S.pos;have d0:0<=D-E:=by have:=S.le;omega
 have d1:0<=D+E:=by have:=S.ge;omega
 obtain ⟨r,er⟩:∃ r,pv*D-E*pu=r:=⟨_,rfl⟩;rw[er] at hM hr;obtain ⟨m0,m1⟩:=hM;have a1:D*(qu+qv)=qu*(D+E)+r:=by grind
 have a2:D*(qu-qv)=qu*(D-E)-r:=by grind
 have a3:D*(pu+pv)=pu*(D+E)+r:=by grind
 have a4:D*(pu-pv)=pu*(D-E)-r:=by grind
 have key:∀ a b:Int,(D*a<D*b->a<b):=fun a b h=>mul_pos_lt p0 h
 have s1:=key (-128) (qu+qv);have s2:=key (qu+qv) 129;have s3:=key (-129) (qu-qv);have s4:=key (-128) (qu-qv);have s5:=key (qu-qv) 128;have s6:=key (qu-qv) 129;have z1:D*(-128)=-(128*D):=by grind
 have z2:D*128=128*D:=by grind
 have z3:D*(-129)=-(128*D)-D:=by grind
 have z4:D*129=128*D+D:=by grind
 have k1:∀ a b:Int,a<=b->D*a<=D*b:=fun a b h=>Int.mul_le_mul_of_nonneg_left h (by omega)
 rcases S.b01 with ⟨b,rfl,hE⟩|⟨b,hE⟩
 ·rw[ins_f] at h ⊢;obtain ⟨h1,h2,h3,h4⟩:=h;have g1:=k1 (-127) (pu+pv) (by omega);have g2:=k1 (pu+pv) 128 (by omega);have g3:=k1 (-127) (pu-pv) (by omega);have g4:=k1 (pu-pv) 128 (by omega);have z5:D*(-127)=-(128*D)+D:=by grind
  rcases ho with ⟨o1,o2⟩|⟨o1,o2⟩
  ·have q1:=pm o1 d1;have q2:=pm o1 d0;have q3:=pm o2 d1;have q4:=pm o2 d0
   unfold insP;omega
  ·have q1:=pm o2 d1;have q2:=pm o2 d0;have q3:=pm (show 1<=qu by omega) d1;have q4:=pm (show 1<=qu by omega) d0
   unfold insP;omega
 ·cases t
  ·have hE:E<=0:=by rcases hE with h|h;cases h;exact h
   rw[ins_f] at h ⊢;obtain ⟨h1,h2,h3,h4⟩:=h;have g1:=k1 (-127) (pu+pv) (by omega);have g2:=k1 (pu+pv) 128 (by omega);have g3:=k1 (-127) (pu-pv) (by omega);have g4:=k1 (pu-pv) 128 (by omega);have z5:D*(-127)=-(128*D)+D:=by grind
   rcases ho with ⟨o1,o2⟩|⟨o1,o2⟩
   ·have q1:=pm o1 d1;have q2:=pm o1 d0;have q3:=pm o2 d1;have q4:=pm o2 d0
    unfold insP;omega
   ·have q1:=pm o2 d1;have q2:=pm o2 d0;have q3:=pm (show 1<=qu by omega) d1;have q4:=pm (show 1<=qu by omega) d0
    unfold insP;omega
  ·have hl:=S.lt rfl;rw[ins_t] at h ⊢;obtain ⟨h1,h2,h3,h4⟩:=h;have g1:=k1 (-127) (pu+pv) (by omega);have g2:=k1 (pu+pv) 128 (by omega);have g3:=k1 (-128) (pu-pv) (by omega);have g4:=k1 (pu-pv) 127 (by omega);have z5:D*(-127)=-(128*D)+D:=by grind
   have z6:D*127=128*D-D:=by grind
   rcases ho with ⟨o1,o2⟩|⟨o1,o2⟩
   ·have q1:=pm o1 d1;have q2:=pm o1 d0;have q3:=pm o2 d1;have q4:=pm o2 d0
    unfold insP;omega
   ·have q1:=pm o2 d1;have q2:=pm o2 d0;have q3:=pm (show 1<=qu by omega) d1;have q4:=pm (show 1<=qu by omega) d0
    unfold insP;omega
def leastC (u:Int):Int:=(u+127)/256
def uC (t:Bool) (x y:Int):Int:=if t then y else x
def vC (t:Bool) (x y:Int):Int:=if t then x else y
def iC (t:Bool) (x y:Int):Int:=if t then inY x y else inX x y
def kC (t:Bool) (x y:Int):Int:=if t then inX x y else inY x y
theorem in_insC (t:Bool) (x y i k:Int):(inOk x y=true/\iC t x y=i/\kC t x y=k)↔ins t (uC t x y-256*i-128) (vC t x y-256*k-128):=by
 cases t
 ·exact in_ins x y i k
 ·rw[ins_t];exact Iff.trans ⟨fun ⟨a,b,c⟩=>⟨a,c,b⟩,fun ⟨a,b,c⟩=>⟨a,c,b⟩⟩ (in_ins x y k i)
theorem iC_or (t:Bool) (x y:Int) (h:inOk x y=true):(iC t x y=leastC (uC t x y)/\uC t x y<=256*iC t x y+128)\/(iC t x y=leastC (uC t x y)-1/\256*iC t x y+128<uC t x y):=by
 have:=(in_insC t x y (iC t x y) (kC t x y)).1 ⟨h,rfl,rfl⟩;obtain ⟨i,hi⟩:∃ i,iC t x y=i:=⟨_,rfl⟩;rw[hi] at this ⊢;unfold leastC;cases t
 ·obtain ⟨h1,h2,h3,h4⟩:=(ins_f _ _).1 this;omega
 ·obtain ⟨h1,h2,h3,h4⟩:=(ins_t _ _).1 this;omega
theorem leastC_mono {u v:Int} (h:u<=v):leastC u<=leastC v:=by unfold leastC;omega
def Way.Good (W:Way):Prop:=Slope W.turned W.du W.dv W.back
def Way.On (W:Way) (cu cv:Int):Prop:=W.du*(cv-W.av)=W.dv*(cu-W.au)
theorem on_a (W:Way):W.On W.au W.av:=by unfold Way.On;grind
theorem on_b (W:Way):W.On W.bu W.bv:=by unfold Way.On Way.du Way.dv;split<;>grind
theorem div_iff (n d k:Int) (hd:0<d):n/d=k↔k*d<=n/\n<(k+1)*d:=by
 rw[Int.ediv_eq_iff_of_pos hd,Int.add_mul];omega
theorem across_iff {W:Way} (g:W.Good) (i k cu cv:Int) (o:W.On cu cv):W.across i=k↔Mid W.du W.back ((cv-256*k-128)*W.du-W.dv*(cu-256*i-128)):=by
 have p0:=Slope.pos g;unfold Way.across;rw[div_iff _ _ _ (by unfold Way.den;omega)];unfold Way.On at o;unfold Way.num Way.den Mid;obtain ⟨D,hD⟩:∃ D,W.du=D:=⟨_,rfl⟩;obtain ⟨E,hE⟩:∃ E,W.dv=E:=⟨_,rfl⟩;obtain ⟨b,hb⟩:∃ b,W.back=b:=⟨_,rfl⟩;rw[hD,hE] at o;rw[hD,hE,hb];have e1:(cv-256*k-128)*D-E*(cu-256*i-128)=W.av*D+E*(256*i+128-W.au)-k*(256*D)-128*D:=by grind
 have e2:(k+1)*(256*D)=k*(256*D)+256*D:=by grind
 rw[e1,e2];obtain ⟨T,hT⟩:∃ T,W.av*D+E*(256*i+128-W.au)=T:=⟨_,rfl⟩;obtain ⟨K,hK⟩:∃ T,k*(256*D)=T:=⟨_,rfl⟩;rw[hT,hK];omega
theorem across_in {W:Way} (g:W.Good) (x y:Int) (o:W.On (uC W.turned x y) (vC W.turned x y)) (h:inOk x y=true):W.across (iC W.turned x y)=kC W.turned x y :=
 (across_iff g _ _ _ _ o).2 (ins_mid g ((in_insC W.turned x y _ _).1 ⟨h,rfl,rfl⟩))
theorem Way.near {W:Way} (g:W.Good) {x y x' y':Int} (o:W.On (uC W.turned x y) (vC W.turned x y)) (o':W.On (uC W.turned x' y') (vC W.turned x' y')) (h:inOk x y=true)
  (ho:uC W.turned x y<=uC W.turned x' y'/\uC W.turned x' y'<=256*iC W.turned x y+128\/256*iC W.turned x y+128<uC W.turned x' y'/\uC W.turned x' y'<=uC W.turned x y) :
  inOk x' y'=true/\iC W.turned x' y'=iC W.turned x y/\kC W.turned x' y'=kC W.turned x y:=by
 have hi:=(in_insC W.turned x y _ _).1 ⟨h,rfl,rfl⟩;rw[in_insC];refine ins_near g hi ?_ (by omega);unfold Way.On at o o'
 grind
def posU (t:Bool) (x y:Int):Int:=leastC (uC t x y)-if inOk x y=true/\iC t x y=leastC (uC t x y)-1 then 1 else 0
def posD (t:Bool) (x y:Int):Int:=leastC (uC t x y)-if inOk x y=true/\iC t x y=leastC (uC t x y) then 0 else 1
theorem posU_le {W:Way} (g:W.Good) {x y x' y':Int} (o:W.On (uC W.turned x y) (vC W.turned x y)) (o':W.On (uC W.turned x' y') (vC W.turned x' y')) (h:uC W.turned x y<=uC W.turned x' y'):posU W.turned x y<=posU W.turned x' y':=by
 have hm:=leastC_mono h;unfold posU
 by_cases c:inOk x' y'=true/\iC W.turned x' y'=leastC (uC W.turned x' y')-1
 ·rw[if_pos c]
  by_cases e:leastC (uC W.turned x y)=leastC (uC W.turned x' y')
  ·have:=iC_or W.turned x' y' c.1;have n:=Way.near g o' o c.1 (by right;unfold leastC at e this c;omega);rw[if_pos ⟨n.1,by omega⟩];omega
  ·split<;>omega
 ·rw[if_neg c];split<;>omega
theorem posD_le {W:Way} (g:W.Good) {x y x' y':Int} (o:W.On (uC W.turned x y) (vC W.turned x y)) (o':W.On (uC W.turned x' y') (vC W.turned x' y')) (h:uC W.turned x y<=uC W.turned x' y'):posD W.turned x y<=posD W.turned x' y':=by
 have hm:=leastC_mono h;unfold posD
 by_cases c:inOk x y=true/\iC W.turned x y=leastC (uC W.turned x y)
 ·rw[if_pos c]
  by_cases e:leastC (uC W.turned x y)=leastC (uC W.turned x' y')
  ·have:=iC_or W.turned x y c.1;have n:=Way.near g o o' c.1 (by left;unfold leastC at e this c;omega);rw[if_pos ⟨n.1,by omega⟩];omega
  ·split<;>omega
 ·rw[if_neg c];split<;>omega
structure St where
 K:Int
 X:Int
 Y:Int
def turnP (ax ay bx y2:Int):Prop:=max (bx-ax) (-(bx-ax))<max (y2-ay) (-(y2-ay))
instance (ax ay bx y2 : Int) : Decidable (turnP ax ay bx y2) := by unfold turnP; exact inferInstance
def signP (w h:Int):Prop:=(0<w/\0<h)\/(w<0/\h<0)
instance (w h : Int) : Decidable (signP w h) := by unfold signP; exact inferInstance
def backOf (ax ay bx y2:Int):Int:=if ¬turnP ax ay bx y2/\signP (bx-ax) (y2-ay) then 0 else 1
def wayZ (t:Bool) (back ax ay bx y2 z:Int):Way:=⟨uC t ax ay,vC t ax ay,uC t bx y2,vC t bx y2,t,back,leastC (uC t ax ay)-z,leastC (uC t bx y2)-z,false,false,0,0⟩
def mkWay0 (ax ay bx y2:Int):Way:=wayZ (decide (turnP ax ay bx y2)) (backOf ax ay bx y2) ax ay bx y2 (if leastC (uC (decide (turnP ax ay bx y2)) bx y2)<leastC (uC (decide (turnP ax ay bx y2)) ax ay) then 1 else 0)
def mkWay (ax ay bx y2:Int):Way:=(mkWay0 ax ay bx y2).ended ax ay bx y2
theorem wayZ_good (ax ay bx y2 z:Int) (h:¬(ax=bx/\ay=y2)):(wayZ (decide (turnP ax ay bx y2)) (backOf ax ay bx y2) ax ay bx y2 z).Good:=by
 unfold Way.Good wayZ Way.du Way.dv backOf
 by_cases t:turnP ax ay bx y2
 ·simp only[t,decide_true,uC,vC,if_true,not_true,false_and,if_false];unfold turnP at t
  split
  ·refine ⟨by omega,by omega,by omega,fun _=>by omega,fun _=>rfl,fun h=>by cases h⟩
  ·refine ⟨by omega,by omega,by omega,fun _=>by omega,fun _=>rfl,fun h=>by cases h⟩
 ·simp only[t,decide_false,uC,vC,Bool.false_eq_true,if_false,not_false_iff,true_and];unfold turnP at t
  by_cases c:signP (bx-ax) (y2-ay)
  ·rw[if_pos c];unfold signP at c
   split
   ·refine ⟨by omega,by omega,by omega,(fun h=>by cases h),(fun h=>h.elim (fun h=>by cases h) (fun h=>by omega)),fun _ _=>rfl⟩
   ·refine ⟨by omega,by omega,by omega,(fun h=>by cases h),(fun h=>h.elim (fun h=>by cases h) (fun h=>by omega)),fun _ _=>rfl⟩
  ·rw[if_neg c];unfold signP at c
   split
   ·refine ⟨by omega,by omega,by omega,(fun h=>by cases h),fun _=>rfl,fun _ h=>by omega⟩
   ·refine ⟨by omega,by omega,by omega,(fun h=>by cases h),fun _=>rfl,fun _ h=>by omega⟩
def Way.len (W:Way):Int:=W.size-if W.opn=true then 1 else 0
def Way.cell (W:Way) (k u:Int):St:=⟨k,W.px u (W.across u),W.py u (W.across u)⟩
def Way.line (W:Way):List St:=(if W.extra=true then [⟨0,W.px W.u W.v,W.py W.u W.v⟩] else [])++(List.range W.len.toNat).map (fun j:Nat=>W.cell ((if W.extra=true then 1 else 0)+(j:Int)) (W.first+(j:Int)*W.step))
def Way.run (W:Way) (s σ N:Int):List St:=(List.range N.toNat).map (fun j:Nat=>W.cell (j:Int) (s+(j:Int)*σ))
theorem run_cons (W:Way) (s σ N:Int) (h:0<=N):W.run s σ (N+1)=W.cell 0 s::(List.range N.toNat).map (fun j:Nat=>W.cell (1+(j:Int)) (s+σ+(j:Int)*σ)):=by
 unfold Way.run;rw[show (N+1).toNat=N.toNat+1 from by omega,List.range_succ_eq_map,List.map_cons,List.map_map]
 congr 1
 ·congr 1;simp
 ·apply List.map_congr_left
  intro j _;show W.cell ((j+1:Nat):Int) (s+((j+1:Nat):Int)*σ)=_
  rw[Int.natCast_add,Int.add_mul]
  congr 1<;>simp<;>omega
theorem run_zero (W:Way) (s σ N:Int) (h:N<=0):W.run s σ N=[]:=by
 unfold Way.run;rw[show N.toNat=0 from by omega];rfl
theorem line_of (W:Way) (s N:Int) (e o:Int)
  (hE:W.extra=true/\e=1/\W.v=W.across W.u/\W.u=s\/W.extra=false/\e=0) (hO:W.len=N-e) (hN:0<=N-e) (hs:N=e\/W.first=s+e*W.step) :
  W.line=W.run s W.step N:=by
 rcases hE with ⟨h1,rfl,h2,h3⟩|⟨h1,rfl⟩
 ·unfold Way.line;rw[if_pos h1,if_pos h1,hO];have:=run_cons W s W.step (N-1) hN;rw[show N-1+1=N from by omega] at this;rw[this,List.cons_append,List.nil_append]
  congr 1
  ·unfold Way.cell;rw[h2,h3]
  ·rcases hs with rfl|hs
   ·rfl
   ·rw[hs,Int.one_mul]
 ·unfold Way.line Way.run;rw[if_neg (by rw[h1];simp),if_neg (by rw[h1];simp),hO];rcases hs with rfl|hs
  ·rfl
  ·rw[hs];simp
theorem ended_eq (W:Way) (h1:W.extra=false) (h2:W.opn=false) (ax ay bx y2:Int) :
  W.ended ax ay bx y2={ W with extra:=decide (W.endA ax ay bx y2),opn:=decide (W.endB bx y2/\W.across (iC W.turned bx y2)=kC W.turned bx y2),u:=if W.endA ax ay bx y2 then iC W.turned ax ay else W.u,v:=if W.endA ax ay bx y2 then kC W.turned ax ay else W.v }:=by
 unfold Way.ended Way.ended2 Way.ended1
 by_cases a:W.endA ax ay bx y2
 ·by_cases b:W.endB bx y2
  ·simp only[a,b,if_true,decide_true,true_and];rfl
  ·simp only[a,b,if_true,if_false,decide_true,false_and,decide_false,<-h2];rfl
 ·by_cases b:W.endB bx y2
  ·simp only[a,b,if_true,if_false,decide_true,true_and,decide_false,<-h1];rfl
  ·simp only[a,b,if_false,false_and,decide_false];cases W
   simp only at h1 h2;subst h1;subst h2;rfl
theorem core_up {PA PB EA OB:Prop} {i k i' k' La Lb ua ub:Int} (f:Int->Int) (hm:La<=Lb) (h:ua<ub)
  (la:ua<=256*La+128/\256*La-128<ua) (lb:ub<=256*Lb+128/\256*Lb-128<ub)
  (A:PA->(i=La/\ua<=256*i+128)\/(i=La-1/\256*i+128<ua)) (B:PB->(i'=Lb/\ub<=256*i'+128)\/(i'=Lb-1/\256*i'+128<ub))
  (NA:PA->(ua<=ub/\ub<=256*i+128\/256*i+128<ub/\ub<=ua)->PB/\i'=i/\k'=k)
  (NB:PB->(ub<=ua/\ua<=256*i'+128\/256*i'+128<ua/\ua<=ub)->PA/\i=i'/\k=k')
  (XA:PA->f i=k) (XB:PB->f i'=k')
  (hEA:EA↔PA/\(Lb-La=0\/i≠La)/\¬(PB/\i=i'/\k=k'))
  (hOB:OB↔(0<Lb-La/\PB/\i'=Lb-1)/\f i'=k') :
  (EA↔(PA/\i=La-1)/\¬(Lb=La/\PB/\i'=Lb-1))/\(OB↔La<Lb/\PB/\i'=Lb-1)/\(Lb=La->PB/\i'=Lb-1->PA/\i=La-1):=by
 rw[hEA,hOB];clear hEA hOB
 by_cases a:PA
 ·replace A:=A a;replace NA:=NA a;replace XA:=XA a
  by_cases b:PB
  ·replace B:=B b;replace NB:=NB b;replace XB:=XB b
   by_cases e:i=i'
   ·subst e;rw[XA] at XB
    refine ⟨⟨fun ⟨_,q1,q2⟩=>absurd ⟨b,rfl,XB⟩ q2,fun ⟨⟨_,q1⟩,q2⟩=>⟨a,by omega,fun q=>q2 ⟨by omega,b,by omega⟩⟩⟩,⟨fun q=>⟨by omega,b,q.1.2.2⟩,fun q=>⟨⟨by omega,b,q.2.2⟩,by omega⟩⟩,fun _ _=>⟨a,by omega⟩⟩
   ·refine ⟨⟨fun ⟨_,q1,q2⟩=>⟨⟨a,by omega⟩,fun ⟨q3,_,q4⟩=>by omega⟩,fun ⟨⟨_,q1⟩,q2⟩=>⟨a,by omega,fun q=>e q.2.1⟩⟩,⟨fun q=>⟨by omega,b,q.1.2.2⟩,fun q=>⟨⟨by omega,b,q.2.2⟩,XB⟩⟩,fun _ _=>⟨a,by omega⟩⟩
  ·have NA':¬(ua<=ub/\ub<=256*i+128\/256*i+128<ub/\ub<=ua):=fun c=>b (NA c).1
   refine ⟨⟨fun ⟨_,q1,q2⟩=>⟨⟨a,by omega⟩,fun q=>b q.2.1⟩,fun ⟨⟨_,q1⟩,q2⟩=>⟨a,by omega,fun q=>b q.1⟩⟩,⟨fun q=>absurd q.1.2.1 b,fun q=>absurd q.2.1 b⟩,fun _ q=>absurd q.1 b⟩
 ·refine ⟨⟨fun q=>absurd q.1 a,fun q=>absurd q.1.1 a⟩,⟨fun q=>⟨by omega,q.1.2.1,q.1.2.2⟩,fun q=>⟨⟨by omega,q.2.1,q.2.2⟩,XB q.2.1⟩⟩,fun q1 ⟨q2,q3⟩=>?_⟩;have NB':¬(ub<=ua/\ua<=256*i'+128\/256*i'+128<ua/\ua<=ub):=fun c=>a (NB q2 c).1
  exfalso;omega
theorem leastC_is (u:Int):u<=256*leastC u+128/\256*leastC u-128<u:=by unfold leastC;omega
theorem core_up2 {EA OB A1 B1:Prop} [Decidable EA] [Decidable OB] [Decidable A1] [Decidable B1] {La Lb n first step:Int}
  (hm:La<=Lb) (hn:n=Lb-La) (hf:first=La) (hs:step=1)
  (k:(EA↔A1/\¬(Lb=La/\B1))/\(OB↔La<Lb/\B1)/\(Lb=La->B1->A1)) :
  (EA->A1)/\(EA->La-(if A1 then 1 else 0)=La-1)/\(n-(if OB then 1 else 0)=(Lb-(if B1 then 1 else 0))-(La-(if A1 then 1 else 0))-(if EA then 1 else 0))/\0<=(Lb-(if B1 then 1 else 0))-(La-(if A1 then 1 else 0))-(if EA then 1 else 0)/\((Lb-(if B1 then 1 else 0))-(La-(if A1 then 1 else 0))=(if EA then 1 else 0)\/first=La-(if A1 then 1 else 0)+(if EA then 1 else 0)*step):=by
 obtain ⟨k1,k2,k3⟩:=k;subst hn hf hs
 by_cases a:A1
 ·by_cases b:B1
  ·by_cases c:Lb=first
   ·have x1:¬EA:=fun h=>(k1.1 h).2 ⟨c,b⟩
    have x2:¬OB:=fun h=>by have:=(k2.1 h).1;omega
    simp only[if_pos a,if_pos b,if_neg x1,if_neg x2];refine ⟨fun _=>?_,fun _=>?_,?_,?_,?_⟩<;>first|exact trivial|assumption|contradiction|omega
   ·have x1:EA:=k1.2 ⟨a,fun h=>c h.1⟩;have x2:OB:=k2.2 ⟨by omega,b⟩;simp only[if_pos a,if_pos b,if_pos x1,if_pos x2];refine ⟨fun _=>?_,fun _=>?_,?_,?_,?_⟩<;>first|exact trivial|assumption|contradiction|omega
  ·have x1:EA:=k1.2 ⟨a,fun h=>b h.2⟩;have x2:¬OB:=fun h=>b (k2.1 h).2
   simp only[if_pos a,if_neg b,if_pos x1,if_neg x2];refine ⟨fun _=>?_,fun _=>?_,?_,?_,?_⟩<;>first|exact trivial|assumption|contradiction|omega
 ·have x1:¬EA:=fun h=>a (k1.1 h).1
  by_cases b:B1
  ·have c:Lb≠first:=fun h=>a (k3 h b)
   have x2:OB:=k2.2 ⟨by omega,b⟩;simp only[if_neg a,if_pos b,if_neg x1,if_pos x2];refine ⟨fun _=>?_,fun _=>?_,?_,?_,?_⟩<;>first|exact trivial|assumption|contradiction|omega
  ·have x2:¬OB:=fun h=>b (k2.1 h).2
   simp only[if_neg a,if_neg b,if_neg x1,if_neg x2];refine ⟨fun _=>?_,fun _=>?_,?_,?_,?_⟩<;>first|exact trivial|assumption|contradiction|omega
theorem line_up {W:Way} (g:W.Good) (h1:W.extra=false) (h2:W.opn=false) (ax ay bx y2:Int) (ea:W.au=uC W.turned ax ay) (eb:W.av=vC W.turned ax ay) (ec:W.bu=uC W.turned bx y2) (ed:W.bv=vC W.turned bx y2)
  (h:W.au<W.bu) (hf:W.first=leastC W.au) (hl:W.last=leastC W.bu) :
  (W.ended ax ay bx y2).line=W.run (posU W.turned ax ay) 1 (posU W.turned bx y2-posU W.turned ax ay):=by
 have oa:W.On (uC W.turned ax ay) (vC W.turned ax ay):=by rw[<-ea,<-eb];exact on_a W
 have ob:W.On (uC W.turned bx y2) (vC W.turned bx y2):=by rw[<-ec,<-ed];exact on_b W
 have hm:=leastC_mono (Int.le_of_lt h);have hstep:W.step=1:=by unfold Way.step;rw[if_neg (by omega)]
 have hsize:W.size=leastC W.bu-leastC W.au:=by unfold Way.size;omega
 have XA:=across_in g ax ay oa;have K:=core_up (PA:=inOk ax ay=true) (PB:=inOk bx y2=true) (EA:=W.endA ax ay bx y2) (OB:=W.endB bx y2/\W.across (iC W.turned bx y2)=kC W.turned bx y2)
  (i:=iC W.turned ax ay) (k:=kC W.turned ax ay) (i':=iC W.turned bx y2) (k':=kC W.turned bx y2) (ua:=W.au) (ub:=W.bu) W.across hm h (leastC_is _) (leastC_is _)
  (by rw[ea];exact iC_or W.turned ax ay) (by rw[ec];exact iC_or W.turned bx y2) (by rw[ea,ec];exact Way.near g oa ob) (by rw[ea,ec];exact Way.near g ob oa)
  XA (across_in g bx y2 ob)
  (by rw[<-hsize,<-hf];exact Iff.rfl) (by rw[<-hsize,<-hl,<-hstep];exact Iff.rfl)
 replace K:=core_up2 (n:=W.size) (first:=W.first) (step:=W.step) hm hsize hf hstep K
 rw[ended_eq W h1 h2];unfold posU;rw[<-ea,<-ec];clear h1 h2;have e1:∀ s N,W.run s 1 N=W.run s W.step N:=fun s N=>by rw[hstep]
 rw[e1];refine line_of _ _ _ (if W.endA ax ay bx y2 then 1 else 0) 0 ?_ ?_ ?_ ?_
 ·by_cases c:W.endA ax ay bx y2
  ·left
   refine ⟨decide_eq_true c,if_pos c,?_,?_⟩
   ·show (if W.endA ax ay bx y2 then _ else _)=W.across (if W.endA ax ay bx y2 then _ else _)
    rw[if_pos c,if_pos c];exact (XA (K.1 c).1).symm
   ·show (if W.endA ax ay bx y2 then _ else _)=_
    rw[if_pos c];have:=K.1 c;rw[if_pos this];exact this.2
  ·right;exact ⟨decide_eq_false c,if_neg c⟩
 ·show W.size-(if decide (W.endB bx y2/\W.across (iC W.turned bx y2)=kC W.turned bx y2)=true then 1 else 0)=_
  simp only[decide_eq_true_iff];exact K.2.2.1
 ·exact K.2.2.2.1
 ·exact K.2.2.2.2
theorem run_one (W:Way) (s σ σ' N:Int) (h:N<=1):W.run s σ N=W.run s σ' N:=by
 by_cases h0:N<=0
 ·rw[run_zero _ _ _ _ h0,run_zero _ _ _ _ h0]
 ·have:N=0+1:=by omega
  rw[this,run_cons _ _ _ _ (by omega),run_cons _ _ _ _ (by omega)]
  rfl
theorem core_down {PA PB EA OB:Prop} {i k i' k' La Lb ua ub first last step:Int} (f:Int->Int) (hm:Lb<=La) (h:ub<ua)
  (la:ua<=256*La+128/\256*La-128<ua) (lb:ub<=256*Lb+128/\256*Lb-128<ub)
  (hfl:Lb<La/\first=La-1/\last=Lb-1/\step=-1\/La=Lb/\first=La)
  (A:PA->(i=La/\ua<=256*i+128)\/(i=La-1/\256*i+128<ua)) (B:PB->(i'=Lb/\ub<=256*i'+128)\/(i'=Lb-1/\256*i'+128<ub))
  (NA:PA->(ua<=ub/\ub<=256*i+128\/256*i+128<ub/\ub<=ua)->PB/\i'=i/\k'=k)
  (NB:PB->(ub<=ua/\ua<=256*i'+128\/256*i'+128<ua/\ua<=ub)->PA/\i=i'/\k=k')
  (XA:PA->f i=k) (XB:PB->f i'=k')
  (hEA:EA↔PA/\(La-Lb=0\/i≠first)/\¬(PB/\i=i'/\k=k'))
  (hOB:OB↔(0<La-Lb/\PB/\i'=last-step)/\f i'=k') :
  (EA↔(PA/\i=La)/\¬(Lb=La/\PB/\i'=Lb))/\(OB↔Lb<La/\PB/\i'=Lb)/\(Lb=La->PB/\i'=Lb->PA/\i=La):=by
 rw[hEA,hOB];clear hEA hOB
 by_cases a:PA
 ·replace A:=A a;replace NA:=NA a;replace XA:=XA a
  by_cases b:PB
  ·replace B:=B b;replace NB:=NB b;replace XB:=XB b
   by_cases e:i=i'
   ·subst e;rw[XA] at XB
    refine ⟨⟨fun ⟨_,q1,q2⟩=>absurd ⟨b,rfl,XB⟩ q2,fun ⟨⟨_,q1⟩,q2⟩=>⟨a,by omega,fun q=>q2 ⟨by omega,b,by omega⟩⟩⟩,⟨fun q=>⟨by omega,b,by omega⟩,fun q=>⟨⟨by omega,b,by omega⟩,by omega⟩⟩,fun _ _=>⟨a,by omega⟩⟩
   ·refine ⟨⟨fun ⟨_,q1,q2⟩=>⟨⟨a,by omega⟩,fun ⟨q3,_,q4⟩=>by omega⟩,fun ⟨⟨_,q1⟩,q2⟩=>⟨a,by omega,fun q=>e q.2.1⟩⟩,⟨fun q=>⟨by omega,b,by omega⟩,fun q=>⟨⟨by omega,b,by omega⟩,XB⟩⟩,fun _ _=>⟨a,by omega⟩⟩
  ·have NA':¬(ua<=ub/\ub<=256*i+128\/256*i+128<ub/\ub<=ua):=fun c=>b (NA c).1
   refine ⟨⟨fun ⟨_,q1,q2⟩=>⟨⟨a,by omega⟩,fun q=>b q.2.1⟩,fun ⟨⟨_,q1⟩,q2⟩=>⟨a,by omega,fun q=>b q.1⟩⟩,⟨fun q=>absurd q.1.2.1 b,fun q=>absurd q.2.1 b⟩,fun _ q=>absurd q.1 b⟩
 ·refine ⟨⟨fun q=>absurd q.1 a,fun q=>absurd q.1.1 a⟩,⟨fun q=>⟨by omega,q.1.2.1,by omega⟩,fun q=>⟨⟨by omega,q.2.1,by omega⟩,XB q.2.1⟩⟩,fun q1 ⟨q2,q3⟩=>?_⟩;have NB':¬(ub<=ua/\ua<=256*i'+128\/256*i'+128<ua/\ua<=ub):=fun c=>a (NB q2 c).1
  exfalso;omega
theorem core_down2 {EA OB A1 B1:Prop} [Decidable EA] [Decidable OB] [Decidable A1] [Decidable B1] {La Lb n first step:Int}
  (hm:Lb<=La) (hn:n=La-Lb) (hf:Lb<La/\first=La-1/\step=-1\/La=Lb/\first=La)
  (k:(EA↔A1/\¬(Lb=La/\B1))/\(OB↔Lb<La/\B1)/\(Lb=La->B1->A1)) :
  (EA->A1)/\(EA->La-(if A1 then 0 else 1)=La)/\(n-(if OB then 1 else 0)=(La-(if A1 then 0 else 1))-(Lb-(if B1 then 0 else 1))-(if EA then 1 else 0))/\0<=(La-(if A1 then 0 else 1))-(Lb-(if B1 then 0 else 1))-(if EA then 1 else 0) /\
   ((La-(if A1 then 0 else 1))-(Lb-(if B1 then 0 else 1))=(if EA then 1 else 0)\/step=-1/\first=La-(if A1 then 0 else 1)+(if EA then 1 else 0)*step):=by
 obtain ⟨k1,k2,k3⟩:=k;subst hn
 by_cases a:A1
 ·by_cases b:B1
  ·by_cases c:Lb=La
   ·have x1:¬EA:=fun h=>(k1.1 h).2 ⟨c,b⟩
    have x2:¬OB:=fun h=>by have:=(k2.1 h).1;omega
    simp only[if_pos a,if_pos b,if_neg x1,if_neg x2];refine ⟨fun _=>?_,fun _=>?_,?_,?_,?_⟩<;>first|exact trivial|assumption|contradiction|omega
   ·have x1:EA:=k1.2 ⟨a,fun h=>c h.1⟩;have x2:OB:=k2.2 ⟨by omega,b⟩;simp only[if_pos a,if_pos b,if_pos x1,if_pos x2];refine ⟨fun _=>?_,fun _=>?_,?_,?_,?_⟩<;>first|exact trivial|assumption|contradiction|omega
  ·have x1:EA:=k1.2 ⟨a,fun h=>b h.2⟩;have x2:¬OB:=fun h=>b (k2.1 h).2
   simp only[if_pos a,if_neg b,if_pos x1,if_neg x2];refine ⟨fun _=>?_,fun _=>?_,?_,?_,?_⟩<;>first|exact trivial|assumption|contradiction|omega
 ·have x1:¬EA:=fun h=>a (k1.1 h).1
  by_cases b:B1
  ·have c:Lb≠La:=fun h=>a (k3 h b)
   have x2:OB:=k2.2 ⟨by omega,b⟩;simp only[if_neg a,if_pos b,if_neg x1,if_pos x2];refine ⟨fun _=>?_,fun _=>?_,?_,?_,?_⟩<;>first|exact trivial|assumption|contradiction|omega
  ·have x2:¬OB:=fun h=>b (k2.1 h).2
   simp only[if_neg a,if_neg b,if_neg x1,if_neg x2];refine ⟨fun _=>?_,fun _=>?_,?_,?_,?_⟩<;>first|exact trivial|assumption|contradiction|omega
theorem line_down {W:Way} (g:W.Good) (h1:W.extra=false) (h2:W.opn=false) (ax ay bx y2:Int) (ea:W.au=uC W.turned ax ay) (eb:W.av=vC W.turned ax ay) (ec:W.bu=uC W.turned bx y2) (ed:W.bv=vC W.turned bx y2)
  (h:W.bu<W.au) (hfl:leastC W.bu<leastC W.au/\W.first=leastC W.au-1/\W.last=leastC W.bu-1\/leastC W.au=leastC W.bu/\W.first=leastC W.au/\W.last=W.first) :
  (W.ended ax ay bx y2).line=W.run (posD W.turned ax ay) (-1) (posD W.turned ax ay-posD W.turned bx y2):=by
 have oa:W.On (uC W.turned ax ay) (vC W.turned ax ay):=by rw[<-ea,<-eb];exact on_a W
 have ob:W.On (uC W.turned bx y2) (vC W.turned bx y2):=by rw[<-ec,<-ed];exact on_b W
 have hm:=leastC_mono (Int.le_of_lt h);have hfs:leastC W.bu<leastC W.au/\W.first=leastC W.au-1/\W.last=leastC W.bu-1/\W.step=-1\/leastC W.au=leastC W.bu/\W.first=leastC W.au:=by
  rcases hfl with q|q
  ·left;refine ⟨q.1,q.2.1,q.2.2,?_⟩
   unfold Way.step;rw[if_pos (by omega)]
  ·right;exact ⟨q.1,q.2.1⟩
 have hsize:W.size=leastC W.au-leastC W.bu:=by unfold Way.size;omega
 have XA:=across_in g ax ay oa;have K:=core_down (PA:=inOk ax ay=true) (PB:=inOk bx y2=true) (EA:=W.endA ax ay bx y2) (OB:=W.endB bx y2/\W.across (iC W.turned bx y2)=kC W.turned bx y2)
  (i:=iC W.turned ax ay) (k:=kC W.turned ax ay) (i':=iC W.turned bx y2) (k':=kC W.turned bx y2) (ua:=W.au) (ub:=W.bu) W.across hm h (leastC_is _) (leastC_is _) hfs
  (by rw[ea];exact iC_or W.turned ax ay) (by rw[ec];exact iC_or W.turned bx y2) (by rw[ea,ec];exact Way.near g oa ob) (by rw[ea,ec];exact Way.near g ob oa)
  XA (across_in g bx y2 ob)
  (by rw[<-hsize];exact Iff.rfl) (by rw[<-hsize];exact Iff.rfl)
 replace K:=core_down2 (n:=W.size) (first:=W.first) (step:=W.step) hm hsize (hfs.elim (fun q=>Or.inl ⟨q.1,q.2.1,q.2.2.2⟩) Or.inr) K
 rw[ended_eq W h1 h2];unfold posD;rw[<-ea,<-ec];clear h1 h2;have e1:∀ s N,N<=1\/W.step=-1->W.run s (-1) N=W.run s W.step N:=fun s N q=>by
  rcases q with q|q
  ·exact run_one W s _ _ N q
  ·rw[q]
 rw[e1 _ _ (by
  rcases K.2.2.2.2 with q|q
  ·left;rw[q];split<;>omega
  ·right;exact q.1)]
 refine line_of _ _ _ (if W.endA ax ay bx y2 then 1 else 0) 0 ?_ ?_ ?_ ?_
 ·by_cases c:W.endA ax ay bx y2
  ·left
   refine ⟨decide_eq_true c,if_pos c,?_,?_⟩
   ·show (if W.endA ax ay bx y2 then _ else _)=W.across (if W.endA ax ay bx y2 then _ else _)
    rw[if_pos c,if_pos c];exact (XA (K.1 c).1).symm
   ·show (if W.endA ax ay bx y2 then _ else _)=_
    rw[if_pos c];have:=K.1 c;rw[if_pos this];exact this.2.trans (by omega)
  ·right;exact ⟨decide_eq_false c,if_neg c⟩
 ·show W.size-(if decide (W.endB bx y2/\W.across (iC W.turned bx y2)=kC W.turned bx y2)=true then 1 else 0)=_
  simp only[decide_eq_true_iff];exact K.2.2.1
 ·exact K.2.2.2.1
 ·exact K.2.2.2.2.elim Or.inl (fun q=>Or.inr q.2)
end
section
def lineL (ax ay bx y2:Int):List St :=
 if (mkWay0 ax ay bx y2).au<(mkWay0 ax ay bx y2).bu then (mkWay0 ax ay bx y2).run (posU (decide (turnP ax ay bx y2)) ax ay) 1 (posU (decide (turnP ax ay bx y2)) bx y2-posU (decide (turnP ax ay bx y2)) ax ay)
 else (mkWay0 ax ay bx y2).run (posD (decide (turnP ax ay bx y2)) ax ay) (-1) (posD (decide (turnP ax ay bx y2)) ax ay-posD (decide (turnP ax ay bx y2)) bx y2)
theorem way_ne (ax ay bx y2 z:Int) (h:¬(ax=bx/\ay=y2)):(wayZ (decide (turnP ax ay bx y2)) (backOf ax ay bx y2) ax ay bx y2 z).au≠(wayZ (decide (turnP ax ay bx y2)) (backOf ax ay bx y2) ax ay bx y2 z).bu:=by
 have:=Slope.pos (wayZ_good ax ay bx y2 z h);unfold Way.du at this;intro e;rw[e] at this;split at this<;>omega
theorem mkWay_line (ax ay bx y2:Int) (h:¬(ax=bx/\ay=y2)):(mkWay ax ay bx y2).line=lineL ax ay bx y2:=by
 unfold lineL mkWay;have hd:=way_ne ax ay bx y2;have hg:=wayZ_good ax ay bx y2;unfold mkWay0;obtain ⟨z,hz⟩:∃ z:Int,z=(if leastC (uC (decide (turnP ax ay bx y2)) bx y2)<leastC (uC (decide (turnP ax ay bx y2)) ax ay) then 1 else 0):=⟨_,rfl⟩;rw[<-hz];have hg:=hg z h;have hd:=hd z h;obtain ⟨W,hW⟩:∃ W,W=wayZ (decide (turnP ax ay bx y2)) (backOf ax ay bx y2) ax ay bx y2 z:=⟨_,rfl⟩;rw[<-hW] at hg hd ⊢;have ht:W.turned=decide (turnP ax ay bx y2):=by rw[hW];rfl
 rw[<-ht] at hz hW ⊢;have e1:W.au=uC W.turned ax ay:=congrArg Way.au hW;have e2:W.av=vC W.turned ax ay:=congrArg Way.av hW;have e3:W.bu=uC W.turned bx y2:=congrArg Way.bu hW;have e4:W.bv=vC W.turned bx y2:=congrArg Way.bv hW;have e5:W.first=leastC W.au-z:=by rw[e1];exact congrArg Way.first hW
 have e6:W.last=leastC W.bu-z:=by rw[e3];exact congrArg Way.last hW
 rw[<-e1,<-e3] at hz;have e7:W.extra=false:=by rw[hW];rfl
 have e8:W.opn=false:=by rw[hW];rfl
 clear hW
 by_cases c:W.au<W.bu
 ·rw[if_pos c];have:=leastC_mono (Int.le_of_lt c);rw[if_neg (by omega)] at hz;exact line_up hg e7 e8 ax ay bx y2 e1 e2 e3 e4 c (by omega) (by omega)
 ·rw[if_neg c];have c:W.bu<W.au:=by omega
  have:=leastC_mono (Int.le_of_lt c);refine line_down hg e7 e8 ax ay bx y2 e1 e2 e3 e4 c ?_
  split at hz<;>omega
theorem uC_bd (t:Bool) {x y:Int} (h:MayP x y):-536870912<=uC t x y/\uC t x y<=536870912:=by
 obtain ⟨a,b,c,d⟩:=h;unfold uC;split<;>omega
theorem vC_bd (t:Bool) {x y:Int} (h:MayP x y):-536870912<=vC t x y/\vC t x y<=536870912:=by
 obtain ⟨a,b,c,d⟩:=h;unfold vC;split<;>omega
theorem wayZ_ok (t:Bool) (ax ay bx y2 z:Int) (ha:MayP ax ay) (hb:MayP bx y2) (hz:z=0\/z=1):(wayZ t (backOf ax ay bx y2) ax ay bx y2 z).Ok:=by
 have a1:=uC_bd t ha;have a2:=vC_bd t ha;have a3:=uC_bd t hb;have a4:=vC_bd t hb
 have k:0<=backOf ax ay bx y2/\backOf ax ay bx y2<=1:=by unfold backOf;split<;>omega
 refine ⟨a1.1,a1.2,a2.1,a2.2,a3.1,a3.2,a4.1,a4.2,k.1,k.2,?_,?_,?_,?_⟩
 all_goals simp only[wayZ,leastC]
 all_goals omega
theorem mkWay0_ok (ax ay bx y2:Int) (ha:MayP ax ay) (hb:MayP bx y2):(mkWay0 ax ay bx y2).Ok:=wayZ_ok _ _ _ _ _ _ ha hb (by split<;>simp)
theorem ended_ok {W:Way} (h1:W.extra=false) (h2:W.opn=false) (ax ay bx y2:Int) (ok:W.Ok):(W.ended ax ay bx y2).Ok:=by
 rw[ended_eq W h1 h2];exact ⟨ok.1,ok.2,ok.3,ok.4,ok.5,ok.6,ok.7,ok.8,ok.9,ok.10,ok.11,ok.12,ok.13,ok.14⟩
theorem mkWay_ok (ax ay bx y2:Int) (ha:MayP ax ay) (hb:MayP bx y2):(mkWay ax ay bx y2).Ok:=ended_ok rfl rfl _ _ _ _ (mkWay0_ok _ _ _ _ ha hb)
def withinL (ax ay bx y2 x0 y0 x1 y1:Int):List St:=if (ax=bx/\ay=y2)\/¬rightP x0 y0 x1 y1 then [] else (lineL ax ay bx y2).filter (fun s=>decide (hasP x0 y0 x1 y1 s.X s.Y))
def St.move (i k:Int) (s:St):St:=⟨s.K,s.X+i,s.Y+k⟩
end
section
theorem run_rise (W:Way) (s σ N:Int):(W.run s σ N).Pairwise (fun a b=>a.K<b.K):=by
 unfold Way.run;rw[List.pairwise_map];exact List.pairwise_lt_range.imp (fun h=>by show ((_:Nat):Int)<((_:Nat):Int);omega)
theorem mid_scale {D r b n:Int} (hb:b=0\/b=1) (hn:0<n):Mid (n*D) b (n*r)↔Mid D b r:=by
 unfold Mid;have e1:-128*(n*D)=n*(-128*D):=by grind
 have e2:128*(n*D)=n*(128*D):=by grind
 rw[e1,e2];obtain ⟨L,hL⟩:∃ L,-128*D=L:=⟨_,rfl⟩;obtain ⟨H,hH⟩:∃ H,128*D=H:=⟨_,rfl⟩;rw[hL,hH];have m1:∀ a c:Int,n*a<=n*c↔a<=c:=fun a c=>⟨fun h=>Int.le_of_mul_le_mul_left h hn,fun h=>Int.mul_le_mul_of_nonneg_left h (by omega)⟩
 have m2:∀ a c:Int,n*a<n*c↔a<c:=fun a c=>⟨fun h=>Int.lt_of_mul_lt_mul_left h (by omega),fun h=>Int.mul_lt_mul_of_pos_left h hn⟩
 rcases hb with rfl|rfl
 ·simp only[Int.sub_zero,m1,m2]
 ·have a1:=m2 L r;have a2:=m1 r H;omega
theorem across_scale {W U:Way} (gW:W.Good) (gU:U.Good) {n:Int} (hn:0<n) (h1:W.du=n*U.du) (h2:W.dv=n*U.dv) (h3:W.back=U.back) {cu cv:Int} (o1:W.On cu cv) (o2:U.On cu cv) (i:Int):W.across i=U.across i:=by
 rw[across_iff gW i (U.across i) cu cv o1];have:=(across_iff gU i (U.across i) cu cv o2).1 rfl;rw[h1,h2,h3,show (cv-256*U.across i-128)*(n*U.du)-n*U.dv*(cu-256*i-128)=n*((cv-256*U.across i-128)*U.du-U.dv*(cu-256*i-128)) from by grind];refine (mid_scale ?_ hn).2 this;rcases Slope.b01 gU with q|q<;>simp[q.1]
theorem run_same {W U:Way} (ht:W.turned=U.turned) (hx:∀ i,W.across i=U.across i) (s σ N:Int):W.run s σ N=U.run s σ N:=by
 unfold Way.run Way.cell Way.px Way.py;simp only[ht,hx]
def St.later (n:Int) (s:St):St:=⟨s.K+n,s.X,s.Y⟩
theorem run_add (W:Way) (s σ M N:Int) (hM:0<=M) (hN:0<=N):W.run s σ (M+N)=W.run s σ M++(W.run (s+M*σ) σ N).map (St.later M):=by
 unfold Way.run;rw[show (M+N).toNat=M.toNat+N.toNat from by omega,List.range_add,List.map_append,List.map_map,List.map_map]
 congr 1
 apply List.map_congr_left
 intro j _;show W.cell ((M.toNat+j:Nat):Int) (s+((M.toNat+j:Nat):Int)*σ)=(W.cell (j:Int) (s+M*σ+(j:Int)*σ)).later M
 have e:((M.toNat+j:Nat):Int)=M+j:=by omega
 rw[e,Int.add_mul];unfold Way.cell St.later;rw[show s+(M*σ+(j:Int)*σ)=s+M*σ+(j:Int)*σ from by omega];simp only[Int.add_comm]
theorem turnP_scale (n x y w h:Int) (hn:0<n):turnP x y (x+n*w) (y+n*h)↔max w (-w)<max h (-h):=by
 unfold turnP;rw[show x+n*w-x=n*w from by omega,show y+n*h-y=n*h from by omega,<-Int.mul_neg,<-Int.mul_neg];have m2:∀ a c:Int,n*a<n*c↔a<c:=fun a c=>⟨fun h=>Int.lt_of_mul_lt_mul_left h (by omega),fun h=>Int.mul_lt_mul_of_pos_left h hn⟩
 have a1:=m2 w h;have a2:=m2 w (-h);have a3:=m2 (-w) h;have a4:=m2 (-w) (-h)
 omega
theorem signP_scale (n w h:Int) (hn:0<n):signP (n*w) (n*h)↔signP w h:=by
 unfold signP;have p:∀ a:Int,(0<n*a↔0<a)/\(n*a<0↔a<0):=fun a=>by
  have m2:∀ a c:Int,n*a<n*c↔a<c:=fun a c=>⟨fun h=>Int.lt_of_mul_lt_mul_left h (by omega),fun h=>Int.mul_lt_mul_of_pos_left h hn⟩
  have a1:=m2 0 a;have a2:=m2 a 0
  rw[Int.mul_zero] at a1 a2;exact ⟨a1,a2⟩
 rw[(p w).1,(p w).2,(p h).1,(p h).2]
def unitW (x y w h:Int):Way:=⟨uC (decide (max w (-w)<max h (-h))) x y,vC (decide (max w (-w)<max h (-h))) x y,uC (decide (max w (-w)<max h (-h))) (x+w) (y+h),vC (decide (max w (-w)<max h (-h))) (x+w) (y+h),decide (max w (-w)<max h (-h)),if ¬max w (-w)<max h (-h)/\signP w h then 0 else 1,0,0,false,false,0,0⟩
theorem unitW_is (x y w h:Int):unitW x y w h={ wayZ (decide (turnP x y (x+w) (y+h))) (backOf x y (x+w) (y+h)) x y (x+w) (y+h) 0 with first:=0,last:=0 }:=by
 have e:turnP x y (x+w) (y+h)↔max w (-w)<max h (-h):=by have:=turnP_scale 1 x y w h (by omega);rwa [Int.one_mul,Int.one_mul] at this
 have e':decide (turnP x y (x+w) (y+h))=decide (max w (-w)<max h (-h)):=decide_eq_decide.2 e;unfold unitW wayZ backOf;rw[e']
 congr 1
 rw[show x+w-x=w from by omega,show y+h-y=h from by omega];simp only[e]
theorem unitW_good (x y w h:Int) (hz:¬(w=0/\h=0)):(unitW x y w h).Good:=by
 have:=wayZ_good x y (x+w) (y+h) 0 (fun q=>hz (by omega));rw[unitW_is];exact this
theorem uC_add (t:Bool) (x y w h:Int):uC t (x+w) (y+h)=uC t x y+uC t w h:=by cases t<;>rfl
theorem vC_add (t:Bool) (x y w h:Int):vC t (x+w) (y+h)=vC t x y+vC t w h:=by cases t<;>rfl
theorem uC_mul (t:Bool) (n w h:Int):uC t (n*w) (n*h)=n*uC t w h:=by cases t<;>rfl
theorem vC_mul (t:Bool) (n w h:Int):vC t (n*w) (n*h)=n*vC t w h:=by cases t<;>rfl
theorem unitW_on (x y w h m:Int):(unitW x y w h).On (uC (unitW x y w h).turned (x+m*w) (y+m*h)) (vC (unitW x y w h).turned (x+m*w) (y+m*h)):=by
 obtain ⟨U,hU⟩:∃ U,U=unitW x y w h:=⟨_,rfl⟩;have e1:U.au=uC U.turned x y:=by rw[hU];rfl
 have e2:U.av=vC U.turned x y:=by rw[hU];rfl
 have e3:U.bu=uC U.turned x y+uC U.turned w h:=by rw[hU];exact uC_add _ x y w h
 have e4:U.bv=vC U.turned x y+vC U.turned w h:=by rw[hU];exact vC_add _ x y w h
 rw[<-hU,uC_add,vC_add,uC_mul,vC_mul];unfold Way.On Way.du Way.dv;rw[e1,e2,e3,e4]
 split<;>grind
theorem lineL_self (x y:Int):lineL x y x y=[]:=by
 unfold lineL
 split
 ·exact run_zero _ _ _ _ (by omega)
 ·exact run_zero _ _ _ _ (by omega)
theorem lineL_unit (x y w h m n:Int) (hz:¬(w=0/\h=0)) (hn:0<=n) :
  lineL (x+m*w) (y+m*h) (x+(m+n)*w) (y+(m+n)*h) =
   if 0<uC (unitW x y w h).turned w h then (unitW x y w h).run (posU (unitW x y w h).turned (x+m*w) (y+m*h)) 1 (posU (unitW x y w h).turned (x+(m+n)*w) (y+(m+n)*h)-posU (unitW x y w h).turned (x+m*w) (y+m*h))
   else (unitW x y w h).run (posD (unitW x y w h).turned (x+m*w) (y+m*h)) (-1) (posD (unitW x y w h).turned (x+m*w) (y+m*h)-posD (unitW x y w h).turned (x+(m+n)*w) (y+(m+n)*h)):=by
 by_cases h0:n=0
 ·subst h0;rw[Int.add_zero,lineL_self]
  split
  ·rw[run_zero _ _ _ _ (by omega)]
  ·rw[run_zero _ _ _ _ (by omega)]
 have hn:0<n:=by omega
 have gU:=unitW_good x y w h hz;have oU:=unitW_on x y w h m;have hA:x+(m+n)*w=(x+m*w)+n*w:=by grind
 have hB:y+(m+n)*h=(y+m*h)+n*h:=by grind
 have hT:decide (turnP (x+m*w) (y+m*h) (x+(m+n)*w) (y+(m+n)*h))=(unitW x y w h).turned:=by
  rw[hA,hB];exact decide_eq_decide.2 (turnP_scale n _ _ w h hn)
 have hK:backOf (x+m*w) (y+m*h) (x+(m+n)*w) (y+(m+n)*h)=(unitW x y w h).back:=by
  rw[hA,hB];unfold backOf unitW;rw[show x+m*w+n*w-(x+m*w)=n*w from by omega,show y+m*h+n*h-(y+m*h)=n*h from by omega];simp only[turnP_scale n _ _ w h hn,signP_scale n w h hn]
 have hne:¬(x+m*w=x+(m+n)*w/\y+m*h=y+(m+n)*h):=by
  rw[hA,hB];intro ⟨q1,q2⟩;have z1:n*w=0:=by omega
  have z2:n*h=0:=by omega
  exact hz ⟨(Int.mul_eq_zero.1 z1).resolve_left (by omega),(Int.mul_eq_zero.1 z2).resolve_left (by omega)⟩
 have gW:(mkWay0 (x+m*w) (y+m*h) (x+(m+n)*w) (y+(m+n)*h)).Good:=wayZ_good _ _ _ _ _ hne;unfold lineL;obtain ⟨U,hU⟩:∃ U,U=unitW x y w h:=⟨_,rfl⟩;obtain ⟨W,hW⟩:∃ W,W=mkWay0 (x+m*w) (y+m*h) (x+(m+n)*w) (y+(m+n)*h):=⟨_,rfl⟩;have wt:W.turned=U.turned:=by rw[hW,hU];exact hT
 have wb:W.back=U.back:=by rw[hW,hU];exact hK
 rw[<-hW,hT,<-hU];rw[<-hW] at gW;rw[<-hU] at gU oU;have w1:W.au=uC U.turned (x+m*w) (y+m*h):=by rw[<-wt,hW];rfl
 have w2:W.av=vC U.turned (x+m*w) (y+m*h):=by rw[<-wt,hW];rfl
 have w3:W.bu=W.au+n*uC U.turned w h:=by
  rw[w1,<-uC_mul,<-uC_add,<-hA,<-hB,<-wt,hW];rfl
 have w4:W.bv=W.av+n*vC U.turned w h:=by
  rw[w2,<-vC_mul,<-vC_add,<-hA,<-hB,<-wt,hW];rfl
 have e1:U.au=uC U.turned x y:=by rw[hU];rfl
 have e2:U.av=vC U.turned x y:=by rw[hU];rfl
 have e3:U.bu=U.au+uC U.turned w h:=by rw[e1,hU];exact uC_add _ x y w h
 have e4:U.bv=U.av+vC U.turned w h:=by rw[e2,hU];exact vC_add _ x y w h
 rw[<-w1,<-w2] at oU;have m2:∀ a c:Int,n*a<n*c↔a<c:=fun a c=>⟨fun h=>Int.lt_of_mul_lt_mul_left h (by omega),fun h=>Int.mul_lt_mul_of_pos_left h hn⟩
 have s1:=m2 0 (uC U.turned w h);have s2:=m2 (uC U.turned w h) 0;rw[Int.mul_zero] at s1 s2;have d1:W.du=n*U.du:=by
  unfold Way.du;rw[w3,e3]
  by_cases c:uC U.turned w h<0
  ·rw[if_pos (by omega),if_pos (by omega)];grind
  ·rw[if_neg (by omega),if_neg (by omega)];grind
 have d2:W.dv=n*U.dv:=by
  unfold Way.dv;rw[w3,e3,w4,e4]
  by_cases c:uC U.turned w h<0
  ·rw[if_pos (by omega),if_pos (by omega)];grind
  ·rw[if_neg (by omega),if_neg (by omega)];grind
 have hx:=across_scale gW gU hn d1 d2 wb (on_a W) oU
 by_cases c:0<uC U.turned w h
 ·rw[if_pos c,if_pos (by omega),run_same wt hx]
 ·rw[if_neg c,if_neg (by omega),run_same wt hx]
theorem lineL_parts (x y w h m k:Int) (hm:0<=m) (hk:0<=k) :
  lineL x y (x+(m+k)*w) (y+(m+k)*h)=lineL x y (x+m*w) (y+m*h)++(lineL (x+m*w) (y+m*h) (x+(m+k)*w) (y+(m+k)*h)).map (St.later (lineL x y (x+m*w) (y+m*h)).length):=by
 by_cases hz:w=0/\h=0
 ·obtain ⟨rfl,rfl⟩:=hz;simp only[Int.mul_zero,Int.add_zero,lineL_self];rfl
 have f1:=lineL_unit x y w h 0 (m+k) hz (by omega);have f2:=lineL_unit x y w h 0 m hz hm;have f3:=lineL_unit x y w h m k hz hk;simp only[Int.zero_add,Int.zero_mul,Int.add_zero] at f1 f2;rw[f1,f2,f3];have g:=unitW_good x y w h hz;have o0:=unitW_on x y w h 0;have o1:=unitW_on x y w h m;have o2:=unitW_on x y w h (m+k);simp only[Int.zero_mul,Int.add_zero] at o0;have u1:uC (unitW x y w h).turned (x+m*w) (y+m*h)=uC (unitW x y w h).turned x y+m*uC (unitW x y w h).turned w h:=by rw[uC_add,uC_mul]
 have u2:uC (unitW x y w h).turned (x+(m+k)*w) (y+(m+k)*h)=uC (unitW x y w h).turned x y+(m+k)*uC (unitW x y w h).turned w h:=by rw[uC_add,uC_mul]
 obtain ⟨U,hU⟩:∃ U,U=unitW x y w h:=⟨_,rfl⟩;rw[<-hU] at g o0 o1 o2 u1 u2 ⊢
 by_cases c:0<uC U.turned w h
 ·simp only[if_pos c];have q1:0<=m*uC U.turned w h:=Int.mul_nonneg hm (by omega);have q2:0<=k*uC U.turned w h:=Int.mul_nonneg hk (by omega);have p1:=posU_le g o0 o1 (by omega);have p2:=posU_le g o1 o2 (by rw[u1,u2,Int.add_mul];omega);obtain ⟨a,ha⟩:∃ a,posU U.turned x y=a:=⟨_,rfl⟩;obtain ⟨b,hb⟩:∃ a,posU U.turned (x+m*w) (y+m*h)=a:=⟨_,rfl⟩;obtain ⟨d,hd⟩:∃ a,posU U.turned (x+(m+k)*w) (y+(m+k)*h)=a:=⟨_,rfl⟩;rw[ha,hb] at p1;rw[hb,hd] at p2;rw[ha,hb,hd]
  rw[show d-a=(b-a)+(d-b) from by omega,run_add _ _ _ _ _ (by omega) (by omega)]
  congr 1
  rw[show a+(b-a)*1=b from by omega]
  congr 2
  unfold Way.run;rw[List.length_map,List.length_range];omega
 ·simp only[if_neg c];have q1:m*uC U.turned w h<=0:=Int.mul_nonpos_of_nonneg_of_nonpos hm (by omega);have q2:k*uC U.turned w h<=0:=Int.mul_nonpos_of_nonneg_of_nonpos hk (by omega);have p1:=posD_le g o1 o0 (by omega);have p2:=posD_le g o2 o1 (by rw[u1,u2,Int.add_mul];omega);obtain ⟨a,ha⟩:∃ a,posD U.turned x y=a:=⟨_,rfl⟩;obtain ⟨b,hb⟩:∃ a,posD U.turned (x+m*w) (y+m*h)=a:=⟨_,rfl⟩;obtain ⟨d,hd⟩:∃ a,posD U.turned (x+(m+k)*w) (y+(m+k)*h)=a:=⟨_,rfl⟩;rw[ha,hb] at p1;rw[hb,hd] at p2;rw[ha,hb,hd]
  rw[show a-d=(a-b)+(b-d) from by omega,run_add _ _ _ _ _ (by omega) (by omega)]
  congr 1
  rw[show a+(a-b) * -1=b from by omega]
  congr 2
  unfold Way.run;rw[List.length_map,List.length_range];omega
theorem across_bd {W:Way} (g:W.Good) (u:Int) (h0:min W.au W.bu<=256*u+128) (h1:256*u+128<=max W.au W.bu):min W.av W.bv-256<=256*W.across u/\256*W.across u<=max W.av W.bv:=by
 obtain ⟨k,hk⟩:∃ k,W.across u=k:=⟨_,rfl⟩;rw[hk];have p0:=Slope.pos g;have:=(div_iff (W.num u) W.den k (by unfold Way.den;omega)).1 hk;obtain ⟨q1,q2⟩:=this;have hb:W.back=0\/W.back=1:=by rcases Slope.b01 g with q|q<;>simp[q.1]
 have key:∀ M:Int,(256*k)*W.du<=M*W.du->256*k<=M:=fun M h=>Int.le_of_mul_le_mul_right h p0
 have key2:∀ M:Int,M*W.du<(256*k+256+1)*W.du->M<256*k+256+1:=fun M h=>Int.lt_of_mul_lt_mul_right h (by omega)
 unfold Way.num Way.den at q1 q2;have e1:k*(256*W.du)=(256*k)*W.du:=by grind
 have e2:(k+1)*(256*W.du)=(256*k+256+1)*W.du-W.du:=by grind
 rw[e1] at q1;rw[e2] at q2
 obtain ⟨t,ht⟩:∃ t,256*u+128-W.au=t:=⟨_,rfl⟩;rw[ht] at q1 q2
 -- the line's height at the middle,times the width
 have b0:min W.av W.bv*W.du<=W.av*W.du+W.dv*t/\W.av*W.du+W.dv*t<=max W.av W.bv*W.du:=by
  by_cases c:W.bu-W.au<0
  ·have d1:W.du=-(W.bu-W.au):=if_pos c;have d2:W.dv=-(W.bv-W.av):=if_pos c;have e3:W.bv*W.du=W.av*W.du+W.dv*(-W.du):=by rw[d1,d2];grind
   have t0:-W.du<=t/\t<=0:=by omega
   by_cases s:0<=W.dv
   ·have m1:W.dv*(-W.du)<=W.dv*t:=Int.mul_le_mul_of_nonneg_left t0.1 s;have m2:W.dv*t<=W.dv*0:=Int.mul_le_mul_of_nonneg_left t0.2 s;have n1:W.bv<=W.av:=by omega
    rw[Int.min_eq_right n1,Int.max_eq_left n1];omega
   ·have m1:W.dv*t<=W.dv*(-W.du):=Int.mul_le_mul_of_nonpos_left (by omega) t0.1;have m2:W.dv*0<=W.dv*t:=Int.mul_le_mul_of_nonpos_left (by omega) t0.2;have n1:W.av<=W.bv:=by omega
    rw[Int.min_eq_left n1,Int.max_eq_right n1];omega
  ·have d1:W.du=W.bu-W.au:=if_neg c;have d2:W.dv=W.bv-W.av:=if_neg c;have e3:W.bv*W.du=W.av*W.du+W.dv*W.du:=by rw[d2];grind
   have t0:0<=t/\t<=W.du:=by omega
   by_cases s:0<=W.dv
   ·have m1:W.dv*0<=W.dv*t:=Int.mul_le_mul_of_nonneg_left t0.1 s;have m2:W.dv*t<=W.dv*W.du:=Int.mul_le_mul_of_nonneg_left t0.2 s;have n1:W.av<=W.bv:=by omega
    rw[Int.min_eq_left n1,Int.max_eq_right n1];omega
   ·have m1:W.dv*t<=W.dv*0:=Int.mul_le_mul_of_nonpos_left (by omega) t0.1;have m2:W.dv*W.du<=W.dv*t:=Int.mul_le_mul_of_nonpos_left (by omega) t0.2;have n1:W.bv<=W.av:=by omega
    rw[Int.min_eq_right n1,Int.max_eq_left n1];omega
 have k1:=key (max W.av W.bv) (by omega);have k2:=key2 (min W.av W.bv) (by omega);omega
theorem ins_bd {t:Bool} {pu pv:Int} (h:ins t pu pv):-128<=pu/\pu<=128/\-128<=pv/\pv<=128:=by
 cases t
 ·obtain ⟨a,b,c,d⟩:=(ins_f _ _).1 h;omega
 ·obtain ⟨a,b,c,d⟩:=(ins_t _ _).1 h;omega
theorem cell_bd {W:Way} (g:W.Good) (ax ay:Int) (ea:W.au=uC W.turned ax ay) (eb:W.av=vC W.turned ax ay) (u:Int)
  (hu:(min W.au W.bu<=256*u+128/\256*u+128<=max W.au W.bu)\/(inOk ax ay=true/\u=iC W.turned ax ay)) :
  (min W.au W.bu-256<=256*u/\256*u<=max W.au W.bu)/\(min W.av W.bv-256<=256*W.across u/\256*W.across u<=max W.av W.bv):=by
 rcases hu with ⟨h0,h1⟩|⟨h0,rfl⟩
 ·exact ⟨by omega,across_bd g u h0 h1⟩
 ·have o:W.On (uC W.turned ax ay) (vC W.turned ax ay):=by rw[<-ea,<-eb];exact on_a W
  rw[across_in g ax ay o h0];have:=ins_bd ((in_insC W.turned ax ay _ _).1 ⟨h0,rfl,rfl⟩);rw[<-ea,<-eb] at this;omega
theorem lineL_in (ax ay bx y2:Int) (q:St) (hq:q∈lineL ax ay bx y2) :
  (min ax bx-256<=256*q.X/\256*q.X<=max ax bx)/\(min ay y2-256<=256*q.Y/\256*q.Y<=max ay y2):=by
 by_cases hz:ax=bx/\ay=y2
 ·obtain ⟨rfl,rfl⟩:=hz;rw[lineL_self] at hq;cases hq
 have g:(mkWay0 ax ay bx y2).Good:=wayZ_good _ _ _ _ _ hz;have hne:(mkWay0 ax ay bx y2).au≠(mkWay0 ax ay bx y2).bu:=way_ne _ _ _ _ _ hz;unfold lineL at hq;obtain ⟨W,hW⟩:∃ W,W=mkWay0 ax ay bx y2:=⟨_,rfl⟩;rw[<-hW] at g hne hq;have t1:decide (turnP ax ay bx y2)=W.turned:=by rw[hW];rfl
 have e1:W.au=uC W.turned ax ay:=by rw[hW];rfl
 have e2:W.av=vC W.turned ax ay:=by rw[hW];rfl
 have e3:W.bu=uC W.turned bx y2:=by rw[hW];rfl
 have e4:W.bv=vC W.turned bx y2:=by rw[hW];rfl
 rw[t1] at hq;have fin:∀ u n:Int,q=W.cell n u->(min W.au W.bu-256<=256*u/\256*u<=max W.au W.bu)/\(min W.av W.bv-256<=256*W.across u/\256*W.across u<=max W.av W.bv)->(min ax bx-256<=256*q.X/\256*q.X<=max ax bx)/\(min ay y2-256<=256*q.Y/\256*q.Y<=max ay y2):=by
  intro u n hc hb;rw[hc];unfold Way.cell Way.px Way.py;rw[e1,e2,e3,e4] at hb;unfold uC vC at hb;cases ht:W.turned
  ·rw[ht] at hb;exact hb
  ·rw[ht] at hb;exact ⟨hb.2,hb.1⟩
 by_cases c:W.au<W.bu
 ·rw[if_pos c] at hq;unfold Way.run at hq;obtain ⟨j,hj,rfl⟩:=List.mem_map.1 hq;rw[List.mem_range] at hj;refine fin _ _ rfl (cell_bd g ax ay e1 e2 _ ?_);have la:=leastC_is W.au;have lb:=leastC_is W.bu;have hA:posU W.turned ax ay=leastC W.au\/inOk ax ay=true/\iC W.turned ax ay=leastC W.au-1/\posU W.turned ax ay=leastC W.au-1:=by
   unfold posU;rw[<-e1];split
   ·rename_i h;exact Or.inr ⟨h.1,h.2,rfl⟩
   ·left;omega
  have hB:posU W.turned bx y2<=leastC W.bu:=by
   unfold posU;rw[<-e3];split<;>omega
  by_cases d:posU W.turned ax ay+(j:Int)*1=leastC W.au-1
  ·right
   rcases hA with hA|hA
   ·omega
   ·exact ⟨hA.1,by omega⟩
  ·left;omega
 ·rw[if_neg c] at hq;unfold Way.run at hq;obtain ⟨j,hj,rfl⟩:=List.mem_map.1 hq;rw[List.mem_range] at hj;refine fin _ _ rfl (cell_bd g ax ay e1 e2 _ ?_);have la:=leastC_is W.au;have lb:=leastC_is W.bu;have hA:posD W.turned ax ay=leastC W.au-1\/inOk ax ay=true/\iC W.turned ax ay=leastC W.au/\posD W.turned ax ay=leastC W.au:=by
   unfold posD;rw[<-e1];split
   ·rename_i h;exact Or.inr ⟨h.1,h.2,by omega⟩
   ·left;omega
  have hB:leastC W.bu-1<=posD W.turned bx y2:=by
   unfold posD;rw[<-e3];split<;>omega
  by_cases d:posD W.turned ax ay+(j:Int) * -1=leastC W.au
  ·right
   rcases hA with hA|hA
   ·omega
   ·exact ⟨hA.1,by omega⟩
  ·left;omega
end
section
theorem mkWay_opn (ax ay bx y2:Int) (h:(mkWay ax ay bx y2).opn=true):0<(mkWay ax ay bx y2).size:=by
 unfold mkWay at h ⊢;rw[ended_eq _ rfl rfl] at h ⊢;exact (of_decide_eq_true h).1.1
theorem mkWay_len (ax ay bx y2:Int):0<=(mkWay ax ay bx y2).len:=by
 have h0:0<=(mkWay ax ay bx y2).size:=by unfold Way.size;omega
 unfold Way.len
 split
 ·have:=mkWay_opn ax ay bx y2 (by assumption);omega
 ·omega
theorem step_is (W:Way):W.step=1\/W.step=-1:=by unfold Way.step;split<;>simp
theorem line_length (W:Way) (h:0<=W.len):((W.line.length:Nat):Int)=W.count:=by
 unfold Way.line Way.count;unfold Way.len at h ⊢;rw[List.length_append,List.length_map,List.length_range]
 split<;>simp<;>omega
theorem mkWay_count (ax ay bx y2:Int) (h:¬(ax=bx/\ay=y2)):(mkWay ax ay bx y2).count=(((lineL ax ay bx y2).length:Nat):Int):=by
 rw[<-mkWay_line ax ay bx y2 h,line_length _ (mkWay_len _ _ _ _)]
theorem range_cut (n b m:Nat) (h:b+m<=n):List.range n=List.range b++((List.range m).map (b+·)++(List.range (n-b-m)).map (b+m+·)):=by
 have e:n=b+(m+(n-b-m)):=by omega
 rw[e,List.range_add,List.range_add,List.map_append,List.map_map];rw[show b+(m+(n-b-m))-b-m=n-b-m from by omega]
 congr 2
 apply List.map_congr_left
 intro j _;show b+(m+j)=b+m+j
 omega
theorem filter_none {α:Type} (p:α->Bool) (l:List α) (h:∀ x,x∈l->p x=false):l.filter p=[]:=by
 induction l with
 |nil=>rfl
 |cons a l ih =>
  rw[List.filter_cons,h a List.mem_cons_self,ih (fun x hx=>h x (jk hx))];rfl
theorem filter_part {α:Type} (f:Nat->α) (p:α->Bool) (n b m:Nat) (h:b+m<=n) (h1:∀ j,j<b->p (f j)=false) (h2:∀ j,b+m<=j->j<n->p (f j)=false) :
  ((List.range n).map f).filter p=((List.range m).map (fun j=>f (b+j))).filter p:=by
 rw[range_cut n b m h,List.map_append,List.map_append,List.map_map,List.map_map,List.filter_append,List.filter_append];rw[filter_none p ((List.range b).map f) (fun x hx=>by obtain ⟨j,hj,rfl⟩:=List.mem_map.1 hx;exact h1 j (List.mem_range.1 hj))];rw[filter_none p ((List.range (n-b-m)).map (f∘(b+m+·))) (fun x hx=>by obtain ⟨j,hj,rfl⟩:=List.mem_map.1 hx;exact h2 _ (by show b+m<=b+m+j;omega) (by have:=List.mem_range.1 hj;show b+m+j<n;omega))];rw[List.nil_append,List.append_nil]
 rfl
theorem filter_nil_range {α:Type} (f:Nat->α) (p:α->Bool) (n:Nat) (h:∀ j,j<n->p (f j)=false):((List.range n).map f).filter p=[] :=
 filter_none p _ (fun x hx=>by obtain ⟨j,hj,rfl⟩:=List.mem_map.1 hx;exact h j (List.mem_range.1 hj))
def Way.lo (W:Way) (x0 y0 x1 y1:Int):Int:=max (if W.step<0 then W.first-(if W.turned=true then y1 else x1)+1 else (if W.turned=true then y0 else x0)-W.first) 0
def Way.hi (W:Way) (x0 y0 x1 y1:Int):Int:=min (if W.step<0 then W.first-(if W.turned=true then y0 else x0) else (if W.turned=true then y1 else x1)-1-W.first) (W.len-1)
theorem cell_has (W:Way) (x0 y0 x1 y1 k:Int) (j:Int) (h:hasP x0 y0 x1 y1 (W.cell k (W.first+j*W.step)).X (W.cell k (W.first+j*W.step)).Y) (j0:0<=j) (j1:j<W.len) :
  W.lo x0 y0 x1 y1<=j/\j<=W.hi x0 y0 x1 y1:=by
 unfold hasP Way.cell Way.px Way.py at h;unfold Way.lo Way.hi;have hs:W.step=1\/W.step=-1:=by unfold Way.step;split<;>simp
 obtain ⟨_,h1,h2,h3,h4⟩:=h;simp only at h1 h2 h3 h4;cases ht:W.turned
 ·rw[ht] at h1 h2 h3 h4;simp only[Bool.false_eq_true,if_false] at h1 h2 h3 h4 ⊢;rcases hs with hs|hs
  ·rw[hs] at h1 h2 ⊢;rw[if_neg (by omega),if_neg (by omega)];omega
  ·rw[hs] at h1 h2 ⊢;rw[if_pos (by omega),if_pos (by omega)];omega
 ·rw[ht] at h1 h2 h3 h4;simp only[if_true] at h1 h2 h3 h4 ⊢;rcases hs with hs|hs
  ·rw[hs] at h3 h4 ⊢;rw[if_neg (by omega),if_neg (by omega)];omega
  ·rw[hs] at h3 h4 ⊢;rw[if_pos (by omega),if_pos (by omega)];omega
def Way.loopL (W:Way) (x0 y0 x1 y1:Int) (m:Nat):List St:=((List.range m).map (fun j:Nat=>W.cell ((if W.extra=true then 1 else 0)+W.lo x0 y0 x1 y1+(j:Int)) (W.first+W.lo x0 y0 x1 y1*W.step+(j:Int)*W.step))).filter (fun s=>decide (hasP x0 y0 x1 y1 s.X s.Y))
def Way.headL (W:Way) (x0 y0 x1 y1:Int):List St:=(if W.extra=true then [⟨0,W.px W.u W.v,W.py W.u W.v⟩] else []).filter (fun s=>decide (hasP x0 y0 x1 y1 s.X s.Y))
theorem line_filter (W:Way) (x0 y0 x1 y1:Int):W.line.filter (fun s=>decide (hasP x0 y0 x1 y1 s.X s.Y))=W.headL x0 y0 x1 y1++W.loopL x0 y0 x1 y1 (W.hi x0 y0 x1 y1-W.lo x0 y0 x1 y1+1).toNat:=by
 unfold Way.line Way.headL Way.loopL;rw[List.filter_append]
 congr 1
 have l0:0<=W.lo x0 y0 x1 y1:=by unfold Way.lo;omega
 have h1:W.hi x0 y0 x1 y1<=W.len-1:=by unfold Way.hi;omega
 by_cases c:W.lo x0 y0 x1 y1<=W.hi x0 y0 x1 y1
 ·rw[filter_part _ _ _ (W.lo x0 y0 x1 y1).toNat (W.hi x0 y0 x1 y1-W.lo x0 y0 x1 y1+1).toNat (by omega)]
  ·congr 1
   apply List.map_congr_left
   intro j _;show W.cell (_+(((W.lo x0 y0 x1 y1).toNat+j:Nat):Int)) (W.first+(((W.lo x0 y0 x1 y1).toNat+j:Nat):Int)*W.step)=_
   have e:(((W.lo x0 y0 x1 y1).toNat+j:Nat):Int)=W.lo x0 y0 x1 y1+j:=by omega
   rw[e,Int.add_mul]
   congr 1<;>omega
  ·intro j hj;rw[decide_eq_false_iff_not];intro q;have:=cell_has W _ _ _ _ _ _ q (by omega) (by omega);omega
  ·intro j hj hj2;rw[decide_eq_false_iff_not];intro q;have:=cell_has W _ _ _ _ _ _ q (by omega) (by omega);omega
 ·rw[show (W.hi x0 y0 x1 y1-W.lo x0 y0 x1 y1+1).toNat=0 from by omega]
  apply filter_nil_range
  intro j hj;rw[decide_eq_false_iff_not];intro q;have:=cell_has W _ _ _ _ _ _ q (by omega) (by omega);omega
theorem loopL_succ (W:Way) (x0 y0 x1 y1:Int) (m:Nat):W.loopL x0 y0 x1 y1 (m+1)=W.loopL x0 y0 x1 y1 m++[W.cell ((if W.extra=true then 1 else 0)+W.lo x0 y0 x1 y1+(m:Int)) (W.first+W.lo x0 y0 x1 y1*W.step+(m:Int)*W.step)].filter (fun s=>decide (hasP x0 y0 x1 y1 s.X s.Y)):=by
 unfold Way.loopL;rw[List.range_succ,List.map_append,List.filter_append];rfl
end
end Go.Proofs.YthcjfanigfgckaaGreat
