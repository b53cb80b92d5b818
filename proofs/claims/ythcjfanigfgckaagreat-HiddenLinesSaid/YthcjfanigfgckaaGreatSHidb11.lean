import Derived.Test.YthcjfanigfgckaaGreatSHidb04
import Derived.Test.YthcjfanigfgckaaGreatSHidb10
set_option linter.unusedVariables false
set_option linter.unusedSimpArgs false
set_option maxRecDepth 100000
set_option maxHeartbeats 16000000
namespace Go.Proofs.YthcjfanigfgckaaGreat
open Go.RowKit _root_.Go.Proofs.Tryz
instance jh10 : Coe Nat Value := ⟨fun n => .int .i64 n⟩
theorem nB (a:WinP) (w:World):Calls prog 54 #[a.v] w (Ret (.bool (decide a.fitsP)) w):=by
 go_enter func54,ntmps54
 go_wp2;refine wp_loop_rounds 5 ?_
 iterate 5 try any_goals (rw[rounds_succ];go_wp2)
 all_goals go_ret
 all_goals refine Ret.of' ?_ (by exact bl_)
 all_goals first
  |(refine eQ ?_;unfold WinP.fitsP;omega)
  |(refine cX ?_;unfold WinP.fitsP;omega)
  |(refine eX ?_;unfold WinP.fitsP;omega)
section
section
def exP (ax ay bx y2 x y:Int):Prop:=mtP (ax-256*x-128) (ay-256*y-128) (bx-256*x-128) (y2-256*y-128)/\¬oB (bx-256*x-128) (y2-256*y-128)
instance (ax ay bx y2 x y : Int) : Decidable (exP ax ay bx y2 x y) := by unfold exP; exact inferInstance
def aDe (px py qx qy:Int):Prop:=min (px+py) (qx+qy)<=128/\-128<max (px+py) (qx+qy)/\min (px-py) (qx-qy)<=128/\-128<max (px-py) (qx-qy)
theorem aPu {w h px py A B:Int} (hA:w*py=A) (hB:h*px=B) (hz:¬(w=0/\h=0)) :
  (kR (A-B-128*max (max w (-w)) (max h (-h))) h (-w)<0/\0<kR (A-B+128*max (max w (-w)) (max h (-h))) h (-w)) ↔
  Mid (if uC (decide (max w (-w)<max h (-h))) w h<0 then -uC (decide (max w (-w)<max h (-h))) w h else uC (decide (max w (-w)<max h (-h))) w h) (if ¬max w (-w)<max h (-h)/\mX w h then 0 else 1)
   (vC (decide (max w (-w)<max h (-h))) px py*(if uC (decide (max w (-w)<max h (-h))) w h<0 then -uC (decide (max w (-w)<max h (-h))) w h else uC (decide (max w (-w)<max h (-h))) w h)
    - (if uC (decide (max w (-w)<max h (-h))) w h<0 then -vC (decide (max w (-w)<max h (-h))) w h else vC (decide (max w (-w)<max h (-h))) w h)*uC (decide (max w (-w)<max h (-h))) px py):=by
 by_cases t:max w (-w)<max h (-h)
 ·simp only[t,decide_true,uC,vC,if_true,not_true,false_and,if_false]
  by_cases s:h<0
  ·simp only[if_pos s];rw[show px * -h - -w*py=A-B from by rw[<-hA,<-hB];grind];unfold Mid kR
   repeat' split
   all_goals omega
  ·simp only[if_neg s];rw[show px*h-w*py=B-A from by rw[<-hA,<-hB];grind];unfold Mid kR
   repeat' split
   all_goals omega
 ·simp only[t,decide_false,uC,vC,Bool.false_eq_true,if_false,not_false_iff,true_and]
  by_cases s:w<0
  ·simp only[if_pos s];rw[show py * -w - -h*px=B-A from by rw[<-hA,<-hB];grind];unfold Mid kR mX
   repeat' split
   all_goals omega
  ·simp only[if_neg s];rw[show py*w-h*px=A-B from by rw[<-hA,<-hB];grind];unfold Mid kR mX
   repeat' split
   all_goals omega
theorem aFw {t:Bool} {D E back u v:Int} (S:Slope t D E back) (M:Mid D back (v*D-E*u)) (h:u<=0):u+v<=128/\u-v<=128/\(t=true->u-v<128):=by
 have p0:=S.pos;have d0:0<=D-E:=by have:=S.le;omega
 have d1:0<=D+E:=by have:=S.ge;omega
 obtain ⟨r,er⟩:∃ r,v*D-E*u=r:=⟨_,rfl⟩;rw[er] at M;obtain ⟨m0,m1⟩:=M;have a1:D*(u+v)=u*(D+E)+r:=by grind
 have a2:D*(u-v)=u*(D-E)-r:=by grind
 have q1:=pm h d1;have q2:=pm h d0;have s1:=dM (a:=u+v) (b:=129) p0;have s2:=dM (a:=u-v) (b:=129) p0;have s3:=dM (a:=u-v) (b:=128) p0;have z1:D*128=128*D:=by grind
 have z2:D*129=128*D+D:=by grind
 rcases S.b01 with ⟨b,rfl,hE⟩|⟨b,hE⟩
 ·refine ⟨by omega,by omega,fun h=>by cases h⟩
 ·refine ⟨by omega,by omega,fun h=>by omega⟩
theorem aAv {t:Bool} {D E back u v:Int} (S:Slope t D E back) (M:Mid D back (v*D-E*u)) (h:0<u):-128<u+v/\-128<u-v:=by
 have p0:=S.pos;have d0:0<=D-E:=by have:=S.le;omega
 have d1:0<=D+E:=by have:=S.ge;omega
 obtain ⟨r,er⟩:∃ r,v*D-E*u=r:=⟨_,rfl⟩;rw[er] at M;obtain ⟨m0,m1⟩:=M;have a1:D*(u+v)=u*(D+E)+r:=by grind
 have a2:D*(u-v)=u*(D-E)-r:=by grind
 have q1:=pm (show 1<=u by omega) d1;have q2:=pm (show 1<=u by omega) d0;have s1:=dM (a:=-128) (b:=u+v) p0;have s2:=dM (a:=-128) (b:=u-v) p0;have z1:D*(-128)=-(128*D):=by grind
 have hl:=S.lt;rcases S.b01 with ⟨b,rfl,hE⟩|⟨b,hE⟩
 ·refine ⟨by omega,by omega⟩
 ·rcases hE with hE|hE
  ·have:=hl hE;refine ⟨by omega,by omega⟩
  ·refine ⟨by omega,by omega⟩
theorem aBa {t:Bool} {D E back lu lv hu hv:Int} (S:Slope t D E back) (hon:hv*D-E*hu=lv*D-E*lu) (hlt:lu<hu) (M:Mid D back (lv*D-E*lu)) :
  aDe (if t then lv else lu) (if t then lu else lv) (if t then hv else hu) (if t then hu else hv)↔(lu<=0\/ins t lu lv)/\(0<hu\/ins t hu hv):=by
 have p0:=S.pos;have d0:0<=D-E:=by have:=S.le;omega
 have d1:0<=D+E:=by have:=S.ge;omega
 have g1:D*(lu+lv)<=D*(hu+hv):=by
  have:=Int.mul_nonneg (show 0<=hu-lu by omega) d1;have e:(hu-lu)*(D+E)=D*(hu+hv)-D*(lu+lv)-((hv*D-E*hu)-(lv*D-E*lu)):=by grind
  omega
 have g2:D*(lu-lv)<=D*(hu-hv):=by
  have:=Int.mul_nonneg (show 0<=hu-lu by omega) d0;have e:(hu-lu)*(D-E)=D*(hu-hv)-D*(lu-lv)+((hv*D-E*hu)-(lv*D-E*lu)):=by grind
  omega
 have k1:lu+lv<=hu+hv:=Int.le_of_mul_le_mul_left g1 p0;have k2:lu-lv<=hu-hv:=Int.le_of_mul_le_mul_left g2 p0;have l1:=aFw S M;have l2:=aAv S M;have M':Mid D back (hv*D-E*hu):=by rw[hon];exact M
 have h1:=aFw S M';have h2:=aAv S M';clear M M' hon g1 g2;cases t
 ·simp only[yT,Bool.false_eq_true,if_false,false_implies] at l1 h1 ⊢;unfold aDe oB
  constructor
  ·intro ⟨q1,q2,q3,q4⟩
   constructor
   ·by_cases c:lu<=0
    ·exact Or.inl c
    ·right;have:=l2 (by omega);omega
   ·by_cases c:0<hu
    ·exact Or.inl c
    ·right;have:=h1 (by omega);omega
  ·intro ⟨q1,q2⟩;have x1:lu+lv<=128/\lu-lv<=128:=by rcases q1 with q1|q1;exact ⟨(l1 q1).1,(l1 q1).2.1⟩;omega
   have x2:-128<hu+hv/\-128<hu-hv:=by rcases q2 with q2|q2;exact h2 q2;omega
   omega
 ·simp only[aCt,if_true,true_implies] at l1 h1 ⊢;unfold aDe oB
  constructor
  ·intro ⟨q1,q2,q3,q4⟩
   constructor
   ·by_cases c:lu<=0
    ·exact Or.inl c
    ·right;have:=l2 (by omega);omega
   ·by_cases c:0<hu
    ·exact Or.inl c
    ·right;have:=h1 (by omega);omega
  ·intro ⟨q1,q2⟩;have x1:lu+lv<=128/\lu-lv<128:=by rcases q1 with q1|q1;exact ⟨(l1 q1).1,(l1 q1).2.2⟩;omega
   have x2:-128<hu+hv/\-128<=hu-hv:=by rcases q2 with q2|q2;exact ⟨(h2 q2).1,by have:=(h2 q2).2;omega⟩;omega
   omega
theorem aAn {W:Way} (g:W.Good) {x y i k:Int} (o:W.On (uC W.turned x y) (vC W.turned x y)) (hx:W.across i=k) :
  iX W.turned x y<=i↔(uC W.turned x y-256*i-128<=0\/ins W.turned (uC W.turned x y-256*i-128) (vC W.turned x y-256*k-128)):=by
 rw[<-kY];have L:=aV (uC W.turned x y);unfold iX
 by_cases c:fK x y=true
 ·have a:=dV g x y o c;have b:=yV W.turned x y c;obtain ⟨n,hn⟩:∃ n,iC W.turned x y=n:=⟨_,rfl⟩;rw[hn] at a b ⊢;have e:n=i->kC W.turned x y=k:=fun e=>by rw[<-a,e,hx]
  constructor
  ·intro h
   by_cases d:n=aD (uC W.turned x y)-1
   ·rw[if_pos ⟨c,d⟩] at h
    by_cases f:n=i
    ·right;exact ⟨c,f,e f⟩
    ·left;omega
   ·rw[if_neg (fun q=>d q.2)] at h;left;omega
  ·rintro (h|⟨-,h,h2⟩)
   ·split<;>omega
   ·by_cases d:n=aD (uC W.turned x y)-1
    ·rw[if_pos ⟨c,d⟩];omega
    ·rw[if_neg (fun q=>d q.2)];omega
 ·rw[if_neg (fun q=>c q.1)]
  constructor
  ·intro h;left;omega
  ·rintro (h|⟨h,-⟩)
   ·omega
   ·exact absurd h c
theorem aAo {W:Way} (g:W.Good) {x y i k:Int} (o:W.On (uC W.turned x y) (vC W.turned x y)) (hx:W.across i=k) :
  i<=iY W.turned x y↔(0<uC W.turned x y-256*i-128\/ins W.turned (uC W.turned x y-256*i-128) (vC W.turned x y-256*k-128)):=by
 rw[<-kY];have L:=aV (uC W.turned x y);unfold iY
 by_cases c:fK x y=true
 ·have a:=dV g x y o c;have b:=yV W.turned x y c;obtain ⟨n,hn⟩:∃ n,iC W.turned x y=n:=⟨_,rfl⟩;rw[hn] at a b ⊢;have e:n=i->kC W.turned x y=k:=fun e=>by rw[<-a,e,hx]
  constructor
  ·intro h
   by_cases d:n=aD (uC W.turned x y)
   ·rw[if_pos ⟨c,d⟩] at h
    by_cases f:n=i
    ·right;exact ⟨c,f,e f⟩
    ·left;omega
   ·rw[if_neg (fun q=>d q.2)] at h;left;omega
  ·rintro (h|⟨-,h,h2⟩)
   ·split<;>omega
   ·by_cases d:n=aD (uC W.turned x y)
    ·rw[if_pos ⟨c,d⟩];omega
    ·rw[if_neg (fun q=>d q.2)];omega
 ·rw[if_neg (fun q=>c q.1)]
  constructor
  ·intro h;left;omega
  ·rintro (h|⟨h,-⟩)
   ·omega
   ·exact absurd h c
theorem aOx (t:Bool) (x y w h:Int):uC t (x-w) (y-h)=uC t x y-uC t w h:=by cases t<;>rfl
theorem aOs (t:Bool) (x y w h:Int):vC t (x-w) (y-h)=vC t x y-vC t w h:=by cases t<;>rfl
theorem aLg (t:Bool) (x y i k:Int):uC t (x-256*i-128) (y-256*k-128)=uC t x y-256*uC t i k-128:=by cases t<;>rfl
theorem aLf (t:Bool) (x y i k:Int):vC t (x-256*i-128) (y-256*k-128)=vC t x y-256*vC t i k-128:=by cases t<;>rfl
theorem unC (t:Bool) (x y:Int):(if t then vC t x y else uC t x y)=x/\(if t then uC t x y else vC t x y)=y:=by cases t<;>exact ⟨rfl,rfl⟩
theorem aP1 (t:Bool) (x y:Int):oB x y↔ins t (uC t x y) (vC t x y):=by
 unfold ins;rw[(unC t x y).1,(unC t x y).2]
theorem aFy (ax ay bx y2 x y:Int) (c:¬(ax=bx/\ay=y2)) :
  mtP (ax-256*x-128) (ay-256*y-128) (bx-256*x-128) (y2-256*y-128)↔aDe (ax-256*x-128) (ay-256*y-128) (bx-256*x-128) (y2-256*y-128) /\
   Mid (aG ax ay bx y2).du (aG ax ay bx y2).back ((vC (aG ax ay bx y2).turned ax ay-256*vC (aG ax ay bx y2).turned x y-128)*(aG ax ay bx y2).du-(aG ax ay bx y2).dv*(uC (aG ax ay bx y2).turned ax ay-256*uC (aG ax ay bx y2).turned x y-128)):=by
 have ew:bx-256*x-128-(ax-256*x-128)=bx-ax:=by omega
 have eh:y2-256*y-128-(ay-256*y-128)=y2-ay:=by omega
 have hm:=aPu (w:=bx-ax) (h:=y2-ay) (px:=ax-256*x-128) (py:=ay-256*y-128) rfl rfl (by omega);rw[aLg,aLf,aOx,aOs] at hm;unfold mtP aDe;rw[ew,eh,hm];have e1:(ax-256*x-128=bx-256*x-128/\ay-256*y-128=y2-256*y-128)↔False:=by
  constructor
  ·intro h;exact c (by omega)
  ·intro h;cases h
 rw[e1,false_or]
 constructor
 ·intro ⟨h1,h2,h3,h4,h5⟩;exact ⟨⟨h1,h2,h3,h4⟩,h5⟩
 ·intro ⟨⟨h1,h2,h3,h4⟩,h5⟩;exact ⟨h1,h2,h3,h4,h5⟩
theorem aHo (px py qx qy:Int):aDe px py qx qy↔aDe qx qy px py:=by
 unfold aDe;omega
theorem j8 (ax ay bx y2 x y:Int) (c:¬(ax=bx/\ay=y2)) :
  exP ax ay bx y2 x y↔(aG ax ay bx y2).across (uC (decide (aB ax ay bx y2)) x y)=vC (decide (aB ax ay bx y2)) x y /\
   (if (aG ax ay bx y2).au<(aG ax ay bx y2).bu then iX (decide (aB ax ay bx y2)) ax ay<=uC (decide (aB ax ay bx y2)) x y/\uC (decide (aB ax ay bx y2)) x y<iX (decide (aB ax ay bx y2)) bx y2
    else uC (decide (aB ax ay bx y2)) x y<=iY (decide (aB ax ay bx y2)) ax ay/\iY (decide (aB ax ay bx y2)) bx y2<uC (decide (aB ax ay bx y2)) x y):=by
 unfold exP;rw[aFy ax ay bx y2 x y c];have g:(aG ax ay bx y2).Good:=dR ax ay bx y2 _ c;have hne:=aDq ax ay bx y2 (if aD (uC (decide (aB ax ay bx y2)) bx y2)<aD (uC (decide (aB ax ay bx y2)) ax ay) then 1 else 0) c;have ht:(aG ax ay bx y2).turned=decide (aB ax ay bx y2):=rfl;have e1:(aG ax ay bx y2).au=uC (aG ax ay bx y2).turned ax ay:=rfl;have e2:(aG ax ay bx y2).av=vC (aG ax ay bx y2).turned ax ay:=rfl;have e3:(aG ax ay bx y2).bu=uC (aG ax ay bx y2).turned bx y2:=rfl;have e4:(aG ax ay bx y2).bv=vC (aG ax ay bx y2).turned bx y2:=rfl;have hne:(aG ax ay bx y2).au≠(aG ax ay bx y2).bu:=hne;rw[<-ht];obtain ⟨W,hW⟩:∃ W,aG ax ay bx y2=W:=⟨_,rfl⟩;rw[hW] at g hne e1 e2 e3 e4 ⊢;clear hW ht;have oa:W.On (uC W.turned ax ay) (vC W.turned ax ay):=by rw[<-e1,<-e2];exact aOl W
 have ob:W.On (uC W.turned bx y2) (vC W.turned bx y2):=by rw[<-e3,<-e4];exact aSj W
 obtain ⟨i,hi⟩:∃ i,uC W.turned x y=i:=⟨_,rfl⟩;obtain ⟨k,hk⟩:∃ i,vC W.turned x y=i:=⟨_,rfl⟩;have hA:aDe (ax-256*x-128) (ay-256*y-128) (bx-256*x-128) (y2-256*y-128) ↔
   aDe (if W.turned then vC W.turned ax ay-256*k-128 else uC W.turned ax ay-256*i-128) (if W.turned then uC W.turned ax ay-256*i-128 else vC W.turned ax ay-256*k-128)
    (if W.turned then vC W.turned bx y2-256*k-128 else uC W.turned bx y2-256*i-128) (if W.turned then uC W.turned bx y2-256*i-128 else vC W.turned bx y2-256*k-128):=by
  rw[<-hi,<-hk];cases W.turned<;>exact Iff.rfl
 rw[hA,aP1 W.turned,aLg,aLf,hi,hk,<-kF g i k _ _ oa];clear hA
 by_cases hx:W.across i=k
 ·have M:=(kF g i k _ _ oa).1 hx;have M':=(kF g i k _ _ ob).1 hx;have hon:(vC W.turned bx y2-256*k-128)*W.du-W.dv*(uC W.turned bx y2-256*i-128)=(vC W.turned ax ay-256*k-128)*W.du-W.dv*(uC W.turned ax ay-256*i-128):=by
   unfold Way.On at oa ob;grind
  by_cases hlt:W.au<W.bu
  ·have n1:i<iX W.turned bx y2↔¬(iX W.turned bx y2<=i):=Int.not_le.symm;rw[if_pos hlt,n1,aBa g hon (by omega) M,aAn g oa hx,aAn g ob hx]
   constructor
   ·intro ⟨⟨⟨h1,h2⟩,h3⟩,h4⟩;exact ⟨h3,h1,fun h=>h.elim (fun h=>h2.elim (fun h2=>by omega) h4) h4⟩
   ·intro ⟨h1,h2,h3⟩;exact ⟨⟨⟨h2,Or.inl (by have:=fun q=>h3 (Or.inl q);omega)⟩,h1⟩,fun q=>h3 (Or.inr q)⟩
  ·have n1:iY W.turned bx y2<i↔¬(i<=iY W.turned bx y2):=Int.not_le.symm;rw[if_neg hlt,n1,aAo g oa hx,aAo g ob hx];have hs:∀ a b c d e f g h:Int,aDe (if W.turned then a else b) (if W.turned then c else d) (if W.turned then e else f) (if W.turned then g else h)↔aDe (if W.turned then e else f) (if W.turned then g else h) (if W.turned then a else b) (if W.turned then c else d):=fun a b c d e f g h=>aHo _ _ _ _
   rw[hs,aBa g hon.symm (by omega) M']
   constructor
   ·intro ⟨⟨⟨h1,h2⟩,h3⟩,h4⟩;exact ⟨h3,h2,fun h=>h.elim (fun h=>h1.elim (fun h2=>by omega) h4) h4⟩
   ·intro ⟨h1,h2,h3⟩;exact ⟨⟨⟨Or.inl (by have:=fun q=>h3 (Or.inl q);omega),h2⟩,h1⟩,fun q=>h3 (Or.inr q)⟩
 ·constructor
  ·rintro ⟨⟨-,h⟩,-⟩;exact absurd h hx
  ·rintro ⟨h,-⟩;exact absurd h hx
end
section
theorem gP (p:Int):p/256<=p.tdiv 256/\p.tdiv 256<=p/256+1:=by
 have h1:=Int.tdiv_mul_add_tmod p 256;have h2:=Int.tmod_lt_of_pos p (show (0:Int)<256 by omega);have h3:=Int.tmod_lt_of_pos (-p) (show (0:Int)<256 by omega);rw[Int.neg_tmod] at h3;omega
theorem aFx (W:Way) (s σ N:Int) (q:St):q∈W.run s σ N↔∃ j:Int,0<=j/\j<N/\q=W.cell j (s+j*σ):=by
 unfold Way.run;rw[List.mem_map]
 constructor
 ·rintro ⟨j,hj,rfl⟩;have:=List.mem_range.1 hj;exact ⟨(j:Int),by omega,by omega,rfl⟩
 ·rintro ⟨j,h0,h1,rfl⟩;exact ⟨j.toNat,List.mem_range.2 (by omega),by rw[Int.toNat_of_nonneg h0]⟩
theorem zR (W:Way) (k u:Int):uC W.turned (W.cell k u).X (W.cell k u).Y=u/\vC W.turned (W.cell k u).X (W.cell k u).Y=W.across u:=by
 unfold Way.cell Way.px Way.py uC vC;cases W.turned<;>exact ⟨rfl,rfl⟩
theorem aHy (W:Way) (q:St) (u:Int) (h1:uC W.turned q.X q.Y=u) (h2:W.across u=vC W.turned q.X q.Y):q=W.cell q.K u:=by
 unfold Way.cell Way.px Way.py;rw[h2,<-h1];cases q;cases W.turned<;>rfl
def wU (ax ay bx y2 x y:Int):Int:=if (aG ax ay bx y2).au<(aG ax ay bx y2).bu then uC (decide (aB ax ay bx y2)) x y-iX (decide (aB ax ay bx y2)) ax ay
 else iY (decide (aB ax ay bx y2)) ax ay-uC (decide (aB ax ay bx y2)) x y
theorem mH (ax ay bx y2:Int) (c:¬(ax=bx/\ay=y2)) (q:St):q∈eP ax ay bx y2↔exP ax ay bx y2 q.X q.Y/\q.K=wU ax ay bx y2 q.X q.Y:=by
 rw[j8 ax ay bx y2 q.X q.Y c];unfold eP wU;have ht:(aG ax ay bx y2).turned=decide (aB ax ay bx y2):=rfl;rw[<-ht];obtain ⟨W,hW⟩:∃ W,aG ax ay bx y2=W:=⟨_,rfl⟩;rw[hW]
 by_cases hlt:W.au<W.bu
 ·simp only[if_pos hlt];rw[aFx]
  constructor
  ·rintro ⟨j,h0,h1,rfl⟩;obtain ⟨e1,e2⟩:=zR W j (iX W.turned ax ay+j*1);rw[e1,e2];exact ⟨⟨rfl,by omega,by omega⟩,by show j=_;omega⟩
  ·rintro ⟨⟨h1,h2,h3⟩,h4⟩;refine ⟨q.K,by omega,by omega,?_⟩;rw[show iX W.turned ax ay+q.K*1=uC W.turned q.X q.Y from by omega];exact aHy W q _ rfl h1
 ·simp only[if_neg hlt];rw[aFx]
  constructor
  ·rintro ⟨j,h0,h1,rfl⟩;obtain ⟨e1,e2⟩:=zR W j (iY W.turned ax ay+j * -1);rw[e1,e2];exact ⟨⟨rfl,by omega,by omega⟩,by show j=_;omega⟩
  ·rintro ⟨⟨h1,h2,h3⟩,h4⟩;refine ⟨q.K,by omega,by omega,?_⟩;rw[show iY W.turned ax ay+q.K * -1=uC W.turned q.X q.Y from by omega];exact aHy W q _ rfl h1
structure Ln where
 From:Int
 To:Int
 X:Int
 Y:Int
 Extra:Bool
def exA (ax ay bx y2:Int):Prop:=fK ax ay=true/\¬(ax=bx/\ay=y2)/\exP ax ay bx y2 (inX ax ay) (inY ax ay)
instance (ax ay bx y2 : Int) : Decidable (exA ax ay bx y2) := by unfold exA; exact inferInstance
def crP (f t u:Int):Prop:=min f t<=u/\u<max f t
instance (f t u : Int) : Decidable (crP f t u) := by unfold crP; exact inferInstance
def ofL (ax ay bx y2:Int):Ln :=
 if exA ax ay bx y2 then ⟨aD (uC (decide (aB ax ay bx y2)) ax ay),aD (uC (decide (aB ax ay bx y2)) bx y2),inX ax ay,inY ax ay,! decide (crP (aD (uC (decide (aB ax ay bx y2)) ax ay)) (aD (uC (decide (aB ax ay bx y2)) bx y2)) (iC (decide (aB ax ay bx y2)) ax ay))⟩
 else ⟨aD (uC (decide (aB ax ay bx y2)) ax ay),aD (uC (decide (aB ax ay bx y2)) bx y2),0,0,false⟩
def aIm (l:Ln) (x y u:Int):Int:=if l.Extra=true then (if x=l.X/\y=l.Y then 0 else (if l.To<l.From then l.From-1-u else u-l.From)+1) else (if l.To<l.From then l.From-1-u else u-l.From)
theorem aKj (t:Bool) (x y:Int):iC t x y=uC t (inX x y) (inY x y)/\kC t x y=vC t (inX x y) (inY x y):=by cases t<;>exact ⟨rfl,rfl⟩
theorem aDt (t:Bool) (x y i k:Int):(x=i/\y=k)↔(uC t x y=uC t i k/\vC t x y=vC t i k):=by
 cases t
 ·exact Iff.rfl
 ·exact And.comm
theorem aFn (ax ay bx y2 x y:Int) (c:¬(ax=bx/\ay=y2)) (h:exP ax ay bx y2 x y):aIm (ofL ax ay bx y2) x y (uC (decide (aB ax ay bx y2)) x y)=wU ax ay bx y2 x y:=by
 rw[j8 ax ay bx y2 x y c] at h;have hA:=j8 ax ay bx y2 (inX ax ay) (inY ax ay) c;have g:(aG ax ay bx y2).Good:=dR ax ay bx y2 _ c;unfold aIm ofL wU;have ht:(aG ax ay bx y2).turned=decide (aB ax ay bx y2):=rfl;have e1:(aG ax ay bx y2).au=uC (aG ax ay bx y2).turned ax ay:=rfl;have e2:(aG ax ay bx y2).av=vC (aG ax ay bx y2).turned ax ay:=rfl;have e3:(aG ax ay bx y2).bu=uC (aG ax ay bx y2).turned bx y2:=rfl;rw[<-ht] at h hA ⊢;obtain ⟨W,hW⟩:∃ W,aG ax ay bx y2=W:=⟨_,rfl⟩;rw[hW] at g e1 e2 e3 h hA ⊢;clear hW ht;have oa:W.On (uC W.turned ax ay) (vC W.turned ax ay):=by rw[<-e1,<-e2];exact aOl W
 obtain ⟨i1,i2⟩:=aKj W.turned ax ay;rw[<-i1,<-i2] at hA;have hX:=aDt W.turned x y (inX ax ay) (inY ax ay);rw[<-i1,<-i2] at hX;have L:=aV (uC W.turned ax ay);have L':=aV (uC W.turned bx y2);rw[e1,e3] at h hA;simp only[e1,e3];clear e1 e2 e3 i1 i2;obtain ⟨ua,hua⟩:∃ v,uC W.turned ax ay=v:=⟨_,rfl⟩;obtain ⟨ub,hub⟩:∃ v,uC W.turned bx y2=v:=⟨_,rfl⟩;have hm:ua<ub->aD ua<=aD ub:=fun h=>bC (by omega)
 have hm':¬ua<ub->aD ub<=aD ua:=fun h=>bC (by omega)
 have a:=dV g ax ay oa;have b:=yV W.turned ax ay;have pa:iX W.turned ax ay=aD ua-if fK ax ay=true/\iC W.turned ax ay=aD ua-1 then 1 else 0:=by unfold iX;rw[hua]
 have pb:iX W.turned bx y2<=aD ub:=by unfold iX;rw[hub];split<;>omega
 have pc:iY W.turned ax ay=aD ua-if fK ax ay=true/\iC W.turned ax ay=aD ua then 0 else 1:=by unfold iY;rw[hua]
 have pd:aD ub-1<=iY W.turned bx y2:=by unfold iY;rw[hub];split<;>omega
 simp only[hua,hub] at h hA L L' b ⊢;have hE:exA ax ay bx y2↔fK ax ay=true/\exP ax ay bx y2 (inX ax ay) (inY ax ay):=⟨fun q=>⟨q.1,q.2.2⟩,fun q=>⟨q.1,c,q.2⟩⟩;rw[hA] at hE;clear hA;obtain ⟨n,hn⟩:∃ v,iC W.turned ax ay=v:=⟨_,rfl⟩;obtain ⟨m,hm2⟩:∃ v,kC W.turned ax ay=v:=⟨_,rfl⟩;obtain ⟨i,hi⟩:∃ v,uC W.turned x y=v:=⟨_,rfl⟩;obtain ⟨k,hk⟩:∃ v,vC W.turned x y=v:=⟨_,rfl⟩;rw[hn,hm2] at hX;simp only[hn,hm2,hi,hk] at h hE a b pa pc hX ⊢;obtain ⟨A,hA⟩:∃ v,aD ua=v:=⟨_,rfl⟩;obtain ⟨B,hB⟩:∃ v,aD ub=v:=⟨_,rfl⟩;simp only[hA,hB] at hm hm' L L' b pa pb pc pd ⊢;obtain ⟨PA,hPA⟩:∃ v,iX W.turned ax ay=v:=⟨_,rfl⟩;obtain ⟨PB,hPB⟩:∃ v,iX W.turned bx y2=v:=⟨_,rfl⟩;obtain ⟨DA,hDA⟩:∃ v,iY W.turned ax ay=v:=⟨_,rfl⟩;obtain ⟨DB,hDB⟩:∃ v,iY W.turned bx y2=v:=⟨_,rfl⟩;simp only[hPA,hPB,hDA,hDB] at h hE pa pb pc pd ⊢;obtain ⟨h1,h2⟩:=h;have hXi:fK ax ay=true->((x=inX ax ay/\y=inY ax ay)↔i=n):=fun q=>by
  rw[hX];exact ⟨fun q=>q.1,fun e=>⟨e,by rw[<-h1,<-a q,e]⟩⟩
 clear hX hA hB hPA hPB hDA hDB hi hk hn hm2 hua hub g oa c
 by_cases hin:fK ax ay=true
 ·replace b:=b hin;replace a:=a hin;replace hXi:=hXi hin
  by_cases hlt:ua<ub
  ·simp only[if_pos hlt] at h2 hE ⊢;have hm:=hm hlt
   by_cases en:n=A-1
   ·rw[if_pos ⟨hin,en⟩] at pa;have x1:exA ax ay bx y2:=hE.2 ⟨hin,a,by omega,by omega⟩;have x2:¬crP A B n:=fun q=>by unfold crP at q;omega
    rw[if_pos x1];simp only[decide_eq_false x2,Bool.not_false,if_true];rw[if_neg (show ¬B<A by omega)]
    by_cases ei:i=n
    ·rw[if_pos (hXi.2 ei)];omega
    ·rw[if_neg (fun q=>ei (hXi.1 q))];omega
   ·rw[if_neg (fun q=>en q.2)] at pa;have x1:exA ax ay bx y2:=hE.2 ⟨hin,a,by omega,by omega⟩;have x2:crP A B n:=by unfold crP;omega
    rw[if_pos x1];simp only[decide_eq_true x2,Bool.not_true,Bool.false_eq_true,if_false];rw[if_neg (show ¬B<A by omega)];omega
  ·simp only[if_neg hlt] at h2 hE ⊢;have hm:=hm' hlt
   by_cases en:n=A
   ·rw[if_pos ⟨hin,en⟩] at pc;have x1:exA ax ay bx y2:=hE.2 ⟨hin,a,by omega,by omega⟩;have x2:¬crP A B n:=fun q=>by unfold crP at q;omega
    rw[if_pos x1];simp only[decide_eq_false x2,Bool.not_false,if_true]
    by_cases ei:i=n
    ·rw[if_pos (hXi.2 ei)];omega
    ·rw[if_neg (fun q=>ei (hXi.1 q)),if_pos (show B<A by omega)];omega
   ·rw[if_neg (fun q=>en q.2)] at pc;have x1:exA ax ay bx y2:=hE.2 ⟨hin,a,by omega,by omega⟩;have x2:crP A B n:=by unfold crP;omega
    rw[if_pos x1];simp only[decide_eq_true x2,Bool.not_true,Bool.false_eq_true,if_false];rw[if_pos (show B<A by omega)];omega
 ·rw[if_neg (fun q=>hin q.1)] at pa pc;rw[if_neg (fun q=>hin (hE.1 q).1)];simp only[Bool.false_eq_true,if_false]
  by_cases hlt:ua<ub
  ·simp only[if_pos hlt] at h2 ⊢;have hm:=hm hlt;rw[if_neg (show ¬B<A by omega)];omega
  ·simp only[if_neg hlt] at h2 ⊢;have hm:=hm' hlt;rw[if_pos (show B<A by omega)];omega
end
section
theorem aA4 (ax ay x y:Int):¬exP ax ay ax ay x y:=by
 unfold exP mtP oB;omega
theorem idx_inj {ax ay bx y2 x y x' y':Int} (h:exP ax ay bx y2 x y) (h':exP ax ay bx y2 x' y') (e:wU ax ay bx y2 x y=wU ax ay bx y2 x' y'):x=x'/\y=y':=by
 by_cases c:ax=bx/\ay=y2
 ·obtain ⟨rfl,rfl⟩:=c;exact absurd h (aA4 _ _ _ _)
 rw[j8 _ _ _ _ _ _ c] at h h';have hu:uC (decide (aB ax ay bx y2)) x y=uC (decide (aB ax ay bx y2)) x' y':=by
  unfold wU at e;split at e<;>omega
 rw[aDt (decide (aB ax ay bx y2))];exact ⟨hu,by rw[<-h.1,<-h'.1,hu]⟩
structure Proc (ax ay bx y2 x0 y0 y1 x y:Int) (L:List St):Prop where
 rise:L.Pairwise (fun s t=>s.K<t.K)
 mem:∀ q,q∈L↔(x0<=q.X/\y0<=q.Y/\q.Y<y1/\(q.X<x\/q.X=x/\q.Y<y))/\exP ax ay bx y2 q.X q.Y/\q.K=wU ax ay bx y2 q.X q.Y
section
variable {ax ay bx y2 x0 y0 y1 x y:Int} {L:List St}
def putAt (L:List St) (j:Nat) (s:St):List St:=L.take j++s::L.drop j
theorem Proc.put (h:Proc ax ay bx y2 x0 y0 y1 x y L) (he:exP ax ay bx y2 x y) (hx:x0<=x) (hy:y0<=y) (hy1:y<y1) (j:Nat)
  (h1:∀ i s,i<j->L[i]?=some s->s.K<wU ax ay bx y2 x y) (h2:∀ s,L[j]?=some s->wU ax ay bx y2 x y<=s.K) :
  Proc ax ay bx y2 x0 y0 y1 x (y+1) (putAt L j ⟨wU ax ay bx y2 x y,x,y⟩):=by
 have hne:∀ q∈L,q.K≠wU ax ay bx y2 x y:=fun q hq e=>by
  obtain ⟨g1,g2,g3⟩:=(h.mem q).1 hq;have:=idx_inj g2 he (by rw[<-g3,e]);omega
 have hT:∀ q∈L.take j,q.K<wU ax ay bx y2 x y:=fun q hq=>by
  obtain ⟨i,hi⟩:=List.mem_iff_getElem?.1 hq;rw[List.getElem?_take] at hi
  split at hi
  ·exact h1 i q (by assumption) hi
  ·cases hi
 have hD:∀ q∈L.drop j,wU ax ay bx y2 x y<q.K:=fun q hq=>by
  have hm:=List.mem_of_mem_drop hq;obtain ⟨i,hi⟩:=List.mem_iff_getElem?.1 hq;rw[List.getElem?_drop] at hi;have hlt:j<L.length:=by have:=(List.getElem?_eq_some_iff.1 hi).1;omega
  have g:=h2 L[j] (by simp[hlt]);have gn:=hne q hm;cases i with
  |zero =>
   have:L[j]=q:=by rw[Nat.add_zero] at hi;simpa [hlt] using hi
   rw[this] at g;omega
  |succ i =>
   have hlt2:=(List.getElem?_eq_some_iff.1 hi).1;have:=List.pairwise_iff_getElem.1 h.rise j (j+(i+1)) hlt hlt2 (by omega);have e2:=(List.getElem?_eq_some_iff.1 hi).2;rw[e2] at this;omega
 refine ⟨?_,fun q=>?_⟩
 ·unfold putAt;rw[List.pairwise_append,List.pairwise_cons];refine ⟨h.rise.sublist (List.take_sublist _ _),⟨fun q hq=>hD q hq,h.rise.sublist (List.drop_sublist _ _)⟩,fun q hq t ht=>?_⟩;have a:=hT q hq;rcases List.mem_cons.1 ht with rfl|ht
  ·exact a
  ·have:=hD t ht;omega
 ·unfold putAt;have e:q∈L.take j++(⟨wU ax ay bx y2 x y,x,y⟩:St)::L.drop j↔q=⟨wU ax ay bx y2 x y,x,y⟩\/q∈L:=by
   have:q∈L↔q∈L.take j++L.drop j:=by rw[List.take_append_drop]
   rw[this];simp only[List.mem_append,List.mem_cons]
   constructor
   ·rintro (a|a|a)
    ·exact Or.inr (Or.inl a)
    ·exact Or.inl a
    ·exact Or.inr (Or.inr a)
   ·rintro (a|a|a)
    ·exact Or.inr (Or.inl a)
    ·exact Or.inl a
    ·exact Or.inr (Or.inr a)
  rw[e,h.mem q]
  constructor
  ·rintro (rfl|⟨g1,g2⟩)
   ·exact ⟨⟨hx,hy,hy1,Or.inr ⟨rfl,show y<y+1 by omega⟩⟩,he,rfl⟩
   ·exact ⟨by omega,g2⟩
  ·intro ⟨g1,g2,g3⟩
   by_cases c:q.X=x/\q.Y=y
   ·left
    obtain ⟨K,X,Y⟩:=q;obtain ⟨rfl,rfl⟩:=c;rw[show K=_ from g3]
   ·right;exact ⟨by omega,g2,g3⟩
theorem l7:∀ (L:List St) (a b:Int),L.Pairwise (fun s t=>s.K<t.K)->(∀ q∈L,a<=q.K/\q.K<b)->a<=b->((L.length:Nat):Int)<=b-a
 | [],a,b,_,_,h=>by simp;omega
 |s::L,a,b,hp,hb,h=>by
  obtain ⟨h1,h2⟩:=List.pairwise_cons.1 hp;have b0:=hb s List.mem_cons_self;have:=l7 L (s.K+1) b h2 (fun q hq=>⟨by have:=h1 q hq;omega,(hb q (jk hq)).2⟩) (by omega);simp;omega
end
end
section
theorem aMp (n d:Int) (hd:0<d):n-d<n.tdiv d*d/\n.tdiv d*d<n+d:=by
 have h1:=Int.tdiv_mul_add_tmod n d;have h2:=Int.tmod_lt_of_pos n hd;have h3:=Int.tmod_lt_of_pos (-n) hd;rw[Int.neg_tmod] at h3;omega
theorem aBd {M h w av D E back k num:Int} (hw:w≠0) (hD:D=if w<0 then -w else w) (hE:E=if w<0 then -h else h) (hn:av*D+E*M-back=num) (hb:back=0\/back=1) (h0:k*(256*D)<=num) (h1:num<(k+1)*(256*D)) :
  k-2<=(av+(M*h).tdiv w).tdiv 256/\(av+(M*h).tdiv w).tdiv 256<=k+2:=by
 have hD0:0<D:=by rw[hD];split<;>omega
 have e:(M*h).tdiv w=(E*M).tdiv D:=by
  by_cases c:w<0
  ·rw[if_pos c] at hD hE;rw[hD,hE,Int.tdiv_neg,show -h*M=-(M*h) from by grind,Int.neg_tdiv,Int.neg_neg]
  ·rw[if_neg c] at hD hE;rw[hD,hE,Int.mul_comm]
 rw[e];obtain ⟨r0,r1⟩:=aMp (E*M) D hD0;obtain ⟨r,hr⟩:∃ r,(E*M).tdiv D=r:=⟨_,rfl⟩;rw[hr] at r0 r1 ⊢;have t:=gP (av+r);have g1:D*(256*k)<D*(av+r+2):=by
  have a1:D*(256*k)=k*(256*D):=by grind
  have a2:D*(av+r+2)=av*D+r*D+2*D:=by grind
  rw[a1,a2];omega
 have g2:D*(av+r)<D*(256*k+256+2):=by
  have a1:D*(av+r)=av*D+r*D:=by grind
  have a2:D*(256*k+256+2)=(k+1)*(256*D)+2*D:=by grind
  rw[a1,a2];omega
 have g1:=dM hD0 g1;have g2:=dM hD0 g2;omega
theorem aL9 {M h w:Int} (hw:w≠0) (h0:min 0 w<=M) (h1:M<=max 0 w):-(max h (-h))<=(M*h).tdiv w/\(M*h).tdiv w<=max h (-h):=by
 have key:(M*h).tdiv w*w=M*h-(M*h).tmod w:=by have:=Int.tdiv_mul_add_tmod (M*h) w;omega
 have b:((M*h).tdiv w).natAbs*w.natAbs<=h.natAbs*w.natAbs:=by
  rw[<-Int.natAbs_mul];have e1:((M*h).tdiv w*w).natAbs<=(M*h).natAbs:=by
   rw[Int.natAbs_mul,Int.natAbs_tdiv];exact Nat.div_mul_le_self _ _
  refine Nat.le_trans e1 ?_;rw[Int.natAbs_mul,Nat.mul_comm];exact Nat.mul_le_mul_left _ (by omega)
 have:=Nat.le_of_mul_le_mul_right b (by omega);omega
def wJ (ax ay bx y2 u:Int):Int:=(aG ax ay bx y2).px u ((aG ax ay bx y2).across u)
def wI (ax ay bx y2 u:Int):Int:=(aG ax ay bx y2).py u ((aG ax ay bx y2).across u)
theorem wH (ax ay bx y2 u:Int):uC (decide (aB ax ay bx y2)) (wJ ax ay bx y2 u) (wI ax ay bx y2 u)=u/\vC (decide (aB ax ay bx y2)) (wJ ax ay bx y2 u) (wI ax ay bx y2 u)=(aG ax ay bx y2).across u:=zR (aG ax ay bx y2) 0 u
theorem aBc {ax ay bx y2 x y:Int} (c:¬(ax=bx/\ay=y2)) (h:exP ax ay bx y2 x y):x=wJ ax ay bx y2 (uC (decide (aB ax ay bx y2)) x y)/\y=wI ax ay bx y2 (uC (decide (aB ax ay bx y2)) x y):=by
 rw[j8 _ _ _ _ _ _ c] at h;rw[aDt (decide (aB ax ay bx y2))];obtain ⟨h1,h2⟩:=wH ax ay bx y2 (uC (decide (aB ax ay bx y2)) x y);rw[h1,h2];exact ⟨rfl,h.1.symm⟩
end
section
theorem tP {ax ay bx y2:Int} {i:Nat} {s:St} (h:(eP ax ay bx y2)[i]?=some s):s.K=i:=by
 unfold eP at h
 split at h
 all_goals
  unfold Way.run at h;rw[List.getElem?_map] at h;cases hj:(List.range _)[i]? with
  |none=>rw[hj] at h;cases h
  |some j =>
   rw[hj] at h;have:=List.getElem?_eq_some_iff.1 hj;obtain ⟨_,e⟩:=this;rw[List.getElem_range] at e;subst e;injection h with h
   rw[<-h];rfl
theorem aF5 {ax ay bx y2:Int} (c:¬(ax=bx/\ay=y2)) (i:Nat) (s:St):(eP ax ay bx y2)[i]?=some s↔exP ax ay bx y2 s.X s.Y/\wU ax ay bx y2 s.X s.Y=i/\s.K=i:=by
 constructor
 ·intro h;have k:=tP h;have m:=(mH _ _ _ _ c s).1 (List.mem_of_getElem? h);exact ⟨m.1,by rw[<-m.2,k],k⟩
 ·intro ⟨h1,h2,h3⟩;obtain ⟨j,hj⟩:=List.mem_iff_getElem?.1 ((mH _ _ _ _ c s).2 ⟨h1,by rw[h2,h3]⟩);have:=tP hj;rw[show i=j by omega];exact hj
theorem vI (ax ay bx y2:Int):(ofL ax ay bx y2).From=aD (uC (decide (aB ax ay bx y2)) ax ay)/\(ofL ax ay bx y2).To=aD (uC (decide (aB ax ay bx y2)) bx y2):=by
 unfold ofL;split<;>exact ⟨rfl,rfl⟩
theorem aFm (ax ay bx y2:Int) (h:(ofL ax ay bx y2).Extra=true):exA ax ay bx y2/\(ofL ax ay bx y2).X=inX ax ay/\(ofL ax ay bx y2).Y=inY ax ay/\¬crP (ofL ax ay bx y2).From (ofL ax ay bx y2).To (iC (decide (aB ax ay bx y2)) ax ay):=by
 have ft:=vI ax ay bx y2;rw[ft.1,ft.2];unfold ofL at h ⊢
 split at h
 ·rename_i e
  rw[if_pos e];exact ⟨e,rfl,rfl,by simpa using h⟩
 ·cases h
theorem aK2 {ax ay bx y2 x y:Int} (c:¬(ax=bx/\ay=y2)) (h:exP ax ay bx y2 x y) (hn:¬((ofL ax ay bx y2).Extra=true/\x=(ofL ax ay bx y2).X/\y=(ofL ax ay bx y2).Y)) :
  crP (ofL ax ay bx y2).From (ofL ax ay bx y2).To (uC (decide (aB ax ay bx y2)) x y):=by
 have ft:=vI ax ay bx y2;have h':=h;rw[j8 ax ay bx y2 x y c] at h;have g:(aG ax ay bx y2).Good:=dR ax ay bx y2 _ c;have L:=aV (uC (decide (aB ax ay bx y2)) ax ay);have L':=aV (uC (decide (aB ax ay bx y2)) bx y2);have e1:(aG ax ay bx y2).au=uC (decide (aB ax ay bx y2)) ax ay:=rfl;have e3:(aG ax ay bx y2).bu=uC (decide (aB ax ay bx y2)) bx y2:=rfl;have oa:(aG ax ay bx y2).On (uC (decide (aB ax ay bx y2)) ax ay) (vC (decide (aB ax ay bx y2)) ax ay):=aOl (aG ax ay bx y2)
 -- if the pixel is a's,it is extra where its column isn't crossed
 have key:fK ax ay=true->uC (decide (aB ax ay bx y2)) x y=iC (decide (aB ax ay bx y2)) ax ay->crP (ofL ax ay bx y2).From (ofL ax ay bx y2).To (uC (decide (aB ax ay bx y2)) x y):=by
  intro hin hu;refine Classical.byContradiction fun hc=>hn ?_
  have a:=dV g ax ay oa hin;have hxy:x=inX ax ay/\y=inY ax ay:=by
   rw[aDt (decide (aB ax ay bx y2))];obtain ⟨i1,i2⟩:=aKj (decide (aB ax ay bx y2)) ax ay;rw[<-i1,<-i2];exact ⟨hu,by rw[<-h.1,hu];exact a⟩
  have hA:exA ax ay bx y2:=⟨hin,c,by rw[<-hxy.1,<-hxy.2];exact h'⟩;rw[ft.1,ft.2,hu] at hc;unfold ofL;rw[if_pos hA];exact ⟨by simp[hc],hxy.1,hxy.2⟩
 rw[ft.1,ft.2] at key ⊢;rw[e1,e3] at h;obtain ⟨h1,h2⟩:=h
 by_cases hlt:uC (decide (aB ax ay bx y2)) ax ay<uC (decide (aB ax ay bx y2)) bx y2
 ·rw[if_pos hlt] at h2;have hm:=bC (Int.le_of_lt hlt)
  by_cases hF:aD (uC (decide (aB ax ay bx y2)) ax ay)<=uC (decide (aB ax ay bx y2)) x y
  ·have pb:iX (decide (aB ax ay bx y2)) bx y2<=aD (uC (decide (aB ax ay bx y2)) bx y2):=by unfold iX;split<;>omega
   unfold crP;omega
  ·have pa:=h2.1;unfold iX at pa
   split at pa
   ·rename_i q;exact key q.1 (by omega)
   ·omega
 ·rw[if_neg hlt] at h2;have hm:=bC (show uC (decide (aB ax ay bx y2)) bx y2<=uC (decide (aB ax ay bx y2)) ax ay by omega);have pd:aD (uC (decide (aB ax ay bx y2)) bx y2)-1<=iY (decide (aB ax ay bx y2)) bx y2:=by unfold iY;split<;>omega
  by_cases hF:uC (decide (aB ax ay bx y2)) x y<aD (uC (decide (aB ax ay bx y2)) ax ay)
  ·unfold crP;omega
  ·have pa:=h2.1;unfold iY at pa
   split at pa
   ·rename_i q;exact key q.1 (by omega)
   ·omega
def kK (l:Ln) (n:Int):Int:=if l.To<l.From then l.From-1-n else l.From+n
def oI (l:Ln) (k:Int):Int:=if l.Extra=true then k-1 else k
def jT (l:Ln):Int:=max l.From l.To-min l.From l.To
def aJm (ax ay bx y2:Int) (l:Ln) (k:Int):Option St :=
 if k<0 then none else if l.Extra=true/\k=0 then some ⟨0,l.X,l.Y⟩ else if jT l<=oI l k then none
 else if exP ax ay bx y2 (wJ ax ay bx y2 (kK l (oI l k))) (wI ax ay bx y2 (kK l (oI l k))) then some ⟨k,wJ ax ay bx y2 (kK l (oI l k)),wI ax ay bx y2 (kK l (oI l k))⟩ else none
theorem aLn {l:Ln} {n:Int} (h0:0<=n) (h1:n<jT l):crP l.From l.To (kK l n):=by
 unfold jT at h1;unfold crP kK;split<;>omega
theorem aQi {l:Ln} {u:Int} (h:crP l.From l.To u):∃ n,0<=n/\n<jT l/\u=kK l n/\(if l.To<l.From then l.From-1-u else u-l.From)=n:=by
 unfold crP at h;refine ⟨if l.To<l.From then l.From-1-u else u-l.From,?_,?_,?_,rfl⟩
 all_goals (first|unfold jT|unfold kK|skip)
 all_goals (repeat' split)
 all_goals omega
theorem aPj {ax ay bx y2:Int} (c:¬(ax=bx/\ay=y2)) (k:Int):aJm ax ay bx y2 (ofL ax ay bx y2) k=atL ax ay bx y2 k:=by
 unfold aJm atL
 by_cases k0:k<0
 ·rw[if_pos k0,if_pos k0]
 rw[if_neg k0,if_neg k0];have ex:=aFm ax ay bx y2;have hnum:=fun x y h=>aFn ax ay bx y2 x y c h
 have hcr:=fun x y (h:exP ax ay bx y2 x y)=>aK2 c h
 obtain ⟨l,hl⟩:∃ l,ofL ax ay bx y2=l:=⟨_,rfl⟩;rw[hl] at ex hnum hcr ⊢;have hk:((k.toNat:Nat):Int)=k:=by omega
 have one:∀ s,s.K=k->exP ax ay bx y2 s.X s.Y->wU ax ay bx y2 s.X s.Y=k->(eP ax ay bx y2)[k.toNat]?=some s:=fun s h1 h2 h3=>(aF5 c _ _).2 ⟨h2,by rw[h3,hk],by rw[h1,hk]⟩
 by_cases hE:l.Extra=true/\k=0
 ·rw[if_pos hE];obtain ⟨⟨-,-,g3⟩,g4,g5,-⟩:=ex hE.1
  symm
  refine one _ hE.2.symm (by simp only[g4,g5];exact g3) ?_;simp only[g4,g5];rw[<-hnum _ _ g3];unfold aIm;rw[if_pos hE.1,if_pos ⟨g4.symm,g5.symm⟩,hE.2]
 rw[if_neg hE]
 -- a pixel of a crossed column
 have two:∀ n,0<=n->n<jT l->n=oI l k->exP ax ay bx y2 (wJ ax ay bx y2 (kK l n)) (wI ax ay bx y2 (kK l n))->wU ax ay bx y2 (wJ ax ay bx y2 (kK l n)) (wI ax ay bx y2 (kK l n))=k:=by
  intro n n0 n1 hn he;rw[<-hnum _ _ he,(wH ax ay bx y2 _).1];have b:(if l.To<l.From then l.From-1-kK l n else kK l n-l.From)=n:=by unfold kK;split<;>omega
  unfold aIm;rw[b];unfold oI at hn
  by_cases hX:l.Extra=true
  ·rw[if_pos hX] at hn ⊢;obtain ⟨-,g4,g5,g6⟩:=ex hX;rw[if_neg,hn]
   ·omega
   ·intro ⟨q1,q2⟩
    apply g6
    rw[(aKj _ ax ay).1,<-g4,<-g5,<-q1,<-q2,(wH ax ay bx y2 _).1];exact aLn n0 n1
  ·rw[if_neg hX] at hn ⊢;exact hn
 have n0:0<=oI l k:=by
  unfold oI;split
  ·rename_i q;have:k≠0:=fun e=>hE ⟨q,e⟩;omega
  ·omega
 -- and back
 have three:∀ s,(eP ax ay bx y2)[k.toNat]?=some s->oI l k<jT l/\s.X=wJ ax ay bx y2 (kK l (oI l k))/\s.Y=wI ax ay bx y2 (kK l (oI l k))/\exP ax ay bx y2 s.X s.Y/\s.K=k:=by
  intro s hs;obtain ⟨h1,h2,h3⟩:=(aF5 c _ _).1 hs;rw[hk] at h2 h3;have hne:¬(l.Extra=true/\s.X=l.X/\s.Y=l.Y):=by
   intro ⟨q1,q2,q3⟩;have:=hnum _ _ h1;unfold aIm at this;rw[if_pos q1,if_pos ⟨q2,q3⟩] at this;exact hE ⟨q1,by omega⟩
  obtain ⟨n,m0,m1,m2,m3⟩:=aQi (hcr _ _ h1 hne);have hn:n=oI l k:=by
   have:=hnum _ _ h1;unfold aIm at this;rw[m3,h2] at this;unfold oI
   by_cases hX:l.Extra=true
   ·rw[if_pos hX,if_neg (fun q=>hne ⟨hX,q⟩)] at this;rw[if_pos hX];omega
   ·rw[if_neg hX] at this ⊢;exact this
  have co:=aBc c h1;rw[m2,hn] at co;exact ⟨hn▸m1,co.1,co.2,h1,h3⟩
 by_cases hM:jT l<=oI l k
 ·rw[if_pos hM];cases hs:(eP ax ay bx y2)[k.toNat]? with
  |none=>rfl
  |some s=>have:=(three s hs).1;omega
 rw[if_neg hM]
 by_cases he:exP ax ay bx y2 (wJ ax ay bx y2 (kK l (oI l k))) (wI ax ay bx y2 (kK l (oI l k)))
 ·rw[if_pos he];exact (one ⟨k,_,_⟩ rfl he (two _ n0 (by omega) rfl he)).symm
 ·rw[if_neg he];cases hs:(eP ax ay bx y2)[k.toNat]? with
  |none=>rfl
  |some s =>
   obtain ⟨-,q1,q2,q3,-⟩:=three s hs;rw[q1,q2] at q3;exact absurd q3 he
theorem aOb {ax ay bx y2 n:Int} (c:¬(ax=bx/\ay=y2)) (h0:0<=n) (h1:n<jT (ofL ax ay bx y2)-1):exP ax ay bx y2 (wJ ax ay bx y2 (kK (ofL ax ay bx y2) n)) (wI ax ay bx y2 (kK (ofL ax ay bx y2) n)):=by
 have ft:=vI ax ay bx y2;obtain ⟨q1,q2⟩:=wH ax ay bx y2 (kK (ofL ax ay bx y2) n);rw[j8 _ _ _ _ _ _ c,q1,q2];refine ⟨rfl,?_⟩;have e1:(aG ax ay bx y2).au=uC (decide (aB ax ay bx y2)) ax ay:=rfl;have e3:(aG ax ay bx y2).bu=uC (decide (aB ax ay bx y2)) bx y2:=rfl;rw[e1,e3];unfold jT at h1;unfold kK;rw[ft.1,ft.2] at h1 ⊢
 by_cases hlt:uC (decide (aB ax ay bx y2)) ax ay<uC (decide (aB ax ay bx y2)) bx y2
 ·rw[if_pos hlt];have hm:=bC (Int.le_of_lt hlt);rw[if_neg (by omega)];have pa:iX (decide (aB ax ay bx y2)) ax ay<=aD (uC (decide (aB ax ay bx y2)) ax ay):=by unfold iX;split<;>omega
  have pb:aD (uC (decide (aB ax ay bx y2)) bx y2)-1<=iX (decide (aB ax ay bx y2)) bx y2:=by unfold iX;split<;>omega
  omega
 ·rw[if_neg hlt];have hm:=bC (show uC (decide (aB ax ay bx y2)) bx y2<=uC (decide (aB ax ay bx y2)) ax ay by omega);rw[if_pos (by omega)];have pa:aD (uC (decide (aB ax ay bx y2)) ax ay)-1<=iY (decide (aB ax ay bx y2)) ax ay:=by unfold iY;split<;>omega
  have pb:iY (decide (aB ax ay bx y2)) bx y2<=aD (uC (decide (aB ax ay bx y2)) bx y2):=by unfold iY;split<;>omega
  omega
def gD (ax ay bx y2:Int) (l:Ln):Int :=
 (if 0<jT l/\¬exP ax ay bx y2 (wJ ax ay bx y2 (kK l (jT l-1))) (wI ax ay bx y2 (kK l (jT l-1))) then jT l-1 else jT l)+if l.Extra=true then 1 else 0
theorem aEo {ax ay bx y2:Int} (c:¬(ax=bx/\ay=y2)):gD ax ay bx y2 (ofL ax ay bx y2)=((eP ax ay bx y2).length:Nat):=by
 have hat:=fun k=>aPj c k
 have hcol:=fun n=>aOb (ax:=ax) (ay:=ay) (bx:=bx) (y2:=y2) (n:=n) c
 obtain ⟨l,hl⟩:∃ l,ofL ax ay bx y2=l:=⟨_,rfl⟩;rw[hl] at hat hcol ⊢;have m0:0<=jT l:=by unfold jT;omega
 have key:∀ k:Nat,(k:Int)<gD ax ay bx y2 l↔k<(eP ax ay bx y2).length:=by
  intro k;have h:=hat k;unfold atL at h;rw[if_neg (by omega),Int.toNat_natCast] at h;have hs:k<(eP ax ay bx y2).length↔(aJm ax ay bx y2 l k).isSome=true:=by rw[h];simp
  rw[hs];unfold aJm gD;rw[if_neg (show ¬(k:Int)<0 by omega)]
  by_cases hE:l.Extra=true/\(k:Int)=0
  ·rw[if_pos hE,if_pos hE.1];simp;split<;>omega
  rw[if_neg hE];have n0:0<=oI l k:=by
   unfold oI;split
   ·rename_i q;have:(k:Int)≠0:=fun e=>hE ⟨q,e⟩;omega
   ·omega
  have e:(k:Int)=oI l k+if l.Extra=true then 1 else 0:=by unfold oI;split<;>omega
  have hc:∀ x:Int,((k:Int)<x+if l.Extra=true then 1 else 0)↔oI l k<x:=fun x=>by omega
  rw[hc]
  by_cases hM:jT l<=oI l k
  ·rw[if_pos hM];simp;split<;>omega
  rw[if_neg hM]
  by_cases hL:oI l k<jT l-1
  ·rw[if_pos (hcol _ n0 hL)];simp;split<;>omega
  ·have e2:oI l k=jT l-1:=by omega
   rw[e2]
   by_cases he:exP ax ay bx y2 (wJ ax ay bx y2 (kK l (jT l-1))) (wI ax ay bx y2 (kK l (jT l-1)))
   ·rw[if_pos he,if_neg (fun q=>q.2 he)];simp;omega
   ·rw[if_neg he,if_pos ⟨by omega,he⟩];simp
 have c0:0<=gD ax ay bx y2 l:=by unfold gD;split<;>split<;>omega
 have a:=key (gD ax ay bx y2 l).toNat;have b:=key (eP ax ay bx y2).length;omega
end
end
end Go.Proofs.YthcjfanigfgckaaGreat
