import Derived.Test.YthcjfanigfgckaaGreatSHiddenOrder12
set_option linter.unusedVariables false
set_option linter.unusedSimpArgs false
set_option maxRecDepth 100000
set_option maxHeartbeats 16000000
namespace Go.Proofs.YthcjfanigfgckaaGreat
open Go.RowKit
section
section
def exP (ax ay bx y2 x y:Int):Prop:=mtP (ax-256*x-128) (ay-256*y-128) (bx-256*x-128) (y2-256*y-128)/\¬insP (bx-256*x-128) (y2-256*y-128)
instance (ax ay bx y2 x y : Int) : Decidable (exP ax ay bx y2 x y) := by unfold exP; exact inferInstance
def diag (px py qx qy:Int):Prop:=min (px+py) (qx+qy)<=128/\-128<max (px+py) (qx+qy)/\min (px-py) (qx-qy)<=128/\-128<max (px-py) (qx-qy)
theorem mt_mid {w h px py A B:Int} (hA:w*py=A) (hB:h*px=B) (hz:¬(w=0/\h=0)) :
  (sgn3 (A-B-128*max (max w (-w)) (max h (-h))) h (-w)<0/\0<sgn3 (A-B+128*max (max w (-w)) (max h (-h))) h (-w)) ↔
  Mid (if uC (decide (max w (-w)<max h (-h))) w h<0 then -uC (decide (max w (-w)<max h (-h))) w h else uC (decide (max w (-w)<max h (-h))) w h) (if ¬max w (-w)<max h (-h)/\signP w h then 0 else 1)
   (vC (decide (max w (-w)<max h (-h))) px py*(if uC (decide (max w (-w)<max h (-h))) w h<0 then -uC (decide (max w (-w)<max h (-h))) w h else uC (decide (max w (-w)<max h (-h))) w h)
    - (if uC (decide (max w (-w)<max h (-h))) w h<0 then -vC (decide (max w (-w)<max h (-h))) w h else vC (decide (max w (-w)<max h (-h))) w h)*uC (decide (max w (-w)<max h (-h))) px py):=by
 by_cases t:max w (-w)<max h (-h)
 ·simp only[t,decide_true,uC,vC,if_true,not_true,false_and,if_false]
  by_cases s:h<0
  ·simp only[if_pos s];rw[show px * -h - -w*py=A-B from by rw[<-hA,<-hB];grind];unfold Mid sgn3
   repeat' split
   all_goals omega
  ·simp only[if_neg s];rw[show px*h-w*py=B-A from by rw[<-hA,<-hB];grind];unfold Mid sgn3
   repeat' split
   all_goals omega
 ·simp only[t,decide_false,uC,vC,Bool.false_eq_true,if_false,not_false_iff,true_and]
  by_cases s:w<0
  ·simp only[if_pos s];rw[show py * -w - -h*px=B-A from by rw[<-hA,<-hB];grind];unfold Mid sgn3 signP
   repeat' split
   all_goals omega
  ·simp only[if_neg s];rw[show py*w-h*px=A-B from by rw[<-hA,<-hB];grind];unfold Mid sgn3 signP
   repeat' split
   all_goals omega
theorem mid_low {t:Bool} {D E back u v:Int} (S:Slope t D E back) (M:Mid D back (v*D-E*u)) (h:u<=0):u+v<=128/\u-v<=128/\(t=true->u-v<128):=by
 have p0:=S.pos;have d0:0<=D-E:=by have:=S.le;omega
 have d1:0<=D+E:=by have:=S.ge;omega
 obtain ⟨r,er⟩:∃ r,v*D-E*u=r:=⟨_,rfl⟩;rw[er] at M;obtain ⟨m0,m1⟩:=M;have a1:D*(u+v)=u*(D+E)+r:=by grind
 have a2:D*(u-v)=u*(D-E)-r:=by grind
 have q1:=pm h d1;have q2:=pm h d0;have s1:=mul_pos_lt (a:=u+v) (b:=129) p0;have s2:=mul_pos_lt (a:=u-v) (b:=129) p0;have s3:=mul_pos_lt (a:=u-v) (b:=128) p0;have z1:D*128=128*D:=by grind
 have z2:D*129=128*D+D:=by grind
 rcases S.b01 with ⟨b,rfl,hE⟩|⟨b,hE⟩
 ·refine ⟨by omega,by omega,fun h=>by cases h⟩
 ·refine ⟨by omega,by omega,fun h=>by omega⟩
theorem mid_high {t:Bool} {D E back u v:Int} (S:Slope t D E back) (M:Mid D back (v*D-E*u)) (h:0<u):-128<u+v/\-128<u-v:=by
 have p0:=S.pos;have d0:0<=D-E:=by have:=S.le;omega
 have d1:0<=D+E:=by have:=S.ge;omega
 obtain ⟨r,er⟩:∃ r,v*D-E*u=r:=⟨_,rfl⟩;rw[er] at M;obtain ⟨m0,m1⟩:=M;have a1:D*(u+v)=u*(D+E)+r:=by grind
 have a2:D*(u-v)=u*(D-E)-r:=by grind
 have q1:=pm (show 1<=u by omega) d1;have q2:=pm (show 1<=u by omega) d0;have s1:=mul_pos_lt (a:=-128) (b:=u+v) p0;have s2:=mul_pos_lt (a:=-128) (b:=u-v) p0;have z1:D*(-128)=-(128*D):=by grind
 have hl:=S.lt;rcases S.b01 with ⟨b,rfl,hE⟩|⟨b,hE⟩
 ·refine ⟨by omega,by omega⟩
 ·rcases hE with hE|hE
  ·have:=hl hE;refine ⟨by omega,by omega⟩
  ·refine ⟨by omega,by omega⟩
theorem diag_seg {t:Bool} {D E back lu lv hu hv:Int} (S:Slope t D E back) (hon:hv*D-E*hu=lv*D-E*lu) (hlt:lu<hu) (M:Mid D back (lv*D-E*lu)) :
  diag (if t then lv else lu) (if t then lu else lv) (if t then hv else hu) (if t then hu else hv)↔(lu<=0\/ins t lu lv)/\(0<hu\/ins t hu hv):=by
 have p0:=S.pos;have d0:0<=D-E:=by have:=S.le;omega
 have d1:0<=D+E:=by have:=S.ge;omega
 have g1:D*(lu+lv)<=D*(hu+hv):=by
  have:=Int.mul_nonneg (show 0<=hu-lu by omega) d1;have e:(hu-lu)*(D+E)=D*(hu+hv)-D*(lu+lv)-((hv*D-E*hu)-(lv*D-E*lu)):=by grind
  omega
 have g2:D*(lu-lv)<=D*(hu-hv):=by
  have:=Int.mul_nonneg (show 0<=hu-lu by omega) d0;have e:(hu-lu)*(D-E)=D*(hu-hv)-D*(lu-lv)+((hv*D-E*hu)-(lv*D-E*lu)):=by grind
  omega
 have k1:lu+lv<=hu+hv:=Int.le_of_mul_le_mul_left g1 p0;have k2:lu-lv<=hu-hv:=Int.le_of_mul_le_mul_left g2 p0;have l1:=mid_low S M;have l2:=mid_high S M;have M':Mid D back (hv*D-E*hu):=by rw[hon];exact M
 have h1:=mid_low S M';have h2:=mid_high S M';clear M M' hon g1 g2;cases t
 ·simp only[ins_f,Bool.false_eq_true,if_false,false_implies] at l1 h1 ⊢;unfold diag insP
  constructor
  ·intro ⟨q1,q2,q3,q4⟩
   constructor
   ·by_cases c:lu<=0
    ·exact Or.inl c
    ·right;have:=l2 (by omega);omega
   ·by_cases c:0<hu
    ·exact Or.inl c
    ·right;have:=h1 (by omega);omega
  ·intro ⟨q1,q2⟩;have x1:lu+lv<=128/\lu-lv<=128:=by rcases q1 with q1|q1;exact ⟨(l1 q1).1,(l1 q1).2.1⟩;omega
   have x2:-128<hu+hv/\-128<hu-hv:=by rcases q2 with q2|q2;exact h2 q2;omega
   omega
 ·simp only[ins_t,if_true,true_implies] at l1 h1 ⊢;unfold diag insP
  constructor
  ·intro ⟨q1,q2,q3,q4⟩
   constructor
   ·by_cases c:lu<=0
    ·exact Or.inl c
    ·right;have:=l2 (by omega);omega
   ·by_cases c:0<hu
    ·exact Or.inl c
    ·right;have:=h1 (by omega);omega
  ·intro ⟨q1,q2⟩;have x1:lu+lv<=128/\lu-lv<128:=by rcases q1 with q1|q1;exact ⟨(l1 q1).1,(l1 q1).2.2⟩;omega
   have x2:-128<hu+hv/\-128<=hu-hv:=by rcases q2 with q2|q2;exact ⟨(h2 q2).1,by have:=(h2 q2).2;omega⟩;omega
   omega
theorem posU_iff {W:Way} (g:W.Good) {x y i k:Int} (o:W.On (uC W.turned x y) (vC W.turned x y)) (hx:W.across i=k) :
  posU W.turned x y<=i↔(uC W.turned x y-256*i-128<=0\/ins W.turned (uC W.turned x y-256*i-128) (vC W.turned x y-256*k-128)):=by
 rw[<-in_insC];have L:=leastC_is (uC W.turned x y);unfold posU
 by_cases c:inOk x y=true
 ·have a:=across_in g x y o c;have b:=iC_or W.turned x y c;obtain ⟨n,hn⟩:∃ n,iC W.turned x y=n:=⟨_,rfl⟩;rw[hn] at a b ⊢;have e:n=i->kC W.turned x y=k:=fun e=>by rw[<-a,e,hx]
  constructor
  ·intro h
   by_cases d:n=leastC (uC W.turned x y)-1
   ·rw[if_pos ⟨c,d⟩] at h
    by_cases f:n=i
    ·right;exact ⟨c,f,e f⟩
    ·left;omega
   ·rw[if_neg (fun q=>d q.2)] at h;left;omega
  ·rintro (h|⟨-,h,h2⟩)
   ·split<;>omega
   ·by_cases d:n=leastC (uC W.turned x y)-1
    ·rw[if_pos ⟨c,d⟩];omega
    ·rw[if_neg (fun q=>d q.2)];omega
 ·rw[if_neg (fun q=>c q.1)]
  constructor
  ·intro h;left;omega
  ·rintro (h|⟨h,-⟩)
   ·omega
   ·exact absurd h c
theorem posD_iff {W:Way} (g:W.Good) {x y i k:Int} (o:W.On (uC W.turned x y) (vC W.turned x y)) (hx:W.across i=k) :
  i<=posD W.turned x y↔(0<uC W.turned x y-256*i-128\/ins W.turned (uC W.turned x y-256*i-128) (vC W.turned x y-256*k-128)):=by
 rw[<-in_insC];have L:=leastC_is (uC W.turned x y);unfold posD
 by_cases c:inOk x y=true
 ·have a:=across_in g x y o c;have b:=iC_or W.turned x y c;obtain ⟨n,hn⟩:∃ n,iC W.turned x y=n:=⟨_,rfl⟩;rw[hn] at a b ⊢;have e:n=i->kC W.turned x y=k:=fun e=>by rw[<-a,e,hx]
  constructor
  ·intro h
   by_cases d:n=leastC (uC W.turned x y)
   ·rw[if_pos ⟨c,d⟩] at h
    by_cases f:n=i
    ·right;exact ⟨c,f,e f⟩
    ·left;omega
   ·rw[if_neg (fun q=>d q.2)] at h;left;omega
  ·rintro (h|⟨-,h,h2⟩)
   ·split<;>omega
   ·by_cases d:n=leastC (uC W.turned x y)
    ·rw[if_pos ⟨c,d⟩];omega
    ·rw[if_neg (fun q=>d q.2)];omega
 ·rw[if_neg (fun q=>c q.1)]
  constructor
  ·intro h;left;omega
  ·rintro (h|⟨h,-⟩)
   ·omega
   ·exact absurd h c
theorem uC_sub (t:Bool) (x y w h:Int):uC t (x-w) (y-h)=uC t x y-uC t w h:=by cases t<;>rfl
theorem vC_sub (t:Bool) (x y w h:Int):vC t (x-w) (y-h)=vC t x y-vC t w h:=by cases t<;>rfl
theorem uC_pix (t:Bool) (x y i k:Int):uC t (x-256*i-128) (y-256*k-128)=uC t x y-256*uC t i k-128:=by cases t<;>rfl
theorem vC_pix (t:Bool) (x y i k:Int):vC t (x-256*i-128) (y-256*k-128)=vC t x y-256*vC t i k-128:=by cases t<;>rfl
theorem unC (t:Bool) (x y:Int):(if t then vC t x y else uC t x y)=x/\(if t then uC t x y else vC t x y)=y:=by cases t<;>exact ⟨rfl,rfl⟩
theorem insP_C (t:Bool) (x y:Int):insP x y↔ins t (uC t x y) (vC t x y):=by
 unfold ins;rw[(unC t x y).1,(unC t x y).2]
theorem meets_mid (ax ay bx y2 x y:Int) (c:¬(ax=bx/\ay=y2)) :
  mtP (ax-256*x-128) (ay-256*y-128) (bx-256*x-128) (y2-256*y-128)↔diag (ax-256*x-128) (ay-256*y-128) (bx-256*x-128) (y2-256*y-128) /\
   Mid (mkWay0 ax ay bx y2).du (mkWay0 ax ay bx y2).back ((vC (mkWay0 ax ay bx y2).turned ax ay-256*vC (mkWay0 ax ay bx y2).turned x y-128)*(mkWay0 ax ay bx y2).du-(mkWay0 ax ay bx y2).dv*(uC (mkWay0 ax ay bx y2).turned ax ay-256*uC (mkWay0 ax ay bx y2).turned x y-128)):=by
 have ew:bx-256*x-128-(ax-256*x-128)=bx-ax:=by omega
 have eh:y2-256*y-128-(ay-256*y-128)=y2-ay:=by omega
 have hm:=mt_mid (w:=bx-ax) (h:=y2-ay) (px:=ax-256*x-128) (py:=ay-256*y-128) rfl rfl (by omega);rw[uC_pix,vC_pix,uC_sub,vC_sub] at hm;unfold mtP diag;rw[ew,eh,hm];have e1:(ax-256*x-128=bx-256*x-128/\ay-256*y-128=y2-256*y-128)↔False:=by
  constructor
  ·intro h;exact c (by omega)
  ·intro h;cases h
 rw[e1,false_or]
 constructor
 ·intro ⟨h1,h2,h3,h4,h5⟩;exact ⟨⟨h1,h2,h3,h4⟩,h5⟩
 ·intro ⟨⟨h1,h2,h3,h4⟩,h5⟩;exact ⟨h1,h2,h3,h4,h5⟩
theorem diag_swap (px py qx qy:Int):diag px py qx qy↔diag qx qy px py:=by
 unfold diag;omega
theorem exits_at (ax ay bx y2 x y:Int) (c:¬(ax=bx/\ay=y2)) :
  exP ax ay bx y2 x y↔(mkWay0 ax ay bx y2).across (uC (decide (turnP ax ay bx y2)) x y)=vC (decide (turnP ax ay bx y2)) x y /\
   (if (mkWay0 ax ay bx y2).au<(mkWay0 ax ay bx y2).bu then posU (decide (turnP ax ay bx y2)) ax ay<=uC (decide (turnP ax ay bx y2)) x y/\uC (decide (turnP ax ay bx y2)) x y<posU (decide (turnP ax ay bx y2)) bx y2
    else uC (decide (turnP ax ay bx y2)) x y<=posD (decide (turnP ax ay bx y2)) ax ay/\posD (decide (turnP ax ay bx y2)) bx y2<uC (decide (turnP ax ay bx y2)) x y):=by
 unfold exP;rw[meets_mid ax ay bx y2 x y c];have g:(mkWay0 ax ay bx y2).Good:=wayZ_good ax ay bx y2 _ c;have hne:=way_ne ax ay bx y2 (if leastC (uC (decide (turnP ax ay bx y2)) bx y2)<leastC (uC (decide (turnP ax ay bx y2)) ax ay) then 1 else 0) c;have ht:(mkWay0 ax ay bx y2).turned=decide (turnP ax ay bx y2):=rfl;have e1:(mkWay0 ax ay bx y2).au=uC (mkWay0 ax ay bx y2).turned ax ay:=rfl;have e2:(mkWay0 ax ay bx y2).av=vC (mkWay0 ax ay bx y2).turned ax ay:=rfl;have e3:(mkWay0 ax ay bx y2).bu=uC (mkWay0 ax ay bx y2).turned bx y2:=rfl;have e4:(mkWay0 ax ay bx y2).bv=vC (mkWay0 ax ay bx y2).turned bx y2:=rfl;have hne:(mkWay0 ax ay bx y2).au≠(mkWay0 ax ay bx y2).bu:=hne;rw[<-ht];obtain ⟨W,hW⟩:∃ W,mkWay0 ax ay bx y2=W:=⟨_,rfl⟩;rw[hW] at g hne e1 e2 e3 e4 ⊢;clear hW ht;have oa:W.On (uC W.turned ax ay) (vC W.turned ax ay):=by rw[<-e1,<-e2];exact on_a W
 have ob:W.On (uC W.turned bx y2) (vC W.turned bx y2):=by rw[<-e3,<-e4];exact on_b W
 obtain ⟨i,hi⟩:∃ i,uC W.turned x y=i:=⟨_,rfl⟩;obtain ⟨k,hk⟩:∃ i,vC W.turned x y=i:=⟨_,rfl⟩;have hA:diag (ax-256*x-128) (ay-256*y-128) (bx-256*x-128) (y2-256*y-128) ↔
   diag (if W.turned then vC W.turned ax ay-256*k-128 else uC W.turned ax ay-256*i-128) (if W.turned then uC W.turned ax ay-256*i-128 else vC W.turned ax ay-256*k-128)
    (if W.turned then vC W.turned bx y2-256*k-128 else uC W.turned bx y2-256*i-128) (if W.turned then uC W.turned bx y2-256*i-128 else vC W.turned bx y2-256*k-128):=by
  rw[<-hi,<-hk];cases W.turned<;>exact Iff.rfl
 rw[hA,insP_C W.turned,uC_pix,vC_pix,hi,hk,<-across_iff g i k _ _ oa];clear hA
 by_cases hx:W.across i=k
 ·have M:=(across_iff g i k _ _ oa).1 hx;have M':=(across_iff g i k _ _ ob).1 hx;have hon:(vC W.turned bx y2-256*k-128)*W.du-W.dv*(uC W.turned bx y2-256*i-128)=(vC W.turned ax ay-256*k-128)*W.du-W.dv*(uC W.turned ax ay-256*i-128):=by
   unfold Way.On at oa ob;grind
  by_cases hlt:W.au<W.bu
  ·have n1:i<posU W.turned bx y2↔¬(posU W.turned bx y2<=i):=Int.not_le.symm;rw[if_pos hlt,n1,diag_seg g hon (by omega) M,posU_iff g oa hx,posU_iff g ob hx]
   constructor
   ·intro ⟨⟨⟨h1,h2⟩,h3⟩,h4⟩;exact ⟨h3,h1,fun h=>h.elim (fun h=>h2.elim (fun h2=>by omega) h4) h4⟩
   ·intro ⟨h1,h2,h3⟩;exact ⟨⟨⟨h2,Or.inl (by have:=fun q=>h3 (Or.inl q);omega)⟩,h1⟩,fun q=>h3 (Or.inr q)⟩
  ·have n1:posD W.turned bx y2<i↔¬(i<=posD W.turned bx y2):=Int.not_le.symm;rw[if_neg hlt,n1,posD_iff g oa hx,posD_iff g ob hx];have hs:∀ a b c d e f g h:Int,diag (if W.turned then a else b) (if W.turned then c else d) (if W.turned then e else f) (if W.turned then g else h)↔diag (if W.turned then e else f) (if W.turned then g else h) (if W.turned then a else b) (if W.turned then c else d):=fun a b c d e f g h=>diag_swap _ _ _ _
   rw[hs,diag_seg g hon.symm (by omega) M']
   constructor
   ·intro ⟨⟨⟨h1,h2⟩,h3⟩,h4⟩;exact ⟨h3,h2,fun h=>h.elim (fun h=>h1.elim (fun h2=>by omega) h4) h4⟩
   ·intro ⟨h1,h2,h3⟩;exact ⟨⟨⟨Or.inl (by have:=fun q=>h3 (Or.inl q);omega),h2⟩,h1⟩,fun q=>h3 (Or.inr q)⟩
 ·constructor
  ·rintro ⟨⟨-,h⟩,-⟩;exact absurd h hx
  ·rintro ⟨h,-⟩;exact absurd h hx
end
section
theorem mem_run (W:Way) (s σ N:Int) (q:St):q∈W.run s σ N↔∃ j:Int,0<=j/\j<N/\q=W.cell j (s+j*σ):=by
 unfold Way.run;rw[List.mem_map]
 constructor
 ·rintro ⟨j,hj,rfl⟩;have:=List.mem_range.1 hj;exact ⟨(j:Int),by omega,by omega,rfl⟩
 ·rintro ⟨j,h0,h1,rfl⟩;exact ⟨j.toNat,List.mem_range.2 (by omega),by rw[Int.toNat_of_nonneg h0]⟩
theorem cell_uv (W:Way) (k u:Int):uC W.turned (W.cell k u).X (W.cell k u).Y=u/\vC W.turned (W.cell k u).X (W.cell k u).Y=W.across u:=by
 unfold Way.cell Way.px Way.py uC vC;cases W.turned<;>exact ⟨rfl,rfl⟩
theorem cell_of (W:Way) (q:St) (u:Int) (h1:uC W.turned q.X q.Y=u) (h2:W.across u=vC W.turned q.X q.Y):q=W.cell q.K u:=by
 unfold Way.cell Way.px Way.py;rw[h2,<-h1];cases q;cases W.turned<;>rfl
def idxP (ax ay bx y2 x y:Int):Int:=if (mkWay0 ax ay bx y2).au<(mkWay0 ax ay bx y2).bu then uC (decide (turnP ax ay bx y2)) x y-posU (decide (turnP ax ay bx y2)) ax ay
 else posD (decide (turnP ax ay bx y2)) ax ay-uC (decide (turnP ax ay bx y2)) x y
theorem mem_line (ax ay bx y2:Int) (c:¬(ax=bx/\ay=y2)) (q:St):q∈lineL ax ay bx y2↔exP ax ay bx y2 q.X q.Y/\q.K=idxP ax ay bx y2 q.X q.Y:=by
 rw[exits_at ax ay bx y2 q.X q.Y c];unfold lineL idxP;have ht:(mkWay0 ax ay bx y2).turned=decide (turnP ax ay bx y2):=rfl;rw[<-ht];obtain ⟨W,hW⟩:∃ W,mkWay0 ax ay bx y2=W:=⟨_,rfl⟩;rw[hW]
 by_cases hlt:W.au<W.bu
 ·simp only[if_pos hlt];rw[mem_run]
  constructor
  ·rintro ⟨j,h0,h1,rfl⟩;obtain ⟨e1,e2⟩:=cell_uv W j (posU W.turned ax ay+j*1);rw[e1,e2];exact ⟨⟨rfl,by omega,by omega⟩,by show j=_;omega⟩
  ·rintro ⟨⟨h1,h2,h3⟩,h4⟩;refine ⟨q.K,by omega,by omega,?_⟩;rw[show posU W.turned ax ay+q.K*1=uC W.turned q.X q.Y from by omega];exact cell_of W q _ rfl h1
 ·simp only[if_neg hlt];rw[mem_run]
  constructor
  ·rintro ⟨j,h0,h1,rfl⟩;obtain ⟨e1,e2⟩:=cell_uv W j (posD W.turned ax ay+j * -1);rw[e1,e2];exact ⟨⟨rfl,by omega,by omega⟩,by show j=_;omega⟩
  ·rintro ⟨⟨h1,h2,h3⟩,h4⟩;refine ⟨q.K,by omega,by omega,?_⟩;rw[show posD W.turned ax ay+q.K * -1=uC W.turned q.X q.Y from by omega];exact cell_of W q _ rfl h1
structure Ln where
 From:Int
 To:Int
 X:Int
 Y:Int
 Extra:Bool
def exA (ax ay bx y2:Int):Prop:=inOk ax ay=true/\¬(ax=bx/\ay=y2)/\exP ax ay bx y2 (inX ax ay) (inY ax ay)
instance (ax ay bx y2 : Int) : Decidable (exA ax ay bx y2) := by unfold exA; exact inferInstance
def crP (f t u:Int):Prop:=min f t<=u/\u<max f t
instance (f t u : Int) : Decidable (crP f t u) := by unfold crP; exact inferInstance
theorem uv_ext (t:Bool) (x y i k:Int):(x=i/\y=k)↔(uC t x y=uC t i k/\vC t x y=vC t i k):=by
 cases t
 ·exact Iff.rfl
 ·exact And.comm
end
section
theorem exP_same (ax ay x y:Int):¬exP ax ay ax ay x y:=by
 unfold exP mtP insP;omega
theorem idx_inj {ax ay bx y2 x y x' y':Int} (h:exP ax ay bx y2 x y) (h':exP ax ay bx y2 x' y') (e:idxP ax ay bx y2 x y=idxP ax ay bx y2 x' y'):x=x'/\y=y':=by
 by_cases c:ax=bx/\ay=y2
 ·obtain ⟨rfl,rfl⟩:=c;exact absurd h (exP_same _ _ _ _)
 rw[exits_at _ _ _ _ _ _ c] at h h';have hu:uC (decide (turnP ax ay bx y2)) x y=uC (decide (turnP ax ay bx y2)) x' y':=by
  unfold idxP at e;split at e<;>omega
 rw[uv_ext (decide (turnP ax ay bx y2))];exact ⟨hu,by rw[<-h.1,<-h'.1,hu]⟩
theorem idx_bd {ax ay bx y2 x y:Int} (ha:MayP ax ay) (hb:MayP bx y2) (h:exP ax ay bx y2 x y):0<=idxP ax ay bx y2 x y/\idxP ax ay bx y2 x y<4194308:=by
 by_cases c:ax=bx/\ay=y2
 ·obtain ⟨rfl,rfl⟩:=c;exact absurd h (exP_same _ _ _ _)
 rw[exits_at _ _ _ _ _ _ c] at h;have b1:=uC_bd (decide (turnP ax ay bx y2)) ha;have b2:=uC_bd (decide (turnP ax ay bx y2)) hb;have p1:-2097154<=posU (decide (turnP ax ay bx y2)) ax ay/\posU (decide (turnP ax ay bx y2)) ax ay<=2097153:=by unfold posU leastC;split<;>omega
 have p2:-2097154<=posU (decide (turnP ax ay bx y2)) bx y2/\posU (decide (turnP ax ay bx y2)) bx y2<=2097153:=by unfold posU leastC;split<;>omega
 have p3:-2097154<=posD (decide (turnP ax ay bx y2)) ax ay/\posD (decide (turnP ax ay bx y2)) ax ay<=2097153:=by unfold posD leastC;split<;>omega
 have p4:-2097154<=posD (decide (turnP ax ay bx y2)) bx y2/\posD (decide (turnP ax ay bx y2)) bx y2<=2097153:=by unfold posD leastC;split<;>omega
 obtain ⟨h1,h2⟩:=h;unfold idxP
 split at h2<;>split<;>first|omega|contradiction
structure Proc (ax ay bx y2 x0 y0 y1 x y:Int) (L:List St):Prop where
 rise:L.Pairwise (fun s t=>s.K<t.K)
 mem:∀ q,q∈L↔(x0<=q.X/\y0<=q.Y/\q.Y<y1/\(q.X<x\/q.X=x/\q.Y<y))/\exP ax ay bx y2 q.X q.Y/\q.K=idxP ax ay bx y2 q.X q.Y
section
variable {ax ay bx y2 x0 y0 y1 x y:Int} {L:List St}
theorem Proc.skip (h:Proc ax ay bx y2 x0 y0 y1 x y L) (hn:¬exP ax ay bx y2 x y):Proc ax ay bx y2 x0 y0 y1 x (y+1) L:=by
 refine ⟨h.rise,fun q=>(h.mem q).trans ⟨fun ⟨h1,h2⟩=>⟨by omega,h2⟩,fun ⟨h1,h2⟩=>⟨?_,h2⟩⟩⟩
 by_cases e:q.X=x/\q.Y=y
 ·rw[e.1,e.2] at h2;exact absurd h2.1 hn
 ·omega
def putAt (L:List St) (j:Nat) (s:St):List St:=L.take j++s::L.drop j
theorem Proc.put (h:Proc ax ay bx y2 x0 y0 y1 x y L) (he:exP ax ay bx y2 x y) (hx:x0<=x) (hy:y0<=y) (hy1:y<y1) (j:Nat)
  (h1:∀ i s,i<j->L[i]?=some s->s.K<idxP ax ay bx y2 x y) (h2:∀ s,L[j]?=some s->idxP ax ay bx y2 x y<=s.K) :
  Proc ax ay bx y2 x0 y0 y1 x (y+1) (putAt L j ⟨idxP ax ay bx y2 x y,x,y⟩):=by
 have hne:∀ q∈L,q.K≠idxP ax ay bx y2 x y:=fun q hq e=>by
  obtain ⟨g1,g2,g3⟩:=(h.mem q).1 hq;have:=idx_inj g2 he (by rw[<-g3,e]);omega
 have hT:∀ q∈L.take j,q.K<idxP ax ay bx y2 x y:=fun q hq=>by
  obtain ⟨i,hi⟩:=List.mem_iff_getElem?.1 hq;rw[List.getElem?_take] at hi
  split at hi
  ·exact h1 i q (by assumption) hi
  ·cases hi
 have hD:∀ q∈L.drop j,idxP ax ay bx y2 x y<q.K:=fun q hq=>by
  have hm:=List.mem_of_mem_drop hq;obtain ⟨i,hi⟩:=List.mem_iff_getElem?.1 hq;rw[List.getElem?_drop] at hi;have hlt:j<L.length:=by have:=(List.getElem?_eq_some_iff.1 hi).1;omega
  have g:=h2 L[j] (by simp[hlt]);have gn:=hne q hm;cases i with
  |zero =>
   have:L[j]=q:=by rw[Nat.add_zero] at hi;simpa [hlt] using hi
   rw[this] at g;omega
  |succ i =>
   have hlt2:=(List.getElem?_eq_some_iff.1 hi).1;have:=List.pairwise_iff_getElem.1 h.rise j (j+(i+1)) hlt hlt2 (by omega);have e2:=(List.getElem?_eq_some_iff.1 hi).2;rw[e2] at this;omega
 refine ⟨?_,fun q=>?_⟩
 ·unfold putAt;rw[List.pairwise_append,List.pairwise_cons];refine ⟨h.rise.sublist (List.take_sublist _ _),⟨fun q hq=>hD q hq,h.rise.sublist (List.drop_sublist _ _)⟩,fun q hq t ht=>?_⟩;have a:=hT q hq;rcases List.mem_cons.1 ht with rfl|ht
  ·exact a
  ·have:=hD t ht;omega
 ·unfold putAt;have e:q∈L.take j++(⟨idxP ax ay bx y2 x y,x,y⟩:St)::L.drop j↔q=⟨idxP ax ay bx y2 x y,x,y⟩\/q∈L:=by
   have:q∈L↔q∈L.take j++L.drop j:=by rw[List.take_append_drop]
   rw[this];simp only[List.mem_append,List.mem_cons]
   constructor
   ·rintro (a|a|a)
    ·exact Or.inr (Or.inl a)
    ·exact Or.inl a
    ·exact Or.inr (Or.inr a)
   ·rintro (a|a|a)
    ·exact Or.inr (Or.inl a)
    ·exact Or.inl a
    ·exact Or.inr (Or.inr a)
  rw[e,h.mem q]
  constructor
  ·rintro (rfl|⟨g1,g2⟩)
   ·exact ⟨⟨hx,hy,hy1,Or.inr ⟨rfl,show y<y+1 by omega⟩⟩,he,rfl⟩
   ·exact ⟨by omega,g2⟩
  ·intro ⟨g1,g2,g3⟩
   by_cases c:q.X=x/\q.Y=y
   ·left
    obtain ⟨K,X,Y⟩:=q;obtain ⟨rfl,rfl⟩:=c;rw[show K=_ from g3]
   ·right;exact ⟨by omega,g2,g3⟩
theorem rise_len:∀ (L:List St) (a b:Int),L.Pairwise (fun s t=>s.K<t.K)->(∀ q∈L,a<=q.K/\q.K<b)->a<=b->((L.length:Nat):Int)<=b-a
 | [],a,b,_,_,h=>by simp;omega
 |s::L,a,b,hp,hb,h=>by
  obtain ⟨h1,h2⟩:=List.pairwise_cons.1 hp;have b0:=hb s List.mem_cons_self;have:=rise_len L (s.K+1) b h2 (fun q hq=>⟨by have:=h1 q hq;omega,(hb q (jk hq)).2⟩) (by omega);simp;omega
theorem Proc.len (h:Proc ax ay bx y2 x0 y0 y1 x y L) (ha:MayP ax ay) (hb:MayP bx y2):L.length<=4194308:=by
 have:=rise_len L 0 4194308 h.rise (fun q hq=>by
  obtain ⟨_,g2,g3⟩:=(h.mem q).1 hq;rw[g3];exact idx_bd ha hb g2) (by omega)
 omega
end
end
section
end
section
theorem line_num {ax ay bx y2:Int} {i:Nat} {s:St} (h:(lineL ax ay bx y2)[i]?=some s):s.K=i:=by
 unfold lineL at h
 split at h
 all_goals
  unfold Way.run at h;rw[List.getElem?_map] at h;cases hj:(List.range _)[i]? with
  |none=>rw[hj] at h;cases h
  |some j =>
   rw[hj] at h;have:=List.getElem?_eq_some_iff.1 hj;obtain ⟨_,e⟩:=this;rw[List.getElem_range] at e;subst e;injection h with h
   rw[<-h];rfl
end
end
end Go.Proofs.YthcjfanigfgckaaGreat
