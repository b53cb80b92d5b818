import Derived.Test.YthcjfanigfgckaaGreatSHidb17
set_option linter.unusedVariables false
set_option linter.unusedSimpArgs false
set_option maxRecDepth 100000
set_option maxHeartbeats 16000000
namespace Go.Proofs.YthcjfanigfgckaaGreat
open Go.RowKit _root_.Go.Proofs.Tryz
section
section
attribute [local go_sem ↓] Go.wp_at_zero Go.wp_at_succ
theorem wN {P:Program} {f:Func} {R:Ending->World->Prop} {e:Exit} {a:Act} {w:World} (F:World->Prop) (h:F w) (k:∀ w1,F w1->bodyPost P f R e a w1):bodyPost P f R e a w:=k w h
theorem gO {a b c:WinP} (hb:b.fits) (hc:c.fits):(bE a b c).fits/\(bO a b c).fits:=by
 rcases aAd a b c with ⟨e1,e2⟩|⟨e1,e2⟩<;>rw[e1,e2]<;>exact ⟨by assumption,by assumption⟩
theorem xA {a b c:WinP} (ha:a.fits) (hb:b.fits) (hc:c.fits) (h:ar a b c≠0):1<=lK a b c/\lK a b c<=9223372036854775807:=by
 have:=(iV ha hb hc).ar;unfold lK;split<;>omega
theorem aJ1 (a:WinP) (w:World):Calls prog 114 #[a.v] w (Ret (.int .i64 a.y) w):=by
 go_enter func114,ntmps114
 go_wp2;go_ret;exact Ret.of (by exact bl_)
theorem aJ2 (a:WinP) (w:World):Calls prog 115 #[a.v] w (Ret (.int .i64 a.x) w):=by
 go_enter func115,ntmps115
 go_wp2;go_ret;exact Ret.of (by exact bl_)
theorem oX (n:Int):max n (-n)=dQ n:=by unfold dQ;split<;>omega
theorem iT {z d:Int} (h0:0<=z) (h1:z<=16777215) (d0:-536870912<=d) (d1:d<=536870912):-9007198717870080<=z*d/\z*d<=9007198717870080:=by
 have:=eI (U:=16777215) (V:=536870912) (by omega) (by omega) (show -16777215<=z by omega) h1 d0 d1;omega
theorem aB0 (p q r:WinP) (hp:p.fits) (hq:q.fits) (hr:r.fits) (w:World) :
  Calls prog 113 #[p.v,q.v,r.v,.func (.func 114) #[] #[]] w (Ret (.int .i64 (dQ (stU p q r))) w):=by
 obtain ⟨-,-,p0,p1,pz0,pz1,-⟩:=hp;obtain ⟨-,-,q0,q1,qz0,qz1,-⟩:=hq;obtain ⟨-,-,r0,r1,rz0,rz1,-⟩:=hr;have m1:=iT pz0 pz1 (d:=q.y-r.y) (by omega) (by omega);have m2:=iT qz0 qz1 (d:=r.y-p.y) (by omega) (by omega);have m3:=iT rz0 rz1 (d:=p.y-q.y) (by omega) (by omega);unfold stU;rw[<-oX];have d1:IntKind.i64.wrap (q.y-r.y)=q.y-r.y:=IntWalk.i64_in _ (by omega);have d2:IntKind.i64.wrap (r.y-p.y)=r.y-p.y:=IntWalk.i64_in _ (by omega);have d3:IntKind.i64.wrap (p.y-q.y)=p.y-q.y:=IntWalk.i64_in _ (by omega);have k1:IntKind.i64.wrap (p.z*(q.y-r.y))=p.z*(q.y-r.y):=IntWalk.i64_in _ (by omega);have k2:IntKind.i64.wrap (q.z*(r.y-p.y))=q.z*(r.y-p.y):=IntWalk.i64_in _ (by omega);have k3:IntKind.i64.wrap (r.z*(p.y-q.y))=r.z*(p.y-q.y):=IntWalk.i64_in _ (by omega);have k4:IntKind.i64.wrap (p.z*(q.y-r.y)+q.z*(r.y-p.y))=p.z*(q.y-r.y)+q.z*(r.y-p.y):=IntWalk.i64_in _ (by omega);have k5:IntKind.i64.wrap (p.z*(q.y-r.y)+q.z*(r.y-p.y)+r.z*(p.y-q.y))=p.z*(q.y-r.y)+q.z*(r.y-p.y)+r.z*(p.y-q.y):=IntWalk.i64_in _ (by omega);have k6:IntKind.i64.wrap (-(p.z*(q.y-r.y)+q.z*(r.y-p.y)+r.z*(p.y-q.y)))=-(p.z*(q.y-r.y)+q.z*(r.y-p.y)+r.z*(p.y-q.y)):=IntWalk.i64_in _ (by omega);have C:=jj (fun a w=>aJ1 a w);clear m1 m2 m3 p0 p1 q0 q1 r0 r1 pz0 pz1 qz0 qz1 rz0 rz1
 go_enter func113,ntmps113
 go_wp2;refine jy ?_
 repeat (go_big_quiet_step (((go_at_call 114;with_reducible exact Calls.quiet_ret (C.out _ _)))))
 refine jv fun X=>?_
 go_wp2;go_ret;exact Ret.of (by exact bl_)
theorem aB1 (p q r:WinP) (hp:p.fits) (hq:q.fits) (hr:r.fits) (w:World) :
  Calls prog 113 #[p.v,q.v,r.v,.func (.func 115) #[] #[]] w (Ret (.int .i64 (dQ (stV p q r))) w):=by
 obtain ⟨p0,p1,-,-,pz0,pz1,-⟩:=hp;obtain ⟨q0,q1,-,-,qz0,qz1,-⟩:=hq;obtain ⟨r0,r1,-,-,rz0,rz1,-⟩:=hr;have m1:=iT pz0 pz1 (d:=q.x-r.x) (by omega) (by omega);have m2:=iT qz0 qz1 (d:=r.x-p.x) (by omega) (by omega);have m3:=iT rz0 rz1 (d:=p.x-q.x) (by omega) (by omega);unfold stV;rw[<-oX];have d1:IntKind.i64.wrap (q.x-r.x)=q.x-r.x:=IntWalk.i64_in _ (by omega);have d2:IntKind.i64.wrap (r.x-p.x)=r.x-p.x:=IntWalk.i64_in _ (by omega);have d3:IntKind.i64.wrap (p.x-q.x)=p.x-q.x:=IntWalk.i64_in _ (by omega);have k1:IntKind.i64.wrap (p.z*(q.x-r.x))=p.z*(q.x-r.x):=IntWalk.i64_in _ (by omega);have k2:IntKind.i64.wrap (q.z*(r.x-p.x))=q.z*(r.x-p.x):=IntWalk.i64_in _ (by omega);have k3:IntKind.i64.wrap (r.z*(p.x-q.x))=r.z*(p.x-q.x):=IntWalk.i64_in _ (by omega);have k4:IntKind.i64.wrap (p.z*(q.x-r.x)+q.z*(r.x-p.x))=p.z*(q.x-r.x)+q.z*(r.x-p.x):=IntWalk.i64_in _ (by omega);have k5:IntKind.i64.wrap (p.z*(q.x-r.x)+q.z*(r.x-p.x)+r.z*(p.x-q.x))=p.z*(q.x-r.x)+q.z*(r.x-p.x)+r.z*(p.x-q.x):=IntWalk.i64_in _ (by omega);have k6:IntKind.i64.wrap (-(p.z*(q.x-r.x)+q.z*(r.x-p.x)+r.z*(p.x-q.x)))=-(p.z*(q.x-r.x)+q.z*(r.x-p.x)+r.z*(p.x-q.x)):=IntWalk.i64_in _ (by omega);have C:=jj (fun a w=>aJ2 a w);clear m1 m2 m3 p0 p1 q0 q1 r0 r1 pz0 pz1 qz0 qz1 rz0 rz1
 go_enter func113,ntmps113
 go_wp2;refine jy ?_
 repeat (go_big_quiet_step (((go_at_call 115;with_reducible exact Calls.quiet_ret (C.out _ _)))))
 refine jv fun X=>?_
 go_wp2;go_ret;exact Ret.of (by exact bl_)
end
section
theorem uR {a b c:WinP} (ha:a.fits) (hb:b.fits) (hc:c.fits):(0<=dQ (stU a b c)/\dQ (stU a b c)<=27021596153610240)/\(0<=dQ (stV a b c)/\dQ (stV a b c)<=27021596153610240):=by
 obtain ⟨p0,p1,p2,p3,pz0,pz1,-⟩:=ha;obtain ⟨q0,q1,q2,q3,qz0,qz1,-⟩:=hb;obtain ⟨r0,r1,r2,r3,rz0,rz1,-⟩:=hc;have m1:=iT pz0 pz1 (d:=b.y-c.y) (by omega) (by omega);have m2:=iT qz0 qz1 (d:=c.y-a.y) (by omega) (by omega);have m3:=iT rz0 rz1 (d:=a.y-b.y) (by omega) (by omega);have n1:=iT pz0 pz1 (d:=b.x-c.x) (by omega) (by omega);have n2:=iT qz0 qz1 (d:=c.x-a.x) (by omega) (by omega);have n3:=iT rz0 rz1 (d:=a.x-b.x) (by omega) (by omega);unfold dQ stU stV;refine ⟨?_,?_⟩<;>split<;>omega
theorem vH (a b c:WinP) (f u:Int) (ha:a.fits) (hb:b.fits) (hc:c.fits) (f0:-65536<=f) (f1:f<=65536) (u0:-16777216<=u) (u1:u<=16777216) (w:World) :
  Calls prog 81 #[a.v,b.v,c.v,f,u] w (Ret (.int .i64 (aIl a b c f u)) w):=by
 have A:=jj (fun w=>gJ a b c (iV ha hb hc) w);have ab:=(iV ha hb hc).ar;have SY:=jj (fun w=>aB0 a b c ha hb hc w);have SX:=jj (fun w=>aB1 a b c ha hb hc w);obtain ⟨⟨y0,y1⟩,x0,x1⟩:=uR ha hb hc;unfold aIl aD2;generalize dQ (stU a b c)=sy at *;generalize dQ (stV a b c)=sx at *;generalize ar a b c=n at *;obtain ⟨ab0,ab1⟩:=ab;clear ha hb hc
 by_cases h:n=0
 ·rw[if_pos h];subst h
  go_enter func81,ntmps81
  go_wp2_with (first|(go_at_call 57;with_reducible refine jn (A.out _) fun X_=>?_))
  go_ret;exact Ret.of (by exact bl_)
 ·rw[if_neg h];obtain ⟨N,hN⟩:∃ N,N=max sy sx:=⟨_,rfl⟩;obtain ⟨D,hD⟩:∃ D,D=max n (-n):=⟨_,rfl⟩;have hD1:dQ n=D:=by rw[hD,oX]
  have N0:0<=N/\N<=27021596153610240:=by omega
  have D0:1<=D/\D<=3602880389091196928:=by omega
  have mb:=eI (U:=65536) (V:=27021596153610240) (by omega) (by omega) f0 f1 (show -27021596153610240<=N by omega) N0.2;have M:=jj (fun w=>p8 f N (by unfold sml;omega) (by unfold sml;omega) w);have DV:=jj (fun w=>zM (f*N) D (by unfold inR;omega) D0.1 (by unfold sml;omega) w);rw[hD1,<-hN];have qb:-1770887431076116955136<=f*N/D/\f*N/D<=1770887431076116955136:=by
   have e:=Int.ediv_mul_le (f*N) (b:=D) (by omega);have l:=Int.lt_ediv_add_one_mul_self (f*N) (b:=D) (by omega);obtain ⟨Q,hQ⟩:∃ Q,f*N/D=Q:=⟨_,rfl⟩;rw[hQ] at e l ⊢
   constructor
   ·apply Int.not_lt.1;intro hl
    have:(Q+1)*D<=(Q+1)*1:=Int.mul_le_mul_of_nonpos_left (by omega) D0.1;omega
   ·apply Int.not_lt.1;intro hl
    have:Q*1<=Q*D:=Int.mul_le_mul_of_nonneg_left D0.1 (by omega);omega
  generalize f*N=fN at *;generalize fN/D=q at *;generalize fN%D=r at *;have OF:=jj (fun w=>aAp u (by unfold sml;omega) w);have B:=jj (fun w=>fL q u (by unfold inR;omega) (by unfold inR;omega) (by unfold inR;omega) w);have O1:=jj (fun w=>aAp 33554432 (by decide) w);have O2:=jj (fun w=>aAp (-33554432) (by decide) w);have C1:=jj (fun w=>aHv (q+u) 33554432 (by unfold inR;omega) (by decide) w);have C2:=jj (fun w=>aHv (q+u) (-33554432) (by unfold inR;omega) (by decide) w);have S:=jj (fun w=>pF (q+u) (by unfold inR;omega) w);obtain ⟨Q,hQ⟩:∃ Q,q+u=Q:=⟨_,rfl⟩;rw[hQ] at B C1 C2 S ⊢;have s1:=lS (Q-33554432);have s2:=lS (Q - -33554432);obtain ⟨g1,hg1⟩:∃ g,sgn (Q-33554432)=g:=⟨_,rfl⟩;obtain ⟨g2,hg2⟩:∃ g,sgn (Q - -33554432)=g:=⟨_,rfl⟩;rw[hg1] at C1 s1;rw[hg2] at C2 s2;have hnz:(n==0)=false:=by simpa using h
  have HN:=jj hN;have HD:=jj hD;clear hg1 hg2 hQ qb mb hN hD hD1;obtain ⟨N0,N1⟩:=N0;obtain ⟨D0,D1⟩:=D0;have HM:=jj (show max sy sx=N from HN.out.symm);have HX:=jj (show max n (-n)=D from HD.out.symm);have hm:=HM.out;have hx:=HX.out
  by_cases k1:33554432<Q
  ·have e1:g1=1:=by omega
   rw[show kM Q=33554432 by unfold kM;omega];subst e1;clear s1 s2 C2 S O2 k1
   go_enter func81,ntmps81
   go_upto_region 3 with (first|(go_at_call 57;with_reducible refine jn (A.out _) fun X_=>?_))
   refine jy ?_
   repeat (go_big_quiet_step ((first|(go_at_call 113;with_reducible exact Calls.quiet_ret (SY.out _))|(go_at_call 113;with_reducible exact Calls.quiet_ret (SX.out _)))))
   refine jv fun X3=>?_
   go_wp2_with (first|(go_at_call 117;with_reducible refine jn (M.out _) fun X_=>?_)|(go_at_call 116;with_reducible refine jn (DV.out _) fun X_=>?_))
   refine jm 4 ?_;simp only[jx]
   repeat (go_big_quiet_step ((first|(go_at_call 56;with_reducible exact Calls.quiet_ret (OF.out _))|(go_at_call 118;with_reducible exact Calls.quiet_ret (B.out _)))))
   refine jv fun X4=>?_
   go_wp2;refine jy ?_
   repeat (go_big_quiet_step ((first|(go_at_call 56;with_reducible exact Calls.quiet_ret (O1.out _))|(go_at_call 119;with_reducible exact Calls.quiet_ret (C1.out _)))))
   refine jv fun X5=>?_
   go_wp2;go_ret;exact Ret.of (by exact bl_)
  ·have l1:g1<=0:=by omega
   by_cases k2:Q < -33554432
   ·have e2:g2=-1:=by omega
    rw[show kM Q=-33554432 by unfold kM;omega];subst e2;clear s1 s2 S k1 k2
    go_enter func81,ntmps81
    go_upto_region 3 with (first|(go_at_call 57;with_reducible refine jn (A.out _) fun X_=>?_))
    refine jy ?_
    repeat (go_big_quiet_step ((first|(go_at_call 113;with_reducible exact Calls.quiet_ret (SY.out _))|(go_at_call 113;with_reducible exact Calls.quiet_ret (SX.out _)))))
    refine jv fun X3=>?_
    go_wp2_with (first|(go_at_call 117;with_reducible refine jn (M.out _) fun X_=>?_)|(go_at_call 116;with_reducible refine jn (DV.out _) fun X_=>?_))
    refine jm 4 ?_;simp only[jx]
    repeat (go_big_quiet_step ((first|(go_at_call 56;with_reducible exact Calls.quiet_ret (OF.out _))|(go_at_call 118;with_reducible exact Calls.quiet_ret (B.out _)))))
    refine jv fun X4=>?_
    go_wp2;refine jy ?_
    repeat (go_big_quiet_step ((first|(go_at_call 56;with_reducible exact Calls.quiet_ret (O1.out _))|(go_at_call 119;with_reducible exact Calls.quiet_ret (C1.out _)))))
    refine jv fun X5=>?_
    go_wp2;refine jy ?_
    repeat (go_big_quiet_step ((first|(go_at_call 56;with_reducible exact Calls.quiet_ret (O2.out _))|(go_at_call 119;with_reducible exact Calls.quiet_ret (C2.out _)))))
    refine jv fun X6=>?_
    go_wp2;go_ret;exact Ret.of (by exact bl_)
   ·have l2:0<=g2:=by omega
    rw[iK (by unfold sml;omega)] at S;rw[show kM Q=Q by unfold kM;omega];clear s1 s2 k1 k2
    go_enter func81,ntmps81
    go_upto_region 3 with (first|(go_at_call 57;with_reducible refine jn (A.out _) fun X_=>?_))
    refine jy ?_
    repeat (go_big_quiet_step ((first|(go_at_call 113;with_reducible exact Calls.quiet_ret (SY.out _))|(go_at_call 113;with_reducible exact Calls.quiet_ret (SX.out _)))))
    refine jv fun X3=>?_
    go_wp2_with (first|(go_at_call 117;with_reducible refine jn (M.out _) fun X_=>?_)|(go_at_call 116;with_reducible refine jn (DV.out _) fun X_=>?_))
    refine jm 4 ?_;simp only[jx]
    repeat (go_big_quiet_step ((first|(go_at_call 56;with_reducible exact Calls.quiet_ret (OF.out _))|(go_at_call 118;with_reducible exact Calls.quiet_ret (B.out _)))))
    refine jv fun X4=>?_
    go_wp2;refine jy ?_
    repeat (go_big_quiet_step ((first|(go_at_call 56;with_reducible exact Calls.quiet_ret (O1.out _))|(go_at_call 119;with_reducible exact Calls.quiet_ret (C1.out _)))))
    refine jv fun X5=>?_
    go_wp2;refine jy ?_
    repeat (go_big_quiet_step ((first|(go_at_call 56;with_reducible exact Calls.quiet_ret (O2.out _))|(go_at_call 119;with_reducible exact Calls.quiet_ret (C2.out _)))))
    refine jv fun X6=>?_
    go_wp2_with (first|(go_at_call 120;with_reducible refine jn (S.out _) fun X_=>?_))
    go_ret;exact Ret.of (by exact bl_)
end
end
end Go.Proofs.YthcjfanigfgckaaGreat
