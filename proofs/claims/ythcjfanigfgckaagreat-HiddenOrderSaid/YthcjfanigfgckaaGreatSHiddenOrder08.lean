import Derived.Test.YthcjfanigfgckaaGreatSHiddenOrder07
set_option linter.unusedVariables false
set_option linter.unusedSimpArgs false
set_option maxRecDepth 100000
set_option maxHeartbeats 16000000
namespace Go.Proofs.YthcjfanigfgckaaGreat
open Go.RowKit
section
section
attribute [local go_sem ↓] Go.wp_at_zero Go.wp_at_succ
theorem triB_fits {a b c:WinP} (hb:b.fits) (hc:c.fits):(triB a b c).fits/\(triC a b c).fits:=by
 rcases tri_or a b c with ⟨e1,e2⟩|⟨e1,e2⟩<;>rw[e1,e2]<;>exact ⟨by assumption,by assumption⟩
theorem tri_pos {a b c:WinP} (ha:a.fits) (hb:b.fits) (hc:c.fits) (h:ar a b c≠0):1<=triN a b c/\triN a b c<=9223372036854775807:=by
 have:=(nigh3 ha hb hc).ar;unfold triN;split<;>omega
theorem offy_any (a:WinP) (w:World):Calls Tryz.prog 114 #[a.v] w (Ret (.int .i64 a.y) w):=by
 go_enter Tryz.func114,Tryz.ntmps114
 go_wp2;go_ret;exact Ret.of (by exact bl_)
theorem offx_any (a:WinP) (w:World):Calls Tryz.prog 115 #[a.v] w (Ret (.int .i64 a.x) w):=by
 go_enter Tryz.func115,Tryz.ntmps115
 go_wp2;go_ret;exact Ret.of (by exact bl_)
theorem bare_max (n:Int):max n (-n)=bareI n:=by unfold bareI;split<;>omega
theorem z_mul {z d:Int} (h0:0<=z) (h1:z<=16777215) (d0:-536870912<=d) (d1:d<=536870912):-9007198717870080<=z*d/\z*d<=9007198717870080:=by
 have:=mul_bds (U:=16777215) (V:=536870912) (by omega) (by omega) (show -16777215<=z by omega) h1 d0 d1;omega
theorem steepy_any (p q r:WinP) (hp:p.fits) (hq:q.fits) (hr:r.fits) (w:World) :
  Calls Tryz.prog 113 #[p.v,q.v,r.v,.func (.func 114) #[] #[]] w (Ret (.int .i64 (bareI (stU p q r))) w):=by
 obtain ⟨-,-,p0,p1,pz0,pz1,-⟩:=hp;obtain ⟨-,-,q0,q1,qz0,qz1,-⟩:=hq;obtain ⟨-,-,r0,r1,rz0,rz1,-⟩:=hr;have m1:=z_mul pz0 pz1 (d:=q.y-r.y) (by omega) (by omega);have m2:=z_mul qz0 qz1 (d:=r.y-p.y) (by omega) (by omega);have m3:=z_mul rz0 rz1 (d:=p.y-q.y) (by omega) (by omega);unfold stU;rw[<-bare_max];have d1:IntKind.i64.wrap (q.y-r.y)=q.y-r.y:=IntWalk.i64_in _ (by omega);have d2:IntKind.i64.wrap (r.y-p.y)=r.y-p.y:=IntWalk.i64_in _ (by omega);have d3:IntKind.i64.wrap (p.y-q.y)=p.y-q.y:=IntWalk.i64_in _ (by omega);have k1:IntKind.i64.wrap (p.z*(q.y-r.y))=p.z*(q.y-r.y):=IntWalk.i64_in _ (by omega);have k2:IntKind.i64.wrap (q.z*(r.y-p.y))=q.z*(r.y-p.y):=IntWalk.i64_in _ (by omega);have k3:IntKind.i64.wrap (r.z*(p.y-q.y))=r.z*(p.y-q.y):=IntWalk.i64_in _ (by omega);have k4:IntKind.i64.wrap (p.z*(q.y-r.y)+q.z*(r.y-p.y))=p.z*(q.y-r.y)+q.z*(r.y-p.y):=IntWalk.i64_in _ (by omega);have k5:IntKind.i64.wrap (p.z*(q.y-r.y)+q.z*(r.y-p.y)+r.z*(p.y-q.y))=p.z*(q.y-r.y)+q.z*(r.y-p.y)+r.z*(p.y-q.y):=IntWalk.i64_in _ (by omega);have k6:IntKind.i64.wrap (-(p.z*(q.y-r.y)+q.z*(r.y-p.y)+r.z*(p.y-q.y)))=-(p.z*(q.y-r.y)+q.z*(r.y-p.y)+r.z*(p.y-q.y)):=IntWalk.i64_in _ (by omega);have C:=jj (fun a w=>offy_any a w);clear m1 m2 m3 p0 p1 q0 q1 r0 r1 pz0 pz1 qz0 qz1 rz0 rz1
 go_enter Tryz.func113,Tryz.ntmps113
 go_wp2;refine wp_region_ext (by kernel_rfl) (by kernel_rfl) ?_
 repeat (go_big_quiet_step (((go_at_call 114;with_reducible exact Calls.quiet_ret (C.out _ _)))))
 refine wpQuiet_nil ?_;intro _ hw_ext;obtain ⟨X,hw_ext⟩:=hw_ext;subst hw_ext;go_wp2;go_ret;exact Ret.of (by exact bl_)
theorem steepx_any (p q r:WinP) (hp:p.fits) (hq:q.fits) (hr:r.fits) (w:World) :
  Calls Tryz.prog 113 #[p.v,q.v,r.v,.func (.func 115) #[] #[]] w (Ret (.int .i64 (bareI (stV p q r))) w):=by
 obtain ⟨p0,p1,-,-,pz0,pz1,-⟩:=hp;obtain ⟨q0,q1,-,-,qz0,qz1,-⟩:=hq;obtain ⟨r0,r1,-,-,rz0,rz1,-⟩:=hr;have m1:=z_mul pz0 pz1 (d:=q.x-r.x) (by omega) (by omega);have m2:=z_mul qz0 qz1 (d:=r.x-p.x) (by omega) (by omega);have m3:=z_mul rz0 rz1 (d:=p.x-q.x) (by omega) (by omega);unfold stV;rw[<-bare_max];have d1:IntKind.i64.wrap (q.x-r.x)=q.x-r.x:=IntWalk.i64_in _ (by omega);have d2:IntKind.i64.wrap (r.x-p.x)=r.x-p.x:=IntWalk.i64_in _ (by omega);have d3:IntKind.i64.wrap (p.x-q.x)=p.x-q.x:=IntWalk.i64_in _ (by omega);have k1:IntKind.i64.wrap (p.z*(q.x-r.x))=p.z*(q.x-r.x):=IntWalk.i64_in _ (by omega);have k2:IntKind.i64.wrap (q.z*(r.x-p.x))=q.z*(r.x-p.x):=IntWalk.i64_in _ (by omega);have k3:IntKind.i64.wrap (r.z*(p.x-q.x))=r.z*(p.x-q.x):=IntWalk.i64_in _ (by omega);have k4:IntKind.i64.wrap (p.z*(q.x-r.x)+q.z*(r.x-p.x))=p.z*(q.x-r.x)+q.z*(r.x-p.x):=IntWalk.i64_in _ (by omega);have k5:IntKind.i64.wrap (p.z*(q.x-r.x)+q.z*(r.x-p.x)+r.z*(p.x-q.x))=p.z*(q.x-r.x)+q.z*(r.x-p.x)+r.z*(p.x-q.x):=IntWalk.i64_in _ (by omega);have k6:IntKind.i64.wrap (-(p.z*(q.x-r.x)+q.z*(r.x-p.x)+r.z*(p.x-q.x)))=-(p.z*(q.x-r.x)+q.z*(r.x-p.x)+r.z*(p.x-q.x)):=IntWalk.i64_in _ (by omega);have C:=jj (fun a w=>offx_any a w);clear m1 m2 m3 p0 p1 q0 q1 r0 r1 pz0 pz1 qz0 qz1 rz0 rz1
 go_enter Tryz.func113,Tryz.ntmps113
 go_wp2;refine wp_region_ext (by kernel_rfl) (by kernel_rfl) ?_
 repeat (go_big_quiet_step (((go_at_call 115;with_reducible exact Calls.quiet_ret (C.out _ _)))))
 refine wpQuiet_nil ?_;intro _ hw_ext;obtain ⟨X,hw_ext⟩:=hw_ext;subst hw_ext;go_wp2;go_ret;exact Ret.of (by exact bl_)
end
section
theorem steep_bds {a b c:WinP} (ha:a.fits) (hb:b.fits) (hc:c.fits):(0<=bareI (stU a b c)/\bareI (stU a b c)<=27021596153610240)/\(0<=bareI (stV a b c)/\bareI (stV a b c)<=27021596153610240):=by
 obtain ⟨p0,p1,p2,p3,pz0,pz1,-⟩:=ha;obtain ⟨q0,q1,q2,q3,qz0,qz1,-⟩:=hb;obtain ⟨r0,r1,r2,r3,rz0,rz1,-⟩:=hc;have m1:=z_mul pz0 pz1 (d:=b.y-c.y) (by omega) (by omega);have m2:=z_mul qz0 qz1 (d:=c.y-a.y) (by omega) (by omega);have m3:=z_mul rz0 rz1 (d:=a.y-b.y) (by omega) (by omega);have n1:=z_mul pz0 pz1 (d:=b.x-c.x) (by omega) (by omega);have n2:=z_mul qz0 qz1 (d:=c.x-a.x) (by omega) (by omega);have n3:=z_mul rz0 rz1 (d:=a.x-b.x) (by omega) (by omega);unfold bareI stU stV;refine ⟨?_,?_⟩<;>split<;>omega
theorem offset21_any (a b c:WinP) (f u:Int) (ha:a.fits) (hb:b.fits) (hc:c.fits) (f0:-65536<=f) (f1:f<=65536) (u0:-16777216<=u) (u1:u<=16777216) (w:World) :
  Calls Tryz.prog 81 #[a.v,b.v,c.v,.int .i64 f,.int .i64 u] w (Ret (.int .i64 (offV a b c f u)) w):=by
 have A:=jj (fun w=>area_any a b c (nigh3 ha hb hc) w);have ab:=(nigh3 ha hb hc).ar;have SY:=jj (fun w=>steepy_any a b c ha hb hc w);have SX:=jj (fun w=>steepx_any a b c ha hb hc w);obtain ⟨⟨y0,y1⟩,x0,x1⟩:=steep_bds ha hb hc;unfold offV steepN;generalize bareI (stU a b c)=sy at *;generalize bareI (stV a b c)=sx at *;generalize ar a b c=n at *;obtain ⟨ab0,ab1⟩:=ab;clear ha hb hc
 by_cases h:n=0
 ·rw[if_pos h];subst h
  go_enter Tryz.func81,Tryz.ntmps81
  go_wp2_with (first|(go_at_call 57;(with_reducible refine (A.out _).mono ?_);rintro _ _ ⟨rfl,X_,rfl⟩))
  go_ret;exact Ret.of (by exact bl_)
 ·rw[if_neg h];obtain ⟨N,hN⟩:∃ N,N=max sy sx:=⟨_,rfl⟩;obtain ⟨D,hD⟩:∃ D,D=max n (-n):=⟨_,rfl⟩;have hD1:bareI n=D:=by rw[hD,bare_max]
  have N0:0<=N/\N<=27021596153610240:=by omega
  have D0:1<=D/\D<=3602880389091196928:=by omega
  have mb:=mul_bds (U:=65536) (V:=27021596153610240) (by omega) (by omega) f0 f1 (show -27021596153610240<=N by omega) N0.2;have M:=jj (fun w=>mul_any f N (by unfold sml;omega) (by unfold sml;omega) w);have DV:=jj (fun w=>div_any (f*N) D (by unfold inR;omega) D0.1 (by unfold sml;omega) w);rw[hD1,<-hN];have qb:-1770887431076116955136<=f*N/D/\f*N/D<=1770887431076116955136:=by
   have e:=Int.ediv_mul_le (f*N) (b:=D) (by omega);have l:=Int.lt_ediv_add_one_mul_self (f*N) (b:=D) (by omega);obtain ⟨Q,hQ⟩:∃ Q,f*N/D=Q:=⟨_,rfl⟩;rw[hQ] at e l ⊢
   constructor
   ·apply Int.not_lt.1;intro hl
    have:(Q+1)*D<=(Q+1)*1:=Int.mul_le_mul_of_nonpos_left (by omega) D0.1;omega
   ·apply Int.not_lt.1;intro hl
    have:Q*1<=Q*D:=Int.mul_le_mul_of_nonneg_left D0.1 (by omega);omega
  generalize f*N=fN at *;generalize fN/D=q at *;generalize fN%D=r at *;have OF:=jj (fun w=>of_any u (by unfold sml;omega) w);have B:=jj (fun w=>both21_any q u (by unfold inR;omega) (by unfold inR;omega) (by unfold inR;omega) w);have O1:=jj (fun w=>of_any 33554432 (by decide) w);have O2:=jj (fun w=>of_any (-33554432) (by decide) w);have C1:=jj (fun w=>cmp_any (q+u) 33554432 (by unfold inR;omega) (by decide) w);have C2:=jj (fun w=>cmp_any (q+u) (-33554432) (by unfold inR;omega) (by decide) w);have S:=jj (fun w=>small_any (q+u) (by unfold inR;omega) w);obtain ⟨Q,hQ⟩:∃ Q,q+u=Q:=⟨_,rfl⟩;rw[hQ] at B C1 C2 S ⊢;have s1:=sgn_01 (Q-33554432);have s2:=sgn_01 (Q - -33554432);obtain ⟨g1,hg1⟩:∃ g,sgn (Q-33554432)=g:=⟨_,rfl⟩;obtain ⟨g2,hg2⟩:∃ g,sgn (Q - -33554432)=g:=⟨_,rfl⟩;rw[hg1] at C1 s1;rw[hg2] at C2 s2;have hnz:(n==0)=false:=by simpa using h
  have HN:=jj hN;have HD:=jj hD;clear hg1 hg2 hQ qb mb hN hD hD1;obtain ⟨N0,N1⟩:=N0;obtain ⟨D0,D1⟩:=D0;have HM:=jj (show max sy sx=N from HN.out.symm);have HX:=jj (show max n (-n)=D from HD.out.symm);have hm:=HM.out;have hx:=HX.out
  by_cases k1:33554432<Q
  ·have e1:g1=1:=by omega
   rw[show clampI Q=33554432 by unfold clampI;omega];subst e1;clear s1 s2 C2 S O2 k1
   go_enter Tryz.func81,Tryz.ntmps81
   go_upto_region 3 with (first|(go_at_call 57;(with_reducible refine (A.out _).mono ?_);rintro _ _ ⟨rfl,X_,rfl⟩))
   refine wp_region_ext (by kernel_rfl) (by kernel_rfl) ?_
   repeat (go_big_quiet_step ((first|(go_at_call 113;with_reducible exact Calls.quiet_ret (SY.out _))|(go_at_call 113;with_reducible exact Calls.quiet_ret (SX.out _)))))
   refine wpQuiet_nil ?_;intro _ hw_ext;obtain ⟨X3,hw_ext⟩:=hw_ext;subst hw_ext
   go_wp2_with (first|(go_at_call 117;(with_reducible refine (M.out _).mono ?_);rintro _ _ ⟨rfl,X_,rfl⟩)|(go_at_call 116;(with_reducible refine (DV.out _).mono ?_);rintro _ _ ⟨rfl,X_,rfl⟩))
   refine wp_region_ext_tail 4 (by kernel_rfl) (by kernel_rfl) ?_;simp only[jx]
   repeat (go_big_quiet_step ((first|(go_at_call 56;with_reducible exact Calls.quiet_ret (OF.out _))|(go_at_call 118;with_reducible exact Calls.quiet_ret (B.out _)))))
   refine wpQuiet_nil ?_;intro _ hw_ext;obtain ⟨X4,hw_ext⟩:=hw_ext;subst hw_ext;go_wp2;refine wp_region_ext (by kernel_rfl) (by kernel_rfl) ?_
   repeat (go_big_quiet_step ((first|(go_at_call 56;with_reducible exact Calls.quiet_ret (O1.out _))|(go_at_call 119;with_reducible exact Calls.quiet_ret (C1.out _)))))
   refine wpQuiet_nil ?_;intro _ hw_ext;obtain ⟨X5,hw_ext⟩:=hw_ext;subst hw_ext;go_wp2;go_ret;exact Ret.of (by exact bl_)
  ·have l1:g1<=0:=by omega
   by_cases k2:Q < -33554432
   ·have e2:g2=-1:=by omega
    rw[show clampI Q=-33554432 by unfold clampI;omega];subst e2;clear s1 s2 S k1 k2
    go_enter Tryz.func81,Tryz.ntmps81
    go_upto_region 3 with (first|(go_at_call 57;(with_reducible refine (A.out _).mono ?_);rintro _ _ ⟨rfl,X_,rfl⟩))
    refine wp_region_ext (by kernel_rfl) (by kernel_rfl) ?_
    repeat (go_big_quiet_step ((first|(go_at_call 113;with_reducible exact Calls.quiet_ret (SY.out _))|(go_at_call 113;with_reducible exact Calls.quiet_ret (SX.out _)))))
    refine wpQuiet_nil ?_;intro _ hw_ext;obtain ⟨X3,hw_ext⟩:=hw_ext;subst hw_ext
    go_wp2_with (first|(go_at_call 117;(with_reducible refine (M.out _).mono ?_);rintro _ _ ⟨rfl,X_,rfl⟩)|(go_at_call 116;(with_reducible refine (DV.out _).mono ?_);rintro _ _ ⟨rfl,X_,rfl⟩))
    refine wp_region_ext_tail 4 (by kernel_rfl) (by kernel_rfl) ?_;simp only[jx]
    repeat (go_big_quiet_step ((first|(go_at_call 56;with_reducible exact Calls.quiet_ret (OF.out _))|(go_at_call 118;with_reducible exact Calls.quiet_ret (B.out _)))))
    refine wpQuiet_nil ?_;intro _ hw_ext;obtain ⟨X4,hw_ext⟩:=hw_ext;subst hw_ext;go_wp2;refine wp_region_ext (by kernel_rfl) (by kernel_rfl) ?_
    repeat (go_big_quiet_step ((first|(go_at_call 56;with_reducible exact Calls.quiet_ret (O1.out _))|(go_at_call 119;with_reducible exact Calls.quiet_ret (C1.out _)))))
    refine wpQuiet_nil ?_;intro _ hw_ext;obtain ⟨X5,hw_ext⟩:=hw_ext;subst hw_ext;go_wp2;refine wp_region_ext (by kernel_rfl) (by kernel_rfl) ?_
    repeat (go_big_quiet_step ((first|(go_at_call 56;with_reducible exact Calls.quiet_ret (O2.out _))|(go_at_call 119;with_reducible exact Calls.quiet_ret (C2.out _)))))
    refine wpQuiet_nil ?_;intro _ hw_ext;obtain ⟨X6,hw_ext⟩:=hw_ext;subst hw_ext;go_wp2;go_ret;exact Ret.of (by exact bl_)
   ·have l2:0<=g2:=by omega
    rw[smlV_yes (by unfold sml;omega)] at S;rw[show clampI Q=Q by unfold clampI;omega];clear s1 s2 k1 k2
    go_enter Tryz.func81,Tryz.ntmps81
    go_upto_region 3 with (first|(go_at_call 57;(with_reducible refine (A.out _).mono ?_);rintro _ _ ⟨rfl,X_,rfl⟩))
    refine wp_region_ext (by kernel_rfl) (by kernel_rfl) ?_
    repeat (go_big_quiet_step ((first|(go_at_call 113;with_reducible exact Calls.quiet_ret (SY.out _))|(go_at_call 113;with_reducible exact Calls.quiet_ret (SX.out _)))))
    refine wpQuiet_nil ?_;intro _ hw_ext;obtain ⟨X3,hw_ext⟩:=hw_ext;subst hw_ext
    go_wp2_with (first|(go_at_call 117;(with_reducible refine (M.out _).mono ?_);rintro _ _ ⟨rfl,X_,rfl⟩)|(go_at_call 116;(with_reducible refine (DV.out _).mono ?_);rintro _ _ ⟨rfl,X_,rfl⟩))
    refine wp_region_ext_tail 4 (by kernel_rfl) (by kernel_rfl) ?_;simp only[jx]
    repeat (go_big_quiet_step ((first|(go_at_call 56;with_reducible exact Calls.quiet_ret (OF.out _))|(go_at_call 118;with_reducible exact Calls.quiet_ret (B.out _)))))
    refine wpQuiet_nil ?_;intro _ hw_ext;obtain ⟨X4,hw_ext⟩:=hw_ext;subst hw_ext;go_wp2;refine wp_region_ext (by kernel_rfl) (by kernel_rfl) ?_
    repeat (go_big_quiet_step ((first|(go_at_call 56;with_reducible exact Calls.quiet_ret (O1.out _))|(go_at_call 119;with_reducible exact Calls.quiet_ret (C1.out _)))))
    refine wpQuiet_nil ?_;intro _ hw_ext;obtain ⟨X5,hw_ext⟩:=hw_ext;subst hw_ext;go_wp2;refine wp_region_ext (by kernel_rfl) (by kernel_rfl) ?_
    repeat (go_big_quiet_step ((first|(go_at_call 56;with_reducible exact Calls.quiet_ret (O2.out _))|(go_at_call 119;with_reducible exact Calls.quiet_ret (C2.out _)))))
    refine wpQuiet_nil ?_;intro _ hw_ext;obtain ⟨X6,hw_ext⟩:=hw_ext;subst hw_ext
    go_wp2_with (first|(go_at_call 120;(with_reducible refine (S.out _).mono ?_);rintro _ _ ⟨rfl,X_,rfl⟩))
    go_ret;exact Ret.of (by exact bl_)
end
end
end Go.Proofs.YthcjfanigfgckaaGreat
