import Derived.Test.YthcjfanigfgckaaGreatSHiddenOrder04
import Derived.Test.YthcjfanigfgckaaGreatSHiddenOrder06
set_option linter.unusedVariables false
set_option linter.unusedSimpArgs false
set_option maxRecDepth 100000
set_option maxHeartbeats 16000000
namespace Go.Proofs.YthcjfanigfgckaaGreat
open Go.RowKit
section
section
def ar (a b c:WinP):Int:=(b.x-a.x)*(c.y-a.y)-(b.y-a.y)*(c.x-a.x)
abbrev midP (x y:Int):WinP:=⟨x*256+128,y*256+128,0,0,0,0,0⟩
theorem ar_turn (a b c:WinP):ar b c a=ar a b c:=by unfold ar;grind
theorem ar_swap (a b c:WinP):ar a c b=- ar a b c:=by unfold ar;grind
theorem ar_sum (a b c p:WinP):ar p b c+ar a p c+ar a b p=ar a b c:=by unfold ar;grind
def leftP (p q:WinP) (x y:Int):Prop:=0<ar p q (midP x y)\/(ar p q (midP x y)=0/\(q.y<p.y\/q.y=p.y/\q.x<p.x))
instance (p q : WinP) (x y : Int) : Decidable (leftP p q x y) := by unfold leftP; exact inferInstance
def triB (a b c:WinP):WinP:=if ar a b c<0 then c else b
def triC (a b c:WinP):WinP:=if ar a b c<0 then b else c
def triN (a b c:WinP):Int:=if ar a b c<0 then-ar a b c else ar a b c
theorem tri_n (a b c:WinP):ar a (triB a b c) (triC a b c)=triN a b c:=by
 unfold triB triC triN;split
 ·exact ar_swap a b c
 ·rfl
theorem tri_n0 (a b c:WinP):0<=triN a b c/\(triN a b c=0↔ar a b c=0):=by
 unfold triN;split<;>omega
theorem tri_or (a b c:WinP):(triB a b c=b/\triC a b c=c)\/(triB a b c=c/\triC a b c=b):=by
 unfold triB triC;split
 ·exact .inr ⟨rfl,rfl⟩
 ·exact .inl ⟨rfl,rfl⟩
def triHas (a b c:WinP) (x y:Int):Prop:=ar a b c≠0/\leftP a (triB a b c) x y/\leftP (triB a b c) (triC a b c) x y/\leftP (triC a b c) a x y
instance (a b c : WinP) (x y : Int) : Decidable (triHas a b c x y) := by unfold triHas; exact inferInstance
def sW (a b c:WinP) (x y:Int) (va vb vc:Int):Int:=ar (midP x y) b c*va+ar a (midP x y) c*vb+ar a b (midP x y)*vc
def qV (s n:Int):Int:=if n<0 then (-s)/(-n) else s/n
def atV (a b c:WinP) (x y:Int) (v:WinP->Int):Int:=qV (sW a b c x y (v a) (v b) (v c)) (ar a b c)
theorem sW_swap (a b c:WinP) (x y va vb vc:Int):sW a c b x y va vc vb=- sW a b c x y va vb vc:=by
 unfold sW;rw[ar_swap (midP x y) b c,ar_swap a b (midP x y),ar_swap a (midP x y) c,Int.neg_mul,Int.neg_mul,Int.neg_mul];omega
theorem qV_neg (s n:Int) (h:n≠0):qV (-s) (-n)=qV s n:=by
 unfold qV
 by_cases c:n<0
 ·rw[if_neg (by omega),if_pos c]
 ·rw[if_pos (by omega),if_neg c,Int.neg_neg,Int.neg_neg]
theorem atV_swap (a b c:WinP) (x y:Int) (v:WinP->Int) (h:ar a b c≠0):atV a c b x y v=atV a b c x y v:=by
 unfold atV;rw[sW_swap,ar_swap,qV_neg _ _ h]
theorem atV_face (a b c:WinP) (x y:Int) (v:WinP->Int) (h:ar a b c≠0) :
  atV a b c x y v=sW a (triB a b c) (triC a b c) x y (v a) (v (triB a b c)) (v (triC a b c))/triN a b c:=by
 unfold triB triC triN
 split
 ·next hn=>rw[<-atV_swap a b c x y v h];unfold atV qV;rw[ar_swap,if_neg (by omega)]
 ·next hn=>unfold atV qV;rw[if_neg hn]
theorem left_ar {p q:WinP} {x y:Int} (h:leftP p q x y):0<=ar p q (midP x y):=by
 rcases h with h|h<;>omega
theorem mix_among {u v w n p q r lo hi:Int} (hu:0<=u) (hv:0<=v) (hw:0<=w) (hn:u+v+w=n) (n0:0<n) (p0:lo<=p) (p1:p<=hi) (q0:lo<=q) (q1:q<=hi) (r0:lo<=r) (r1:r<=hi) :
  lo<=(u*p+v*q+w*r)/n/\(u*p+v*q+w*r)/n<=hi:=by
 have a1:=Int.mul_le_mul_of_nonneg_left p0 hu;have a2:=Int.mul_le_mul_of_nonneg_left q0 hv;have a3:=Int.mul_le_mul_of_nonneg_left r0 hw;have b1:=Int.mul_le_mul_of_nonneg_left p1 hu;have b2:=Int.mul_le_mul_of_nonneg_left q1 hv;have b3:=Int.mul_le_mul_of_nonneg_left r1 hw;have e1:lo*n=u*lo+v*lo+w*lo:=by rw[<-hn];grind
 have e2:hi*n=u*hi+v*hi+w*hi:=by rw[<-hn];grind
 refine ⟨(Int.le_ediv_iff_mul_le n0).2 (by omega),?_⟩;refine Int.le_trans (Int.ediv_le_ediv n0 (show _<=hi*n by omega)) ?_;rw[Int.mul_ediv_cancel _ (by omega)];exact Int.le_refl _
theorem has_weights {a b c:WinP} {x y:Int} (h:triHas a b c x y):0<=ar (midP x y) (triB a b c) (triC a b c)/\0<=ar a (midP x y) (triC a b c)/\0<=ar a (triB a b c) (midP x y):=by
 obtain ⟨-,h1,h2,h3⟩:=h;refine ⟨?_,?_,left_ar h1⟩
 ·have:=left_ar h2;rw[<-ar_turn (midP x y)];exact this
 ·have:=left_ar h3;have e:ar (triC a b c) a (midP x y)=ar a (midP x y) (triC a b c):=(ar_turn _ _ _).symm;omega
theorem atV_among {a b c:WinP} {x y:Int} (h:triHas a b c x y) (v:WinP->Int):min (min (v a) (v b)) (v c)<=atV a b c x y v/\atV a b c x y v<=max (max (v a) (v b)) (v c):=by
 obtain ⟨w0,w1,w2⟩:=has_weights h;have hs:=ar_sum a (triB a b c) (triC a b c) (midP x y);rw[tri_n] at hs;have hn:=tri_n0 a b c;have h0:=h.1;rw[atV_face a b c x y v h.1];unfold sW;rcases tri_or a b c with ⟨e1,e2⟩|⟨e1,e2⟩<;>(simp only[e1,e2] at w0 w1 w2 hs ⊢;exact mix_among w0 w1 w2 hs (by omega) (by omega) (by omega) (by omega) (by omega) (by omega) (by omega))
def bareI (n:Int):Int:=if n<0 then -n else n
def stU (a b c:WinP):Int:=a.z*(b.y-c.y)+b.z*(c.y-a.y)+c.z*(a.y-b.y)
def stV (a b c:WinP):Int:=a.z*(b.x-c.x)+b.z*(c.x-a.x)+c.z*(a.x-b.x)
def steepN (a b c:WinP):Int:=max (bareI (stU a b c)) (bareI (stV a b c))
def clampI (n:Int):Int:=max (-33554432) (min n 33554432)
def offV (a b c:WinP) (f u:Int):Int:=if ar a b c=0 then u else clampI (f*steepN a b c/bareI (ar a b c)+u)
end
section
structure Nigh (a b c:WinP):Prop where
 bx:-1342177408<=b.x-a.x/\b.x-a.x<=1342177408
 yb:-1342177408<=b.y-a.y/\b.y-a.y<=1342177408
 cx:-1342177408<=c.x-a.x/\c.x-a.x<=1342177408
 cy:-1342177408<=c.y-a.y/\c.y-a.y<=1342177408
theorem Nigh.ar {a b c:WinP} (h:Nigh a b c):-3602880389091196928<=YthcjfanigfgckaaGreat.ar a b c/\YthcjfanigfgckaaGreat.ar a b c<=3602880389091196928:=by
 obtain ⟨⟨h1,h2⟩,⟨h3,h4⟩,⟨h5,h6⟩,h7,h8⟩:=h;have m1:=mul_bds (U:=1342177408) (V:=1342177408) (by omega) (by omega) h1 h2 h7 h8;have m2:=mul_bds (U:=1342177408) (V:=1342177408) (by omega) (by omega) h3 h4 h5 h6;unfold YthcjfanigfgckaaGreat.ar;omega
theorem area_any (a b c:WinP) (h:Nigh a b c) (w:World):Calls Tryz.prog 57 #[a.v,b.v,c.v] w (Ret (.int .i64 (ar a b c)) w):=by
 obtain ⟨⟨h1,h2⟩,⟨h3,h4⟩,⟨h5,h6⟩,h7,h8⟩:=h;unfold ar;obtain ⟨p,hp⟩:∃ p,b.x-a.x=p:=⟨_,rfl⟩;obtain ⟨q,hq⟩:∃ p,b.y-a.y=p:=⟨_,rfl⟩;obtain ⟨r,hr⟩:∃ p,c.x-a.x=p:=⟨_,rfl⟩;obtain ⟨s,hs⟩:∃ p,c.y-a.y=p:=⟨_,rfl⟩;simp only[hp,hq,hr,hs] at h1 h2 h3 h4 h5 h6 h7 h8 ⊢;have k1:IntKind.i64.wrap (b.x-a.x)=p:=by rw[hp];exact IntWalk.i64_in _ (by omega)
 have k2:IntKind.i64.wrap (b.y-a.y)=q:=by rw[hq];exact IntWalk.i64_in _ (by omega)
 have k3:IntKind.i64.wrap (c.x-a.x)=r:=by rw[hr];exact IntWalk.i64_in _ (by omega)
 have k4:IntKind.i64.wrap (c.y-a.y)=s:=by rw[hs];exact IntWalk.i64_in _ (by omega)
 have m1:=mul_bds (U:=1342177408) (V:=1342177408) (by omega) (by omega) h1 h2 h7 h8;have m2:=mul_bds (U:=1342177408) (V:=1342177408) (by omega) (by omega) h3 h4 h5 h6;have k5:IntKind.i64.wrap (p*s)=p*s:=IntWalk.i64_in _ (by omega);have k6:IntKind.i64.wrap (q*r)=q*r:=IntWalk.i64_in _ (by omega);have k7:IntKind.i64.wrap (p*s-q*r)=p*s-q*r:=IntWalk.i64_in _ (by omega);clear m1 m2 hp hq hr hs h1 h2 h3 h4 h5 h6 h7 h8
 go_enter Tryz.func57,Tryz.ntmps57
 go_wp2;go_ret;exact Ret.of (by exact bl_)
theorem nigh3 {a b c:WinP} (ha:a.fits) (hb:b.fits) (hc:c.fits):Nigh a b c:=by
 obtain ⟨a0,a1,a2,a3,-,-,-⟩:=ha;obtain ⟨b0,b1,b2,b3,-,-,-⟩:=hb;obtain ⟨c0,c1,c2,c3,-,-,-⟩:=hc
 constructor<;>omega
theorem nigh1 {b c:WinP} {x y:Int} (hb:b.fits) (hc:c.fits) (h:Near x y):Nigh (midP x y) b c:=by
 obtain ⟨a0,a1,a2,a3⟩:=h;obtain ⟨b0,b1,b2,b3,-,-,-⟩:=hb;obtain ⟨c0,c1,c2,c3,-,-,-⟩:=hc
 constructor<;>(first|omega|(simp only[midP];omega))
theorem nigh2 {b c:WinP} {x y:Int} (hb:b.fits) (hc:c.fits) (h:Near x y):Nigh b (midP x y) c:=by
 obtain ⟨a0,a1,a2,a3⟩:=h;obtain ⟨b0,b1,b2,b3,-,-,-⟩:=hb;obtain ⟨c0,c1,c2,c3,-,-,-⟩:=hc
 constructor<;>(first|omega|(simp only[midP];omega))
theorem nigh3m {b c:WinP} {x y:Int} (hb:b.fits) (hc:c.fits) (h:Near x y):Nigh b c (midP x y):=by
 obtain ⟨a0,a1,a2,a3⟩:=h;obtain ⟨b0,b1,b2,b3,-,-,-⟩:=hb;obtain ⟨c0,c1,c2,c3,-,-,-⟩:=hc
 constructor<;>(first|omega|(simp only[midP];omega))
end
section
abbrev faceV (a b c:WinP) (n:Int):Value:=.agg #[.int .i64 a.x,.int .i64 a.y,.int .i64 a.z,.int .i64 a.c0,.int .i64 a.c1,.int .i64 a.c2,.int .i64 a.c3,.int .i64 b.x,.int .i64 b.y,.int .i64 b.z,.int .i64 b.c0,.int .i64 b.c1,.int .i64 b.c2,.int .i64 b.c3,.int .i64 c.x,.int .i64 c.y,.int .i64 c.z,.int .i64 c.c0,.int .i64 c.c1,.int .i64 c.c2,.int .i64 c.c3,.int .i64 n]
def bldT3 (parts:Array (Nat×Value)):Sem Value:=Instr.build 160 parts
@[go_sem ↓] theorem bldT3_pre (parts:Array (Nat×Value)):Instr.build 160 parts=bldT3 parts:=rfl
@[go_sem] theorem bldT3_run (a0 a1 a2 a3 a4 a5 a6 b0 b1 b2 b3 b4 b5 b6 c0 c1 c2 c3 c4 c5 c6:Int) (w:World):(bldT3 #[(0,.agg #[.int .i64 a0,.int .i64 a1,.int .i64 a2,.int .i64 a3,.int .i64 a4,.int .i64 a5,.int .i64 a6]),(1,.agg #[.int .i64 b0,.int .i64 b1,.int .i64 b2,.int .i64 b3,.int .i64 b4,.int .i64 b5,.int .i64 b6]),(2,.agg #[.int .i64 c0,.int .i64 c1,.int .i64 c2,.int .i64 c3,.int .i64 c4,.int .i64 c5,.int .i64 c6])]).run Tryz.prog w=.ok (.agg #[.int .i64 a0,.int .i64 a1,.int .i64 a2,.int .i64 a3,.int .i64 a4,.int .i64 a5,.int .i64 a6,.int .i64 b0,.int .i64 b1,.int .i64 b2,.int .i64 b3,.int .i64 b4,.int .i64 b5,.int .i64 b6,.int .i64 c0,.int .i64 c1,.int .i64 c2,.int .i64 c3,.int .i64 c4,.int .i64 c5,.int .i64 c6]) w :=
 run_build w _ _ _ (by kernel_rfl)
def bldFa (parts:Array (Nat×Value)):Sem Value:=Instr.build 162 parts
@[go_sem ↓] theorem bldFa_pre (parts:Array (Nat×Value)):Instr.build 162 parts=bldFa parts:=rfl
@[go_sem] theorem bldFa_run (a0 a1 a2 a3 a4 a5 a6 b0 b1 b2 b3 b4 b5 b6 c0 c1 c2 c3 c4 c5 c6 n:Int) (w:World):(bldFa #[(0,.agg #[.int .i64 a0,.int .i64 a1,.int .i64 a2,.int .i64 a3,.int .i64 a4,.int .i64 a5,.int .i64 a6,.int .i64 b0,.int .i64 b1,.int .i64 b2,.int .i64 b3,.int .i64 b4,.int .i64 b5,.int .i64 b6,.int .i64 c0,.int .i64 c1,.int .i64 c2,.int .i64 c3,.int .i64 c4,.int .i64 c5,.int .i64 c6]),(1,.int .i64 n)]).run Tryz.prog w=.ok (.agg #[.int .i64 a0,.int .i64 a1,.int .i64 a2,.int .i64 a3,.int .i64 a4,.int .i64 a5,.int .i64 a6,.int .i64 b0,.int .i64 b1,.int .i64 b2,.int .i64 b3,.int .i64 b4,.int .i64 b5,.int .i64 b6,.int .i64 c0,.int .i64 c1,.int .i64 c2,.int .i64 c3,.int .i64 c4,.int .i64 c5,.int .i64 c6,.int .i64 n]) w :=
 run_build w _ _ _ (by kernel_rfl)
theorem newFace_any (a b c:WinP) (h:Nigh a b c) (w:World):Calls Tryz.prog 122 #[a.v,b.v,c.v] w (Ret (faceV a (triB a b c) (triC a b c) (triN a b c)) w):=by
 have A:=jj (fun w=>area_any a b c h w);have hb:=h.ar;obtain ⟨n,hn⟩:∃ n,ar a b c=n:=⟨_,rfl⟩;unfold triB triC triN;rw[hn] at A hb ⊢;clear hn h;obtain ⟨hb0,hb1⟩:=hb
 by_cases c0:n<0
 ·simp only[if_pos c0]
  go_enter Tryz.func122,Tryz.ntmps122
  go_wp2_with (first|(go_at_call 57;(with_reducible refine (A.out _).mono ?_);rintro _ _ ⟨rfl,X_,rfl⟩))
  refine bodyPost_ret (v:=faceV a c b (-n)) (results_big (k:=22) rfl rfl (by go_simp) rfl (by decide) (by kernel_rfl) (by kernel_rfl)) rfl (Ret.of (by exact bl_))
 ·simp only[if_neg c0]
  go_enter Tryz.func122,Tryz.ntmps122
  go_wp2_with (first|(go_at_call 57;(with_reducible refine (A.out _).mono ?_);rintro _ _ ⟨rfl,X_,rfl⟩))
  refine bodyPost_ret (v:=faceV a b c n) (results_big (k:=22) rfl rfl (by go_simp) rfl (by decide) (by kernel_rfl) (by kernel_rfl)) rfl (Ret.of (by exact bl_))
abbrev A3 (u v t:Int):Value:=.agg #[.int .i64 u,.int .i64 v,.int .i64 t]
theorem weights_any (a b c:WinP) (n x y:Int) (ha:a.fits) (hb:b.fits) (hc:c.fits) (hx:Near x y) (w:World) :
  Calls Tryz.prog 217 #[faceV a b c n,.int .i64 x,.int .i64 y] w (Ret (A3 (ar (midP x y) b c) (ar a (midP x y) c) (ar a b (midP x y))) w):=by
 have A1:=jj (fun w=>area_any (midP x y) b c (nigh1 hb hc hx) w);have A2:=jj (fun w=>area_any a (midP x y) c (nigh2 ha hc hx) w);have A4:=jj (fun w=>area_any a b (midP x y) (nigh3m ha hb hx) w);generalize ar (midP x y) b c=u at *;generalize ar a (midP x y) c=v at *;generalize ar a b (midP x y)=t at *;obtain ⟨x0,x1,y0,y1⟩:=hx;simp only[midP] at A1 A2 A4;clear ha hb hc
 go_enter Tryz.func217,Tryz.ntmps217
 go_wp2;refine wp_region_ext_tail 25 (by kernel_rfl) (by kernel_rfl) ?_;simp only[jx]
 repeat (go_big_quiet_step ((first|(go_at_call 57;with_reducible exact Calls.quiet_ret (A1.out _))|(go_at_call 57;with_reducible exact Calls.quiet_ret (A2.out _))|(go_at_call 57;with_reducible exact Calls.quiet_ret (A4.out _)))))
 refine wpQuiet_nil ?_;intro _ hw_ext;obtain ⟨X,hw_ext⟩:=hw_ext;subst hw_ext;go_wp2;refine bodyPost_ret (v:=A3 u v t) (by simp[results,Tryz.results217,go_sem]) rfl (Ret.of (by exact bl_))
end
section
attribute [local go_sem ↓] Go.wp_at_zero Go.wp_at_succ
theorem both21_any (x y:Int) (hx:inR x) (hy:inR y) (h:inR (x+y)) (w:World):Calls Tryz.prog 118 #[I2 x,I2 y] w (Ret (I2 (x+y)) w):=by
 have A:=jj (fun w=>add_any x y hx hy w);unfold I2b at A;rw[lim_yes h] at A
 go_enter Tryz.func118,Tryz.ntmps118
 go_wp2_with (first|(go_at_call 55;(with_reducible refine (A.out _).mono ?_);rintro _ _ ⟨rfl,X_,rfl⟩))
 refine bodyPost_ret (v:=I2 (x+y)) (by simp[results,Tryz.results118,go_sem]) rfl (Ret.of (by exact bl_))
def sml25 (z:Int):Prop:=-16777216<=z/\z<=16777216
theorem prod_88 {u v:Int} (hu:sml u) (hv:sml25 v):-154742504910672534362390528<=u*v/\u*v<=154742504910672534362390528:=by
 obtain ⟨u0,u1⟩:=hu;obtain ⟨v0,v1⟩:=hv;have:=mul_bds (U:=9223372036854775808) (V:=16777216) (by omega) (by omega) (by omega) (by omega) v0 v1;omega
def dot3 (u v t p q r:Int):Int:=u*p+v*q+t*r
theorem dot3_88 {u v t p q r:Int} (hu:sml u) (hv:sml v) (ht:sml t) (hp:sml25 p) (hq:sml25 q) (hr:sml25 r):-464227514732017603087171584<=dot3 u v t p q r/\dot3 u v t p q r<=464227514732017603087171584:=by
 have a:=prod_88 hu hp;have b:=prod_88 hv hq;have c:=prod_88 ht hr;unfold dot3;omega
theorem three_any (u v t p q r:Int) (hu:sml u) (hv:sml v) (ht:sml t) (hp:sml25 p) (hq:sml25 q) (hr:sml25 r) (w:World) :
  Calls Tryz.prog 218 #[A3 u v t,A3 p q r] w (Ret (I2 (dot3 u v t p q r)) w):=by
 have a:=prod_88 hu hp;have b:=prod_88 hv hq;have c:=prod_88 ht hr;have P1:=jj (fun w=>mul_any u p hu (by unfold sml25 at hp;unfold sml;omega) w);have P2:=jj (fun w=>mul_any v q hv (by unfold sml25 at hq;unfold sml;omega) w);have P3:=jj (fun w=>mul_any t r ht (by unfold sml25 at hr;unfold sml;omega) w);unfold dot3;generalize u*p=x at *;generalize v*q=y at *;generalize t*r=z at *;have B1:=jj (fun w=>both21_any x y (by unfold inR;omega) (by unfold inR;omega) (by unfold inR;omega) w);have B2:=jj (fun w=>both21_any (x+y) z (by unfold inR;omega) (by unfold inR;omega) (by unfold inR;omega) w);clear a b c hu hv ht hp hq hr
 go_enter Tryz.func218,Tryz.ntmps218
 go_wp2;refine wp_region_ext_tail 17 (by kernel_rfl) (by kernel_rfl) ?_;simp only[jx]
 repeat (go_big_quiet_step ((first|(go_at_call 117;with_reducible exact Calls.quiet_ret (P1.out _))|(go_at_call 117;with_reducible exact Calls.quiet_ret (P2.out _))|(go_at_call 117;with_reducible exact Calls.quiet_ret (P3.out _))|(go_at_call 118;with_reducible exact Calls.quiet_ret (B1.out _))|(go_at_call 118;with_reducible exact Calls.quiet_ret (B2.out _)))))
 refine wpQuiet_nil ?_;intro _ hw_ext;obtain ⟨X,hw_ext⟩:=hw_ext;subst hw_ext;go_wp2;refine bodyPost_ret (v:=I2 (x+y+z)) (by simp[results,Tryz.results218,go_sem]) rfl (Ret.of (by exact bl_))
structure PlP where
 at_:Int
 right:Int
 up:Int
 area:Int
abbrev PlP.v (p:PlP):Value:=.agg #[.int .i64 (hiN p.at_),.int .u64 (loN p.at_),.int .i64 (hiN p.right),.int .u64 (loN p.right),.int .i64 (hiN p.up),.int .u64 (loN p.up),.int .i64 p.area]
def b90 (z:Int):Prop:=-1237940039285380274899124224<=z/\z<=1237940039285380274899124224
structure PlP.ok (p:PlP):Prop where
 at_:b90 p.at_
 right:b90 p.right
 up:b90 p.up
 area:1<=p.area/\p.area<=9223372036854775807
theorem b90_in {z:Int} (h:b90 z):inR z:=by unfold b90 at h;unfold inR;omega
def PlP.sum (p:PlP) (x y:Int):Int:=p.at_+(p.right*x+p.up*y)
theorem b90_mul {z x:Int} (h:b90 z) (h0:-8388608<=x) (h1:x<=8388608):-10384593717069655257060992658440192<=z*x/\z*x<=10384593717069655257060992658440192:=by
 have:=mul_bds (U:=1237940039285380274899124224) (V:=8388608) (by omega) (by omega) h.1 h.2 h0 h1;omega
theorem PlP.sum_in {p:PlP} {x y:Int} (h:p.ok) (x0:-8388608<=x) (x1:x<=8388608) (y0:-8388608<=y) (y1:y<=8388608):inR (p.sum x y):=by
 obtain ⟨⟨h1,h2⟩,hr,hu,-⟩:=h;have a:=b90_mul hr x0 x1;have b:=b90_mul hu y0 y1;unfold PlP.sum inR;omega
theorem sum21_any (p:PlP) (x y:Int) (h:p.ok) (x0:-8388608<=x) (x1:x<=8388608) (y0:-8388608<=y) (y1:y<=8388608) (w:World) :
  Calls Tryz.prog 124 #[p.v,.int .i64 x,.int .i64 y] w (Ret (I2 (p.sum x y)) w):=by
 have hs:=PlP.sum_in h x0 x1 y0 y1;obtain ⟨ha,hr,hu,-⟩:=h;have a:=b90_mul hr x0 x1;have b:=b90_mul hu y0 y1;have T1:=jj (fun w=>times_any p.right x (b90_in hr) (by unfold sml;omega) w);have T2:=jj (fun w=>times_any p.up y (b90_in hu) (by unfold sml;omega) w);unfold PlP.sum at hs ⊢;generalize p.right*x=r at *;generalize p.up*y=u at *;unfold I2b at T1 T2;rw[lim_yes (by unfold inR;omega)] at T1 T2;have B1:=jj (fun w=>both21_any r u (by unfold inR;omega) (by unfold inR;omega) (by unfold inR;omega) w);have B2:=jj (fun w=>both21_any p.at_ (r+u) (b90_in ha) (by unfold inR;omega) hs w);clear a b ha hr hu
 go_enter Tryz.func124,Tryz.ntmps124
 go_wp2_with (first|(go_at_call 181;(with_reducible refine (T1.out _).mono ?_);rintro _ _ ⟨rfl,X_,rfl⟩)|(go_at_call 181;(with_reducible refine (T2.out _).mono ?_);rintro _ _ ⟨rfl,X_,rfl⟩))
 refine wp_region_ext_tail 6 (by kernel_rfl) (by kernel_rfl) ?_;simp only[jx]
 repeat (go_big_quiet_step ((first|(go_at_call 118;with_reducible exact Calls.quiet_ret (B1.out _))|(go_at_call 118;with_reducible exact Calls.quiet_ret (B2.out _)))))
 refine wpQuiet_nil ?_;intro _ hw_ext;obtain ⟨X,hw_ext⟩:=hw_ext;subst hw_ext;go_wp2;refine bodyPost_ret (v:=I2 (p.at_+(r+u))) (by simp[results,Tryz.results124,go_sem]) rfl (Ret.of (by exact bl_))
theorem value21_any (p:PlP) (n:Int) (hn:inR n) (a1:1<=p.area) (a2:p.area<=9223372036854775807) (w:World):Calls Tryz.prog 125 #[p.v,I2 n] w (Ret (.int .i64 (smlV (n/p.area))) w):=by
 have D:=jj (fun w=>div_any n p.area hn a1 (by unfold sml;omega) w);have S:=jj (fun w=>small_any (n/p.area) (div_in hn a1) w);generalize n/p.area=q at *;generalize n%p.area=r at *;clear hn
 go_enter Tryz.func125,Tryz.ntmps125
 go_wp2_with (first|(go_at_call 116;(with_reducible refine (D.out _).mono ?_);rintro _ _ ⟨rfl,X_,rfl⟩)|(go_at_call 120;(with_reducible refine (S.out _).mono ?_);rintro _ _ ⟨rfl,X_,rfl⟩))
 go_ret;exact Ret.of (by exact bl_)
end
section
attribute [local go_sem ↓] Go.wp_at_zero Go.wp_at_succ
theorem _root_.Go.NewBlock.cellD {w:World} {X:Xt} {p:Nat} {c:Array Value} {T:TypeId} (h:NewBlock w X p c T):∀ (w':World) (d k:Nat),w'.heap.size=w.heap.size->(w'.ext ⟨X.objs,d⟩).cell? ⟨p,k,none⟩=c[k]?:=by
 intro w' d k hs;have h2:=h.block;have h1:=h.gap.1;simp only[World.ext,Array.getElem?_append_right h1] at h2;simp only[World.cell?,World.ext];rw[Array.getElem?_append_right (by omega),hs,h2];rfl
theorem _root_.Go.NewBlock.frozenD {w:World} {X:Xt} {p:Nat} {c:Array Value} {T:TypeId} (h:NewBlock w X p c T):∀ (w':World) (d k:Nat),w'.heap.size=w.heap.size->(w'.ext ⟨X.objs,d⟩).frozen? ⟨p,k,none⟩=false:=by
 intro w' d k hs;have h2:=h.block;have h1:=h.gap.1;simp only[World.ext,Array.getElem?_append_right h1] at h2;simp only[World.frozen?,World.ext];rw[Array.getElem?_append_right (by omega),hs,h2];simp
def plOf (a b c:WinP) (n p q r:Int):PlP:=⟨sW a b c 0 0 p q r,dot3 ((b.y-c.y)*256) ((c.y-a.y)*256) ((a.y-b.y)*256) p q r,dot3 ((c.x-b.x)*256) ((a.x-c.x)*256) ((b.x-a.x)*256) p q r,n⟩
theorem plOf_sum (a b c:WinP) (n p q r x y:Int):(plOf a b c n p q r).sum x y=sW a b c x y p q r:=by
 unfold plOf PlP.sum sW dot3 ar;simp only[midP];generalize a.x=a1;generalize a.y=a2;generalize b.x=b1;generalize b.y=b2;generalize c.x=c1;generalize c.y=c2
 grind
theorem plane_any (a b c:WinP) (n p q r:Int) (ha:a.fits) (hb:b.fits) (hc:c.fits) (hp:sml25 p) (hq:sml25 q) (hr:sml25 r) (w:World) :
  Calls Tryz.prog 180 #[faceV a b c n,A3 p q r] w (Ret (plOf a b c n p q r).v w):=by
 have W0:=jj (fun w=>weights_any a b c n 0 0 ha hb hc ⟨by decide,by decide,by decide,by decide⟩ w);have n1:=(nigh1 hb hc (x:=0) (y:=0) ⟨by decide,by decide,by decide,by decide⟩).ar;have n2:=(nigh2 ha hc (x:=0) (y:=0) ⟨by decide,by decide,by decide,by decide⟩).ar;have n3:=(nigh3m ha hb (x:=0) (y:=0) ⟨by decide,by decide,by decide,by decide⟩).ar;unfold plOf sW;generalize ar (midP 0 0) b c=u at *;generalize ar a (midP 0 0) c=v at *;generalize ar a b (midP 0 0)=t at *;obtain ⟨a0,a1,a2,a3,-,-,-⟩:=ha;obtain ⟨b0,b1,b2,b3,-,-,-⟩:=hb;obtain ⟨c0,c1,c2,c3,-,-,-⟩:=hc;have T0:=jj (fun w=>three_any u v t p q r (by unfold sml;omega) (by unfold sml;omega) (by unfold sml;omega) hp hq hr w);have T1:=jj (fun w=>three_any ((b.y-c.y)*256) ((c.y-a.y)*256) ((a.y-b.y)*256) p q r (by unfold sml;omega) (by unfold sml;omega) (by unfold sml;omega) hp hq hr w);have T2:=jj (fun w=>three_any ((c.x-b.x)*256) ((a.x-c.x)*256) ((b.x-a.x)*256) p q r (by unfold sml;omega) (by unfold sml;omega) (by unfold sml;omega) hp hq hr w);rw[show u*p+v*q+t*r=dot3 u v t p q r from rfl];generalize dot3 u v t p q r=d0 at *;generalize dot3 ((b.y-c.y)*256) ((c.y-a.y)*256) ((a.y-b.y)*256) p q r=d1 at *;generalize dot3 ((c.x-b.x)*256) ((a.x-c.x)*256) ((b.x-a.x)*256) p q r=d2 at *;clear n1 n2 n3 hp hq hr
 go_enter Tryz.func180,Tryz.ntmps180
 go_wp2_with (first|(go_at_call 217;(with_reducible refine (W0.out _).mono ?_);rintro _ _ ⟨rfl,X_,rfl⟩))
 refine wp_loop_rounds 4 ?_;rw[rounds_succ];go_wp2
 refine wp_region_mix (by kernel_rfl) ?_
 repeat (first|(refine mix_skip rfl ?_;simp only[List.nil_append,List.cons_append])|(refine mix_ncheck rfl rfl rfl ?_;simp only[Act.put,List.setIfInBounds_toArray,List.set_cons_zero,List.set_cons_succ,List.nil_append,List.cons_append])|(refine mix_calm rfl rfl ?_;intro K_ hK_;go_big_quiet_op;go_big_quiet_on;simp only[List.nil_append,List.cons_append])|(refine mix_alloc rfl rfl Tryz.zeroValue45 ?_;simp only[List.nil_append,List.cons_append])|(refine mix_fill 12 rfl rfl rfl rfl (by simp[Value.oneCell']) (by kernel_rfl) (by simp) rfl rfl rfl rfl ?_;simp only[List.nil_append,List.cons_append])|(refine mix_fill 13 rfl rfl rfl rfl (by simp[Value.oneCell']) (by kernel_rfl) (by simp) rfl rfl rfl rfl ?_;simp only[List.nil_append,List.cons_append]))
 refine mix_nil (mix_end2 12 13 14 15 ⟨by kernel_rfl,by kernel_rfl⟩ rfl rfl rfl rfl rfl (by kernel_rfl) rfl rfl rfl rfl (by kernel_rfl) ?_);intro X p1 q1 h1 g1 ne_h1;have c_h1:=h1.cell;have f_h1:=h1.frozen;have g_h1:=h1.gap;have b_h1:=jj h1.block;simp only[World.size_ext,World.size_alloc,World.size_drew,World.size_setCell] at g_h1;have d_h1:=h1.cellD;have e_h1:=h1.frozenD;simp only[World.size_ext,World.size_alloc,World.size_drew,World.size_setCell] at d_h1 e_h1;clear h1;have c_g1:=g1.cell;have f_g1:=g1.frozen;have g_g1:=g1.gap;have b_g1:=jj g1.block;simp only[World.size_ext,World.size_alloc,World.size_drew,World.size_setCell] at g_g1;have d_g1:=g1.cellD;have e_g1:=g1.frozenD;simp only[World.size_ext,World.size_alloc,World.size_drew,World.size_setCell] at d_g1 e_g1;clear g1;simp only[Act.put,List.setIfInBounds_toArray,List.set_cons_zero,List.set_cons_succ,ptr];go_wp2;clear c_h1 f_h1 c_g1 f_g1
 go_region_held3 (fun w'=>w'.cell? ⟨p1,0,none⟩=some (.int .i64 b.x)/\w'.cell? ⟨p1,1,none⟩=some (.int .i64 b.y)/\w'.cell? ⟨q1,0,none⟩=some (.int .i64 c.x)/\w'.cell? ⟨q1,1,none⟩=some (.int .i64 c.y)) (go_simp) (fail)
 go_wp2;clear d_h1 e_h1 g_h1 b_h1 d_g1 e_g1 g_g1 b_g1 ne_h1
 try simp only[World.ext_ext]
 generalize Xt.mk _ _=Y;rw[rounds_succ];go_wp2
 refine wp_region_mix (by kernel_rfl) ?_
 repeat (first|(refine mix_skip rfl ?_;simp only[List.nil_append,List.cons_append])|(refine mix_ncheck rfl rfl rfl ?_;simp only[Act.put,List.setIfInBounds_toArray,List.set_cons_zero,List.set_cons_succ,List.nil_append,List.cons_append])|(refine mix_calm rfl rfl ?_;intro K_ hK_;go_big_quiet_op;go_big_quiet_on;simp only[List.nil_append,List.cons_append])|(refine mix_alloc rfl rfl Tryz.zeroValue45 ?_;simp only[List.nil_append,List.cons_append])|(refine mix_fill 12 rfl rfl rfl rfl (by simp[Value.oneCell']) (by kernel_rfl) (by simp) rfl rfl rfl rfl ?_;simp only[List.nil_append,List.cons_append])|(refine mix_fill 13 rfl rfl rfl rfl (by simp[Value.oneCell']) (by kernel_rfl) (by simp) rfl rfl rfl rfl ?_;simp only[List.nil_append,List.cons_append]))
 refine mix_nil (mix_end2 12 13 14 15 ⟨by kernel_rfl,by kernel_rfl⟩ rfl rfl rfl rfl rfl (by kernel_rfl) rfl rfl rfl rfl (by kernel_rfl) ?_);intro X p1 q1 h1 g1 ne_h1;have c_h1:=h1.cell;have f_h1:=h1.frozen;have g_h1:=h1.gap;have b_h1:=jj h1.block;simp only[World.size_ext,World.size_alloc,World.size_drew,World.size_setCell] at g_h1;have d_h1:=h1.cellD;have e_h1:=h1.frozenD;simp only[World.size_ext,World.size_alloc,World.size_drew,World.size_setCell] at d_h1 e_h1;clear h1;have c_g1:=g1.cell;have f_g1:=g1.frozen;have g_g1:=g1.gap;have b_g1:=jj g1.block;simp only[World.size_ext,World.size_alloc,World.size_drew,World.size_setCell] at g_g1;have d_g1:=g1.cellD;have e_g1:=g1.frozenD;simp only[World.size_ext,World.size_alloc,World.size_drew,World.size_setCell] at d_g1 e_g1;clear g1;simp only[Act.put,List.setIfInBounds_toArray,List.set_cons_zero,List.set_cons_succ,ptr];go_wp2;clear c_h1 f_h1 c_g1 f_g1
 go_region_held3 (fun w'=>w'.cell? ⟨p1,0,none⟩=some (.int .i64 c.x)/\w'.cell? ⟨p1,1,none⟩=some (.int .i64 c.y)/\w'.cell? ⟨q1,0,none⟩=some (.int .i64 a.x)/\w'.cell? ⟨q1,1,none⟩=some (.int .i64 a.y)) (go_simp) (fail)
 go_wp2;clear d_h1 e_h1 g_h1 b_h1 d_g1 e_g1 g_g1 b_g1 ne_h1
 try simp only[World.ext_ext]
 generalize Xt.mk _ _=Y;rw[rounds_succ];go_wp2
 refine wp_region_mix (by kernel_rfl) ?_
 repeat (first|(refine mix_skip rfl ?_;simp only[List.nil_append,List.cons_append])|(refine mix_ncheck rfl rfl rfl ?_;simp only[Act.put,List.setIfInBounds_toArray,List.set_cons_zero,List.set_cons_succ,List.nil_append,List.cons_append])|(refine mix_calm rfl rfl ?_;intro K_ hK_;go_big_quiet_op;go_big_quiet_on;simp only[List.nil_append,List.cons_append])|(refine mix_alloc rfl rfl Tryz.zeroValue45 ?_;simp only[List.nil_append,List.cons_append])|(refine mix_fill 12 rfl rfl rfl rfl (by simp[Value.oneCell']) (by kernel_rfl) (by simp) rfl rfl rfl rfl ?_;simp only[List.nil_append,List.cons_append])|(refine mix_fill 13 rfl rfl rfl rfl (by simp[Value.oneCell']) (by kernel_rfl) (by simp) rfl rfl rfl rfl ?_;simp only[List.nil_append,List.cons_append]))
 refine mix_nil (mix_end2 12 13 14 15 ⟨by kernel_rfl,by kernel_rfl⟩ rfl rfl rfl rfl rfl (by kernel_rfl) rfl rfl rfl rfl (by kernel_rfl) ?_);intro X p1 q1 h1 g1 ne_h1;have c_h1:=h1.cell;have f_h1:=h1.frozen;have g_h1:=h1.gap;have b_h1:=jj h1.block;simp only[World.size_ext,World.size_alloc,World.size_drew,World.size_setCell] at g_h1;have d_h1:=h1.cellD;have e_h1:=h1.frozenD;simp only[World.size_ext,World.size_alloc,World.size_drew,World.size_setCell] at d_h1 e_h1;clear h1;have c_g1:=g1.cell;have f_g1:=g1.frozen;have g_g1:=g1.gap;have b_g1:=jj g1.block;simp only[World.size_ext,World.size_alloc,World.size_drew,World.size_setCell] at g_g1;have d_g1:=g1.cellD;have e_g1:=g1.frozenD;simp only[World.size_ext,World.size_alloc,World.size_drew,World.size_setCell] at d_g1 e_g1;clear g1;simp only[Act.put,List.setIfInBounds_toArray,List.set_cons_zero,List.set_cons_succ,ptr];go_wp2;clear c_h1 f_h1 c_g1 f_g1
 go_region_held3 (fun w'=>w'.cell? ⟨p1,0,none⟩=some (.int .i64 a.x)/\w'.cell? ⟨p1,1,none⟩=some (.int .i64 a.y)/\w'.cell? ⟨q1,0,none⟩=some (.int .i64 b.x)/\w'.cell? ⟨q1,1,none⟩=some (.int .i64 b.y)) (go_simp) (fail)
 go_wp2;clear d_h1 e_h1 g_h1 b_h1 d_g1 e_g1 g_g1 b_g1 ne_h1
 try simp only[World.ext_ext]
 generalize Xt.mk _ _=Y;rw[rounds_succ];go_wp2
 refine wp_region_ext_tail 12 (by kernel_rfl) (by kernel_rfl) ?_;simp only[jx]
 repeat (go_big_quiet_step ((first|(go_at_call 218;with_reducible exact Calls.quiet_ret (T0.out _))|(go_at_call 218;with_reducible exact Calls.quiet_ret (T1.out _))|(go_at_call 218;with_reducible exact Calls.quiet_ret (T2.out _)))))
 refine wpQuiet_nil ?_;intro _ hw_ext;obtain ⟨X9,hw_ext⟩:=hw_ext;subst hw_ext;go_wp2;refine bodyPost_ret (v:=(⟨d0,d1,d2,n⟩:PlP).v) (by simp[results,Tryz.results180,go_sem]) rfl (Ret.of (by exact bl_))
end
section
attribute [local go_sem ↓] Go.wp_at_zero Go.wp_at_succ
theorem sml_of {z:Int} (h:-3602880389091196928<=z/\z<=3602880389091196928):sml z:=by unfold sml;omega
theorem plOf_ok {a b c:WinP} {n p q r:Int} (ha:a.fits) (hb:b.fits) (hc:c.fits) (hp:sml25 p) (hq:sml25 q) (hr:sml25 r) (h1:1<=n) (h2:n<=9223372036854775807):(plOf a b c n p q r).ok:=by
 have n1:=(nigh1 hb hc (x:=0) (y:=0) ⟨by decide,by decide,by decide,by decide⟩).ar;have n2:=(nigh2 ha hc (x:=0) (y:=0) ⟨by decide,by decide,by decide,by decide⟩).ar;have n3:=(nigh3m ha hb (x:=0) (y:=0) ⟨by decide,by decide,by decide,by decide⟩).ar;have d0:=dot3_88 (sml_of n1) (sml_of n2) (sml_of n3) hp hq hr;obtain ⟨a0,a1,a2,a3,-,-,-⟩:=ha;obtain ⟨b0,b1,b2,b3,-,-,-⟩:=hb;obtain ⟨c0,c1,c2,c3,-,-,-⟩:=hc;have d1:=dot3_88 (u:=(b.y-c.y)*256) (v:=(c.y-a.y)*256) (t:=(a.y-b.y)*256) (by unfold sml;omega) (by unfold sml;omega) (by unfold sml;omega) hp hq hr;have d2:=dot3_88 (u:=(c.x-b.x)*256) (v:=(a.x-c.x)*256) (t:=(b.x-a.x)*256) (by unfold sml;omega) (by unfold sml;omega) (by unfold sml;omega) hp hq hr;refine ⟨?_,?_,?_,h1,h2⟩<;>unfold b90 plOf<;>dsimp only
 ·unfold sW;unfold dot3 at d0;omega
 ·omega
 ·omega
abbrev plsV (p0 p1 p2 p3 p4:PlP):Value:=.agg #[.int .i64 (hiN p0.at_),.int .u64 (loN p0.at_),.int .i64 (hiN p0.right),.int .u64 (loN p0.right),.int .i64 (hiN p0.up),.int .u64 (loN p0.up),.int .i64 p0.area,.int .i64 (hiN p1.at_),.int .u64 (loN p1.at_),.int .i64 (hiN p1.right),.int .u64 (loN p1.right),.int .i64 (hiN p1.up),.int .u64 (loN p1.up),.int .i64 p1.area,.int .i64 (hiN p2.at_),.int .u64 (loN p2.at_),.int .i64 (hiN p2.right),.int .u64 (loN p2.right),.int .i64 (hiN p2.up),.int .u64 (loN p2.up),.int .i64 p2.area,.int .i64 (hiN p3.at_),.int .u64 (loN p3.at_),.int .i64 (hiN p3.right),.int .u64 (loN p3.right),.int .i64 (hiN p3.up),.int .u64 (loN p3.up),.int .i64 p3.area,.int .i64 (hiN p4.at_),.int .u64 (loN p4.at_),.int .i64 (hiN p4.right),.int .u64 (loN p4.right),.int .i64 (hiN p4.up),.int .u64 (loN p4.up),.int .i64 p4.area]
theorem fits_z {a:WinP} (h:a.fits):sml25 a.z:=by have:=h.z0;have:=h.z1;unfold sml25;omega
theorem fits_c {a:WinP} (h:a.fits):sml25 a.c0/\sml25 a.c1/\sml25 a.c2/\sml25 a.c3:=by
 obtain ⟨a0,a1,b0,b1,c0,c1,d0,d1⟩:=h.m;unfold sml25;omega
theorem planes_any (a b c:WinP) (n:Int) (ha:a.fits) (hb:b.fits) (hc:c.fits) (w:World) :
  Calls Tryz.prog 123 #[faceV a b c n] w (Ret (plsV (plOf a b c n a.z b.z c.z) (plOf a b c n a.c0 b.c0 c.c0) (plOf a b c n a.c1 b.c1 c.c1) (plOf a b c n a.c2 b.c2 c.c2) (plOf a b c n a.c3 b.c3 c.c3)) w):=by
 obtain ⟨a0,a1,a2,a3⟩:=fits_c ha;obtain ⟨b0,b1,b2,b3⟩:=fits_c hb;obtain ⟨c0,c1,c2,c3⟩:=fits_c hc;have P0:=jj (fun w=>plane_any a b c n a.z b.z c.z ha hb hc (fits_z ha) (fits_z hb) (fits_z hc) w);have P1:=jj (fun w=>plane_any a b c n a.c0 b.c0 c.c0 ha hb hc a0 b0 c0 w);have P2:=jj (fun w=>plane_any a b c n a.c1 b.c1 c.c1 ha hb hc a1 b1 c1 w);have P3:=jj (fun w=>plane_any a b c n a.c2 b.c2 c.c2 ha hb hc a2 b2 c2 w);have P4:=jj (fun w=>plane_any a b c n a.c3 b.c3 c.c3 ha hb hc a3 b3 c3 w);generalize plOf a b c n a.z b.z c.z=p0 at *;generalize plOf a b c n a.c0 b.c0 c.c0=p1 at *;generalize plOf a b c n a.c1 b.c1 c.c1=p2 at *;generalize plOf a b c n a.c2 b.c2 c.c2=p3 at *;generalize plOf a b c n a.c3 b.c3 c.c3=p4 at *;clear a0 a1 a2 a3 b0 b1 b2 b3 c0 c1 c2 c3 ha hb hc
 go_enter Tryz.func123,Tryz.ntmps123
 go_wp2_with (first|(go_at_call 180;(with_reducible refine (P0.out _).mono ?_);rintro _ _ ⟨rfl,X_,rfl⟩))
 refine wp_loop_rounds 5 ?_
 iterate 4
  rw[rounds_succ];go_wp2
  refine wp_region_ext_tail 24 (by kernel_rfl) (by kernel_rfl) ?_;simp only[jx]
  repeat (go_big_quiet_step ((first|(go_at_call 180;with_reducible exact Calls.quiet_ret (P1.out _))|(go_at_call 180;with_reducible exact Calls.quiet_ret (P2.out _))|(go_at_call 180;with_reducible exact Calls.quiet_ret (P3.out _))|(go_at_call 180;with_reducible exact Calls.quiet_ret (P4.out _)))))
  refine wpQuiet_nil ?_;intro _ hw_ext;obtain ⟨X,hw_ext⟩:=hw_ext;subst hw_ext;go_wp2
  try simp only[World.ext_ext]
  generalize Xt.mk _ _=Y
 rw[rounds_succ];go_wp2
 refine bodyPost_ret (v:=plsV p0 p1 p2 p3 p4) (results_big (k:=35) rfl rfl (by go_simp) rfl (by decide) (by kernel_rfl) (by kernel_rfl)) rfl (Ret.of (by exact bl_))
end
end
end Go.Proofs.YthcjfanigfgckaaGreat
