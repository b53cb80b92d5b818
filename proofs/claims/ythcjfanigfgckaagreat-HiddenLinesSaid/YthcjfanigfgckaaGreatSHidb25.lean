import Derived.Test.YthcjfanigfgckaaGreatSHidb22
set_option linter.unusedVariables false
set_option linter.unusedSimpArgs false
set_option maxRecDepth 100000
set_option maxHeartbeats 16000000
namespace Go.Proofs.YthcjfanigfgckaaGreat
open Go.RowKit _root_.Go.Proofs.Tryz
instance jh24 : Coe Nat Value := ⟨fun n => .int .i64 n⟩
section
attribute [local go_sem ↓] Go.wp_at_zero Go.wp_at_succ
theorem yE (x y:Int):cW x y=⟨256*x+128,256*y+128,0,0,0,0,0⟩:=by simp only[cW,Int.mul_comm]
theorem aE0 (a b c:WinP) (x y:Int) (ha:a.fits) (hb:b.fits) (hc:c.fits) (hx:Near x y) (h:ar a b c≠0) (w:World) :
  Calls prog 91 #[a.v,b.v,c.v,x,y] w (Ret (atT a (bE a b c) (bO a b c) (lK a b c) x y) w):=by
 have A:=jj (fun w=>eM a b c (iV ha hb hc) w);obtain ⟨n1,n2⟩:=xA ha hb hc h;obtain ⟨fb,fc⟩:=gO (a:=a) hb hc;have eB:bE a b c=if ar a b c<0 then c else b:=rfl
 have eC:bO a b c=if ar a b c<0 then b else c:=rfl
 have eN:lK a b c=if ar a b c<0 then-ar a b c else ar a b c:=rfl
 have ab:=(iV ha hb hc).ar;obtain ⟨m,hm⟩:∃ m,ar a b c=m:=⟨_,rfl⟩;rw[hm] at A eB eC eN ab h;unfold atT;generalize lK a b c=n at *;obtain ⟨B,hB⟩:∃ B,bE a b c=B:=⟨_,rfl⟩;obtain ⟨C,hC⟩:∃ C,bO a b c=C:=⟨_,rfl⟩;rw[hB] at fb eB ⊢;rw[hC] at fc eC ⊢;clear hB hC hm;obtain ⟨a0,a1,a2,a3⟩:=gF ha;obtain ⟨b0,b1,b2,b3⟩:=gF fb;obtain ⟨c0,c1,c2,c3⟩:=gF fc;have R1:=fun w=>eM (cW x y) B C (aFp fb fc hx) w
 have R2:=fun w=>eM a (cW x y) C (aFo ha fc hx) w
 have R3:=fun w=>eM a B (cW x y) (n8 ha fb hx) w
 have s1:=rX (aFp fb fc hx).ar;have s2:=rX (aFo ha fc hx).ar;have s3:=rX (n8 ha fb hx).ar;unfold sW;obtain ⟨u,hu⟩:∃ u,ar (cW x y) B C=u:=⟨_,rfl⟩;obtain ⟨v,hv⟩:∃ u,ar a (cW x y) C=u:=⟨_,rfl⟩;obtain ⟨t,ht⟩:∃ u,ar a B (cW x y)=u:=⟨_,rfl⟩;simp only[hu,hv,ht] at R1 R2 R3 s1 s2 s3 ⊢;simp only[yE] at R1 R2 R3;have H1:=jj R1;have H2:=jj R2;have H3:=jj R3;have S0:=jj (fun w=>gR u v t a.z B.z C.z n s1 s2 s3 (fW ha) (fW fb) (fW fc) n1 (by unfold sml;omega) w);have S1:=jj (fun w=>gR u v t a.c0 B.c0 C.c0 n s1 s2 s3 a0 b0 c0 n1 (by unfold sml;omega) w);have S2:=jj (fun w=>gR u v t a.c1 B.c1 C.c1 n s1 s2 s3 a1 b1 c1 n1 (by unfold sml;omega) w);have S3:=jj (fun w=>gR u v t a.c2 B.c2 C.c2 n s1 s2 s3 a2 b2 c2 n1 (by unfold sml;omega) w);have S4:=jj (fun w=>gR u v t a.c3 B.c3 C.c3 n s1 s2 s3 a3 b3 c3 n1 (by unfold sml;omega) w);unfold wV at S0 S1 S2 S3 S4;generalize nX ((u*a.z+v*B.z+t*C.z)/n)=v0 at *;generalize nX ((u*a.c0+v*B.c0+t*C.c0)/n)=v1 at *;generalize nX ((u*a.c1+v*B.c1+t*C.c1)/n)=v2 at *;generalize nX ((u*a.c2+v*B.c2+t*C.c2)/n)=v3 at *;generalize nX ((u*a.c3+v*B.c3+t*C.c3)/n)=v4 at *;obtain ⟨x0,x1,y0,y1⟩:=hx;obtain ⟨ab0,ab1⟩:=ab;clear R1 R2 R3 hu hv ht s1 s2 s3 a0 a1 a2 a3 b0 b1 b2 b3 c0 c1 c2 c3 ha hb hc fb fc n1 n2
 by_cases h0:m<0
 ·rw[if_pos h0] at eB eC eN;subst eB eC eN
  go_enter func91,ntmps91
  go_upto_region 6 with (first|(go_at_call 62;(with_reducible refine (A.out _).mono ?_);rintro _ _ ⟨rfl,XA,rfl⟩))
  refine aP (by kernel_rfl) ?_
  repeat (first|(refine dE rfl ?_;simp only[List.nil_append,List.cons_append])|(refine bN rfl rfl rfl ?_;simp only[jw,List.nil_append,List.cons_append])|(refine dF rfl rfl ?_;intro K_ hK_;go_big_quiet_op;go_big_quiet_on;simp only[List.nil_append,List.cons_append])|(refine bX rfl rfl Tryz.zeroValue145 ?_;simp only[List.nil_append,List.cons_append])|(refine aY 13 rfl rfl rfl rfl (by simp[Value.oneCell']) (by kernel_rfl) (by simp) rfl rfl rfl rfl ?_;simp only[List.nil_append,List.cons_append])|(apply eJ rfl;(intro X_;go_simp;go_at_call 62;with_reducible exact Calls.calm_ret (H1.out _));simp only[jw,List.nil_append,List.cons_append])|(apply eJ rfl;(intro X_;go_simp;go_at_call 62;with_reducible exact Calls.calm_ret (H2.out _));simp only[jw,List.nil_append,List.cons_append])|(apply eJ rfl;(intro X_;go_simp;go_at_call 62;with_reducible exact Calls.calm_ret (H3.out _));simp only[jw,List.nil_append,List.cons_append]))
  refine eV (mF 13 14 ⟨by kernel_rfl,by kernel_rfl⟩ rfl rfl rfl rfl rfl (by kernel_rfl) ?_);intro X q h1;have c_h1:=h1.cell;have f_h1:=h1.frozen;have g_h1:=h1.gap;have b_h1:=jj h1.block;simp only[World.size_ext,World.size_alloc,World.size_drew,World.size_setCell] at g_h1;have d_h1:=h1.cellD;have e_h1:=h1.frozenD;simp only[World.size_ext,World.size_alloc,World.size_drew,World.size_setCell] at d_h1 e_h1;clear h1;simp only[jw,ptr];go_wp2;have rq:=(show Row _ q #[u,v,t] 145 from b_h1.out);have gq:=g_h1.1;have gq2:=g_h1.2;refine aE (F:=fun w1=>∃ D,D=w.heap.size+1+1+1+1+XA.sz+1+X.sz/\(w.heap.size+4<=q/\q<D/\w.heap.size+4<=D)/\Row w1 q #[u,v,t] 145/\Row w1 w.heap.size #[a.x,a.y,a.z,a.c0,a.c1,a.c2,a.c3] 45/\Row w1 (w.heap.size+1) #[B.x,B.y,B.z,B.c0,B.c1,B.c2,B.c3] 45/\Row w1 (w.heap.size+1+1) #[C.x,C.y,C.z,C.c0,C.c1,C.c2,C.c3] 45/\Row w1 D #[.int .i64 0,.int .i64 0,.int .i64 0,.int .i64 0] 43/\Row w1 (w.heap.size+1+1+1) #[.int .i64 0,.int .i64 0,.int .i64 0,.int .i64 0] 43/\∃ X,w1=w.ext X) ⟨_,rfl,by omega,by exact rx_,by exact rx_,by exact rx_,by exact rx_,by exact rx_,by exact rx_,jz (by exact bl_)⟩ ?_;clear c_h1 f_h1 d_h1 e_h1 g_h1 b_h1 rq gq gq2;rintro w1 ⟨D,hD,⟨q0,q1,q2⟩,r1,r2,r3,r4,r5,r6,hX⟩;rw[<-hD];have HX:=jj hX;have R6:=jj r6;have x1:=r1.cell;have x2:=r1.frozen;have x3:=r1.lt;have y1:=r2.cell;have y2:=r2.frozen;have y3:=r2.lt;have z1:=r3.cell;have z2:=r3.frozen;have z3:=r3.lt;have p1:=r4.cell;have p2:=r4.frozen;have p3:=r4.lt;have k1:=r5.cell;have k2:=r5.frozen;have k3:=r5.lt;have j1:=r6.cell;have j2:=r6.frozen;have j3:=r6.lt;have e1:¬q=D:=by omega
  have e2:¬w.heap.size=D:=by omega
  have e3:¬w.heap.size+1=D:=by omega
  have e4:¬w.heap.size+1+1=D:=by omega
  have e5:¬w.heap.size+1+1+1=D:=by omega
  have e6:¬D=w.heap.size+1+1+1:=by omega
  clear hD hX r1 r2 r3 r4 r5 r6;refine wp_loop_rounds 5 ?_
  iterate 4
   rw[rounds_succ];go_wp2
   refine jm 18 ?_;simp only[jx]
   repeat (go_big_quiet_step ((first|(go_at_call 138;with_reducible exact Calls.quiet_ret (S1.out _))|(go_at_call 138;with_reducible exact Calls.quiet_ret (S2.out _))|(go_at_call 138;with_reducible exact Calls.quiet_ret (S3.out _))|(go_at_call 138;with_reducible exact Calls.quiet_ret (S4.out _)))))
   refine jv fun X=>?_
   go_wp2
   try simp only[World.ext_ext]
   generalize Xt.mk _ _=Y
  rw[rounds_succ];go_wp2
  refine jm 12 ?_;simp only[jx]
  repeat (go_big_quiet_step ((first|(go_at_call 138;with_reducible exact Calls.quiet_ret (S0.out _)))))
  refine jv fun X=>?_
  go_wp2;refine wN (F:=fun w9=>Row w9 (w.heap.size+1+1+1) #[v1,v2,v3,v4] 43/\∃ X,w9=w.ext X) ⟨?_,?_⟩ ?_
  ·have R5:=(((((((R6.out.other e5 0 (.int .i64 v1)).other e5 1 (.int .i64 v2)).other e5 2 (.int .i64 v3)).other e5 3 (.int .i64 v4)).set 0 (.int .i64 v1)).set 1 (.int .i64 v2)).set 2 (.int .i64 v3)).set 3 (.int .i64 v4);simp only[List.setIfInBounds_toArray,List.set_cons_zero,List.set_cons_succ] at R5;exact ry_
  ·obtain ⟨X0,hX0⟩:=HX.out;subst hX0;exact jz (by exact br_)
  rintro w9 ⟨r9,X8,rfl⟩;have c9:=r9.cell;refine bodyPost_ret (v:=.tuple #[v0,C4 v1 v2 v3 v4]) (by simp[results,results91,go_sem,c9]) rfl (Ret.of (by exact bl_))
 ·rw[if_neg h0] at eB eC eN;subst eB eC eN
  go_enter func91,ntmps91
  go_upto_region 6 with (first|(go_at_call 62;(with_reducible refine (A.out _).mono ?_);rintro _ _ ⟨rfl,XA,rfl⟩))
  refine aP (by kernel_rfl) ?_
  repeat (first|(refine dE rfl ?_;simp only[List.nil_append,List.cons_append])|(refine bN rfl rfl rfl ?_;simp only[jw,List.nil_append,List.cons_append])|(refine dF rfl rfl ?_;intro K_ hK_;go_big_quiet_op;go_big_quiet_on;simp only[List.nil_append,List.cons_append])|(refine bX rfl rfl Tryz.zeroValue145 ?_;simp only[List.nil_append,List.cons_append])|(refine aY 13 rfl rfl rfl rfl (by simp[Value.oneCell']) (by kernel_rfl) (by simp) rfl rfl rfl rfl ?_;simp only[List.nil_append,List.cons_append])|(apply eJ rfl;(intro X_;go_simp;go_at_call 62;with_reducible exact Calls.calm_ret (H1.out _));simp only[jw,List.nil_append,List.cons_append])|(apply eJ rfl;(intro X_;go_simp;go_at_call 62;with_reducible exact Calls.calm_ret (H2.out _));simp only[jw,List.nil_append,List.cons_append])|(apply eJ rfl;(intro X_;go_simp;go_at_call 62;with_reducible exact Calls.calm_ret (H3.out _));simp only[jw,List.nil_append,List.cons_append]))
  refine eV (mF 13 14 ⟨by kernel_rfl,by kernel_rfl⟩ rfl rfl rfl rfl rfl (by kernel_rfl) ?_);intro X q h1;have c_h1:=h1.cell;have f_h1:=h1.frozen;have g_h1:=h1.gap;have b_h1:=jj h1.block;simp only[World.size_ext,World.size_alloc,World.size_drew,World.size_setCell] at g_h1;have d_h1:=h1.cellD;have e_h1:=h1.frozenD;simp only[World.size_ext,World.size_alloc,World.size_drew,World.size_setCell] at d_h1 e_h1;clear h1;simp only[jw,ptr];go_wp2;have rq:=(show Row _ q #[u,v,t] 145 from b_h1.out);have gq:=g_h1.1;have gq2:=g_h1.2;refine aE (F:=fun w1=>∃ D,D=w.heap.size+1+1+1+1+XA.sz+1+X.sz/\(w.heap.size+4<=q/\q<D/\w.heap.size+4<=D)/\Row w1 q #[u,v,t] 145/\Row w1 w.heap.size #[a.x,a.y,a.z,a.c0,a.c1,a.c2,a.c3] 45/\Row w1 (w.heap.size+1) #[B.x,B.y,B.z,B.c0,B.c1,B.c2,B.c3] 45/\Row w1 (w.heap.size+1+1) #[C.x,C.y,C.z,C.c0,C.c1,C.c2,C.c3] 45/\Row w1 D #[.int .i64 0,.int .i64 0,.int .i64 0,.int .i64 0] 43/\Row w1 (w.heap.size+1+1+1) #[.int .i64 0,.int .i64 0,.int .i64 0,.int .i64 0] 43/\∃ X,w1=w.ext X) ⟨_,rfl,by omega,by exact rx_,by exact rx_,by exact rx_,by exact rx_,by exact rx_,by exact rx_,jz (by exact bl_)⟩ ?_;clear c_h1 f_h1 d_h1 e_h1 g_h1 b_h1 rq gq gq2;rintro w1 ⟨D,hD,⟨q0,q1,q2⟩,r1,r2,r3,r4,r5,r6,hX⟩;rw[<-hD];have HX:=jj hX;have R6:=jj r6;have x1:=r1.cell;have x2:=r1.frozen;have x3:=r1.lt;have y1:=r2.cell;have y2:=r2.frozen;have y3:=r2.lt;have z1:=r3.cell;have z2:=r3.frozen;have z3:=r3.lt;have p1:=r4.cell;have p2:=r4.frozen;have p3:=r4.lt;have k1:=r5.cell;have k2:=r5.frozen;have k3:=r5.lt;have j1:=r6.cell;have j2:=r6.frozen;have j3:=r6.lt;have e1:¬q=D:=by omega
  have e2:¬w.heap.size=D:=by omega
  have e3:¬w.heap.size+1=D:=by omega
  have e4:¬w.heap.size+1+1=D:=by omega
  have e5:¬w.heap.size+1+1+1=D:=by omega
  have e6:¬D=w.heap.size+1+1+1:=by omega
  clear hD hX r1 r2 r3 r4 r5 r6;refine wp_loop_rounds 5 ?_
  iterate 4
   rw[rounds_succ];go_wp2
   refine jm 18 ?_;simp only[jx]
   repeat (go_big_quiet_step ((first|(go_at_call 138;with_reducible exact Calls.quiet_ret (S1.out _))|(go_at_call 138;with_reducible exact Calls.quiet_ret (S2.out _))|(go_at_call 138;with_reducible exact Calls.quiet_ret (S3.out _))|(go_at_call 138;with_reducible exact Calls.quiet_ret (S4.out _)))))
   refine jv fun X=>?_
   go_wp2
   try simp only[World.ext_ext]
   generalize Xt.mk _ _=Y
  rw[rounds_succ];go_wp2
  refine jm 12 ?_;simp only[jx]
  repeat (go_big_quiet_step ((first|(go_at_call 138;with_reducible exact Calls.quiet_ret (S0.out _)))))
  refine jv fun X=>?_
  go_wp2;refine wN (F:=fun w9=>Row w9 (w.heap.size+1+1+1) #[v1,v2,v3,v4] 43/\∃ X,w9=w.ext X) ⟨?_,?_⟩ ?_
  ·have R5:=(((((((R6.out.other e5 0 (.int .i64 v1)).other e5 1 (.int .i64 v2)).other e5 2 (.int .i64 v3)).other e5 3 (.int .i64 v4)).set 0 (.int .i64 v1)).set 1 (.int .i64 v2)).set 2 (.int .i64 v3)).set 3 (.int .i64 v4);simp only[List.setIfInBounds_toArray,List.set_cons_zero,List.set_cons_succ] at R5;exact ry_
  ·obtain ⟨X0,hX0⟩:=HX.out;subst hX0;exact jz (by exact br_)
  rintro w9 ⟨r9,X8,rfl⟩;have c9:=r9.cell;refine bodyPost_ret (v:=.tuple #[v0,C4 v1 v2 v3 v4]) (by simp[results,results91,go_sem,c9]) rfl (Ret.of (by exact bl_))
end
end Go.Proofs.YthcjfanigfgckaaGreat
