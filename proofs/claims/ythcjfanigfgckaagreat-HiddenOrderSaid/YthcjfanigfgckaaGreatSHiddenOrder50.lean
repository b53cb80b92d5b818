import Derived.Test.YthcjfanigfgckaaGreatSHiddenOrder49
set_option linter.unusedVariables false
set_option linter.unusedSimpArgs false
set_option maxRecDepth 100000
set_option maxHeartbeats 16000000
namespace Go.Proofs.YthcjfanigfgckaaGreat
open Go.RowKit
def srA (B:Nat) (W H:Int) (C Z:List Int):SR Grows:=⟨fun v w=>∃ g1 k1 g2 k2:Nat,v=Im W H (sl g1 C.length k1) (sl g2 C.length k2)/\Arr w g1 k1 C/\Arr w g2 k2 Z/\B<=g1/\B<=g2/\g1≠g2,fun v w w' ⟨g1,k1,g2,k2,e,h1,h2,h3⟩ ⟨X,e'⟩=>by subst e';exact ⟨g1,k1,g2,k2,e,h1.chg (p:=fun _=>False) (Chg.of_ext X) id,h2.chg (p:=fun _=>False) (Chg.of_ext X) id,h3⟩,fun v=>∃ c z,v=Im W H c z,Im W H undef undef,⟨_,_,rfl⟩,fun v w ⟨_,_,_,_,h,_⟩=>⟨_,_,h⟩⟩
theorem blank_ok {W H far:Int} {n:Nat} (w0:1<=W) (w1:W<=12) (h0:1<=H) (h1:H<=12) (hn:W*H=n) (f0:0<=far) (f1:far<=16777215):ImOk W H (List.replicate n 0) (List.replicate n far):=by
 refine ⟨w0,by omega,h0,by omega,by simp[hn],by simp[hn],fun i hi=>?_,fun i hi=>?_⟩
 ·simp at hi;simp[elt,hi]
 ·simp at hi;simp[elt,hi];omega
theorem blank_bd {W H:Int} (w0:1<=W) (w1:W<=12) (h0:1<=H) (h1:H<=12):∃ n:Nat,W*H=n/\1<=n/\n<=144:=by
 have a:=Int.mul_le_mul w1 h1 (by omega) (by omega);have b:=Int.mul_le_mul w0 h0 (by omega) (by omega);exact ⟨(W*H).toNat,by omega,by omega,by omega⟩
theorem rbox27 (W H:Int) (c z:Value) (w:World):Calls Tryz.prog 37 #[Im W H c z] w (Ret (R4 0 0 W H) w):=by
 go_enter Tryz.func37,Tryz.ntmps37
 go_wp2
 first
  |(go_ret;exact Ret.of' rfl (by exact bl_))
  |exact bodyPost_ret (v:=R4 0 0 W H) (by simp[results,Tryz.results37,go_sem]) rfl (Ret.of (by exact bl_))
theorem hblankC (v:Value) (s:SkP) (aW aH far:Int) (n:Nat) (w:World) (hW:0<=aW/\aW<=255) (hH:0<=aH/\aH<=255) (hn:(1+aW%12)*(1+aH%12)=n) (f0:0<=far) (f1:far<=16777215):Calls Tryz.prog 26 #[artV v s aW aH far] w (Copies (1+aW%12) (1+aH%12) (List.replicate n 0) (List.replicate n far) w):=by
 have e1:aW.tmod 12=aW%12:=Int.tmod_eq_emod_of_nonneg (by omega);have e2:aH.tmod 12=aH%12:=Int.tmod_eq_emod_of_nonneg (by omega);have NW:=jj (fun w=>rnew_ok (1+aW%12) (1+aH%12) n w (by omega) (by omega) (by omega) (by omega) hn);have hn144:n<=144:=by
  obtain ⟨m,e,-,h⟩:=blank_bd (W:=1+aW%12) (H:=1+aH%12) (by omega) (by omega) (by omega) (by omega);omega
 go_enter Tryz.func26,Tryz.ntmps26
 go_upto_region 1 with fail
 refine wp_abs (F:=fun w1=>Row w1 w.heap.size #[v,.int .i64 s.factor,.int .i64 s.units,.bool s.ccw,.int .i64 s.cull,.int .i64 s.width,.int .i64 s.c0,.int .i64 s.c1,.int .i64 s.c2,.int .i64 s.c3,.int .u8 aW,.int .u8 aH,.int .i64 far] 50/\(∃ d,Row w1 (w.heap.size+1) #[.int .i64 0,.int .i64 0,d,d] 54)/\∃ X,w1=w.ext X) ⟨by exact rx_,⟨_,by exact rx_⟩,jz (by exact bx_)⟩ ?_;rintro w1 ⟨Ra,⟨d,Rb⟩,hX⟩;have ca:=Ra.cell;have fa:=Ra.frozen;have la:=Ra.lt;have HX:=jj hX;clear hX;go_upto_region 2 with (first|(go_at_call 69;(with_reducible refine (NW.out _).mono ?_);rintro _ _ ⟨vc,vz,rfl,⟨XN,rfl⟩,hc,hz⟩;have HC:=jj hc;have HZ:=jj hz;obtain ⟨-,-,a1,c1,rfl,-,-⟩:=hc;obtain ⟨-,-,a2,c2,rfl,-,-⟩:=hz))
 have sl1:=HC.out;simp only[List.length_replicate] at HC HZ;refine wp_abs (F:=fun w2=>Row w2 w.heap.size #[v,.int .i64 s.factor,.int .i64 s.units,.bool s.ccw,.int .i64 s.cull,.int .i64 s.width,.int .i64 s.c0,.int .i64 s.c1,.int .i64 s.c2,.int .i64 s.c3,.int .u8 aW,.int .u8 aH,.int .i64 far] 50/\Row w2 (w.heap.size+1) #[.int .i64 0,.int .i64 0,d,d] 54/\Row w2 (w1.heap.size+XN.sz) #[.int .i64 (1+aW%12),.int .i64 (1+aH%12),.slice a1 n c1,.slice a2 n c2] 54/\Rd w2 (.slice a1 n c1) (List.replicate n 0)/\Rd w2 (.slice a2 n c2) (List.replicate n 16777215)/\∃ X,w2=w.ext X) ⟨(Ra.ext XN).alloc _,(Rb.ext XN).alloc _,by exact rx_,(by repeat (first|with_reducible exact HC.out|with_reducible refine Rd.ext ?_ _|with_reducible refine Rd.alloc ?_ _|with_reducible refine Rd.drew ?_)),(by repeat (first|with_reducible exact HZ.out|with_reducible refine Rd.ext ?_ _|with_reducible refine Rd.alloc ?_ _|with_reducible refine Rd.drew ?_)),by obtain ⟨X0,hX0⟩:=HX.out;subst hX0;exact jz (by exact br_)⟩ ?_;have hb1:=Rb.lt;obtain ⟨bi,hbi⟩:∃ b,w1.heap.size+XN.sz=b:=⟨_,rfl⟩;have hb2:w.heap.size+1<bi:=by omega
 rw[hbi];have CL:=jj (fun (w:World) h1 h2=>rclear2 (1+aW%12) (1+aH%12) (.slice a1 n c1) (.slice a2 n c2) (List.replicate n 0) (List.replicate n 16777215) far w h1 h2 (blank_ok (by omega) (by omega) (by omega) (by omega) hn (by decide) (by decide)) f0 f1);have BX:=jj (fun (w:World)=>rbox27 (1+aW%12) (1+aH%12) (.slice a1 n c1) (.slice a2 n c2) w);clear Ra Rb HX ca fa la HC HZ NW sl1 hb1 hbi;rintro w2 ⟨Ra,Rb,Rc,hc,hz,hX⟩;have HX:=jj hX;have HRb:=jj Rb;have HC:=jj hc;have HZ:=jj hz;have ca:=Ra.cell;have fa:=Ra.frozen;have la:=Ra.lt;have cc:=Rc.cell;have fc:=Rc.frozen;have lc:=Rc.lt;clear Ra Rb Rc hX hc hz;refine wp_region_rel 8 [none,none,some ([],srV (R4 0 0 (1+aW%12) (1+aH%12))),none,none,none,none,some ([2],srA (w.heap.size+1+1) (1+aW%12) (1+aH%12) (List.replicate n 0) (List.replicate n far))] (by kernel_rfl) (by kernel_rfl) ?_;simp only[jx]
 (repeat (first|(refine rel_none ?_;intro K_ hK_;go_big_quiet_op;go_big_quiet_on)|simp only[Act.put,List.setIfInBounds_toArray,List.set_cons_zero,List.set_cons_succ]))
 refine rel_some rfl (fun w_ hw_ hk_ K_ hK_=>?_) (fun e2 f2=>?_)
 ·obtain ⟨X_,rfl⟩:=hw_;go_simp
  go_at_call 37
  with_reducible refine (BX.out _).mono ?_
  rintro _ _ ⟨rfl,hX⟩;exact hK_ _ _ rfl hX
 obtain rfl:=f2
 (repeat (first|(refine rel_none ?_;intro K_ hK_;go_big_quiet_op;go_big_quiet_on)|simp only[Act.put,List.setIfInBounds_toArray,List.set_cons_zero,List.set_cons_succ]))
 refine rel_some rfl (fun w_ hw_ hk_ K_ hK_=>?_) (fun e7 f7=>?_)
 ·obtain ⟨X_,rfl⟩:=hw_;go_simp
  go_at_call 70
  with_reducible refine (CL.out _ (HC.out.ext _) (HZ.out.ext _)).mono ?_
  rintro _ _ ⟨g1,k1,g2,k2,rfl,hX,A1,A2,t1,t2,tn⟩;have hsz:w.heap.size+1<w2.heap.size:=HRb.out.lt;rw[World.size_ext] at t1 t2;rw[List.length_replicate] at A2;exact hK_ _ _ ⟨g1,k1,g2,k2,rfl,A1,A2,by omega,by omega,tn⟩ hX
 obtain ⟨vc2,vz2,rfl⟩:=f7
 (repeat (first|(refine rel_none ?_;intro K_ hK_;go_big_quiet_op;go_big_quiet_on)|simp only[Act.put,List.setIfInBounds_toArray,List.set_cons_zero,List.set_cons_succ]))
 refine rel_nil ?_;intro w_ hw_ kk;obtain ⟨X9,rfl⟩:=hw_;obtain ⟨g3,k3,g4,k4,e3,A3,A4,hp3,hp4,hne⟩:=(kk (7,_) (by repeat (first|exact List.mem_cons_self|refine jk ?_)));rw[List.length_replicate] at e3;obtain ⟨rfl,rfl⟩:vc2=.slice (some ⟨g3,0,none⟩) n k3/\vz2=.slice (some ⟨g4,0,none⟩) n k4:=by simpa using e3
 have H3:=jj A3;have H4:=jj A4;clear kk e3 A3 A4;have cd:=HRb.out.cell;have fd:=HRb.out.frozen;have ld:=HRb.out.lt;go_wp2;have CH:Chg (fun b=>b=w.heap.size+1) (w2.ext X9) (((((w2.setCell ⟨w.heap.size+1,0,none⟩ (.int .i64 (1+aW%12))).setCell ⟨w.heap.size+1,1,none⟩ (.int .i64 (1+aH%12))).setCell ⟨w.heap.size+1,2,none⟩ (.slice (some ⟨g3,0,none⟩) n k3)).setCell ⟨w.heap.size+1,3,none⟩ (.slice (some ⟨g4,0,none⟩) n k4)).ext X9):=Chg.both ((((Chg.one _ _ _ _).setCell (fun _=>rfl) _).setCell (fun _=>rfl) _).setCell (fun _=>rfl) _) (by simp[World.setCell]) X9;have RF:Row (((((w2.setCell ⟨w.heap.size+1,0,none⟩ (.int .i64 (1+aW%12))).setCell ⟨w.heap.size+1,1,none⟩ (.int .i64 (1+aH%12))).setCell ⟨w.heap.size+1,2,none⟩ (.slice (some ⟨g3,0,none⟩) n k3)).setCell ⟨w.heap.size+1,3,none⟩ (.slice (some ⟨g4,0,none⟩) n k4)).ext X9) (w.heap.size+1) #[.int .i64 (1+aW%12),.int .i64 (1+aH%12),.slice (some ⟨g3,0,none⟩) n k3,.slice (some ⟨g4,0,none⟩) n k4] 54:=by simpa using (((((HRb.out.set 0 (.int .i64 (1+aW%12))).set 1 (.int .i64 (1+aH%12))).set 2 (.slice (some ⟨g3,0,none⟩) n k3)).set 3 (.slice (some ⟨g4,0,none⟩) n k4)).ext X9)
 have XF:∃ X,(((((w2.setCell ⟨w.heap.size+1,0,none⟩ (.int .i64 (1+aW%12))).setCell ⟨w.heap.size+1,1,none⟩ (.int .i64 (1+aH%12))).setCell ⟨w.heap.size+1,2,none⟩ (.slice (some ⟨g3,0,none⟩) n k3)).setCell ⟨w.heap.size+1,3,none⟩ (.slice (some ⟨g4,0,none⟩) n k4)).ext X9)=w.ext X:=by
  obtain ⟨X0,hX0⟩:=HX.out;subst hX0;exact jz (by exact br_)
 generalize (((((w2.setCell ⟨w.heap.size+1,0,none⟩ (.int .i64 (1+aW%12))).setCell ⟨w.heap.size+1,1,none⟩ (.int .i64 (1+aH%12))).setCell ⟨w.heap.size+1,2,none⟩ (.slice (some ⟨g3,0,none⟩) n k3)).setCell ⟨w.heap.size+1,3,none⟩ (.slice (some ⟨g4,0,none⟩) n k4)).ext X9)=wf at CH RF XF ⊢;have q0:=RF.cell 0;have q1:=RF.cell 1;have q2:=RF.cell 2;have q3:=RF.cell 3;simp at q0 q1 q2 q3;exact bodyPost_ret (v:=Im (1+aW%12) (1+aH%12) (.slice (some ⟨g3,0,none⟩) n k3) (.slice (some ⟨g4,0,none⟩) n k4)) (by simp[results,Tryz.results26,go_sem,q0,q1,q2,q3]) rfl ⟨g3,k3,g4,k4,by rw[List.length_replicate],XF,H3.out.chg CH (by omega),H4.out.chg CH (by omega),by omega,by omega,hne⟩
end Go.Proofs.YthcjfanigfgckaaGreat
