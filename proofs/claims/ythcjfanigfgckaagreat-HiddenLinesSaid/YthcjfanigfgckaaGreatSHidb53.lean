import Derived.Test.YthcjfanigfgckaaGreatSHidb52
set_option linter.unusedVariables false
set_option linter.unusedSimpArgs false
set_option maxRecDepth 100000
set_option maxHeartbeats 16000000
namespace Go.Proofs.YthcjfanigfgckaaGreat
open Go.RowKit _root_.Go.Proofs.Tryz
instance jh52 : Coe Nat Value := ⟨fun n => .int .i64 n⟩
def srA (B:Nat) (W H:Int) (C Z:List Int):SR gC:=⟨fun v w=>∃ g1 k1 g2 k2:Nat,v=Im W H (sl g1 C.length k1) (sl g2 C.length k2)/\Arr w g1 k1 C/\Arr w g2 k2 Z/\B<=g1/\B<=g2/\g1≠g2,fun v w w' ⟨g1,k1,g2,k2,e,h1,h2,h3⟩ ⟨X,e'⟩=>by subst e';exact ⟨g1,k1,g2,k2,e,h1.chg (p:=fun _=>False) (Chg.of_ext X) id,h2.chg (p:=fun _=>False) (Chg.of_ext X) id,h3⟩,fun v=>∃ c z,v=Im W H c z,Im W H undef undef,⟨_,_,rfl⟩,fun v w ⟨_,_,_,_,h,_⟩=>⟨_,_,h⟩⟩
theorem uA {W H far:Int} {n:Nat} (w0:1<=W) (w1:W<=12) (h0:1<=H) (h1:H<=12) (hn:W*H=n) (f0:0<=far) (f1:far<=16777215):ImOk W H (List.replicate n 0) (List.replicate n far):=by
 refine ⟨w0,by omega,h0,by omega,by simp[hn],by simp[hn],fun i hi=>?_,fun i hi=>?_⟩
 ·simp at hi;simp[elt,hi]
 ·simp at hi;simp[elt,hi];omega
theorem mP {W H:Int} (w0:1<=W) (w1:W<=12) (h0:1<=H) (h1:H<=12):∃ n:Nat,W*H=n/\1<=n/\n<=144:=by
 have a:=Int.mul_le_mul w1 h1 (by omega) (by omega);have b:=Int.mul_le_mul w0 h0 (by omega) (by omega);exact ⟨(W*H).toNat,by omega,by omega,by omega⟩
theorem aLq (W H:Int) (c z:Value) (w:World):Calls prog 37 #[Im W H c z] w (Ret (R4 0 0 W H) w):=by
 go_enter func37,ntmps37
 go_wp2
 first
  |(go_ret;exact Ret.of' rfl (by exact bl_))
  |exact bodyPost_ret (v:=R4 0 0 W H) (by simp[results,results37,go_sem]) rfl (Ret.of (by exact bl_))
theorem yY (v:Value) (s:SkP) (aW aH far:Int) (n:Nat) (w:World) (hW:0<=aW/\aW<=255) (hH:0<=aH/\aH<=255) (hn:(1+aW%12)*(1+aH%12)=n) (f0:0<=far) (f1:far<=16777215):Calls prog 26 #[mR v s aW aH far] w (aBm (1+aW%12) (1+aH%12) (List.replicate n 0) (List.replicate n far) w):=by
 have e1:aW.tmod 12=aW%12:=Int.tmod_eq_emod_of_nonneg (by omega);have e2:aH.tmod 12=aH%12:=Int.tmod_eq_emod_of_nonneg (by omega);have NW:=jj (fun w=>aM2 (1+aW%12) (1+aH%12) n w (by omega) (by omega) (by omega) (by omega) hn);have hn144:n<=144:=by
  obtain ⟨m,e,-,h⟩:=mP (W:=1+aW%12) (H:=1+aH%12) (by omega) (by omega) (by omega) (by omega);omega
 go_enter func26,ntmps26
 go_upto_region 1 with fail
 refine aE (F:=fun w1=>Row w1 w.heap.size #[v,s.factor,s.units,.bool s.ccw,s.cull,s.width,s.c0,s.c1,s.c2,s.c3,.int .u8 aW,.int .u8 aH,far] 50/\(∃ d,Row w1 (w.heap.size+1) #[.int .i64 0,.int .i64 0,d,d] 54)/\∃ X,w1=w.ext X) ⟨by exact rx_,⟨_,by exact rx_⟩,jz (by exact bx_)⟩ ?_;rintro w1 ⟨Ra,⟨d,Rb⟩,hX⟩;have ca:=Ra.cell;have fa:=Ra.frozen;have la:=Ra.lt;have HX:=jj hX;clear hX;go_upto_region 2 with (first|(go_at_call 69;(with_reducible refine (NW.out _).mono ?_);rintro _ _ ⟨vc,vz,rfl,⟨XN,rfl⟩,hc,hz⟩;have HC:=jj hc;have HZ:=jj hz;obtain ⟨-,-,a1,c1,rfl,-,-⟩:=hc;obtain ⟨-,-,a2,c2,rfl,-,-⟩:=hz))
 have sl1:=HC.out;simp only[List.length_replicate] at HC HZ;refine aE (F:=fun w2=>Row w2 w.heap.size #[v,s.factor,s.units,.bool s.ccw,s.cull,s.width,s.c0,s.c1,s.c2,s.c3,.int .u8 aW,.int .u8 aH,far] 50/\Row w2 (w.heap.size+1) #[.int .i64 0,.int .i64 0,d,d] 54/\Row w2 (w1.heap.size+XN.sz) #[.int .i64 (1+aW%12),.int .i64 (1+aH%12),.slice a1 n c1,.slice a2 n c2] 54/\Rd w2 (.slice a1 n c1) (List.replicate n 0)/\Rd w2 (.slice a2 n c2) (List.replicate n 16777215)/\∃ X,w2=w.ext X) ⟨(Ra.ext XN).alloc _,(Rb.ext XN).alloc _,by exact rx_,(by exact jg HC.out),(by exact jg HZ.out),by obtain ⟨X0,hX0⟩:=HX.out;subst hX0;exact jz (by exact br_)⟩ ?_;have hb1:=Rb.lt;obtain ⟨bi,hbi⟩:∃ b,w1.heap.size+XN.sz=b:=⟨_,rfl⟩;have hb2:w.heap.size+1<bi:=by omega
 rw[hbi];have CL:=jj (fun (w:World) h1 h2=>aM9 (1+aW%12) (1+aH%12) (.slice a1 n c1) (.slice a2 n c2) (List.replicate n 0) (List.replicate n 16777215) far w h1 h2 (uA (by omega) (by omega) (by omega) (by omega) hn (by decide) (by decide)) f0 f1);have BX:=jj (fun (w:World)=>aLq (1+aW%12) (1+aH%12) (.slice a1 n c1) (.slice a2 n c2) w);clear Ra Rb HX ca fa la HC HZ NW sl1 hb1 hbi;rintro w2 ⟨Ra,Rb,Rc,hc,hz,hX⟩;have HX:=jj hX;have HRb:=jj Rb;have HC:=jj hc;have HZ:=jj hz;have ca:=Ra.cell;have fa:=Ra.frozen;have la:=Ra.lt;have cc:=Rc.cell;have fc:=Rc.frozen;have lc:=Rc.lt;clear Ra Rb Rc hX hc hz;refine aJ 8 [none,none,some ([],srV (R4 0 0 (1+aW%12) (1+aH%12))),none,none,none,none,some ([2],srA (w.heap.size+1+1) (1+aW%12) (1+aH%12) (List.replicate n 0) (List.replicate n far))] (by kernel_rfl) (by kernel_rfl) ?_;simp only[jx]
 (repeat (first|(refine aA ?_;intro K_ hK_;go_big_quiet_op;go_big_quiet_on)|simp only[jw]))
 refine aF rfl (fun w_ hw_ hk_ K_ hK_=>?_) (fun e2 f2=>?_)
 ·obtain ⟨X_,rfl⟩:=hw_;go_simp
  go_at_call 37
  with_reducible refine (BX.out _).mono ?_
  rintro _ _ ⟨rfl,hX⟩;exact hK_ _ _ rfl hX
 obtain rfl:=f2
 (repeat (first|(refine aA ?_;intro K_ hK_;go_big_quiet_op;go_big_quiet_on)|simp only[jw]))
 refine aF rfl (fun w_ hw_ hk_ K_ hK_=>?_) (fun e7 f7=>?_)
 ·obtain ⟨X_,rfl⟩:=hw_;go_simp
  go_at_call 70
  with_reducible refine (CL.out _ (HC.out.ext _) (HZ.out.ext _)).mono ?_
  rintro _ _ ⟨g1,k1,g2,k2,rfl,hX,A1,A2,t1,t2,tn⟩;have hsz:w.heap.size+1<w2.heap.size:=HRb.out.lt;rw[World.size_ext] at t1 t2;rw[List.length_replicate] at A2;exact hK_ _ _ ⟨g1,k1,g2,k2,rfl,A1,A2,by omega,by omega,tn⟩ hX
 obtain ⟨vc2,vz2,rfl⟩:=f7
 (repeat (first|(refine aA ?_;intro K_ hK_;go_big_quiet_op;go_big_quiet_on)|simp only[jw]))
 refine aT ?_;intro w_ hw_ kk;obtain ⟨X9,rfl⟩:=hw_;obtain ⟨g3,k3,g4,k4,e3,A3,A4,hp3,hp4,hne⟩:=(kk (7,_) (by repeat (first|exact List.mem_cons_self|refine jk ?_)));rw[List.length_replicate] at e3;obtain ⟨rfl,rfl⟩:vc2=.slice (some ⟨g3,0,none⟩) n k3/\vz2=.slice (some ⟨g4,0,none⟩) n k4:=by simpa using e3
 have H3:=jj A3;have H4:=jj A4;clear kk e3 A3 A4;have cd:=HRb.out.cell;have fd:=HRb.out.frozen;have ld:=HRb.out.lt;go_wp2;have CH:Chg (fun b=>b=w.heap.size+1) (w2.ext X9) (((((w2.setCell ⟨w.heap.size+1,0,none⟩ (.int .i64 (1+aW%12))).setCell ⟨w.heap.size+1,1,none⟩ (.int .i64 (1+aH%12))).setCell ⟨w.heap.size+1,2,none⟩ (.slice (some ⟨g3,0,none⟩) n k3)).setCell ⟨w.heap.size+1,3,none⟩ (.slice (some ⟨g4,0,none⟩) n k4)).ext X9):=Chg.both ((((Chg.one _ _ _ _).setCell (fun _=>rfl) _).setCell (fun _=>rfl) _).setCell (fun _=>rfl) _) (by simp[World.setCell]) X9;have RF:Row (((((w2.setCell ⟨w.heap.size+1,0,none⟩ (.int .i64 (1+aW%12))).setCell ⟨w.heap.size+1,1,none⟩ (.int .i64 (1+aH%12))).setCell ⟨w.heap.size+1,2,none⟩ (.slice (some ⟨g3,0,none⟩) n k3)).setCell ⟨w.heap.size+1,3,none⟩ (.slice (some ⟨g4,0,none⟩) n k4)).ext X9) (w.heap.size+1) #[.int .i64 (1+aW%12),.int .i64 (1+aH%12),.slice (some ⟨g3,0,none⟩) n k3,.slice (some ⟨g4,0,none⟩) n k4] 54:=by simpa using (((((HRb.out.set 0 (.int .i64 (1+aW%12))).set 1 (.int .i64 (1+aH%12))).set 2 (.slice (some ⟨g3,0,none⟩) n k3)).set 3 (.slice (some ⟨g4,0,none⟩) n k4)).ext X9)
 have XF:∃ X,(((((w2.setCell ⟨w.heap.size+1,0,none⟩ (.int .i64 (1+aW%12))).setCell ⟨w.heap.size+1,1,none⟩ (.int .i64 (1+aH%12))).setCell ⟨w.heap.size+1,2,none⟩ (.slice (some ⟨g3,0,none⟩) n k3)).setCell ⟨w.heap.size+1,3,none⟩ (.slice (some ⟨g4,0,none⟩) n k4)).ext X9)=w.ext X:=by
  obtain ⟨X0,hX0⟩:=HX.out;subst hX0;exact jz (by exact br_)
 generalize (((((w2.setCell ⟨w.heap.size+1,0,none⟩ (.int .i64 (1+aW%12))).setCell ⟨w.heap.size+1,1,none⟩ (.int .i64 (1+aH%12))).setCell ⟨w.heap.size+1,2,none⟩ (.slice (some ⟨g3,0,none⟩) n k3)).setCell ⟨w.heap.size+1,3,none⟩ (.slice (some ⟨g4,0,none⟩) n k4)).ext X9)=wf at CH RF XF ⊢;have q0:=RF.cell 0;have q1:=RF.cell 1;have q2:=RF.cell 2;have q3:=RF.cell 3;simp at q0 q1 q2 q3;exact bodyPost_ret (v:=Im (1+aW%12) (1+aH%12) (.slice (some ⟨g3,0,none⟩) n k3) (.slice (some ⟨g4,0,none⟩) n k4)) (by simp[results,results26,go_sem,q0,q1,q2,q3]) rfl ⟨g3,k3,g4,k4,by rw[List.length_replicate],XF,H3.out.chg CH (by omega),H4.out.chg CH (by omega),by omega,by omega,hne⟩
theorem aBg {n:Nat} {z:Int} (h0:0<=z) (h1:z<=16777215):∀ y∈List.replicate n z,-9223372036854775808<=y/\y<=9223372036854775807:=fun y hy=>by
 rw[List.eq_of_mem_replicate hy];omega
theorem aQb (v:Value) (s:SkP) (aW aH far:Int) (n:Nat) (w:World) (hW:0<=aW/\aW<=255) (hH:0<=aH/\aH<=255) (hn:(1+aW%12)*(1+aH%12)=n) (f0:0<=far) (f1:far<=16777215):Calls prog 26 #[mR v s aW aH far] w (aQ7 (1+aW%12) (1+aH%12) (List.replicate n 0) (List.replicate n far) (fun m=>m) w):=by
 have hn144:n<=144:=by
  obtain ⟨m,e,-,h⟩:=mP (W:=1+aW%12) (H:=1+aH%12) (by omega) (by omega) (by omega) (by omega);omega
 refine (yY v s aW aH far n w hW hH hn f0 f1).mono ?_;rintro _ w' ⟨g1,k1,g2,k2,rfl,hX,A1,A2,-⟩;have r2:=A2.rd (aBg f0 f1) (by simp only[List.length_replicate];omega);rw[List.length_replicate] at r2;refine ⟨_,_,rfl,hX,A1.rd (aBg (by decide) (by decide)) (by simp only[List.length_replicate];omega),?_⟩;rw[List.length_replicate];exact r2
def v3R (r:List Value):Prop:=∃ (x y z:Int),r=[.int .i64 x,.int .i64 y,.int .i64 z]/\(-9223372036854775808<=x/\x<=9223372036854775807)/\(-9223372036854775808<=y/\y<=9223372036854775807)/\(-9223372036854775808<=z/\z<=9223372036854775807)
def aPn (w:World) (r:List Value):Prop:=∃ (a b:Value),r=[a,b]/\(∃ z,Sls w 3 v3R a z)/\(∃ z,Sls w 1 aH4 b z)
theorem aO9 {w:World} {v:Value} {zs:List (List Value)} (h:Sls w 3 v3R v zs) (hn:zs.length<=1099511627776):∃ L:List V3P,L.length=zs.length/\Recs v3K w v L/\∀ a∈L,w64 a.z:=by
 obtain ⟨hr,-,a,cap,rfl,hc,-,h3⟩:=h;obtain ⟨L,hL,hrow⟩:=gX zs.length (fun i (a:V3P)=>∃ r,zs[i]?=some r/\r=a.cells/\w64 a.z) (fun i hi=>by
  obtain ⟨-,x,y,z,e,b1,b2,b3⟩:=hr _ (List.getElem_mem hi);exact ⟨⟨x,y,z⟩,_,List.getElem?_eq_getElem hi,e,b3⟩)
 refine ⟨L,hL,⟨by omega,a,cap,by rw[hL],by omega,?_⟩,fun f hf=>?_⟩
 ·rcases h3 with h3|⟨b,off,rfl,hb,hcl⟩
  ·exact .inl (List.eq_nil_of_length_eq_zero (by rw[hL,h3];rfl))
  ·refine .inr ⟨b,off,rfl,hb,fun i f hi j u hj=>?_⟩;obtain ⟨r,h4,h5,-⟩:=hrow i f hi;exact hcl i r h4 j u (by rw[h5];exact hj)
 ·obtain ⟨i,hi,rfl⟩:=List.mem_iff_getElem.1 hf;obtain ⟨r,-,-,h6⟩:=hrow i _ (List.getElem?_eq_getElem hi);exact h6
theorem aPa {w:World} {v:Value} {zs:List (List Value)} (h:Sls w 2 (aPn w) v zs) (hn:zs.length<=1099511627776):∃ S:List PsP,S.length=zs.length/\Recs psK w v S/\∀ s∈S,(∃ z,Sls w 3 v3R s.vs z)/\(∃ z,Sls w 1 aH4 s.es z):=by
 obtain ⟨hr,-,a,cap,rfl,hc,-,h3⟩:=h;obtain ⟨L,hL,hrow⟩:=gX zs.length (fun i (s:PsP)=>∃ r,zs[i]?=some r/\r=s.cells/\(∃ z,Sls w 3 v3R s.vs z)/\(∃ z,Sls w 1 aH4 s.es z)) (fun i hi=>by
  obtain ⟨-,a,b,e,⟨z1,b1⟩,⟨z2,b2⟩⟩:=hr _ (List.getElem_mem hi);obtain ⟨a1,c1,rfl,-⟩:=lR b1;obtain ⟨a2,c2,rfl,-⟩:=lR b2;exact ⟨⟨a1,z1.length,c1,a2,z2.length,c2⟩,_,List.getElem?_eq_getElem hi,e,⟨z1,b1⟩,⟨z2,b2⟩⟩)
 refine ⟨L,hL,⟨by omega,a,cap,by rw[hL],by omega,?_⟩,fun f hf=>?_⟩
 ·rcases h3 with h3|⟨b,off,rfl,hb,hcl⟩
  ·exact .inl (List.eq_nil_of_length_eq_zero (by rw[hL,h3];rfl))
  ·refine .inr ⟨b,off,rfl,hb,fun i f hi j u hj=>?_⟩;obtain ⟨r,h4,h5,-⟩:=hrow i f hi;exact hcl i r h4 j u (by rw[h5];exact hj)
 ·obtain ⟨i,hi,rfl⟩:=List.mem_iff_getElem.1 hf;obtain ⟨r,-,-,h6⟩:=hrow i _ (List.getElem?_eq_getElem hi);exact h6
theorem aKs {w:World} {v:Value} {S:List PsP} (h:Recs psK w v S) (hs:∀ s∈S,(∃ z,Sls w 3 v3R s.vs z)/\(∃ z,Sls w 1 aH4 s.es z)) (hf:aG7 S):∃ l,PolsR w v S l:=by
 obtain ⟨l,hl,hrow⟩:=gX S.length (fun i (p:PolP)=>∃ s,S[i]?=some s/\PolR w s p) (fun i hi=>by
  obtain ⟨⟨z1,b1⟩,⟨z2,b2⟩⟩:=hs _ (List.getElem_mem hi);obtain ⟨k1,k2⟩:=hf.2 _ (List.getElem_mem hi);obtain ⟨a1,c1,e1,-⟩:=lR b1;obtain ⟨a2,c2,e2,-⟩:=lR b2;have n1:(S[i]).vn=z1.length:=by injection e1
  have n2:(S[i]).en=z2.length:=by injection e2
  obtain ⟨V,-,hV,hz⟩:=aO9 b1 (by omega);obtain ⟨E,-,hE⟩:=aI5 b2 (by omega);exact ⟨⟨V,E⟩,_,List.getElem?_eq_getElem hi,hV,hE,hz⟩)
 refine ⟨l,h,hl.symm,fun i s p h1 h2=>?_⟩;obtain ⟨s',h3,h4⟩:=hrow i p h2;rw[h1] at h3;cases h3
 exact h4
def aNn (S:List PsP) (far:Int):Prop:=aG7 S/\0<=far/\far<=16777215
theorem aKa {S:List PsP} {far:Int} (h:¬aNn S far):(decide (aG7 S)&&(decide (0<=far)&&decide (far<=16777215)))=false:=by
 by_cases h1:aG7 S
 ·by_cases h2:0<=far
  ·have h3:¬far<=16777215:=fun h3=>h ⟨h1,h2,h3⟩
   simp[h3]
  ·simp[h2]
 ·simp[h1]
theorem aFz {S:List PsP} {far:Int} (h:aNn S far):(decide (aG7 S)&&(decide (0<=far)&&decide (far<=16777215)))=true:=by
 obtain ⟨h1,h2,h3⟩:=h;simp[h1,h2,h3]
theorem qZ (aL:Value) (s:SkP) (aW aH far:Int) (w:World) (h:∃ z,Sls w 2 (aPn w) aL z):((∃ a n cap,aL=.slice a n cap/\n<=maxLen/\∀ X,Calls prog 24 #[mR aL s aW aH far] (w.ext X) (Ret (.bool false) (w.ext X))))\/(∃ S l,S.length<=12/\PolsR w aL S l/\0<=far/\far<=16777215/\∀ X,Calls prog 24 #[mR aL s aW aH far] (w.ext X) (Ret (.bool true) (w.ext X))):=by
 obtain ⟨z,hz⟩:=h;obtain ⟨a,cap,rfl,hm⟩:=lR hz
 by_cases h12:12<z.length
 ·refine .inl ⟨a,_,cap,rfl,hm,fun X=>?_⟩;have:=aGl a z.length cap s aW aH far false (w.ext X) (fun Y=>aEl a z.length cap _ h12 hm)
  simpa using this
 ·obtain ⟨S,hS,hr,hs⟩:=aPa hz (by omega)
  by_cases k:aNn S far
  ·obtain ⟨l,hl⟩:=aKs hr hs k.1;refine .inr ⟨S,l,by omega,hl,k.2.1,k.2.2,fun X=>?_⟩;have:=aGl a z.length cap s aW aH far (decide (aG7 S)) (w.ext X) (fun Y=>aPh _ S _ ((hr.ext X).ext Y) (by omega));rw[aFz k] at this;exact this
  ·refine .inl ⟨a,_,cap,rfl,hm,fun X=>?_⟩;have:=aGl a z.length cap s aW aH far (decide (aG7 S)) (w.ext X) (fun Y=>aPh _ S _ ((hr.ext X).ext Y) (by omega));rw[aKa k] at this;exact this
end Go.Proofs.YthcjfanigfgckaaGreat
