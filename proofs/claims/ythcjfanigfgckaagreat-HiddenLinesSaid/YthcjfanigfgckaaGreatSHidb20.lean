import Derived.Test.YthcjfanigfgckaaGreatSHidb04
import Derived.Test.YthcjfanigfgckaaGreatSHidb08
import Derived.Test.YthcjfanigfgckaaGreatSHidb15
set_option linter.unusedVariables false
set_option linter.unusedSimpArgs false
set_option maxRecDepth 100000
set_option maxHeartbeats 16000000
namespace Go.Proofs.YthcjfanigfgckaaGreat
open Go.RowKit _root_.Go.Proofs.Tryz
instance jh19 : Coe Nat Value := ⟨fun n => .int .i64 n⟩
section
theorem RN.plus {w:World} {v:Value} {z:Int} {n:Nat} (h:RN w v z n) (hz:0<=z):∃ sv l,v=.agg #[.bool false,sv]/\Rb w sv l/\Can l/\bv l=z/\l.length<=n:=by
 obtain ⟨m,sv,l,rfl,h2,h3,h4,rfl,h5⟩:=h;have hb:=(jO h3.1).1;cases m
 ·exact ⟨sv,l,rfl,h2,h3,rfl,h5⟩
 ·exfalso
  have:=h4 rfl;simp[pmv] at hz;omega
theorem nR {B p k:Nat} {w0 wr:World} {u:Value} (h:Below B w0 wr) (hp:B<=p):Below B w0 (wr.setCell ⟨p,k,none⟩ u):=Below.setCell h (by simpa using hp) _
theorem s8 {B p:Nat} {w0 wr:World} {u v:Value} (h:Below B w0 wr) (hp:B<=p):Below B w0 ((wr.setCell ⟨p,0,none⟩ u).setCell ⟨p,1,none⟩ v):=nR (nR h hp) hp
structure FL (n:Nat) (w0 wr:World) (ma md:Bool) (va vd:Value) (a d lq lr:List Int) (vq vr:Value):Prop where
 ra:Row wr n #[.bool ma,va] 101
 rd:Row wr (n+1) #[.bool md,vd] 101
 r1:Row wr (n+1+1) #[.bool false,.slice none 0 0] 101
 r2:Row wr (n+1+1+1) #[.bool false,.slice none 0 0] 101
 rq:Row wr (n+1+1+1+1) #[.bool false,vq] 101
 rr:Row wr (n+1+1+1+1+1) #[.bool false,vr] 101
 bel:Below n w0 wr
 ba:Rb wr va a
 bd:Rb wr vd d
 bq:Rb wr vq lq
 br:Rb wr vr lr
theorem Rb.noByte {w:World} {v:Value} {l:List Int} (h:Rb w v l):∀ d,v≠.int .u8 d:=by
 obtain ⟨a,cap,rfl,-⟩:=h.form;exact fun d=>by simp
section
variable {n:Nat} {w0 wr:World} {ma md:Bool} {va vd vq vr:Value} {a d lq lr:List Int}
theorem FL.ext (h:FL n w0 wr ma md va vd a d lq lr vq vr) (hn:n<=w0.heap.size) (X:Xt):FL n w0 (wr.ext X) ma md va vd a d lq lr vq vr :=
 ⟨h.ra.ext X,h.rd.ext X,h.r1.ext X,h.r2.ext X,h.rq.ext X,h.rr.ext X,h.bel.ext (by have:=h.bel.size;omega) X,h.ba.ext X,h.bd.ext X,h.bq.ext X,h.br.ext X⟩
theorem FL.alloc (h:FL n w0 wr ma md va vd a d lq lr vq vr) (hn:n<=w0.heap.size) (o:Obj):FL n w0 (wr.alloc o) ma md va vd a d lq lr vq vr :=
 ⟨h.ra.alloc o,h.rd.alloc o,h.r1.alloc o,h.r2.alloc o,h.rq.alloc o,h.rr.alloc o,h.bel.alloc (by have:=h.bel.size;omega) o,h.ba.alloc o,h.bd.alloc o,h.bq.alloc o,h.br.alloc o⟩
theorem FL.setr (h:FL n w0 wr ma md va vd a d lq lr vq vr) {vr':Value} {lr':List Int} (hb:Rb wr vr' lr'):FL n w0 ((wr.setCell ⟨n+1+1+1+1+1,0,none⟩ (.bool false)).setCell ⟨n+1+1+1+1+1,1,none⟩ vr') ma md va vd a d lq lr' vq vr':=by
 have C:Chg (fun j=>j=n+1+1+1+1+1) wr ((wr.setCell ⟨n+1+1+1+1+1,0,none⟩ (.bool false)).setCell ⟨n+1+1+1+1+1,1,none⟩ vr'):=chg_two;have k:∀ {v l},Rb wr v l->Rb ((wr.setCell ⟨n+1+1+1+1+1,0,none⟩ (.bool false)).setCell ⟨n+1+1+1+1+1,1,none⟩ vr') v l:=fun hv=>hv.chg2 h.rr (fun d=>by simp) h.br.noByte C
 refine ⟨C.row h.ra (by omega),C.row h.rd (by omega),C.row h.r1 (by omega),C.row h.r2 (by omega),C.row h.rq (by omega),?_,s8 h.bel (by omega),k h.ba,k h.bd,k h.bq,k hb⟩;have:=(h.rr.set 0 (.bool false)).set 1 vr'
 simpa using this
theorem FL.setq (h:FL n w0 wr ma md va vd a d lq lr vq vr) {vq':Value} {lq':List Int} (hb:Rb wr vq' lq'):FL n w0 (wr.setCell ⟨n+1+1+1+1,1,none⟩ vq') ma md va vd a d lq' lr vq' vr:=by
 have C:Chg (fun j=>j=n+1+1+1+1) wr (wr.setCell ⟨n+1+1+1+1,1,none⟩ vq'):=Chg.one _ _ _ _;have k:∀ {v l},Rb wr v l->Rb (wr.setCell ⟨n+1+1+1+1,1,none⟩ vq') v l:=fun hv=>hv.chg2 h.rq (fun d=>by simp) h.bq.noByte C
 refine ⟨C.row h.ra (by omega),C.row h.rd (by omega),C.row h.r1 (by omega),C.row h.r2 (by omega),?_,C.row h.rr (by omega),nR h.bel (by omega),k h.ba,k h.bd,k hb,k h.br⟩;have:=h.rq.set 1 vq'
 simpa using this
theorem FL.setq2 (h:FL n w0 wr ma md va vd a d lq lr vq vr) {vq':Value} {lq':List Int} (hb:Rb wr vq' lq'):FL n w0 ((wr.setCell ⟨n+1+1+1+1,0,none⟩ (.bool false)).setCell ⟨n+1+1+1+1,1,none⟩ vq') ma md va vd a d lq' lr vq' vr:=by
 have C:Chg (fun j=>j=n+1+1+1+1) wr ((wr.setCell ⟨n+1+1+1+1,0,none⟩ (.bool false)).setCell ⟨n+1+1+1+1,1,none⟩ vq'):=chg_two;have k:∀ {v l},Rb wr v l->Rb ((wr.setCell ⟨n+1+1+1+1,0,none⟩ (.bool false)).setCell ⟨n+1+1+1+1,1,none⟩ vq') v l:=fun hv=>hv.chg2 h.rq (fun d=>by simp) h.bq.noByte C
 refine ⟨C.row h.ra (by omega),C.row h.rd (by omega),C.row h.r1 (by omega),C.row h.r2 (by omega),?_,C.row h.rr (by omega),s8 h.bel (by omega),k h.ba,k h.bd,k hb,k h.br⟩;have:=(h.rq.set 0 (.bool false)).set 1 vq'
 simpa using this
theorem FL.facts (h:FL n w0 wr ma md va vd a d lq lr vq vr):wr.cell? ⟨n,0,none⟩=some (.bool ma)/\wr.cell? ⟨n,1,none⟩=some (va)/\wr.cell? ⟨n+1,0,none⟩=some (.bool md)/\wr.cell? ⟨n+1,1,none⟩=some (vd)/\wr.cell? ⟨n+1+1,0,none⟩=some (.bool false)/\wr.cell? ⟨n+1+1,1,none⟩=some (.slice none 0 0)/\wr.cell? ⟨n+1+1+1,0,none⟩=some (.bool false)/\wr.cell? ⟨n+1+1+1,1,none⟩=some (.slice none 0 0)/\wr.cell? ⟨n+1+1+1+1,0,none⟩=some (.bool false)/\wr.cell? ⟨n+1+1+1+1,1,none⟩=some (vq)/\wr.cell? ⟨n+1+1+1+1+1,0,none⟩=some (.bool false)/\wr.cell? ⟨n+1+1+1+1+1,1,none⟩=some (vr)/\wr.frozen? ⟨n+1+1,0,none⟩=false/\wr.frozen? ⟨n+1+1,1,none⟩=false/\wr.frozen? ⟨n+1+1+1,0,none⟩=false/\wr.frozen? ⟨n+1+1+1,1,none⟩=false/\wr.frozen? ⟨n+1+1+1+1,0,none⟩=false/\wr.frozen? ⟨n+1+1+1+1,1,none⟩=false/\wr.frozen? ⟨n+1+1+1+1+1,0,none⟩=false/\wr.frozen? ⟨n+1+1+1+1+1,1,none⟩=false/\n<wr.heap.size/\n+1<wr.heap.size/\n+1+1<wr.heap.size/\n+1+1+1<wr.heap.size/\n+1+1+1+1<wr.heap.size/\n+1+1+1+1+1<wr.heap.size :=
 ⟨by rw[h.ra.cell 0];rfl,by rw[h.ra.cell 1];rfl,by rw[h.rd.cell 0];rfl,by rw[h.rd.cell 1];rfl,by rw[h.r1.cell 0];rfl,by rw[h.r1.cell 1];rfl,by rw[h.r2.cell 0];rfl,by rw[h.r2.cell 1];rfl,by rw[h.rq.cell 0];rfl,by rw[h.rq.cell 1];rfl,by rw[h.rr.cell 0];rfl,by rw[h.rr.cell 1];rfl,h.r1.frozen 0,h.r1.frozen 1,h.r2.frozen 0,h.r2.frozen 1,h.rq.frozen 0,h.rq.frozen 1,h.rr.frozen 0,h.rr.frozen 1,h.ra.lt,h.rd.lt,h.r1.lt,h.r2.lt,h.rq.lt,h.rr.lt⟩
end
theorem sO {a d lq lr l2:List Int} {j:Nat} {one:Int} (ha:Bin a) (e:bv a/2^(j+1)=bv lq*bv d+bv lr) (h2:bv l2=bt a j+2*bv lr-one*bv d):bv a/2^j=bv (one::lq)*bv d+bv l2:=by
 rw[fF ha j,e,h2,bv];grind
theorem aGx {x d q r:Int} (he:x/2^0=q*d+r) (r0:0<=r) (r1:r<d):x/d=q/\x%d=r:=by
 have e:x=r+d*q:=by
  have:x/2^0=x:=by simp
  rw[this] at he;rw[he];grind
 rw[e,Int.add_mul_ediv_left _ _ (by omega),Int.add_mul_emod_self_left,Int.ediv_eq_zero_of_lt r0 r1,Int.emod_eq_of_lt r0 r1];omega
theorem aOc {l d:List Int} (hc:Can l) (hd:Bin d) (h:bv l<2*bv d):l.length<=d.length+1:=by
 apply Classical.byContradiction
 intro hn;have h1:=hc.low (by omega);have h2:=(jO hd).2;have h3:=tM (show d.length+1<=l.length-1 by omega);rw[eG] at h3;omega
theorem qL (va vd:Value) (x y:Int) (n k:Nat) (w:World) (ha:RN w va x n) (hd:RN w vd y k) (hy:1<=y) (hnk:n+k<=1000) :
  Calls prog 86 #[va,vd] w (RetR (fun v w=>∃ q r,v=.tuple #[q,r]/\RN w q (x/y) (n+2)/\RN w r (x%y) (k+4)) w):=by
 obtain ⟨i0,hi,hz0,hz1,hz2⟩:=info_parts kX;obtain ⟨sd,d,rfl,rd,can_d,rfl,ld⟩:=hd.plus (by omega);obtain ⟨ma,sa,a,rfl,ra,can_a,hma,rfl,la⟩:=ha;have HA:=jj ra;have HB:=jj rd;have BA:=ra.bin;have BD:=rd.bin;obtain ⟨aa,acap,rfl,-⟩:=ra.form;obtain ⟨da,dcap,rfl,-⟩:=rd.form;clear ra rd hd can_a
 go_enter func86,ntmps86
 go_wp2;refine aE (F:=fun wx=>FL w.heap.size w wx ma false (.slice aa a.length acap) (.slice da d.length dcap) a d [] [] (.slice none 0 0) (.slice none 0 0)) ?_ ?_
 ·exact ⟨by exact rx_,by exact rx_,by exact rx_,by exact rx_,by exact rx_,by exact rx_,by exact bl_,by (repeat (first|assumption|exact HA.out|exact HB.out|with_reducible refine Rb.ext ?_ _|with_reducible refine Rb.alloc ?_ _|with_reducible refine Rb.drew ?_)),by (repeat (first|assumption|exact HA.out|exact HB.out|with_reducible refine Rb.ext ?_ _|with_reducible refine Rb.alloc ?_ _|with_reducible refine Rb.drew ?_)),Rb.nil,Rb.nil⟩
 clear HA HB;intro wx HF;go_loopw [8] (fun i wr=>∃ (lq lr:List Int) (vq vr:Value) (j:Nat),i=.int .i64 ((j:Int)-1)/\j<=a.length/\FL w.heap.size w wr ma false (.slice aa a.length acap) (.slice da d.length dcap) a d lq lr vq vr/\lq.length+j=a.length/\Can lr/\bv lr<bv d/\bv a/2^j=bv lq*bv d+bv lr)
  (fun i _=>(intOf i+1).toNat)
 case atStart=>exact ⟨[],[],_,_,a.length,by simp,by omega,HF,by simp,⟨Bin.nil,fun h=>by simp at h⟩,by simp[bv];omega,by rw[jN BA (Nat.le_refl _)];simp[bv]⟩
 case round =>
  clear HF;obtain ⟨lq,lr,vq,vr,j,rfl,hj,HF,hlq,hcr,hrd,he⟩:=hrel;obtain ⟨qa,qcap,rfl,-⟩:=HF.bq.form;obtain ⟨r0a,rcap,rfl,-⟩:=HF.br.form;obtain ⟨c00,c01,c10,c11,c20,c21,c30,c31,c40,c41,c50,c51,f20,f21,f30,f31,f40,f41,f50,f51,s0,s1,s2,s3,s4,s5⟩:=HF.facts;have HFL:=jj HF;have hqn:=(jO HF.bq.bin).1;have hrn:=(jO HF.br.bin).1;have lrl:=aOc hcr BD (by have:=(jO BD).1;omega);clear HF;cases j with
  |zero =>
   have HE:=jj he;have HRD:=jj hrd;have HCR:=jj hcr;have lrk:lr.length<=k+1:=by omega
   have lq1:lq.length<=n:=by omega
   obtain ⟨hq1,hq2⟩:=aGx (x:=bv a) he hrn hrd;have HQ1:=jj (show bv a/bv d=pmv (bv lq) false from hq1);have HQ2:=jj hq2;clear hq1 hq2 he hrd hcr;cases ma
   ·go_upto_region 14 with (first|(go_at_call 100;(with_reducible refine (cY _ _ lq _ HFL.out.bq).mono ?_);rintro _ w4 ⟨v4,rfl,g4,⟨Y4,hY4⟩⟩;have HF4:=HFL.out.ext (Nat.le_refl _) Y4;rw[<-hY4] at HF4;clear c00 c01 c10 c11 c20 c21 c30 c31 c40 c41 c50 c51 f20 f21 f30 f31 f40 f41 f50 f51 s0 s1 s2 s3 s4 s5;obtain ⟨c00,c01,c10,c11,c20,c21,c30,c31,c40,c41,c50,c51,f20,f21,f30,f31,f40,f41,f50,f51,s0,s1,s2,s3,s4,s5⟩:=HF4.facts;obtain ⟨s4v,l4,rfl,rb4,can4,hv4,hl4⟩:=RN.plus g4 (by simp[pmv];omega);obtain ⟨a4,c4,rfl,-⟩:=rb4.form;have HFL4:=jj HF4;have G4:=jj rb4;have CAN4:=jj can4;have HV4:=jj hv4;have HL4:=jj hl4;clear HF4 hY4 g4 rb4 can4 hv4 hl4))
    have HFX:=HFL4.out.setq2 G4.out;refine aE (F:=fun wx=>FL w.heap.size w wx false false (.slice aa a.length acap) (.slice da d.length dcap) a d l4 lr (.slice a4 l4.length c4) (.slice r0a lr.length rcap)) HFX ?_;clear HFX HFL HFL4 G4;intro w5 HF5;clear c00 c01 c10 c11 c20 c21 c30 c31 c40 c41 c50 c51 f20 f21 f30 f31 f40 f41 f50 f51 s0 s1 s2 s3 s4 s5;obtain ⟨c00,c01,c10,c11,c20,c21,c30,c31,c40,c41,c50,c51,f20,f21,f30,f31,f40,f41,f50,f51,s0,s1,s2,s3,s4,s5⟩:=HF5.facts
    have G1:Hh (w.heap.size+1+1) w5:=⟨_,_,HF5.r1,_,_,_,rfl⟩;have G2:Hh (w.heap.size+1+1+1) w5:=⟨_,_,HF5.r2,_,_,_,rfl⟩;have NQ:RN w5 (.agg #[.bool false,.slice a4 l4.length c4]) (bv l4) l4.length:=⟨false,_,l4,rfl,HF5.bq,CAN4.out,by simp,rfl,Nat.le_refl _⟩;have NR:RN w5 (.agg #[.bool false,.slice r0a lr.length rcap]) (bv lr) lr.length:=⟨false,_,lr,rfl,HF5.br,HCR.out,by simp,rfl,Nat.le_refl _⟩;have ND:RN w5 (.agg #[.bool false,.slice da d.length dcap]) (bv d) d.length:=⟨false,_,d,rfl,HF5.bd,can_d,by simp,rfl,Nat.le_refl _⟩;have g6:=jj HF5;clear HF5
    replace G1:=jj G1
    replace G2:=jj G2
    replace NQ:=jj NQ
    replace NR:=jj NR
    replace ND:=jj ND
    clear c00 c01 c10 c11 c20 c21 c30 c31 c40 c41 c50 c51 f20 f21 f30 f31 f40 f41 f50 f51;refine gK (L:=LL (w.heap.size+1+1) (w.heap.size+1+1+1) (bv l4) (bv lr) (n+2) (k+4)) preLL [some ([],aDc _ _ _ _ _ _ (bv l4) l4.length),some ([],aDc _ _ _ _ _ _ (bv lr) lr.length),some ([0],aSa _ _ _ _ _ _),some ([1],aR9 _ _ _ _ _ _)] (by kernel_rfl) (by kernel_rfl) ?_;refine bV rfl (fun w_ hw_ hk_ K_ hK_=>?_) (fun v55 f55=>?_)
    ·have R:=hw_.chg.row g6.out.rq (by omega);have q0:=R.cell 0;have q1:=R.cell 1;have q2:=R.lt;simp at q0 q1;go_simp;exact hK_ _ _ ⟨hw_.h1 G1.out,hw_.h2 G2.out,NQ.out.ll hw_ G1.out G2.out⟩ (preLL.refl _)
    obtain ⟨m55,a55,k55,c55,rfl⟩:=f55
    (simp only[jw])
    refine bV rfl (fun w_ hw_ hk_ K_ hK_=>?_) (fun v56 f56=>?_)
    ·have R:=hw_.chg.row g6.out.rr (by omega);have q0:=R.cell 0;have q1:=R.cell 1;have q2:=R.lt;simp at q0 q1;go_simp;exact hK_ _ _ ⟨hw_.h1 G1.out,hw_.h2 G2.out,NR.out.ll hw_ G1.out G2.out⟩ (preLL.refl _)
    obtain ⟨m56,a56,k56,c56,rfl⟩:=f56
    (simp only[jw])
    refine fI rfl (fun w_ hw_ hk_ K_ hK_=>?_) (fun _ _=>?_)
    ·obtain ⟨g1,g2,h⟩:=(hk_ (0,_) (by repeat (first|exact List.mem_cons_self|refine jk ?_))) (by simp);have S:=LL.set1 (z2:=(bv lr)) (n1:=n+2) (n2:=k+4) g1 g2 (by omega) (h.mono (by have:=HL4.out;omega));have gx:=g1;obtain ⟨m0,s0,R,hs0⟩:=gx;have q0:=R.cell 0;have q1:=R.cell 1;have q2:=R.lt;have q3:=R.frozen 0;have q4:=R.frozen 1;simp at q0 q1;go_simp;exact hK_ _ ⟨S.1.h1 g1,S.1.h2 g2,S.2⟩ S.1
    refine fI rfl (fun w_ hw_ hk_ K_ hK_=>?_) (fun _ _=>?_)
    ·obtain ⟨g1,g2,h⟩:=(hk_ (1,_) (by repeat (first|exact List.mem_cons_self|refine jk ?_))) (by simp);have S:=LL.set2 (z1:=(bv l4)) (n1:=n+2) (n2:=k+4) g1 g2 (by omega) (h.mono (by omega));have gx:=g2;obtain ⟨m0,s0,R,hs0⟩:=gx;have q0:=R.cell 0;have q1:=R.cell 1;have q2:=R.lt;have q3:=R.frozen 0;have q4:=R.frozen 1;simp at q0 q1;go_simp;exact hK_ _ ⟨S.1.h1 g1,S.1.h2 g2,S.2⟩ S.1
    refine aT ?_;intro w7 hL7 hk7;obtain ⟨-,-,⟨m1,s1,R1,N1⟩⟩:=(hk7 (2,_) (by repeat (first|exact List.mem_cons_self|refine jk ?_)));obtain ⟨-,-,⟨m2,s2,R2,N2⟩⟩:=(hk7 (3,_) (by repeat (first|exact List.mem_cons_self|refine jk ?_)));clear hk7;have t0:=R1.cell 0;have t1:=R1.cell 1;have t2:=R2.cell 0;have t3:=R2.cell 1;simp at t0 t1 t2 t3;go_wp2;refine bodyPost_ret (v:=.tuple #[.agg #[.bool m1,s1],.agg #[.bool m2,s2]]) (by simp[results,results86,go_sem,t0,t1,t2,t3]) rfl ?_;have E1:pmv (bv a) false/bv d=bv l4:=by rw[HV4.out];exact HQ1.out
    have E2:pmv (bv a) false%bv d=bv lr:=HQ2.out;rw[E1,E2];exact wZ g6.out.bel (by have:=g6.out.bel.size;omega) (by omega) (by omega) hL7 N1 N2
   ·by_cases hz:lr.length=0
    ·have dz:((lr.length:Int)==0)=true:=by simp[hz]
     have LZ:bv lr=0:=HCR.out.zero.2 hz;clear hz;go_upto_region 16 with (first|(go_at_call 100;(with_reducible refine (cY _ _ lq _ HFL.out.bq).mono ?_);rintro _ w4 ⟨v4,rfl,g4,⟨Y4,hY4⟩⟩;have HF4:=HFL.out.ext (Nat.le_refl _) Y4;rw[<-hY4] at HF4;clear c00 c01 c10 c11 c20 c21 c30 c31 c40 c41 c50 c51 f20 f21 f30 f31 f40 f41 f50 f51 s0 s1 s2 s3 s4 s5;obtain ⟨c00,c01,c10,c11,c20,c21,c30,c31,c40,c41,c50,c51,f20,f21,f30,f31,f40,f41,f50,f51,s0,s1,s2,s3,s4,s5⟩:=HF4.facts;obtain ⟨s4v,l4,rfl,rb4,can4,hv4,hl4⟩:=RN.plus g4 (by simp[pmv];omega);obtain ⟨a4,c4,rfl,-⟩:=rb4.form;have HFL4:=jj HF4;have G4:=jj rb4;have CAN4:=jj can4;have HV4:=jj hv4;have HL4:=jj hl4;clear HF4 hY4 g4 rb4 can4 hv4 hl4))
     clear dz;have HFX:=HFL4.out.setq2 G4.out;refine aE (F:=fun wx=>FL w.heap.size w wx true false (.slice aa a.length acap) (.slice da d.length dcap) a d l4 lr (.slice a4 l4.length c4) (.slice r0a lr.length rcap)) HFX ?_;clear HFX HFL HFL4 G4;intro w5 HF5;clear c00 c01 c10 c11 c20 c21 c30 c31 c40 c41 c50 c51 f20 f21 f30 f31 f40 f41 f50 f51 s0 s1 s2 s3 s4 s5;obtain ⟨c00,c01,c10,c11,c20,c21,c30,c31,c40,c41,c50,c51,f20,f21,f30,f31,f40,f41,f50,f51,s0,s1,s2,s3,s4,s5⟩:=HF5.facts
     have G1:Hh (w.heap.size+1+1) w5:=⟨_,_,HF5.r1,_,_,_,rfl⟩;have G2:Hh (w.heap.size+1+1+1) w5:=⟨_,_,HF5.r2,_,_,_,rfl⟩;have NQ:RN w5 (.agg #[.bool false,.slice a4 l4.length c4]) (bv l4) l4.length:=⟨false,_,l4,rfl,HF5.bq,CAN4.out,by simp,rfl,Nat.le_refl _⟩;have NR:RN w5 (.agg #[.bool false,.slice r0a lr.length rcap]) (bv lr) lr.length:=⟨false,_,lr,rfl,HF5.br,HCR.out,by simp,rfl,Nat.le_refl _⟩;have ND:RN w5 (.agg #[.bool false,.slice da d.length dcap]) (bv d) d.length:=⟨false,_,d,rfl,HF5.bd,can_d,by simp,rfl,Nat.le_refl _⟩;have g6:=jj HF5;clear HF5
     replace G1:=jj G1
     replace G2:=jj G2
     replace NQ:=jj NQ
     replace NR:=jj NR
     replace ND:=jj ND
     clear c00 c01 c10 c11 c20 c21 c30 c31 c40 c41 c50 c51 f20 f21 f30 f31 f40 f41 f50 f51;refine gK (L:=LL (w.heap.size+1+1) (w.heap.size+1+1+1) (-bv l4) (bv lr) (n+2) (k+4)) preLL [some ([],aDc _ _ _ _ _ _ (bv l4) l4.length),some ([0],aDc _ _ _ _ _ _ (-bv l4) l4.length),some ([],aDc _ _ _ _ _ _ (bv lr) lr.length),some ([1],aSa _ _ _ _ _ _),some ([2],aR9 _ _ _ _ _ _)] (by kernel_rfl) (by kernel_rfl) ?_;refine bV rfl (fun w_ hw_ hk_ K_ hK_=>?_) (fun v61 f61=>?_)
     ·have R:=hw_.chg.row g6.out.rq (by omega);have q0:=R.cell 0;have q1:=R.cell 1;have q2:=R.lt;simp at q0 q1;go_simp;exact hK_ _ _ ⟨hw_.h1 G1.out,hw_.h2 G2.out,NQ.out.ll hw_ G1.out G2.out⟩ (preLL.refl _)
     obtain ⟨m61,a61,k61,c61,rfl⟩:=f61
     (simp only[jw])
     refine bV rfl (fun w_ hw_ hk_ K_ hK_=>?_) (fun v62 f62=>?_)
     ·obtain ⟨g1,g2,h0⟩:=(hk_ (0,_) (by repeat (first|exact List.mem_cons_self|refine jk ?_))) (by simp);go_simp
      go_at_call 104
      refine (lW _ _ _ _ h0).mono ?_;rintro _ _ ⟨v,rfl,e1,e2⟩;obtain ⟨X9,rfl⟩:=e2;exact hK_ _ _ ⟨g1.ext X9,g2.ext X9,e1⟩ (LL.ext _ X9)
     obtain ⟨m62,a62,k62,c62,rfl⟩:=f62
     (simp only[jw])
     refine bV rfl (fun w_ hw_ hk_ K_ hK_=>?_) (fun v63 f63=>?_)
     ·have R:=hw_.chg.row g6.out.rr (by omega);have q0:=R.cell 0;have q1:=R.cell 1;have q2:=R.lt;simp at q0 q1;go_simp;exact hK_ _ _ ⟨hw_.h1 G1.out,hw_.h2 G2.out,NR.out.ll hw_ G1.out G2.out⟩ (preLL.refl _)
     obtain ⟨m63,a63,k63,c63,rfl⟩:=f63
     (simp only[jw])
     refine fI rfl (fun w_ hw_ hk_ K_ hK_=>?_) (fun _ _=>?_)
     ·obtain ⟨g1,g2,h⟩:=(hk_ (1,_) (by repeat (first|exact List.mem_cons_self|refine jk ?_))) (by simp);have S:=LL.set1 (z2:=(bv lr)) (n1:=n+2) (n2:=k+4) g1 g2 (by omega) (h.mono (by have:=HL4.out;omega));have gx:=g1;obtain ⟨m0,s0,R,hs0⟩:=gx;have q0:=R.cell 0;have q1:=R.cell 1;have q2:=R.lt;have q3:=R.frozen 0;have q4:=R.frozen 1;simp at q0 q1;go_simp;exact hK_ _ ⟨S.1.h1 g1,S.1.h2 g2,S.2⟩ S.1
     refine fI rfl (fun w_ hw_ hk_ K_ hK_=>?_) (fun _ _=>?_)
     ·obtain ⟨g1,g2,h⟩:=(hk_ (2,_) (by repeat (first|exact List.mem_cons_self|refine jk ?_))) (by simp);have S:=LL.set2 (z1:=(-bv l4)) (n1:=n+2) (n2:=k+4) g1 g2 (by omega) (h.mono (by omega));have gx:=g2;obtain ⟨m0,s0,R,hs0⟩:=gx;have q0:=R.cell 0;have q1:=R.cell 1;have q2:=R.lt;have q3:=R.frozen 0;have q4:=R.frozen 1;simp at q0 q1;go_simp;exact hK_ _ ⟨S.1.h1 g1,S.1.h2 g2,S.2⟩ S.1
     refine aT ?_;intro w7 hL7 hk7;obtain ⟨-,-,⟨m1,s1,R1,N1⟩⟩:=(hk7 (3,_) (by repeat (first|exact List.mem_cons_self|refine jk ?_)));obtain ⟨-,-,⟨m2,s2,R2,N2⟩⟩:=(hk7 (4,_) (by repeat (first|exact List.mem_cons_self|refine jk ?_)));clear hk7;have t0:=R1.cell 0;have t1:=R1.cell 1;have t2:=R2.cell 0;have t3:=R2.cell 1;simp at t0 t1 t2 t3;go_wp2;refine bodyPost_ret (v:=.tuple #[.agg #[.bool m1,s1],.agg #[.bool m2,s2]]) (by simp[results,results86,go_sem,t0,t1,t2,t3]) rfl ?_;have E1:pmv (bv a) true/bv d=-bv l4:=by rw[HV4.out];have e:=((pZ (A:=bv a) (d:=bv d) (by omega)).1 (by rw[show bv a%bv d=bv lr from HQ2.out];exact LZ)).1;rw[show bv a/bv d=pmv (bv lq) false from HQ1.out] at e;exact e
     have E2:pmv (bv a) true%bv d=bv lr:=by rw[LZ];exact ((pZ (A:=bv a) (d:=bv d) (by omega)).1 (by rw[show bv a%bv d=bv lr from HQ2.out];exact LZ)).2
     rw[E1,E2];exact wZ g6.out.bel (by have:=g6.out.bel.size;omega) (by omega) (by omega) hL7 N1 N2
    ·have dz:((lr.length:Int)==0)=false:=by simp[hz]
     have LZ:bv lr≠0:=fun h=>hz (HCR.out.zero.1 h)
     clear hz;go_upto_region 17 with (first|(go_at_call 100;(with_reducible refine (cY _ _ lq _ HFL.out.bq).mono ?_);rintro _ w4 ⟨v4,rfl,g4,⟨Y4,hY4⟩⟩;have HF4:=HFL.out.ext (Nat.le_refl _) Y4;rw[<-hY4] at HF4;clear c00 c01 c10 c11 c20 c21 c30 c31 c40 c41 c50 c51 f20 f21 f30 f31 f40 f41 f50 f51 s0 s1 s2 s3 s4 s5;obtain ⟨c00,c01,c10,c11,c20,c21,c30,c31,c40,c41,c50,c51,f20,f21,f30,f31,f40,f41,f50,f51,s0,s1,s2,s3,s4,s5⟩:=HF4.facts;obtain ⟨s4v,l4,rfl,rb4,can4,hv4,hl4⟩:=RN.plus g4 (by simp[pmv];omega);obtain ⟨a4,c4,rfl,-⟩:=rb4.form;have HFL4:=jj HF4;have G4:=jj rb4;have CAN4:=jj can4;have HV4:=jj hv4;have HL4:=jj hl4;clear HF4 hY4 g4 rb4 can4 hv4 hl4))
     clear dz;have HFX:=HFL4.out.setq2 G4.out;refine aE (F:=fun wx=>FL w.heap.size w wx true false (.slice aa a.length acap) (.slice da d.length dcap) a d l4 lr (.slice a4 l4.length c4) (.slice r0a lr.length rcap)) HFX ?_;clear HFX HFL HFL4 G4;intro w5 HF5;clear c00 c01 c10 c11 c20 c21 c30 c31 c40 c41 c50 c51 f20 f21 f30 f31 f40 f41 f50 f51 s0 s1 s2 s3 s4 s5;obtain ⟨c00,c01,c10,c11,c20,c21,c30,c31,c40,c41,c50,c51,f20,f21,f30,f31,f40,f41,f50,f51,s0,s1,s2,s3,s4,s5⟩:=HF5.facts
     have G1:Hh (w.heap.size+1+1) w5:=⟨_,_,HF5.r1,_,_,_,rfl⟩;have G2:Hh (w.heap.size+1+1+1) w5:=⟨_,_,HF5.r2,_,_,_,rfl⟩;have NQ:RN w5 (.agg #[.bool false,.slice a4 l4.length c4]) (bv l4) l4.length:=⟨false,_,l4,rfl,HF5.bq,CAN4.out,by simp,rfl,Nat.le_refl _⟩;have NR:RN w5 (.agg #[.bool false,.slice r0a lr.length rcap]) (bv lr) lr.length:=⟨false,_,lr,rfl,HF5.br,HCR.out,by simp,rfl,Nat.le_refl _⟩;have ND:RN w5 (.agg #[.bool false,.slice da d.length dcap]) (bv d) d.length:=⟨false,_,d,rfl,HF5.bd,can_d,by simp,rfl,Nat.le_refl _⟩;have g6:=jj HF5;clear HF5
     replace G1:=jj G1
     replace G2:=jj G2
     replace NQ:=jj NQ
     replace NR:=jj NR
     replace ND:=jj ND
     clear c00 c01 c10 c11 c20 c21 c30 c31 c40 c41 c50 c51 f20 f21 f30 f31 f40 f41 f50 f51;refine gK (L:=LL (w.heap.size+1+1) (w.heap.size+1+1+1) (-(bv l4+1)) (bv d+-bv lr) (n+2) (k+4)) preLL [some ([],aDc _ _ _ _ _ _ (bv l4) l4.length),some ([],aTb _ _ _ _ _ _ [1]),none,some ([0,1],aDc _ _ _ _ _ _ (bv l4+1) (max l4.length 1+1)),some ([3],aDc _ _ _ _ _ _ (-(bv l4+1)) (max l4.length 1+1)),some ([],aDc _ _ _ _ _ _ (bv d) d.length),some ([],aDc _ _ _ _ _ _ (bv lr) lr.length),some ([6],aDc _ _ _ _ _ _ (-bv lr) lr.length),some ([5,7],aDc _ _ _ _ _ _ (bv d+-bv lr) (max d.length lr.length+1)),some ([4],aSa _ _ _ _ _ _),some ([8],aR9 _ _ _ _ _ _)] (by kernel_rfl) (by kernel_rfl) ?_;refine bV rfl (fun w_ hw_ hk_ K_ hK_=>?_) (fun v64 f64=>?_)
     ·have R:=hw_.chg.row g6.out.rq (by omega);have q0:=R.cell 0;have q1:=R.cell 1;have q2:=R.lt;simp at q0 q1;go_simp;exact hK_ _ _ ⟨hw_.h1 G1.out,hw_.h2 G2.out,NQ.out.ll hw_ G1.out G2.out⟩ (preLL.refl _)
     obtain ⟨m64,a64,k64,c64,rfl⟩:=f64
     (simp only[jw])
     refine bV rfl (fun w_ hw_ hk_ K_ hK_=>?_) (fun v65 f65=>?_)
     ·have g1:=hw_.h1 G1.out;have g2:=hw_.h2 G2.out;go_simp;have hx:=aNi (w:=w_) (o:=.cells #[.int .u8 1] 5);obtain ⟨X9,hx9⟩:=hx;exact hK_ _ _ ⟨by rw[hx9];exact g1.ext X9,by rw[hx9];exact g2.ext X9,⟨_,rfl⟩,aAl rfl⟩ (LL.of ⟨X9,hx9⟩)
     obtain ⟨g65,rfl⟩:=f65
     (simp only[jw])
     rw[List.length_singleton];refine aEn ?_;intro K_ hK_
     go_big_quiet_op
     refine ⟨_,fun _ _=>rfl,?_⟩
     go_big_quiet_on
     refine bV rfl (fun w_ hw_ hk_ K_ hK_=>?_) (fun v67 f67=>?_)
     ·obtain ⟨g1,g2,h0⟩:=(hk_ (0,_) (by repeat (first|exact List.mem_cons_self|refine jk ?_))) (by simp);obtain ⟨-,-,-,h1⟩:=(hk_ (1,_) (by repeat (first|exact List.mem_cons_self|refine jk ?_))) (by simp);have h9:RN w_ (.agg #[.bool false,.slice (some ⟨g65,0,none⟩) 1 1]) 1 1:=⟨false,_,[1],rfl,h1,⟨Bin.nil.cons (by decide) (by decide),fun _=>rfl⟩,by simp,by simp[pmv,bv],by simp⟩;go_simp
      go_at_call 59
      refine (iI _ _ _ _ _ _ _ h0 h9 (by have:=HL4.out;omega) (by omega)).mono ?_;rintro _ _ ⟨v,rfl,e1,e2⟩;obtain ⟨X9,rfl⟩:=e2;exact hK_ _ _ ⟨g1.ext X9,g2.ext X9,e1⟩ (LL.ext _ X9)
     obtain ⟨m67,a67,k67,c67,rfl⟩:=f67
     (simp only[jw])
     refine bV rfl (fun w_ hw_ hk_ K_ hK_=>?_) (fun v68 f68=>?_)
     ·obtain ⟨g1,g2,h3⟩:=(hk_ (3,_) (by repeat (first|exact List.mem_cons_self|refine jk ?_))) (by simp);go_simp
      go_at_call 104
      refine (lW _ _ _ _ h3).mono ?_;rintro _ _ ⟨v,rfl,e1,e2⟩;obtain ⟨X9,rfl⟩:=e2;exact hK_ _ _ ⟨g1.ext X9,g2.ext X9,e1⟩ (LL.ext _ X9)
     obtain ⟨m68,a68,k68,c68,rfl⟩:=f68
     (simp only[jw])
     refine bV rfl (fun w_ hw_ hk_ K_ hK_=>?_) (fun v69 f69=>?_)
     ·have R:=hw_.chg.row g6.out.rd (by omega);have q0:=R.cell 0;have q1:=R.cell 1;have q2:=R.lt;simp at q0 q1;go_simp;exact hK_ _ _ ⟨hw_.h1 G1.out,hw_.h2 G2.out,ND.out.ll hw_ G1.out G2.out⟩ (preLL.refl _)
     obtain ⟨m69,a69,k69,c69,rfl⟩:=f69
     (simp only[jw])
     refine bV rfl (fun w_ hw_ hk_ K_ hK_=>?_) (fun v70 f70=>?_)
     ·have R:=hw_.chg.row g6.out.rr (by omega);have q0:=R.cell 0;have q1:=R.cell 1;have q2:=R.lt;simp at q0 q1;go_simp;exact hK_ _ _ ⟨hw_.h1 G1.out,hw_.h2 G2.out,NR.out.ll hw_ G1.out G2.out⟩ (preLL.refl _)
     obtain ⟨m70,a70,k70,c70,rfl⟩:=f70
     (simp only[jw])
     refine bV rfl (fun w_ hw_ hk_ K_ hK_=>?_) (fun v71 f71=>?_)
     ·obtain ⟨g1,g2,h6⟩:=(hk_ (6,_) (by repeat (first|exact List.mem_cons_self|refine jk ?_))) (by simp);go_simp
      go_at_call 104
      refine (lW _ _ _ _ h6).mono ?_;rintro _ _ ⟨v,rfl,e1,e2⟩;obtain ⟨X9,rfl⟩:=e2;exact hK_ _ _ ⟨g1.ext X9,g2.ext X9,e1⟩ (LL.ext _ X9)
     obtain ⟨m71,a71,k71,c71,rfl⟩:=f71
     (simp only[jw])
     refine bV rfl (fun w_ hw_ hk_ K_ hK_=>?_) (fun v72 f72=>?_)
     ·obtain ⟨g1,g2,h5⟩:=(hk_ (5,_) (by repeat (first|exact List.mem_cons_self|refine jk ?_))) (by simp);obtain ⟨g1,g2,h7⟩:=(hk_ (7,_) (by repeat (first|exact List.mem_cons_self|refine jk ?_))) (by simp);go_simp
      go_at_call 59
      refine (iI _ _ _ _ _ _ _ h5 h7 (by omega) (by omega)).mono ?_;rintro _ _ ⟨v,rfl,e1,e2⟩;obtain ⟨X9,rfl⟩:=e2;exact hK_ _ _ ⟨g1.ext X9,g2.ext X9,e1⟩ (LL.ext _ X9)
     obtain ⟨m72,a72,k72,c72,rfl⟩:=f72
     (simp only[jw])
     refine fI rfl (fun w_ hw_ hk_ K_ hK_=>?_) (fun _ _=>?_)
     ·obtain ⟨g1,g2,h⟩:=(hk_ (4,_) (by repeat (first|exact List.mem_cons_self|refine jk ?_))) (by simp);have S:=LL.set1 (z2:=(bv d+-bv lr)) (n1:=n+2) (n2:=k+4) g1 g2 (by omega) (h.mono (by have:=HL4.out;omega));have gx:=g1;obtain ⟨m0,s0,R,hs0⟩:=gx;have q0:=R.cell 0;have q1:=R.cell 1;have q2:=R.lt;have q3:=R.frozen 0;have q4:=R.frozen 1;simp at q0 q1;go_simp;exact hK_ _ ⟨S.1.h1 g1,S.1.h2 g2,S.2⟩ S.1
     refine fI rfl (fun w_ hw_ hk_ K_ hK_=>?_) (fun _ _=>?_)
     ·obtain ⟨g1,g2,h⟩:=(hk_ (8,_) (by repeat (first|exact List.mem_cons_self|refine jk ?_))) (by simp);have S:=LL.set2 (z1:=(-(bv l4+1))) (n1:=n+2) (n2:=k+4) g1 g2 (by omega) (h.mono (by omega));have gx:=g2;obtain ⟨m0,s0,R,hs0⟩:=gx;have q0:=R.cell 0;have q1:=R.cell 1;have q2:=R.lt;have q3:=R.frozen 0;have q4:=R.frozen 1;simp at q0 q1;go_simp;exact hK_ _ ⟨S.1.h1 g1,S.1.h2 g2,S.2⟩ S.1
     refine aT ?_;intro w7 hL7 hk7;obtain ⟨-,-,⟨m1,s1,R1,N1⟩⟩:=(hk7 (9,_) (by repeat (first|exact List.mem_cons_self|refine jk ?_)));obtain ⟨-,-,⟨m2,s2,R2,N2⟩⟩:=(hk7 (10,_) (by repeat (first|exact List.mem_cons_self|refine jk ?_)));clear hk7;have t0:=R1.cell 0;have t1:=R1.cell 1;have t2:=R2.cell 0;have t3:=R2.cell 1;simp at t0 t1 t2 t3;go_wp2;refine bodyPost_ret (v:=.tuple #[.agg #[.bool m1,s1],.agg #[.bool m2,s2]]) (by simp[results,results86,go_sem,t0,t1,t2,t3]) rfl ?_;have E1:pmv (bv a) true/bv d=-(bv l4+1):=by have e:=((pZ (A:=bv a) (d:=bv d) (by omega)).2 (by rw[show bv a%bv d=bv lr from HQ2.out];exact LZ)).1;rw[show bv a/bv d=pmv (bv lq) false from HQ1.out,<-HV4.out] at e;rw[show pmv (bv a) true=-bv a from rfl,e];omega
     have E2:pmv (bv a) true%bv d=bv d+-bv lr:=by have e:=((pZ (A:=bv a) (d:=bv d) (by omega)).2 (by rw[show bv a%bv d=bv lr from HQ2.out];exact LZ)).2;rw[show bv a%bv d=bv lr from HQ2.out] at e;rw[show pmv (bv a) true=-bv a from rfl,e];omega
     rw[E1,E2];exact wZ g6.out.bel (by have:=g6.out.bel.size;omega) (by omega) (by omega) hL7 N1 N2
  |succ j =>
   have ej:((j+1:Nat):Int)-1=(j:Int):=by omega
   rw[ej];have hjl:j<a.length:=by omega
   obtain ⟨b0,off,rfl⟩:∃ b off,aa=some ⟨b,off,none⟩:=by
    obtain ⟨-,-,a',cap',e,-,-,h4⟩:=HFL.out.ba;cases e
    rcases h4 with h|⟨b,off,h,-⟩
    ·simp[h] at hjl
    ·exact ⟨b,off,h⟩
   obtain ⟨c0,hb0⟩:=HFL.out.ba.cell hjl;obtain ⟨b1,b2⟩:=BA j;have HE:=jj he;have HHJ:=jj hj;have HLQ:=jj hlq;have lq1:lq.length<=1000:=by omega
   clear he hlq;go_wp2;refine aJ 11 [none,none,none,none,none,some ([],aD4 [bt a j]),none,none,some ([5],srB (bt a j::lr)),none,some ([8],srN (bt a j+2*bv lr) (lr.length+1))] (by kernel_rfl) (by kernel_rfl) ?_;simp only[jx]
   (repeat (first|(refine aA ?_;intro K_ hK_;go_big_quiet_op;go_big_quiet_on)|simp only[jw]))
   refine aF rfl (fun w_ hw_ hk_ K_ hK_=>?_) (fun v25 f25=>?_)
   ·obtain ⟨X_,rfl⟩:=hw_;go_simp;exact hK_ _ _ ⟨⟨_,rfl⟩,aEy b1 b2 (by simp)⟩ aNi
   obtain ⟨g25,rfl⟩:=f25;rw[List.length_singleton]
   (repeat (first|(refine aA ?_;intro K_ hK_;go_big_quiet_op;go_big_quiet_on)|simp only[jw]))
   refine aF rfl (fun w_ hw_ hk_ K_ hK_=>?_) (fun v28 f28=>?_)
   ·obtain ⟨X_,rfl⟩:=hw_;have h1:=(hk_ (5,_) (by repeat (first|exact List.mem_cons_self|refine jk ?_))) (by simp);refine gL _ _ 99 5 rfl i0 Tryz.underlying99 hi hz0 hz1 hz2 g25 0 1 [bt a j] lr rfl h1.2 (HFL.out.br.ext _) (by simp;omega) (fun v w1 h2 h3 _=>hK_ _ _ h2 h3)
   obtain ⟨a28,k28,c28,rfl⟩:=f28
   (repeat (first|(refine aA ?_;intro K_ hK_;go_big_quiet_op;go_big_quiet_on)|simp only[jw]))
   refine aF rfl (fun w_ hw_ hk_ K_ hK_=>?_) (fun v30 f30=>?_)
   ·obtain ⟨X_,rfl⟩:=hw_;have h1:=(hk_ (8,_) (by repeat (first|exact List.mem_cons_self|refine jk ?_))) (by simp);go_simp
    go_at_call 100
    refine (cY _ _ _ _ h1).mono ?_;rintro _ _ ⟨v,rfl,h4,h5⟩;exact hK_ _ _ h4 h5
   refine aT ?_;intro w_ hw_ hk;obtain ⟨X,rfl⟩:=hw_;obtain ⟨s2v,l2,rfl,rb2,can2,hv2,hl2⟩:=RN.plus (hk (10,_) (by repeat (first|exact List.mem_cons_self|refine jk ?_))) (by omega);obtain ⟨a2,cap2,rfl,-⟩:=rb2.form;clear hk;refine aDg (F:=fun wx=>FL w.heap.size w wx ma false (.slice (some ⟨b0,off,none⟩) a.length acap) (.slice da d.length dcap) a d lq lr (.slice qa lq.length qcap) (.slice r0a lr.length rcap)/\Rb wx (.slice a2 l2.length cap2) l2) ⟨HFL.out.ext (Nat.le_refl _) X,rb2⟩ ?_;intro w2 ⟨HF2,RB2⟩;clear c00 c01 c10 c11 c20 c21 c30 c31 c40 c41 c50 c51 f20 f21 f30 f31 f40 f41 f50 f51 s0 s1 s2 s3 s4 s5;obtain ⟨c00,c01,c10,c11,c20,c21,c30,c31,c40,c41,c50,c51,f20,f21,f30,f31,f40,f41,f50,f51,s0,s1,s2,s3,s4,s5⟩:=HF2.facts
   replace HFL:=jj (HF2.setr RB2)
   have l2l:l2.length<=1100:=by omega
   have HV2:=jj hv2;have HRD:=jj hrd;clear HF2 RB2 rb2 c0 hv2 hrd X;go_upto_region 8 with fail
   refine aE (F:=fun wx=>FL w.heap.size w wx ma false (.slice (some ⟨b0,off,none⟩) a.length acap) (.slice da d.length dcap) a d lq l2 (.slice qa lq.length qcap) (.slice a2 l2.length cap2)) HFL.out ?_;clear HFL;intro w3 HF3;clear c00 c01 c10 c11 c20 c21 c30 c31 c40 c41 c50 c51 f20 f21 f30 f31 f40 f41 f50 f51 s0 s1 s2 s3 s4 s5;obtain ⟨c00,c01,c10,c11,c20,c21,c30,c31,c40,c41,c50,c51,f20,f21,f30,f31,f40,f41,f50,f51,s0,s1,s2,s3,s4,s5⟩:=HF3.facts
   have HFL3:=jj HF3;clear HF3
   by_cases hge:bv d<=bv l2
   ·have d8:decide (0<=sgn (bv l2-bv d))=true:=by have:=lS (bv l2-bv d);simp;omega
    have HGE:=jj hge;clear hge
    go_wp2_with (first
     |(go_at_call 102;(with_reducible refine (mS _ _ l2 d _ HFL3.out.br HFL3.out.bd).mono ?_);rintro _ w4 ⟨rfl,Y4,hY4⟩;have HF4:=HFL3.out.ext (Nat.le_refl _) Y4;rw[<-hY4] at HF4;clear c00 c01 c10 c11 c20 c21 c30 c31 c40 c41 c50 c51 f20 f21 f30 f31 f40 f41 f50 f51 s0 s1 s2 s3 s4 s5;obtain ⟨c00,c01,c10,c11,c20,c21,c30,c31,c40,c41,c50,c51,f20,f21,f30,f31,f40,f41,f50,f51,s0,s1,s2,s3,s4,s5⟩:=HF4.facts;have HFL4:=jj HF4;clear HF4 hY4)
     |(go_at_call 103;(with_reducible refine (j4 _ _ l2 d _ HFL4.out.br HFL4.out.bd (by omega) HGE.out).mono ?_);rintro _ w5 ⟨v5,rfl,⟨l5,g5,g51,g52⟩,⟨Y5,hY5⟩⟩;have HF5:=HFL4.out.ext (Nat.le_refl _) Y5;rw[<-hY5] at HF5;clear c00 c01 c10 c11 c20 c21 c30 c31 c40 c41 c50 c51 f20 f21 f30 f31 f40 f41 f50 f51 s0 s1 s2 s3 s4 s5;obtain ⟨c00,c01,c10,c11,c20,c21,c30,c31,c40,c41,c50,c51,f20,f21,f30,f31,f40,f41,f50,f51,s0,s1,s2,s3,s4,s5⟩:=HF5.facts;obtain ⟨a5,k5,c5,rfl⟩:=g5.isSl;have HFL5:=jj HF5;have G5:=jj g5;have G51:=jj g51;have G52:=jj g52;clear HF5 hY5 g5 g51 g52)
     |(go_at_call 100;(with_reducible refine (cY _ _ l5 _ G5.out).mono ?_);rintro _ w6 ⟨v6,rfl,g6,⟨Y6,hY6⟩⟩;have HF6:=HFL5.out.ext (Nat.le_refl _) Y6;rw[<-hY6] at HF6;clear c00 c01 c10 c11 c20 c21 c30 c31 c40 c41 c50 c51 f20 f21 f30 f31 f40 f41 f50 f51 s0 s1 s2 s3 s4 s5;obtain ⟨c00,c01,c10,c11,c20,c21,c30,c31,c40,c41,c50,c51,f20,f21,f30,f31,f40,f41,f50,f51,s0,s1,s2,s3,s4,s5⟩:=HF6.facts;obtain ⟨s6,l6,rfl,rb6,can6,hv6,hl6⟩:=RN.plus g6 (by rw[G51.out];have:=HGE.out;simp[pmv];omega);obtain ⟨a6,c6,rfl,-⟩:=rb6.form;have HFL6:=jj HF6;have G6:=jj rb6;have CAN6:=jj can6;have HV6:=jj hv6;have HL6:=jj hl6;clear HF6 hY6 g6 rb6 can6 hv6 hl6)
     |(at_builtin;refine aX rfl _ _ 99 5 rfl i0 Tryz.underlying99 hi hz0 hz1 hz2 _ 0 1 [1] lq rfl (aEy (by decide) (by decide) (by simp[dB])) ((HFL6.out.setr G6.out).alloc (Nat.le_refl _) (.cells #[.int .u8 1] 5)).bq (by simp;omega) ?_;rintro v7 w7 g7 ⟨Y7,hY7⟩ -;obtain ⟨a7,k7,c7,rfl⟩:=g7.isSl;have HF7:=((HFL6.out.setr G6.out).alloc (Nat.le_refl _) (.cells #[.int .u8 1] 5)).ext (Nat.le_refl _) Y7;rw[<-hY7] at HF7;clear c00 c01 c10 c11 c20 c21 c30 c31 c40 c41 c50 c51 f20 f21 f30 f31 f40 f41 f50 f51 s0 s1 s2 s3 s4 s5;obtain ⟨c00,c01,c10,c11,c20,c21,c30,c31,c40,c41,c50,c51,f20,f21,f30,f31,f40,f41,f50,f51,s0,s1,s2,s3,s4,s5⟩:=HF7.facts;have HFL7:=jj HF7;have G7:=jj g7;clear HF7 g7 hY7))
    go_roundw
    case rel =>
     have e1:=HV6.out;have e2:=G51.out;have e3:=HV2.out;have e4:bv l6=bv l2-bv d:=by rw[e1,e2];simp[pmv]
     exact ⟨1::lq,l6,_,_,j,rfl,by omega,HFL7.out.setq G7.out,by have:=HLQ.out;simp;omega,CAN6.out,by have:=HRD.out;omega,sO BA HE.out (by omega)⟩
    case measure=>(simp[intOf])<;>omega
   ·have d8:decide (0<=sgn (bv l2-bv d))=false:=by have:=lS (bv l2-bv d);simp;omega
    have HGE:=jj hge;clear hge
    go_wp2_with (first
     |(go_at_call 102;(with_reducible refine (mS _ _ l2 d _ HFL3.out.br HFL3.out.bd).mono ?_);rintro _ w4 ⟨rfl,Y4,hY4⟩;have HF4:=HFL3.out.ext (Nat.le_refl _) Y4;rw[<-hY4] at HF4;clear c00 c01 c10 c11 c20 c21 c30 c31 c40 c41 c50 c51 f20 f21 f30 f31 f40 f41 f50 f51 s0 s1 s2 s3 s4 s5;obtain ⟨c00,c01,c10,c11,c20,c21,c30,c31,c40,c41,c50,c51,f20,f21,f30,f31,f40,f41,f50,f51,s0,s1,s2,s3,s4,s5⟩:=HF4.facts;have HFL4:=jj HF4;clear HF4 hY4)
     |(at_builtin;refine aX rfl _ _ 99 5 rfl i0 Tryz.underlying99 hi hz0 hz1 hz2 _ 0 1 [0] lq rfl (aEy (by decide) (by decide) (by simp[dB])) (HFL4.out.alloc (Nat.le_refl _) (.cells #[.int .u8 0] 5)).bq (by simp;omega) ?_;rintro v7 w7 g7 ⟨Y7,hY7⟩ -;obtain ⟨a7,k7,c7,rfl⟩:=g7.isSl;have HF7:=(HFL4.out.alloc (Nat.le_refl _) (.cells #[.int .u8 0] 5)).ext (Nat.le_refl _) Y7;rw[<-hY7] at HF7;clear c00 c01 c10 c11 c20 c21 c30 c31 c40 c41 c50 c51 f20 f21 f30 f31 f40 f41 f50 f51 s0 s1 s2 s3 s4 s5;obtain ⟨c00,c01,c10,c11,c20,c21,c30,c31,c40,c41,c50,c51,f20,f21,f30,f31,f40,f41,f50,f51,s0,s1,s2,s3,s4,s5⟩:=HF7.facts;have HFL7:=jj HF7;have G7:=jj g7;clear HF7 g7 hY7))
    go_roundw
    case rel =>
     have e3:=HV2.out;exact ⟨0::lq,l2,_,_,j,rfl,by omega,HFL7.out.setq G7.out,by have:=HLQ.out;simp;omega,can2,by have:=HGE.out;omega,sO BA HE.out (by omega)⟩
    case measure=>(simp[intOf])<;>omega
end
section
theorem jS (a b:Int) (ha:sml a) (hb:sml b) (w:World):Calls prog 87 #[a,b] w (Ret (I2 (a*b)) w):=by
 have hm:=n9 ha hb;have TO:=jj (fun v n w h=>aAe v (a*b) n w h);rw[nL hm] at TO;clear hm
 go_enter func87,ntmps87
 go_wp2_with (first
  |(go_at_call 135;(with_reducible refine Calls.mono (aAh a ha _) ?_);(repeat (first|assumption|exact N1.out|exact N2.out|exact N3.out|exact N4.out|with_reducible refine RN.ext ?_ _|with_reducible refine RN.alloc ?_ _|with_reducible refine RN.drew ?_));rintro _ _ ⟨v_N1,rfl,g_N1,⟨Y_N1,rfl⟩⟩;obtain ⟨m_N1,a_N1,k_N1,c_N1,rfl⟩:=g_N1.form;have N1:=jj g_N1;clear g_N1)
  |(go_at_call 135;(with_reducible refine Calls.mono (aAh b hb _) ?_);(repeat (first|assumption|exact N1.out|exact N2.out|exact N3.out|exact N4.out|with_reducible refine RN.ext ?_ _|with_reducible refine RN.alloc ?_ _|with_reducible refine RN.drew ?_));rintro _ _ ⟨v_N2,rfl,g_N2,⟨Y_N2,rfl⟩⟩;obtain ⟨m_N2,a_N2,k_N2,c_N2,rfl⟩:=g_N2.form;have N2:=jj g_N2;clear g_N2)
  |(go_at_call 134;(with_reducible refine Calls.mono (aJs _ _ a b 129 129 _ ?_ ?_ (by decide)) ?_);(repeat (first|assumption|exact N1.out|exact N2.out|exact N3.out|exact N4.out|with_reducible refine RN.ext ?_ _|with_reducible refine RN.alloc ?_ _|with_reducible refine RN.drew ?_));rintro _ _ ⟨v_N3,rfl,g_N3,⟨Y_N3,rfl⟩⟩;obtain ⟨m_N3,a_N3,k_N3,c_N3,rfl⟩:=g_N3.form;have N3:=jj g_N3;clear g_N3)
  |(go_at_call 88;with_reducible refine jn (TO.out _ _ _ N3.out) fun X_=>?_))
 refine bodyPost_ret (v:=I2 (a*b)) (by simp[results,results87,go_sem]) rfl (Ret.of (by exact bl_))
theorem m7 (z:Int) (hz:inR z) (w:World):Calls prog 89 #[I2 z] w (Ret (.tuple #[.int .i64 (nX z),.bool (decide (sml z))]) w):=by
 obtain ⟨e,l0,l1⟩:=jJ z;obtain ⟨h0,h1⟩:=hiR hz;have hw:sml (wrap64 (loN z)):=by unfold sml wrap64;omega
 have O:=jj (fun w=>kS (wrap64 (loN z)) hw w)
 by_cases hs:sml z
 ·have t2:wrap64 (loN z)=z:=by unfold sml at hs;unfold wrap64;omega
  rw[t2] at O;rw[iK hs,show decide (sml z)=true by simp[hs]];clear hs e hw
  go_enter func89,ntmps89
  go_wp2;refine jy ?_
  repeat (go_big_quiet_step (((go_at_call 61;with_reducible exact Calls.quiet_ret (O.out _)))))
  refine jv fun X=>?_
  go_wp2;refine bodyPost_ret (v:=.tuple #[z,.bool true]) (by simp[results,results89,go_sem,t2]) rfl (Ret.of (by exact bl_))
 ·rw[aEa hs,show decide (sml z)=false by simp[hs]];have hne:¬hiN (wrap64 (loN z))=hiN z:=by
   intro h
   apply hs
   obtain ⟨e',l0',l1'⟩:=jJ (wrap64 (loN z));have:wrap64 (loN z)%18446744073709551616=loN z:=by unfold wrap64;omega
   have:loN (wrap64 (loN z))=loN z:=this;unfold sml at *;omega
  have d1:(hiN (wrap64 (loN z))==hiN z)=false:=by simp[hne]
  clear hs e hw hne
  go_enter func89,ntmps89
  go_wp2;refine jy ?_
  repeat (go_big_quiet_step (((go_at_call 61;with_reducible exact Calls.quiet_ret (O.out _)))))
  refine jv fun X=>?_
  go_wp2;refine bodyPost_ret (v:=.tuple #[.int .i64 0,.bool false]) (by simp[results,results89,go_sem]) rfl (Ret.of (by exact bl_))
theorem aB9 (p q n d:Int) (hp:tame p) (hq:tame q) (hn0:0<=n) (hnd:n<=d) (hd:1<=d) (hds:sml d) (w:World):Calls prog 255 #[p,q,n,d] w (Ret (.int .i64 (p+(q-p)*n/d)) w):=by
 obtain ⟨hp0,hp1⟩:=hp;obtain ⟨hq0,hq1⟩:=hq;obtain ⟨hd0,hd1⟩:=hds;have s1:sml p:=by unfold sml;omega
 have s2:sml (d-n):=by unfold sml;omega
 have s3:sml q:=by unfold sml;omega
 have s4:sml n:=by unfold sml;omega
 have hz:(p*(d-n)+q*n)/d=p+(q-p)*n/d:=by
  have e:p*(d-n)+q*n=(q-p)*n+d*p:=by grind
  rw[e,Int.add_mul_ediv_left _ _ (by omega)];omega
 have hb:tame (p+(q-p)*n/d):=by
  have:=qA p q n d
  by_cases h1:n<=0
  ·obtain rfl:n=0:=by omega
   unfold tame;simp;omega
  ·by_cases h2:d<=n
   ·obtain rfl:n=d:=by omega
    rw[Int.mul_ediv_cancel _ (by omega)];unfold tame;omega
   ·rw[aJ9 (by omega) h2] at this;unfold tame;omega
 have hsm:sml (p+(q-p)*n/d):=by unfold sml;unfold tame at hb;omega
 have M1:=jj (fun w=>jS p (d-n) s1 s2 w);have M2:=jj (fun w=>jS q n s3 s4 w);have F1:=jj (fun w=>dI (p*(d-n)) (n9 s1 s2) w);have F2:=jj (fun w=>dI (q*n) (n9 s3 s4) w);have O:=jj (fun w=>kS d ⟨hd0,hd1⟩ w);have F3:=jj (fun w=>dI d (rY ⟨hd0,hd1⟩) w);have FL:=jj (fun v u (j k:Nat) w h1 h2 h3=>qL v u (p*(d-n)+q*n) d j k w h1 h2 hd h3);rw[hz] at FL;have TO:=jj (fun v (k:Nat) w h=>aAe v (p+(q-p)*n/d) k w h);rw[nL (rY hsm)] at TO;have SM:=jj (fun w=>m7 (p+(q-p)*n/d) (rY hsm) w);rw[iK hsm,show decide (sml (p+(q-p)*n/d))=true by simp[hsm]] at SM;generalize p+(q-p)*n/d=Z at *;clear hz hb hsm s1 s2 s3 s4
 go_enter func255,ntmps255
 go_wp2_with (first
  |(go_at_call 87;with_reducible refine jn (M1.out _) fun X_=>?_)
  |(go_at_call 87;with_reducible refine jn (M2.out _) fun X_=>?_)
  |(go_at_call 60;(with_reducible refine Calls.mono (F1.out _) ?_);(repeat (first|assumption|exact N1.out|exact N2.out|exact N3.out|exact N4.out|with_reducible refine RN.ext ?_ _|with_reducible refine RN.alloc ?_ _|with_reducible refine RN.drew ?_));rintro _ _ ⟨v_N1,rfl,g_N1,⟨Y_N1,rfl⟩⟩;obtain ⟨m_N1,a_N1,k_N1,c_N1,rfl⟩:=g_N1.form;have N1:=jj g_N1;clear g_N1)
  |(go_at_call 60;(with_reducible refine Calls.mono (F2.out _) ?_);(repeat (first|assumption|exact N1.out|exact N2.out|exact N3.out|exact N4.out|with_reducible refine RN.ext ?_ _|with_reducible refine RN.alloc ?_ _|with_reducible refine RN.drew ?_));rintro _ _ ⟨v_N2,rfl,g_N2,⟨Y_N2,rfl⟩⟩;obtain ⟨m_N2,a_N2,k_N2,c_N2,rfl⟩:=g_N2.form;have N2:=jj g_N2;clear g_N2)
  |(go_at_call 59;(with_reducible refine Calls.mono (iI _ _ (p*(d-n)) (q*n) 129 129 _ ?_ ?_ (by decide) (by decide)) ?_);(repeat (first|assumption|exact N1.out|exact N2.out|exact N3.out|exact N4.out|with_reducible refine RN.ext ?_ _|with_reducible refine RN.alloc ?_ _|with_reducible refine RN.drew ?_));rintro _ _ ⟨v_N3,rfl,g_N3,⟨Y_N3,rfl⟩⟩;obtain ⟨m_N3,a_N3,k_N3,c_N3,rfl⟩:=g_N3.form;have N3:=jj g_N3;clear g_N3)
  |(go_at_call 61;with_reducible refine jn (O.out _) fun X_=>?_)
  |(go_at_call 60;(with_reducible refine Calls.mono (F3.out _) ?_);(repeat (first|assumption|exact N1.out|exact N2.out|exact N3.out|exact N4.out|with_reducible refine RN.ext ?_ _|with_reducible refine RN.alloc ?_ _|with_reducible refine RN.drew ?_));rintro _ _ ⟨v_N4,rfl,g_N4,⟨Y_N4,rfl⟩⟩;obtain ⟨m_N4,a_N4,k_N4,c_N4,rfl⟩:=g_N4.form;have N4:=jj g_N4;clear g_N4)
  |(go_at_call 86;(with_reducible refine (FL.out _ _ 130 129 _ ?_ ?_ (by decide)).mono ?_);(repeat (first|assumption|exact N1.out|exact N2.out|exact N3.out|exact N4.out|with_reducible refine RN.ext ?_ _|with_reducible refine RN.alloc ?_ _|with_reducible refine RN.drew ?_));rintro _ _ ⟨v_,rfl,⟨qv,rv,rfl,gq,gr⟩,⟨Y_,rfl⟩⟩;obtain ⟨mq,aq,kq,cq,rfl⟩:=gq.form;obtain ⟨mr,ar,kr,cr,rfl⟩:=gr.form;clear N1 N2 N3 N4 gr;have N1:=jj gq;clear gq)
  |(go_at_call 88;(with_reducible refine (TO.out _ 132 _ ?_).mono ?_);(repeat (first|assumption|exact N1.out|exact N2.out|exact N3.out|exact N4.out|with_reducible refine RN.ext ?_ _|with_reducible refine RN.alloc ?_ _|with_reducible refine RN.drew ?_));rintro _ _ ⟨rfl,X_,rfl⟩)
  |(go_at_call 89;with_reducible refine jn (SM.out _) fun X_=>?_))
 go_ret;exact Ret.of (by exact bl_)
end
section
def srV (c:Value):SR gC:=⟨fun v w=>v=c,fun v w w' h _=>h,fun v=>v=c,c,rfl,fun v w h=>h⟩
theorem xM {w:World}:RN w (.agg #[.bool false,.slice none 0 0]) 0 0:=⟨false,_,[],rfl,Rb.nil,⟨Bin.nil,fun h=>by simp at h⟩,by simp,by simp[pmv,bv],by simp⟩
end
section
end
section
end
section
def sgS:Nat->Tmp
 |0=>31
 |1=>32
 |2=>33
 |3=>34
 |4=>35
 |5=>30
 |6=>36
 |7=>37
 |8=>9
 |_=>10
structure SumI (w:World) (V0:Value) (dd Z R:Int) (nz nr:Nat) (val:Nat->Value) (d:Nat->Bool) (w':World):Prop where
 ext:∃ X,w'=w.ext X
 c5:d 5=true->d 4=true
 f0:d 0=true->val 0=V0
 f1:d 1=true->val 1=.int .i64 dd
 f2:d 2=true->val 2=I2 dd
 f3:d 3=true->RN w' (val 3) dd 129
 f4:d 4=true->∃ q r,val 4=.tuple #[q,r]/\RN w' q Z nz/\RN w' r R nr
 f5:d 5=true->val 5=val 4
 f6:d 6=true->∃ q r,val 4=.tuple #[q,r]/\val 6=q
 f7:d 7=true->∃ q r,val 4=.tuple #[q,r]/\val 7=r
 f8:d 8=true->∃ p,val 8=.pointer (some ⟨p,0,none⟩)/\w.heap.size<=p/\p<w'.heap.size/\Hh p w'/\(d 10=true->Dd p Z nz w')
 f9:d 9=true->∃ p,val 9=.pointer (some ⟨p,0,none⟩)/\w.heap.size<=p/\p<w'.heap.size/\Hh p w'
 ne:d 8=true->d 9=true->val 8≠val 9
section
variable {w w':World} {V0:Value} {dd Z R:Int} {nz nr:Nat} {val:Nat->Value} {d:Nat->Bool}
theorem Dd.ext {p:Nat} {z:Int} {n:Nat} {w:World} (h:Dd p z n w) (X:Xt):Dd p z n (w.ext X):=by
 obtain ⟨m,s,r,g⟩:=h;exact ⟨m,s,r.ext X,g.ext X⟩
theorem SumI.grow (h:SumI w V0 dd Z R nz nr val d w') (X:Xt):SumI w V0 dd Z R nz nr val d (w'.ext X):=by
 obtain ⟨X0,hX0⟩:=h.ext;refine ⟨⟨_,by rw[hX0,World.ext_ext]⟩,h.c5,h.f0,h.f1,h.f2,fun k=>(h.f3 k).ext X,fun k=>?_,h.f5,h.f6,h.f7,fun k=>?_,fun k=>?_,h.ne⟩
 ·obtain ⟨q,r,e,g1,g2⟩:=h.f4 k;exact ⟨q,r,e,g1.ext X,g2.ext X⟩
 ·obtain ⟨p,e,l,l2,g,g2⟩:=h.f8 k;exact ⟨p,e,l,by simp;omega,g.ext X,fun k=>(g2 k).ext X⟩
 ·obtain ⟨p,e,l,l2,g⟩:=h.f9 k;exact ⟨p,e,l,by simp;omega,g.ext X⟩
theorem SumI.grown {w2:World} (h:SumI w V0 dd Z R nz nr val d w') (hb:∃ X,w2=w'.ext X):SumI w V0 dd Z R nz nr val d w2:=by
 obtain ⟨X,rfl⟩:=hb;exact h.grow X
theorem SumI.more (h:SumI w V0 dd Z R nz nr val d w') (i:Nat) (hi:i<8) (v:Value) (hd:d i=false)
  (h0:i=0->v=V0) (h1:i=1->v=.int .i64 dd) (h2:i=2->v=I2 dd) (h3:i=3->RN w' v dd 129) (h4:i=4->(d 5=false/\d 6=false/\d 7=false)/\∃ q r,v=.tuple #[q,r]/\RN w' q Z nz/\RN w' r R nr)
  (h5:i=5->d 4=true/\v=val 4) (h6:i=6->∃ q r,val 4=.tuple #[q,r]/\v=q) (h7:i=7->∃ q r,val 4=.tuple #[q,r]/\v=r):SumI w V0 dd Z R nz nr (aMh val i v) (upd d i) w':=by
 have u:∀ j,upd d i j=true->j≠i->d j=true:=fun j h hj=>by rwa [bD _ hj] at h
 have g:∀ j,8<=j->upd d i j=d j:=fun j hj=>bD _ (by omega)
 have k:∀ j,8<=j->aMh val i v j=val j:=fun j hj=>bP _ _ (by omega)
 refine ⟨h.ext,fun q=>?_,fun q=>?_,fun q=>?_,fun q=>?_,fun q=>?_,fun q=>?_,fun q=>?_,fun q=>?_,fun q=>?_,fun q=>?_,fun q=>?_,fun q1 q2=>?_⟩
 ·by_cases e:5=i
  ·by_cases e4:4=i
   ·omega
   ·rw[bD _ e4];exact (h5 e.symm).1
  ·by_cases e4:4=i
   ·subst e4;exact tC _ _
   ·rw[bD _ e4];exact h.c5 (u 5 q e)
 ·by_cases e:0=i
  ·subst e;rw[eE];exact h0 rfl
  ·rw[bP _ _ e];exact h.f0 (u _ q e)
 ·by_cases e:1=i
  ·subst e;rw[eE];exact h1 rfl
  ·rw[bP _ _ e];exact h.f1 (u _ q e)
 ·by_cases e:2=i
  ·subst e;rw[eE];exact h2 rfl
  ·rw[bP _ _ e];exact h.f2 (u _ q e)
 ·by_cases e:3=i
  ·subst e;rw[eE];exact h3 rfl
  ·rw[bP _ _ e];exact h.f3 (u _ q e)
 ·by_cases e:4=i
  ·subst e;rw[eE];exact (h4 rfl).2
  ·rw[bP _ _ e];exact h.f4 (u _ q e)
 ·by_cases e:5=i
  ·subst e;rw[eE,bP _ _ (by decide)];exact (h5 rfl).2
  ·have d5:=u _ q e
   by_cases e4:4=i
   ·have:=(h4 e4.symm).1.1;rw[this] at d5;cases d5
   ·rw[bP _ _ e,bP _ _ e4];exact h.f5 d5
 ·by_cases e:6=i
  ·subst e;rw[eE,bP _ _ (by decide)];exact h6 rfl
  ·have d5:=u _ q e
   by_cases e4:4=i
   ·have:=(h4 e4.symm).1.2.1;rw[this] at d5;cases d5
   ·rw[bP _ _ e,bP _ _ e4];exact h.f6 d5
 ·by_cases e:7=i
  ·subst e;rw[eE,bP _ _ (by decide)];exact h7 rfl
  ·have d5:=u _ q e
   by_cases e4:4=i
   ·have:=(h4 e4.symm).1.2.2;rw[this] at d5;cases d5
   ·rw[bP _ _ e,bP _ _ e4];exact h.f7 d5
 ·rw[g 8 (by decide)] at q;rw[k 8 (by decide),g 10 (by decide)];exact h.f8 q
 ·rw[g 9 (by decide)] at q;rw[k 9 (by decide)];exact h.f9 q
 ·rw[g 8 (by decide)] at q1;rw[g 9 (by decide)] at q2;rw[k 8 (by decide),k 9 (by decide)];exact h.ne q1 q2
theorem SumI.place (h:SumI w V0 dd Z R nz nr val d w') (i:Nat) (hi:i=8\/i=9) (hd:d i=false) (h10:d 10=false) :
  SumI w V0 dd Z R nz nr (aMh val i (.pointer (some ⟨w'.heap.size,0,none⟩))) (upd d i) (w'.alloc (.cells #[.bool false,.slice none 0 0] 101)):=by
 have hg:=h.grown (w2:=w'.alloc (.cells #[.bool false,.slice none 0 0] 101)) (jz (by exact bl_));obtain ⟨X0,hX0⟩:=h.ext;have hs:w.heap.size<=w'.heap.size:=by rw[hX0];simp
 have k:∀ j,j<8->aMh val i (.pointer (some ⟨w'.heap.size,0,none⟩)) j=val j:=fun j hj=>bP _ _ (by omega)
 have g:∀ j,j<8->upd d i j=d j:=fun j hj=>bD _ (by omega)
 have hh:Hh w'.heap.size (w'.alloc (.cells #[.bool false,.slice none 0 0] 101)):=⟨_,_,dC rfl,⟨_,_,_,rfl⟩⟩;have hl:w'.heap.size<(w'.alloc (.cells #[.bool false,.slice none 0 0] 101)).heap.size:=by rw[World.hp_alloc,Array.size_push];omega
 refine ⟨hg.ext,?_,?_,?_,?_,?_,?_,?_,?_,?_,fun q=>?_,fun q=>?_,fun q1 q2=>?_⟩
 ·rw[g 5 (by decide),g 4 (by decide)];exact hg.c5
 ·rw[g 0 (by decide),k 0 (by decide)];exact hg.f0
 ·rw[g 1 (by decide),k 1 (by decide)];exact hg.f1
 ·rw[g 2 (by decide),k 2 (by decide)];exact hg.f2
 ·rw[g 3 (by decide),k 3 (by decide)];exact hg.f3
 ·rw[g 4 (by decide),k 4 (by decide)];exact hg.f4
 ·rw[g 5 (by decide),k 5 (by decide),k 4 (by decide)];exact hg.f5
 ·rw[g 6 (by decide),k 6 (by decide),k 4 (by decide)];exact hg.f6
 ·rw[g 7 (by decide),k 7 (by decide),k 4 (by decide)];exact hg.f7
 ·by_cases e:8=i
  ·subst e;refine ⟨_,eE _ _ _,hs,hl,hh,fun q=>?_⟩;rw[bD _ (by decide),h10] at q;cases q
  ·rw[bP _ _ e];rw[bD _ e] at q
   rw[show upd d i 10=d 10 from bD _ (by omega)];exact hg.f8 q
 ·by_cases e:9=i
  ·subst e;exact ⟨_,eE _ _ _,hs,hl,hh⟩
  ·rw[bP _ _ e];rw[bD _ e] at q
   exact hg.f9 q
 ·rcases hi with rfl|rfl
  ·rw[bD _ (by decide)] at q2;rw[eE,bP _ _ (by decide)];obtain ⟨p,e,l1,l2,-⟩:=h.f9 q2;rw[e];intro e2;injection e2 with e2;injection e2 with e2;injection e2 with e2;omega
  ·rw[bD _ (by decide)] at q1;rw[eE,bP _ _ (by decide)];obtain ⟨p,e,l1,l2,-⟩:=h.f8 q1;rw[e];intro e2;injection e2 with e2;injection e2 with e2;injection e2 with e2;omega
theorem SumI.put1 (h:SumI w V0 dd Z R nz nr val d w') (d4:d 4=true) (d8:d 8=true) (d9:d 9=true) {p:Nat} {m:Bool} {s r:Value} (e8:val 8=.pointer (some ⟨p,0,none⟩)) (e4:val 4=.tuple #[.agg #[.bool m,s],r]) :
  SumI w V0 dd Z R nz nr val (upd d 10) ((w'.setCell ⟨p,0,none⟩ (.bool m)).setCell ⟨p,1,none⟩ s):=by
 obtain ⟨X0,hX0⟩:=h.ext;obtain ⟨p',e,l1,l2,g,-⟩:=h.f8 d8;obtain rfl:p=p':=by rw[e8] at e;injection e with e;injection e with e;injection e
 obtain ⟨p2,e2,k1,k2,g2⟩:=h.f9 d9;have hne:p2≠p:=fun q=>h.ne d8 d9 (by rw[e8,e2,q])
 obtain ⟨q',r',e',n1,n2⟩:=h.f4 d4;rw[e4] at e';injection e' with e'
 injection e' with e'
 simp only[List.cons.injEq,and_true] at e';obtain ⟨rfl,rfl⟩:=e';have C:Chg (fun j=>j=p) w' ((w'.setCell ⟨p,0,none⟩ (.bool m)).setCell ⟨p,1,none⟩ s):=chg_two;have hp:∀ b,b=p->Hh b w':=fun b e=>by subst e;exact g
 have u:∀ j,j≠10->upd d 10 j=d j:=fun j hj=>bD _ hj
 have hsl:=n1.sl;have D:Dd p Z nz ((w'.setCell ⟨p,0,none⟩ (.bool m)).setCell ⟨p,1,none⟩ s):=by
  obtain ⟨m0,s0,r0,-⟩:=g;have hr:=(r0.set 0 (.bool m)).set 1 s;exact ⟨m,s,by simpa using hr,n1.chgs C hp⟩
 have hs2:∀ {b:Nat},b<w'.heap.size->b<((w'.setCell ⟨p,0,none⟩ (.bool m)).setCell ⟨p,1,none⟩ s).heap.size:=fun hb=>Nat.lt_of_lt_of_le hb C.size
 have hX:∃ X,(w'.setCell ⟨p,0,none⟩ (.bool m)).setCell ⟨p,1,none⟩ s=w.ext X:=World.setCell_new (World.setCell_new ⟨X0,hX0⟩ l1) l1;refine ⟨hX,?_,?_,?_,?_,?_,?_,?_,?_,?_,fun _=>?_,fun _=>?_,?_⟩
 ·rw[u 5 (by decide),u 4 (by decide)];exact h.c5
 ·rw[u 0 (by decide)];exact h.f0
 ·rw[u 1 (by decide)];exact h.f1
 ·rw[u 2 (by decide)];exact h.f2
 ·rw[u 3 (by decide)];exact fun q=>(h.f3 q).chgs C hp
 ·rw[u 4 (by decide)];exact fun _=>⟨_,_,e4,n1.chgs C hp,n2.chgs C hp⟩
 ·rw[u 5 (by decide)];exact h.f5
 ·rw[u 6 (by decide)];exact h.f6
 ·rw[u 7 (by decide)];exact h.f7
 ·obtain ⟨m1,s1,r1,f1⟩:=D;exact ⟨p,e8,l1,hs2 l2,⟨m1,s1,r1,f1.sl⟩,fun _=>⟨m1,s1,r1,f1⟩⟩
 ·obtain ⟨m1,s1,r1,f1⟩:=g2;exact ⟨p2,e2,k1,hs2 k2,⟨m1,s1,C.row r1 hne,f1⟩⟩
 ·rw[u 8 (by decide),u 9 (by decide)];exact h.ne
theorem SumI.put2 (h:SumI w V0 dd Z R nz nr val d w') (d4:d 4=true) (d8:d 8=true) (d9:d 9=true) (d10:d 10=true) {p:Nat} {m:Bool} {s q:Value} (e9:val 9=.pointer (some ⟨p,0,none⟩)) (e4:val 4=.tuple #[q,.agg #[.bool m,s]]) :
  SumI w V0 dd Z R nz nr val (upd d 11) ((w'.setCell ⟨p,0,none⟩ (.bool m)).setCell ⟨p,1,none⟩ s):=by
 obtain ⟨X0,hX0⟩:=h.ext;obtain ⟨p',e,l1,l2,g⟩:=h.f9 d9;obtain rfl:p=p':=by rw[e9] at e;injection e with e;injection e with e;injection e
 obtain ⟨p1,e2,k1,k2,g2,g3⟩:=h.f8 d8;have hne:p1≠p:=fun q=>h.ne d8 d9 (by rw[e9,e2,q])
 obtain ⟨q',r',e',n1,n2⟩:=h.f4 d4;rw[e4] at e';injection e' with e'
 injection e' with e'
 simp only[List.cons.injEq,and_true] at e';obtain ⟨rfl,rfl⟩:=e';have C:Chg (fun j=>j=p) w' ((w'.setCell ⟨p,0,none⟩ (.bool m)).setCell ⟨p,1,none⟩ s):=chg_two;have hp:∀ b,b=p->Hh b w':=fun b e=>by subst e;exact g
 have u:∀ j,j≠11->upd d 11 j=d j:=fun j hj=>bD _ hj
 have hsl:=n2.sl;have hs2:∀ {b:Nat},b<w'.heap.size->b<((w'.setCell ⟨p,0,none⟩ (.bool m)).setCell ⟨p,1,none⟩ s).heap.size:=fun hb=>Nat.lt_of_lt_of_le hb C.size
 have hX:∃ X,(w'.setCell ⟨p,0,none⟩ (.bool m)).setCell ⟨p,1,none⟩ s=w.ext X:=World.setCell_new (World.setCell_new ⟨X0,hX0⟩ l1) l1;refine ⟨hX,?_,?_,?_,?_,?_,?_,?_,?_,?_,fun _=>?_,fun _=>?_,?_⟩
 ·rw[u 5 (by decide),u 4 (by decide)];exact h.c5
 ·rw[u 0 (by decide)];exact h.f0
 ·rw[u 1 (by decide)];exact h.f1
 ·rw[u 2 (by decide)];exact h.f2
 ·rw[u 3 (by decide)];exact fun q=>(h.f3 q).chgs C hp
 ·rw[u 4 (by decide)];exact fun _=>⟨_,_,e4,n1.chgs C hp,n2.chgs C hp⟩
 ·rw[u 5 (by decide)];exact h.f5
 ·rw[u 6 (by decide)];exact h.f6
 ·rw[u 7 (by decide)];exact h.f7
 ·obtain ⟨m1,s1,r1,f1⟩:=g3 d10;exact ⟨p1,e2,k1,hs2 k2,⟨m1,s1,C.row r1 hne,f1.sl⟩,fun _=>⟨m1,s1,C.row r1 hne,f1.chgs C hp⟩⟩
 ·obtain ⟨m0,s0,r0,-⟩:=g;have hr:=(r0.set 0 (.bool m)).set 1 s;exact ⟨p,e9,l1,hs2 l2,⟨m,s,by simpa using hr,hsl⟩⟩
 ·rw[u 8 (by decide),u 9 (by decide)];exact h.ne
end
theorem fO:∀ i j,i<10->j<10->sgS i=sgS j->i=j:=by
 have h:∀ i,i<10->∀ j,j<10->sgS i=sgS j->i=j:=by decide
 exact fun i j hi hj=>h i hi j hj
theorem aBy {id:Nat} {Q:Exit->Act->World->Prop} {a:Act} {w:World} {ops:Array Oper} (V0:Value) (dd Z R:Int) (nz nr:Nat) (hm:prog.follows .mixedOrders=true) (hl:aRc ops=true) (h12:ops.size=12) (hsz:a.tmps.size=49)
  (hstep:∀ i o,ops[i]?=some o->∀ val d a' w',Fr a sgS 10 val d a'->SumI w V0 dd Z R nz nr val d w'->d i=false->(∀ e∈o.after,Region.binds .any e=true->d e.on=true)->(∀ j oj,ops[j]?=some oj->d j=true->∀ e∈oj.after,Region.binds .any e=true->d e.on=true)->(∀ i,i<10->sgS i<a.tmps.size) ->
   o.wp prog a' w' (fun a2 w2=>∃ val,Fr a sgS 10 val (upd d i) a2/\SumI w V0 dd Z R nz nr val (upd d i) w2) Q)
  (hend:∀ val d w2,SumI w V0 dd Z R nz nr val d w2->(∀ i,i<12->d i=true)->Q .normal (gT sgS val a 10) w2):(Code.region id ops true).wp prog Q a w:=by
 have hlt:∀ i,i<10->sgS i<a.tmps.size:=by
  rw[hsz];decide
 refine s9 (fun d a' w'=>(∃ val,Fr a sgS 10 val d a'/\SumI w V0 dd Z R nz nr val d w')/\∀ j oj,ops[j]?=some oj->d j=true->∀ e∈oj.after,Region.binds .any e=true->d e.on=true) hm hl ?_ ?_ ?_
 ·refine ⟨⟨fun _=>undef,Fr.start,⟨⟨⟨#[],w.drawn+1⟩,by simp[World.ext]⟩,?_,?_,?_,?_,?_,?_,?_,?_,?_,?_,?_,?_⟩⟩,fun _ _ _ h=>by cases h⟩<;>(intro h;cases h)
 ·rintro i o ho d a' w' ⟨⟨val,F,S⟩,hcl⟩ hd hw;refine Oper.wp_mono (fun a2 w2 h=>⟨h,?_⟩) (hstep i o ho val d a' w' F S hd hw hcl hlt);intro j oj hj hdj e he hb
  by_cases e1:j=i
  ·subst e1;rw[ho] at hj;injection hj with hj;subst hj
   have:=hw e he hb
   by_cases e2:e.on=j
   ·rw[e2];exact tC _ _
   ·rw[bD _ e2];exact this
  ·rw[bD _ e1] at hdj;have:=hcl j oj hj hdj e he hb
   by_cases e2:e.on=i
   ·rw[e2];exact tC _ _
   ·rw[bD _ e2];exact this
 ·rintro d a' w' ⟨⟨val,F,S⟩,-⟩ hall;have e:=F.done fO hlt (fun i hi=>hall i (by omega));rw[e];exact hend val d w' S (fun i hi=>hall i (by omega))
theorem sJ {w:World} {p:Nat} {x y u v:Value} {T:TypeId} (h:Row w p #[x,y] T):w.setRow p #[u,v]=(w.setCell ⟨p,0,none⟩ u).setCell ⟨p,1,none⟩ v:=by
 rw[setCell_eq_setRow w p 0 _ T (0,0) u h,setCell_eq_setRow _ p 1 _ T (0,0) v (setRow_heap w p _ _ T (0,0) h),setRow_setRow]
 rfl
end
section
section
section
variable {p q:Nat->Prop} {w w1 w2:World}
end
def Arr (w:World) (g cap:Nat) (xs:List Int):Prop :=
 xs.length<=cap/\∃ cur,Row w g cur 3/\∀ i,i<xs.length->cur[i]?=some (.int .i64 (elt xs i))
section
variable {w w1:World} {g cap:Nat} {xs:List Int}
theorem Arr.lt (h:Arr w g cap xs):g<w.heap.size:=by obtain ⟨-,cur,hr,-⟩:=h;exact hr.lt
theorem Arr.cell (h:Arr w g cap xs) {i:Nat} (hi:i<xs.length):w.cell? ⟨g,i,none⟩=some (.int .i64 (elt xs i)):=by
 obtain ⟨-,cur,hr,hc⟩:=h;rw[hr.cell];exact hc i hi
theorem Arr.frozen (h:Arr w g cap xs) (i:Nat):w.frozen? ⟨g,i,none⟩=false:=by obtain ⟨-,cur,hr,-⟩:=h;exact hr.frozen i
theorem Arr.chg {p:Nat->Prop} (h:Arr w g cap xs) (hc:Chg p w w1) (hp:¬p g):Arr w1 g cap xs:=by
 obtain ⟨h1,cur,hr,h2⟩:=h;exact ⟨h1,cur,hc.row hr hp,h2⟩
theorem lF (l:List Int) (i j:Nat) (v:Int) (hi:i<l.length):elt (l.set i v) j=if i=j then v else elt l j:=by
 unfold elt;simp only[List.getD,List.getElem?_set]
 by_cases h:i=j
 ·subst h;simp[hi]
 ·simp[h]
theorem Arr.set (h:Arr w g cap xs) {i:Nat} (hi:i<xs.length) (v:Int):Arr (w.setCell ⟨g,i,none⟩ (.int .i64 v)) g cap (xs.set i v):=by
 obtain ⟨h1,cur,hr,h2⟩:=h;refine ⟨by simpa using h1,_,hr.set i _,fun j hj=>?_⟩;rw[List.length_set] at hj;rw[Array.getElem?_setIfInBounds,lF _ _ _ _ hi];have hin:i<cur.size:=by
  have:=h2 i hi;exact (Array.getElem?_eq_some_iff.1 this).1
 by_cases e:i=j
 ·subst e;simp[hin]
 ·simp[e];exact h2 j hj
theorem Arr.rd (h:Arr w g cap xs) (hb:∀ z∈xs,-9223372036854775808<=z/\z<=9223372036854775807) (hl:xs.length<=1048576):Rd w (sl g xs.length cap) xs :=
 ⟨hb,by omega,some ⟨g,0,none⟩,cap,rfl,h.1,.inr ⟨g,0,rfl,h.lt,fun i hi=>by rw[Nat.zero_add];exact h.cell hi⟩⟩
theorem Arr.of_own {base n k:Nat} (h:w.ownsRow base 3 1 (sl g n k) n (xs.map (Value.int .i64))):Arr w g k xs:=by
 obtain ⟨hl,h2⟩:=h;rw[Nat.mul_one,List.length_map] at hl;rcases h2 with ⟨h2,h3⟩|⟨g',c',cur,e',h4,h5,h6,h7,h8,h9⟩
 ·cases h2
 ·obtain ⟨rfl,rfl⟩:g=g'/\k=c':=by simpa using e'
  refine ⟨by omega,cur,h5,fun i hi=>?_⟩;have:(cur.toList.take (n*1))[i]?=(xs.map (Value.int .i64))[i]?:=by rw[h9]
  rw[List.getElem?_take,if_pos (by omega)] at this;simp[hi] at this;rw[this];simp[elt,hi]
end
structure Img (w:World) (bm g1 k1 g2 k2:Nat) (W H:Int) (C Z:List Int):Prop where
 ok:ImOk W H C Z
 row:Row w bm #[W,H,sl g1 C.length k1,sl g2 C.length k2] 54
 c:Arr w g1 k1 C
 z:Arr w g2 k2 Z
 n1:g1≠bm
 n2:g2≠bm
 n3:g1≠g2
section
variable {w w1:World} {bm g1 k1 g2 k2:Nat} {W H:Int} {C Z:List Int}
theorem ImOk.same (h:ImOk W H C Z):Z.length=C.length:=by have:=h.c;have:=h.z;omega
theorem ImOk.bd (h:ImOk W H C Z):1<=C.length/\C.length<=1048576:=by
 have:=nS h.w0 h.w1 h.h0 h.h1;have:=h.c;omega
theorem Img.chg {p:Nat->Prop} (h:Img w bm g1 k1 g2 k2 W H C Z) (hc:Chg p w w1) (h0:¬p bm) (h1:¬p g1) (h2:¬p g2):Img w1 bm g1 k1 g2 k2 W H C Z :=
 ⟨h.ok,hc.row h.row h0,h.c.chg hc h1,h.z.chg hc h2,h.n1,h.n2,h.n3⟩
theorem Img.ext (h:Img w bm g1 k1 g2 k2 W H C Z) (X:Xt):Img (w.ext X) bm g1 k1 g2 k2 W H C Z:=h.chg (p:=fun _=>False) (Chg.of_ext X) id id id
theorem Img.wr (h:Img w bm g1 k1 g2 k2 W H C Z):Wr w bm g1 g2 0 0 k1 k2 C.length W H 0 0:=by
 refine ⟨h.ok.w0,h.ok.w1,h.ok.h0,h.ok.h1,?_,?_,?_,?_,h.ok.c,h.row.lt,h.c.lt,h.z.lt⟩
 ·exact h.row.cell 0
 ·exact h.row.cell 1
 ·exact h.row.cell 2
 ·exact h.row.cell 3
theorem Wr.at' {pc pz oc oz cc cz n:Nat} {x y x' y':Int} (h:Wr w bm pc pz oc oz cc cz n W H x y):Wr w bm pc pz oc oz cc cz n W H x' y':=⟨h.w0,h.w1,h.h0,h.h1,h.c0,h.c1,h.c2,h.c3,h.n0,h.bm,h.pc,h.pz⟩
theorem yS (h:ImOk W H C Z) {x y:Int} (hi:inB W H x y):(y*W+x).toNat<C.length/\(y*W+x).toNat<Z.length:=by
 obtain ⟨x0,x1,y0,y1⟩:=hi;have:=aGc x0 x1 y0 y1;have:=h.c;have:=h.z
 omega
theorem ImOk.setC (h:ImOk W H C Z) (i:Nat) {v:Int} (hi:i<C.length) (hv:0<=v/\v<=4294967295):ImOk W H (C.set i v) Z :=
 ⟨h.w0,h.w1,h.h0,h.h1,by rw[List.length_set];exact h.c,h.z,fun j hj=>by
  rw[lF _ _ _ _ hi];split
  ·exact hv
  ·exact h.cs j (by simpa using hj),fun j hj=>h.zs j (by simpa using hj)⟩
theorem ImOk.setZ (h:ImOk W H C Z) (i:Nat) {v:Int} (hi:i<Z.length) (hv:0<=v/\v<=16777215):ImOk W H C (Z.set i v) :=
 ⟨h.w0,h.w1,h.h0,h.h1,h.c,by rw[List.length_set];exact h.z,h.cs,fun j hj=>by
  rw[lF _ _ _ _ hi];split
  ·exact hv
  ·exact h.zs j hj⟩
theorem Arr.bd {w:World} {g cap:Nat} {xs:List Int} (b:Int) (h1:∀ i,i<xs.length->0<=elt xs i/\elt xs i<=b) (hb:b<=9223372036854775807):∀ z∈xs,-9223372036854775808<=z/\z<=9223372036854775807:=by
 intro z hz;obtain ⟨i,hi,rfl⟩:=List.mem_iff_getElem.1 hz;have:=h1 i hi;simp only[elt,List.getD,List.getElem?_eq_getElem hi,Option.getD_some] at this;omega
theorem ImOk.bz (h:ImOk W H C Z):Z.length<=1048576:=by have:=h.bd;have:=h.same;omega
theorem Img.rds (h:Img w bm g1 k1 g2 k2 W H C Z):Rd w (sl g1 C.length k1) C/\Rd w (sl g2 C.length k2) Z:=by
 have e:=h.ok.same;refine ⟨h.c.rd (Arr.bd (w:=w) (g:=g1) (cap:=k1) 4294967295 h.ok.cs (by decide)) h.ok.bd.2,?_⟩;have:=h.z.rd (Arr.bd (w:=w) (g:=g1) (cap:=k1) 16777215 (fun i hi=>h.ok.zs i (by omega)) (by decide)) h.ok.bz
 rwa [e] at this
theorem Img.setC (h:Img w bm g1 k1 g2 k2 W H C Z) {i:Nat} {v:Int} (hi:i<C.length) (hv:0<=v/\v<=4294967295):Img (w.setCell ⟨g1,i,none⟩ (.int .i64 v)) bm g1 k1 g2 k2 W H (C.set i v) Z:=by
 have hc:Chg (fun k=>k=g1) w (w.setCell ⟨g1,i,none⟩ (.int .i64 v)):=Chg.one _ _ _ _;refine ⟨h.ok.setC i hi hv,?_,h.c.set hi v,h.z.chg hc (Ne.symm h.n3),h.n1,h.n2,h.n3⟩;rw[List.length_set];exact hc.row h.row (Ne.symm h.n1)
theorem Img.setZ (h:Img w bm g1 k1 g2 k2 W H C Z) {i:Nat} {v:Int} (hi:i<Z.length) (hv:0<=v/\v<=16777215):Img (w.setCell ⟨g2,i,none⟩ (.int .i64 v)) bm g1 k1 g2 k2 W H C (Z.set i v):=by
 have hc:Chg (fun k=>k=g2) w (w.setCell ⟨g2,i,none⟩ (.int .i64 v)):=Chg.one _ _ _ _;exact ⟨h.ok.setZ i hi hv,hc.row h.row (Ne.symm h.n2),h.c.chg hc h.n3,h.z.set hi v,h.n1,h.n2,h.n3⟩
end
theorem aFv (v x y z t:Int) (m0 m1 m2 m3:Bool) (k:May x y z t):0<=aLu v x y z t m0 m1 m2 m3/\aLu v x y z t m0 m1 m2 m3<=4294967295:=by
 obtain ⟨a0,a1,b0,b1,c0,c1,d0,d1⟩:=aNj v x y z t m0 m1 m2 m3 k;unfold aLu pk;omega
def aDd (W H:Int) (C:List Int) (x y a b c d:Int) (m0 m1 m2 m3:Bool):List Int :=
 if inB W H x y then C.set (y*W+x).toNat (aLu (elt C (y*W+x).toNat) a b c d m0 m1 m2 m3) else C
def aE3 (W H:Int) (Z:List Int) (x y u:Int):List Int :=
 if inB W H x y then Z.set (y*W+x).toNat u else Z
def aSy (bm g1 k1 g2 k2:Nat) (W H:Int) (C Z:List Int) (p:Nat->Prop) (v:Value) (w:World) (e:Ending) (w':World):Prop :=
 e=.returned v/\Img w' bm g1 k1 g2 k2 W H C Z/\Chg p w w'
section
variable {w:World} {bm g1 k1 g2 k2:Nat} {W H:Int} {C Z:List Int}
theorem aNc (h:Img w bm g1 k1 g2 k2 W H C Z) (x y a b c d:Int) (m0 m1 m2 m3:Bool) (bx0:-9223372036854775808<=x) (bx1:x<=9223372036854775807) (by0:-9223372036854775808<=y) (by1:y<=9223372036854775807) (k:May a b c d) :
  Calls prog 162 #[.pointer (some ⟨bm,0,none⟩),x,y,C4 a b c d,M4 m0 m1 m2 m3] w (aSy bm g1 k1 g2 k2 W H (aDd W H C x y a b c d m0 m1 m2 m3) Z (fun k=>k=g1) (.bool (decide (inB W H x y))) w):=by
 by_cases hi:inB W H x y
 ·obtain ⟨l1,l2⟩:=yS h.ok hi;obtain ⟨v0,v1⟩:=h.ok.cs _ l1;refine (aPm bm g1 g2 0 0 k1 k2 C.length W H x y a b c d (elt C (y*W+x).toNat) m0 m1 m2 m3 w h.wr.at' hi k v0 v1 (by rw[Nat.zero_add];exact h.c.cell l1) (h.c.frozen _)).mono ?_;rintro _ _ ⟨rfl,X,rfl⟩;rw[Nat.zero_add];refine ⟨by simp[hi],?_,(Chg.one _ _ _ _).ext X⟩;unfold aDd;rw[if_pos hi]
  exact (h.setC l1 (aFv _ _ _ _ _ _ _ _ _ k)).ext X
 ·refine (aPl bm g1 g2 0 0 k1 k2 C.length W H x y a b c d m0 m1 m2 m3 w h.wr.at' bx0 bx1 by0 by1 hi).mono ?_;rintro _ _ ⟨rfl,X,rfl⟩;refine ⟨by simp[hi],?_,Chg.of_ext X⟩;unfold aDd;rw[if_neg hi];exact h.ext X
theorem aK0 (h:Img w bm g1 k1 g2 k2 W H C Z) (x y u:Int) (bx0:-9223372036854775808<=x) (bx1:x<=9223372036854775807) (by0:-9223372036854775808<=y) (by1:y<=9223372036854775807) (hu:0<=u/\u<=16777215) :
  Calls prog 163 #[.pointer (some ⟨bm,0,none⟩),x,y,u] w (aSy bm g1 k1 g2 k2 W H C (aE3 W H Z x y u) (fun k=>k=g2) (.bool (decide (inB W H x y))) w):=by
 by_cases hi:inB W H x y
 ·obtain ⟨l1,l2⟩:=yS h.ok hi;refine (aN9 bm g1 g2 0 0 k1 k2 C.length W H x y u (elt Z (y*W+x).toNat) w h.wr.at' hi (by rw[Nat.zero_add];exact h.z.cell l2) (h.z.frozen _)).mono ?_;rintro _ _ ⟨rfl,X,rfl⟩;rw[Nat.zero_add];refine ⟨by simp[hi],?_,(Chg.one _ _ _ _).ext X⟩;unfold aE3;rw[if_pos hi]
  exact (h.setZ l2 hu).ext X
 ·refine (aN8 bm g1 g2 0 0 k1 k2 C.length W H x y u w h.wr.at' bx0 bx1 by0 by1 hi).mono ?_;rintro _ _ ⟨rfl,X,rfl⟩;refine ⟨by simp[hi],?_,Chg.of_ext X⟩;unfold aE3;rw[if_neg hi];exact h.ext X
end
theorem aEp {w:World} {v:Value} {xs:List Int} (h:Rd w v xs) (h0:1<=xs.length):∃ b off cap,v=.slice (some ⟨b,off,none⟩) xs.length cap/\b<w.heap.size/\∀ i,i<xs.length->w.cell? ⟨b,off+i,none⟩=some (.int .i64 (elt xs i)):=by
 obtain ⟨-,-,a,cap,rfl,-,h3⟩:=h;rcases h3 with rfl|⟨b,off,rfl,hb,hc⟩
 ·simp at h0
 ·exact ⟨b,off,cap,rfl,hb,hc⟩
def aBm (W H:Int) (C Z:List Int) (w:World) (e:Ending) (w':World):Prop :=
 ∃ g1 k1 g2 k2:Nat,e=.returned (Im W H (sl g1 C.length k1) (sl g2 C.length k2))/\(∃ X,w'=w.ext X)/\Arr w' g1 k1 C/\Arr w' g2 k2 Z/\w.heap.size<=g1/\w.heap.size<=g2/\g1≠g2
theorem aBk (b off j:Nat):(⟨b,off,none⟩:Addr).add j=⟨b,off+j,none⟩:=by
 unfold Addr.add;split
 ·subst_vars;rfl
 ·rfl
theorem aJo (W H:Int) (c z:Value) (C Z:List Int) (w:World) (hc:Rd w c C) (hz:Rd w z Z) (h:ImOk W H C Z) :
  Calls prog 30 #[Im W H c z] w (aBm W H C Z w):=by
 obtain ⟨n0,n1⟩:=h.bd;have e:=h.same;obtain ⟨b,off,cap,rfl,hb,hcell⟩:=aEp hc n0;obtain ⟨b',off',cap',rfl,hb',hcell'⟩:=aEp hz (by omega);rw[e];refine (aEv W H b off cap b' off' cap' C.length (C.map (Value.int .i64)) (Z.map (Value.int .i64)) w n0 n1 hb hb' (by simp) (by simp[e]) ?_ ?_ ?_ ?_).mono ?_
 ·intro u hu;obtain ⟨x,-,rfl⟩:=List.mem_map.1 hu;rfl
 ·intro u hu;obtain ⟨x,-,rfl⟩:=List.mem_map.1 hu;rfl
 ·intro W' hW j u hj;have hl:j<C.length:=by have:=(List.getElem?_eq_some_iff.1 hj).1;simpa using this
  rw[aBk,hW.cell (p:=⟨b,off+j,none⟩) hb,hcell j hl];simp[hl] at hj;rw[<-hj];simp[elt,hl]
 ·intro W' hW j u hj;have hl:j<Z.length:=by have:=(List.getElem?_eq_some_iff.1 hj).1;simpa using this
  rw[aBk,hW.cell (p:=⟨b',off'+j,none⟩) hb',hcell' j hl];simp[hl] at hj;rw[<-hj];simp[elt,hl]
 ·rintro _ w' ⟨g1,k1,g2,k2,rfl,hX,o1,o2,ne⟩;have b1:=o1.lt g1 rfl;have b2:=o2.lt g2 rfl;exact ⟨g1,k1,g2,k2,rfl,hX,Arr.of_own o1,Arr.of_own o2,by omega,by omega,ne⟩
end
section
abbrev IC (W H:Int) (n g1 k1 g2 k2:Nat):Array Value:=#[.int .i64 W,.int .i64 H,sl g1 n k1,sl g2 n k2]
abbrev c0I:Array Value:=#[.int .i64 0,.int .i64 0,.slice none 0 0,.slice none 0 0]
def ow (j:Nat):Nat:=if j<2 then 1 else if j<4 then 3 else j
def vv (W H:Int) (n:Nat) (V:Value) (e k:Nat->Nat) (i:Nat):Value :=
 if i=0 then V else if i=1 then .agg (IC W H n (e 0) (k 0) (e 1) (k 1)) else if i=2 then V else if i=3 then .agg (IC W H n (e 2) (k 2) (e 3) (k 3)) else ptr (e i)
structure CI (w:World) (a:Act) (W H:Int) (C Z:List Int) (V:Value) (σ:Nat->Tmp) (e k:Nat->Nat) (d:Nat->Bool) (a':Act) (w':World):Prop where
 size:a'.tmps.size=a.tmps.size
 defers:a'.defers=a.defers
 off:∀ s,(∀ i,i<6->σ i≠s)->a'.tmps[s]?=a.tmps[s]?
 on:∀ i,i<6->d i=true->a'.tmps[σ i]?=some (vv W H C.length V e k i)
 world:∃ X,w'=w.ext X
 lo:∀ j,j<6->d (ow j)=true->w.heap.size<=e j/\e j<w'.heap.size
 ne:∀ i j,i<6->j<6->d (ow i)=true->d (ow j)=true->i≠j->e i≠e j
 c0:d 1=true->Arr w' (e 0) (k 0) C/\Arr w' (e 1) (k 1) Z
 c1:d 3=true->Arr w' (e 2) (k 2) C/\Arr w' (e 3) (k 3) Z
 r4:d 4=true->Row w' (e 4) (if d 6 then IC W H C.length (e 0) (k 0) (e 1) (k 1) else c0I) 54
 r5:d 5=true->Row w' (e 5) (if d 7 then IC W H C.length (e 2) (k 2) (e 3) (k 3) else c0I) 54
theorem aOw (d:Nat->Bool) (i j:Nat):upd d i j=true↔j=i\/d j=true:=by
 unfold upd;by_cases h:j=i<;>simp[h]
theorem aAc (d:Nat->Bool) {i j:Nat} (h:j≠i):upd d i j=d j:=by unfold upd;rw[if_neg h]
section
variable {w:World} {a:Act} {W H:Int} {C Z:List Int} {V:Value} {σ:Nat->Tmp} {e k:Nat->Nat} {d:Nat->Bool} {a':Act} {w':World}
theorem CI.put (h:CI w a W H C Z V σ e k d a' w') (hinj:∀ i j,i<6->j<6->σ i=σ j->i=j) (hlt:∀ i,i<6->σ i<a.tmps.size) (e' k':Nat->Nat) (i:Nat) (hi:i<6) (v:Value) (hv:v=vv W H C.length V e' k' i)
  (hk:∀ j,j<6->j≠i->d j=true->vv W H C.length V e' k' j=vv W H C.length V e k j) :
  (a'.put (some (σ i)) v).tmps.size=a.tmps.size/\(a'.put (some (σ i)) v).defers=a.defers/\(∀ s,(∀ i,i<6->σ i≠s)->(a'.put (some (σ i)) v).tmps[s]?=a.tmps[s]?) /\
   (∀ j,j<6->upd d i j=true->(a'.put (some (σ i)) v).tmps[σ j]?=some (vv W H C.length V e' k' j)):=by
 refine ⟨by rw[<-h.size];simp[Act.put],by rw[<-h.defers];rfl,fun s hs=>?_,fun j hj hd=>?_⟩
 ·rw[Act.put_at rfl,if_neg (hs i hi)];exact h.off s hs
 ·by_cases hji:j=i
  ·subst hji;rw[Act.put_at rfl,if_pos rfl];have:σ j<a'.tmps.size:=by rw[h.size];exact hlt j hj
   simp[this,hv]
  ·rw[Act.put_at rfl,if_neg fun he=>hji (hinj _ _ hi hj he).symm];rw[aAc _ hji] at hd;rw[h.on j hj hd,hk j hj hji hd]
theorem CI.load (h:CI w a W H C Z V σ e k d a' w') (hinj:∀ i j,i<6->j<6->σ i=σ j->i=j) (hlt:∀ i,i<6->σ i<a.tmps.size) (i:Nat) (hi:i=0\/i=2):CI w a W H C Z V σ e k (upd d i) (a'.put (some (σ i)) V) w':=by
 obtain ⟨f1,f2,f3,f4⟩:=h.put hinj hlt e k i (by omega) V (by rcases hi with rfl|rfl<;>rfl) fun j _ _ _=>rfl
 have hu:∀ j,j≠0->j≠2->upd d i j=d j:=fun j h0 h2=>aAc _ (by omega)
 have how:∀ j,upd d i (ow j)=d (ow j):=fun j=>hu _ (by unfold ow;split<;>(try split)<;>omega) (by unfold ow;split<;>(try split)<;>omega)
 refine ⟨f1,f2,f3,f4,h.world,fun j hj hd=>h.lo j hj (by rwa [how] at hd),fun x y hx hy h1 h2=>h.ne x y hx hy (by rwa [how] at h1) (by rwa [how] at h2),?_,?_,?_,?_⟩
 ·rw[hu 1 (by decide) (by decide)];exact h.c0
 ·rw[hu 3 (by decide) (by decide)];exact h.c1
 ·rw[hu 4 (by decide) (by decide),hu 6 (by decide) (by decide)];exact h.r4
 ·rw[hu 5 (by decide) (by decide),hu 7 (by decide) (by decide)];exact h.r5
theorem CI.call (h:CI w a W H C Z V σ e k d a' w') (hinj:∀ i j,i<6->j<6->σ i=σ j->i=j) (hlt:∀ i,i<6->σ i<a.tmps.size) (b:Nat) (hb:b=0\/b=2) (hd0:d (b+1)=false) (h6:d (if b=0 then 6 else 7)=false)
  (g1 k1 g2 k2:Nat) (X:Xt) (A1:Arr (w'.ext X) g1 k1 C) (A2:Arr (w'.ext X) g2 k2 Z) (b1:w'.heap.size<=g1) (b2:w'.heap.size<=g2) (hne:g1≠g2) :
  ∃ e' k',CI w a W H C Z V σ e' k' (upd d (b+1)) (a'.put (some (σ (b+1))) (.agg (IC W H C.length g1 k1 g2 k2))) (w'.ext X):=by
 obtain ⟨e',he'⟩:∃ e':Nat->Nat,∀ j,e' j=if j=b then g1 else if j=b+1 then g2 else e j:=⟨_,fun _=>rfl⟩
 obtain ⟨k',hk'⟩:∃ k':Nat->Nat,∀ j,k' j=if j=b then k1 else if j=b+1 then k2 else k j:=⟨_,fun _=>rfl⟩
 have eo:∀ j,j≠b->j≠b+1->e' j=e j:=fun j h1 h2=>by rw[he',if_neg h1,if_neg h2]
 have ko:∀ j,j≠b->j≠b+1->k' j=k j:=fun j h1 h2=>by rw[hk',if_neg h1,if_neg h2]
 have e0:e' b=g1:=by rw[he',if_pos rfl]
 have e1:e' (b+1)=g2:=by rw[he',if_neg (by omega),if_pos rfl]
 have q0:k' b=k1:=by rw[hk',if_pos rfl]
 have q1:k' (b+1)=k2:=by rw[hk',if_neg (by omega),if_pos rfl]
 have hC:Chg (fun _=>False) w' (w'.ext X):=Chg.of_ext X;obtain ⟨f1,f2,f3,f4⟩:=h.put hinj hlt e' k' (b+1) (by omega) (.agg (IC W H C.length g1 k1 g2 k2)) (by
   rcases hb with rfl|rfl
   ·simp only[vv];simp only[Nat.zero_add] at e1 q1 ⊢;simp[e0,e1,q0,q1]
   ·simp only[vv];simp only[Nat.reduceAdd] at e1 q1 ⊢;simp[e0,e1,q0,q1]) (by
   intro j hj hji hdj;unfold vv;rcases hb with rfl|rfl
   ·rw[eo 2 (by decide) (by decide),ko 2 (by decide) (by decide),eo 3 (by decide) (by decide),ko 3 (by decide) (by decide)];have:j=0\/j=2\/j=3\/j=4\/j=5:=by omega
    rcases this with rfl|rfl|rfl|rfl|rfl<;>simp[eo]
   ·rw[eo 0 (by decide) (by decide),ko 0 (by decide) (by decide),eo 1 (by decide) (by decide),ko 1 (by decide) (by decide)];have:j=0\/j=1\/j=2\/j=4\/j=5:=by omega
    rcases this with rfl|rfl|rfl|rfl|rfl<;>simp[eo])
 have hsz:(w'.ext X).heap.size=w'.heap.size+X.sz:=World.size_ext;obtain ⟨X0,hX0⟩:=h.world;have hw0:w.heap.size<=w'.heap.size:=by rw[hX0];simp
 have how:∀ j,j<6->j≠b->j≠b+1->upd d (b+1) (ow j)=d (ow j):=fun j hj h1 h2=>aAc _ (by
  unfold ow;rcases hb with rfl|rfl<;>split<;>(try split)<;>omega)
 have hu:∀ j,j≠b+1->upd d (b+1) j=d j:=fun j h=>aAc _ h
 have A1l:=A1.lt;have A2l:=A2.lt;refine ⟨e',k',f1,f2,f3,f4,⟨_,by rw[hX0,World.ext_ext]⟩,?_,?_,?_,?_,?_,?_⟩
 ·intro j hj hd
  by_cases hjb:j=b
  ·subst hjb;rw[e0];omega
  ·by_cases hjb1:j=b+1
   ·subst hjb1;rw[e1];omega
   ·rw[how j hj hjb hjb1] at hd;have:=h.lo j hj hd;rw[eo j hjb hjb1];omega
 ·have hbig:∀ j,j<6->upd d (b+1) (ow j)=true->j≠b->j≠b+1->e' j<w'.heap.size:=fun j hj hd h1 h2=>by
   rw[how j hj h1 h2] at hd;rw[eo j h1 h2];exact (h.lo j hj hd).2
  intro i j hi hj h1 h2 hij
  by_cases ib:i=b
  ·subst ib
   by_cases jb1:j=i+1
   ·subst jb1;rw[e0,e1];exact hne
   ·have:=hbig j hj h2 (Ne.symm hij) jb1;rw[e0];omega
  ·by_cases ib1:i=b+1
   ·subst ib1
    by_cases jb:j=b
    ·subst jb;rw[e0,e1];exact Ne.symm hne
    ·have:=hbig j hj h2 jb (Ne.symm hij);rw[e1];omega
   ·have hi':=hbig i hi h1 ib ib1
    by_cases jb:j=b
    ·subst jb;rw[e0];omega
    ·by_cases jb1:j=b+1
     ·subst jb1;rw[e1];omega
     ·rw[eo i ib ib1,eo j jb jb1];rw[how i hi ib ib1] at h1;rw[how j hj jb jb1] at h2
      exact h.ne i j hi hj h1 h2 hij
 ·intro hd;rcases hb with rfl|rfl
  ·simp only[Nat.zero_add] at e1 q1;rw[e0,e1,q0,q1];exact ⟨A1,A2⟩
  ·rw[eo 0 (by decide) (by decide),ko 0 (by decide) (by decide),eo 1 (by decide) (by decide),ko 1 (by decide) (by decide)];rw[hu 1 (by decide)] at hd;exact ⟨(h.c0 hd).1.chg hC id,(h.c0 hd).2.chg hC id⟩
 ·intro hd;rcases hb with rfl|rfl
  ·rw[eo 2 (by decide) (by decide),ko 2 (by decide) (by decide),eo 3 (by decide) (by decide),ko 3 (by decide) (by decide)];rw[hu 3 (by decide)] at hd;exact ⟨(h.c1 hd).1.chg hC id,(h.c1 hd).2.chg hC id⟩
  ·simp only[Nat.reduceAdd] at e1 q1;rw[e0,e1,q0,q1];exact ⟨A1,A2⟩
 ·intro hd;rw[hu 4 (by omega)] at hd;rw[hu 6 (by omega),eo 4 (by omega) (by omega)];have:=hC.row (h.r4 hd) id;rcases hb with rfl|rfl
  ·simp only[if_true] at h6;rw[h6] at this ⊢;exact this
  ·rw[eo 0 (by decide) (by decide),ko 0 (by decide) (by decide),eo 1 (by decide) (by decide),ko 1 (by decide) (by decide)];exact this
 ·intro hd;rw[hu 5 (by omega)] at hd;rw[hu 7 (by omega),eo 5 (by omega) (by omega)];have:=hC.row (h.r5 hd) id;rcases hb with rfl|rfl
  ·rw[eo 2 (by decide) (by decide),ko 2 (by decide) (by decide),eo 3 (by decide) (by decide),ko 3 (by decide) (by decide)];exact this
  ·simp only[if_neg (show ¬(2:Nat)=0 by decide)] at h6;rw[h6] at this ⊢;exact this
theorem CI.store (h:CI w a W H C Z V σ e k d a' w') (t:Nat) (ht:t=6\/t=7) (hall:∀ j,j<6->d j=true) :
  CI w a W H C Z V σ e k (upd d t) a' (w'.setRow (e (t-2)) (if t=6 then IC W H C.length (e 0) (k 0) (e 1) (k 1) else IC W H C.length (e 2) (k 2) (e 3) (k 3))):=by
 have hu:∀ j,j≠t->upd d t j=d j:=fun j h=>aAc _ h
 have how:∀ j,j<6->d (ow j)=true:=fun j hj=>hall _ (by unfold ow;split<;>(try split)<;>omega)
 have how':∀ j,j<6->upd d t (ow j)=true:=fun j hj=>(aOw _ _ _).2 (.inr (how j hj))
 have hoth:∀ (g:Nat) (cs:Array Value) (b:Nat) (c:Array Value) (T:TypeId),Row w' b c T->b≠g->Row (w'.setRow g cs) b c T:=fun g cs b c T hr hne=>by
  unfold Row;rw[setRow_other w' g b cs hne];exact hr
 have aoth:∀ (g:Nat) (cs:Array Value) (b cap:Nat) (xs:List Int),Arr w' b cap xs->b≠g->Arr (w'.setRow g cs) b cap xs:=fun g cs b cap xs ⟨h1,cur,h2,h3⟩ hne =>
  ⟨h1,cur,hoth g cs b _ _ h2 hne,h3⟩
 have hne:∀ i j,i<6->j<6->i≠j->e i≠e j:=fun i j hi hj hij=>h.ne i j hi hj (how i hi) (how j hj) hij
 have hlo:=h.lo (t-2) (by omega) (how _ (by omega));refine ⟨h.size,h.defers,h.off,fun i hi hd=>h.on i hi (hall i hi),?_,fun j hj _=>by rw[size_setRow];exact h.lo j hj (how j hj),fun i j hi hj _ _ hij=>hne i j hi hj hij,?_,?_,?_,?_⟩
 ·obtain ⟨X0,hX0⟩:=h.world;refine Below.toExt ?_;refine ⟨?_,?_,?_,by rw[size_setRow,hX0];simp,fun j hj=>?_⟩
  ·rw[hX0];rfl
  ·rw[hX0];rfl
  ·rw[hX0];rfl
  ·rw[setRow_other w' _ j _ (by omega),hX0];exact World.heap_ext hj
 ·intro _;have hA:=h.c0 (hall 1 (by decide));exact ⟨aoth _ _ _ _ _ hA.1 (hne _ _ (by decide) (by omega) (by omega)),aoth _ _ _ _ _ hA.2 (hne _ _ (by decide) (by omega) (by omega))⟩
 ·intro _;have hA:=h.c1 (hall 3 (by decide));exact ⟨aoth _ _ _ _ _ hA.1 (hne _ _ (by decide) (by omega) (by omega)),aoth _ _ _ _ _ hA.2 (hne _ _ (by decide) (by omega) (by omega))⟩
 ·intro _;have hR:=h.r4 (hall 4 (by decide));rcases ht with rfl|rfl
  ·rw[show upd d 6 6=true from by simp[upd]];exact setRow_heap _ _ _ _ _ _ hR
  ·rw[hu 6 (by decide)];exact hoth _ _ _ _ _ hR (hne 4 5 (by decide) (by decide) (by decide))
 ·intro _;have hR:=h.r5 (hall 5 (by decide));rcases ht with rfl|rfl
  ·rw[hu 7 (by decide)];exact hoth _ _ _ _ _ hR (hne 5 4 (by decide) (by decide) (by decide))
  ·rw[show upd d 7 7=true from by simp[upd]];exact setRow_heap _ _ _ _ _ _ hR
end
def sg (s0 s1 s2 s3 d1 d2:Tmp) (i:Nat):Tmp:=if i=0 then s0 else if i=1 then s1 else if i=2 then s2 else if i=3 then s3 else if i=4 then d1 else d2
structure Two (w wx:World) (W H:Int) (C Z:List Int) (pa g1 k1 g2 k2 pb g3 k3 g4 k4:Nat):Prop where
 a:Img wx pa g1 k1 g2 k2 W H C Z
 b:Img wx pb g3 k3 g4 k4 W H C Z
 lo:w.heap.size<=pa/\w.heap.size<=g1/\w.heap.size<=g2/\w.heap.size<=pb/\w.heap.size<=g3/\w.heap.size<=g4
 ap:(pb≠g1/\pb≠g2/\g3≠g1/\g3≠g2/\g4≠g1/\g4≠g2)/\(pa≠g3/\pa≠g4)/\pa≠pb
theorem Img.drew {w:World} {bm g1 k1 g2 k2:Nat} {W H:Int} {C Z:List Int} (h:Img w bm g1 k1 g2 k2 W H C Z):Img w.drew bm g1 k1 g2 k2 W H C Z:=h.chg (p:=fun _=>False) Chg.refl.drew id id id
theorem Img.alloc {w:World} {bm g1 k1 g2 k2:Nat} {W H:Int} {C Z:List Int} (h:Img w bm g1 k1 g2 k2 W H C Z) (o:Obj):Img (w.alloc o) bm g1 k1 g2 k2 W H C Z:=h.chg (p:=fun _=>False) (Chg.refl.alloc o) id id id
structure Pair (w wx:World) (W H:Int) (Ca Za Cb Zb:List Int) (pa g1 k1 g2 k2 pb g3 k3 g4 k4:Nat):Prop where
 a:Img wx pa g1 k1 g2 k2 W H Ca Za
 b:Img wx pb g3 k3 g4 k4 W H Cb Zb
 lo:w.heap.size<=pa/\w.heap.size<=g1/\w.heap.size<=g2/\w.heap.size<=pb/\w.heap.size<=g3/\w.heap.size<=g4
 ap:(pb≠g1/\pb≠g2/\g3≠g1/\g3≠g2/\g4≠g1/\g4≠g2)/\(pa≠g3/\pa≠g4)/\pa≠pb
 bel:Below w.heap.size w wx
section
variable {w wx w1:World} {W H:Int} {Ca Za Cb Zb C' Z':List Int} {pa g1 k1 g2 k2 pb g3 k3 g4 k4:Nat} {p:Nat->Prop}
theorem Below.chg {B:Nat} {w0:World} (h:Below B w0 wx) (hc:Chg p wx w1) (hB:B<=wx.heap.size) (hp:∀ k,k<B->¬p k):Below B w0 w1:=h.trans (hc.below hp hB)
theorem Pair.drew (h:Pair w wx W H Ca Za Cb Zb pa g1 k1 g2 k2 pb g3 k3 g4 k4):Pair w wx.drew W H Ca Za Cb Zb pa g1 k1 g2 k2 pb g3 k3 g4 k4:=⟨h.a.drew,h.b.drew,h.lo,h.ap,h.bel.drew⟩
theorem Pair.ext (h:Pair w wx W H Ca Za Cb Zb pa g1 k1 g2 k2 pb g3 k3 g4 k4) (X:Xt):Pair w (wx.ext X) W H Ca Za Cb Zb pa g1 k1 g2 k2 pb g3 k3 g4 k4:=⟨h.a.ext X,h.b.ext X,h.lo,h.ap,h.bel.ext h.bel.size X⟩
theorem Pair.keep (h:Pair w wx W H Ca Za Cb Zb pa g1 k1 g2 k2 pb g3 k3 g4 k4) (hc:Chg p wx w1) (hp:∀ k,p k->k=g1\/k=g2\/k=g3\/k=g4) {b:Nat} {c:Array Value} {T:TypeId} (hr:Row wx b c T) (hb:b<w.heap.size):Row w1 b c T :=
 hc.row hr fun h'=>by have:=hp _ h';have:=h.lo;omega
end
end
section
def oC (f:Int->Int) (W H:Int) (C:List Int) (x y:Int):Int:=if inB W H x y then f (elt C (y*W+x).toNat) else 0
abbrev aSs (W H:Int) (C Z:List Int) (x y:Int):Value:=.tuple #[C4 (oC up0 W H C x y) (oC up1 W H C x y) (oC up2 W H C x y) (oC up3 W H C x y),.int .i64 (oC id W H Z x y),.bool (decide (inB W H x y))]
theorem aL6 (W H:Int) (c z:Value) (C Z:List Int) (x y:Int) (w:World) (hc:Rd w c C) (hz:Rd w z Z) (h:ImOk W H C Z) (bx0:-9223372036854775808<=x) (bx1:x<=9223372036854775807) (by0:-9223372036854775808<=y) (by1:y<=9223372036854775807) :
  Calls prog 160 #[Im W H c z,x,y] w (Ret (aSs W H C Z x y) w):=by
 unfold aSs oC
 by_cases hi:inB W H x y
 ·simp only[if_pos hi,id,hi,decide_true];exact aQc W H c z C Z x y w hc hz h hi
 ·simp only[if_neg hi,hi,decide_false];exact aN0 W H c z C Z x y w hc hz h bx0 bx1 by0 by1 hi
end
section
theorem kth {W H:Int} {C Z:List Int} (h:ImOk W H C Z) {k:Nat} (hk:k<C.length):inB W H ((k:Int)%W) ((k:Int)/W)/\(k:Int)/W*W+(k:Int)%W=k:=by
 have w0:=h.w0;have h1:=Int.emod_nonneg (k:Int) (show W≠0 by omega);have h2:=Int.emod_lt_of_pos (k:Int) (show 0<W by omega);have h3:(k:Int)/W*W+(k:Int)%W=k:=by have:=Int.mul_ediv_add_emod (k:Int) W;rw[Int.mul_comm];omega
 have h4:0<=(k:Int)/W:=Int.ediv_nonneg (by omega) (by omega);have hc:=h.c;refine ⟨⟨h1,h2,h4,?_⟩,h3⟩;refine Int.ediv_lt_of_lt_mul (by omega) ?_;rw[Int.mul_comm H W];omega
theorem aL1 {W H x y:Int} (hi:inB W H x y):((y*W+x).toNat:Int)%W=x/\((y*W+x).toNat:Int)/W=y:=by
 obtain ⟨x0,x1,y0,y1⟩:=hi;have:=aGc x0 x1 y0 y1;have e:((y*W+x).toNat:Int)=x+y*W:=by omega
 rw[e];refine ⟨?_,?_⟩
 ·rw[Int.add_mul_emod_self_right];exact Int.emod_eq_of_lt x0 x1
 ·rw[Int.add_mul_ediv_right _ _ (by omega),Int.ediv_eq_zero_of_lt x0 x1];omega
theorem aNd {W H:Int} {C Z:List Int} (h:ImOk W H C Z) {x y a b c d:Int} (k:Nat) (hk:k<C.length) (hm:May a b c d) (e:(k:Int)%W=x) (e':(k:Int)/W=y):elt (aDd W H C x y a b c d true true true true) k=pk a b c d:=by
 obtain ⟨h1,h2⟩:=kth h hk;subst e e';unfold aDd;rw[if_pos h1,h2,lF _ _ _ _ (by simpa using hk),if_pos (by simp)];simp[aLu]
theorem aJr {W H:Int} {C Z:List Int} (h:ImOk W H C Z) {x y a b c d:Int} {m0 m1 m2 m3:Bool} (k:Nat) (ne:¬((k:Int)%W=x/\(k:Int)/W=y)):elt (aDd W H C x y a b c d m0 m1 m2 m3) k=elt C k:=by
 unfold aDd
 split
 ·rename_i hi
  rw[lF _ _ _ _ (yS h hi).1,if_neg];intro e;subst e;exact ne (aL1 hi)
 ·rfl
end
end
end Go.Proofs.YthcjfanigfgckaaGreat
