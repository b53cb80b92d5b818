import Derived.Lib.SliceRun
import Derived.Test.YthcjfanigfgckaaGreatSHiddenOrder33
import Derived.Test.YthcjfanigfgckaaGreatSHiddenOrder36
set_option linter.unusedVariables false
set_option linter.unusedSimpArgs false
set_option maxRecDepth 100000
set_option maxHeartbeats 16000000
namespace Go.Proofs.YthcjfanigfgckaaGreat
open Go.RowKit
theorem Hold.chg {α:Type} {K:RecK α} {w wr w':World} {E:TypeId} {R R':List (Nat×Array Value×TypeId)} {v:Value} {L:List α} {g:Nat} (h:Hold K w wr E R v L) (hc:Chg (fun j=>j=g) wr w') (hg:some g≠v.ownBlock) (hw:w.heap.size<=g)
  (hr:∀ r∈R',Row w' r.1 r.2.1 r.2.2) (hf:∀ r∈R',r.2.2≠E):Hold K w w' E R' v L:=by
 refine ⟨hr,hf,World.ownsRow.kept (row:=some g) h.own ⟨hc.os,hc.tape,hc.output,hc.size,fun j hj hne=>hc.block j hj fun e=>hne (by rw[e])⟩ (.inr hg.symm),?_⟩;exact jz (h.below.trans (hc.below (B:=w.heap.size) (fun k hk e=>by omega) h.size))
def smV (a b:WinP) (x y:Int):Int×Int×Int×Int×Int:=(mid a.z b.z (acN a b x y) (acD a b),mid a.c0 b.c0 (acN a b x y) (acD a b),mid a.c1 b.c1 (acN a b x y) (acD a b),mid a.c2 b.c2 (acN a b x y) (acD a b),mid a.c3 b.c3 (acN a b x y) (acD a b))
def smL4 (a b:WinP) (n x0 y0 x1 y1:Int):List FrP:=if smoP a b n/\rightP x0 y0 x1 y1 then smTo a b n (smV a b) x0 x1 y0 y1 else []
def lnL (a b:WinP) (k:LookP) (c x0 y0 x1 y1:Int):List FrP:=if k.soft then smL4 a b k.width x0 y0 x1 y1 else wdL a b k.width k.dashed k.p k.r c x0 y0 x1 y1
def lnC (a b:WinP) (k:LookP) (c:Int):Int:=if k.soft then c else wdC a b k.width k.dashed k.p k.r c
def lineF (L:List WinP) (B:List Bool) (k:LookP) (x0 y0 x1 y1:Int):Nat->List FrP×Int
 |0=>([],k.c)
 |j+1=>if B.getD j false then ((lineF L B k x0 y0 x1 y1 j).1++lnL (wAt L j) (wAt L ((j+1)%L.length)) k (lineF L B k x0 y0 x1 y1 j).2 x0 y0 x1 y1,lnC (wAt L j) (wAt L ((j+1)%L.length)) k (lineF L B k x0 y0 x1 y1 j).2) else lineF L B k x0 y0 x1 y1 j
def facL (L:List WinP) (B:List Bool) (k:LookP) (x0 y0 x1 y1:Int):List FrP:=(lineF L B k x0 y0 x1 y1 B.length).1
theorem wdL_len22 (a b:WinP) (n:Int) (dd:Bool) (p r c x0 y0 x1 y1:Int) (har:areaP x0 y0 x1 y1<=1048576):(wdL a b n dd p r c x0 y0 x1 y1).length<=134217728:=by
 unfold wdL
 split
 ·rename_i k
  obtain ⟨⟨-,-,⟨n0,n1⟩,-⟩,hr⟩:=k;have hs:=side_of hr har;unfold rightP at hr;have h1:=wdTo_len (a:=a) (b:=b) (n:=n) (dd:=dd) (p:=p) (r:=r) (c:=c) (x0:=x0) (y0:=y0) (x1:=x1) (y1:=y1) (by omega) ((x1-x0).toNat+(y1-y0).toNat) (by omega) (by omega) (by omega) (by omega);have h2:((x1-x0).toNat+(y1-y0).toNat)*n.toNat<=((x1-x0).toNat+(y1-y0).toNat)*64:=Nat.mul_le_mul_left _ (by omega);omega
 ·simp
theorem wdC_dash {a b:WinP} {n:Int} {dd:Bool} {p r c:Int} (h:dashP p r c):dashP p r (wdC a b n dd p r c):=by
 unfold wdC
 split
 ·unfold nextC;cases dd
  ·exact h
  ·obtain ⟨h1,⟨h2,h3⟩,h4⟩:=h;have e1:=Int.emod_nonneg (c+((coreL a b n).length:Int)) (show r*16≠0 by omega);have e2:=Int.emod_lt_of_pos (c+((coreL a b n).length:Int)) (show 0<r*16 by omega);exact ⟨h1,⟨h2,h3⟩,by simp only[if_true];omega⟩
 ·exact h
theorem lnL_len (a b:WinP) (k:LookP) (c x0 y0 x1 y1:Int) (har:areaP x0 y0 x1 y1<=1048576):(lnL a b k c x0 y0 x1 y1).length<=134217728:=by
 unfold lnL
 split
 ·unfold smL4
  split
  ·rename_i h
   exact Nat.le_trans (Nat.le_trans (smTo_len a b k.width (smV a b) x0 x1 y0 y1) (area_nat (n:=1048576) h.2 har)) (by decide)
  ·simp
 ·exact wdL_len22 a b k.width k.dashed k.p k.r c x0 y0 x1 y1 har
theorem lnC_dash {a b:WinP} {k:LookP} {c:Int} (h:dashP k.p k.r c):dashP k.p k.r (lnC a b k c):=by
 unfold lnC
 split
 ·exact h
 ·exact wdC_dash h
theorem lineF_bd (L:List WinP) (B:List Bool) (k:LookP) (x0 y0 x1 y1:Int) (har:areaP x0 y0 x1 y1<=1048576) (hd:dashP k.p k.r k.c):∀ j,(lineF L B k x0 y0 x1 y1 j).1.length<=j*134217728/\dashP k.p k.r (lineF L B k x0 y0 x1 y1 j).2
 |0=>⟨by simp[lineF],hd⟩
 |j+1=>by
  obtain ⟨h1,h2⟩:=lineF_bd L B k x0 y0 x1 y1 har hd j;unfold lineF
  split
  ·have h3:=lnL_len (wAt L j) (wAt L ((j+1)%L.length)) k (lineF L B k x0 y0 x1 y1 j).2 x0 y0 x1 y1 har;refine ⟨?_,lnC_dash h2⟩;simp only[List.length_append];omega
  ·exact ⟨Nat.le_trans h1 (Nat.mul_le_mul_right _ (Nat.le_succ j)),h2⟩
def srLn (L:List FrP) (p r c:Int):SR Grows:=⟨fun v w=>∃ vs,v=.tuple #[vs,D3 p r c]/\Recs frK w vs L,fun v w w' ⟨vs,h1,h2⟩ ⟨X,e⟩=>by subst e;exact ⟨vs,h1,h2.ext X⟩,fun v=>∃ a cap,v=.tuple #[.slice a L.length cap,D3 p r c],.tuple #[.slice none L.length 0,D3 p r c],⟨_,_,rfl⟩,fun v w ⟨vs,h1,⟨_,a,cap,h,_⟩⟩=>⟨a,cap,by rw[h1,h]⟩⟩
def LineOk (k:LookP) (x0 y0 x1 y1:Int):Prop:=∀ (a b:WinP) (c:Int),a.fitsP->b.fitsP->dashP k.p k.r c->∀ w,Calls Tryz.prog 83 #[a.v,b.v,k.v,D3 k.p k.r c,R4 x0 y0 x1 y1] w (RLine w (lnL a b k c x0 y0 x1 y1) k.p k.r (lnC a b k c))
theorem fits_wide {a:WinP} (ha:a.fitsP):a.wide:=by unfold WinP.fitsP at ha;constructor<;>unfold w64<;>omega
theorem line_ok0 {k:LookP} {x0 y0 x1 y1:Int} (hs:k.soft=false) (har:areaP x0 y0 x1 y1<=1048576):LineOk k x0 y0 x1 y1:=fun a b c ha hb hc w=>by
 have e1:lnL a b k c x0 y0 x1 y1=wdL a b k.width k.dashed k.p k.r c x0 y0 x1 y1:=by unfold lnL;rw[hs];rfl
 have e2:lnC a b k c=wdC a b k.width k.dashed k.p k.r c:=by unfold lnC;rw[hs];rfl
 rw[e1,e2];exact face_line0 a b k c x0 y0 x1 y1 hs (fits_wide ha) (fits_wide hb) (by unfold dashP at hc;unfold w64;omega) (by unfold dashP at hc;unfold w64;omega) har w
theorem face_linedN (v ev:Value) (L:List WinP) (B:List Bool) (k:LookP) (x0 y0 x1 y1:Int) (w:World) (hv:Recs wnK w v L) (he:Recs boK w ev B) (hf:∀ a∈L,a.fitsP) (hk:k.ok) (hB:B.length=L.length) (hL:L.length<=4096) (har:areaP x0 y0 x1 y1<=1048576) (hln:LineOk k x0 y0 x1 y1):Calls Tryz.prog 48 #[fcV v ev k x0 y0 x1 y1] w (RNew frK w (facL L B k x0 y0 x1 y1)):=by
 have HV:=jj hv;have HE:=jj he;have HF:=jj hf;have hd:dashP k.p k.r k.c:=hk.2.2.2.2.2.2.2.2;have FL:=jj hln;have BD:=jj (fun j=>lineF_bd L B k x0 y0 x1 y1 har hd j);have LEN1:=jj (fun a b c=>lnL_len a b k c x0 y0 x1 y1 har);have HN:=jj (fun j=>show lineF L B k x0 y0 x1 y1 (j+1)=if B.getD j false then ((lineF L B k x0 y0 x1 y1 j).1++lnL (wAt L j) (wAt L ((j+1)%L.length)) k (lineF L B k x0 y0 x1 y1 j).2 x0 y0 x1 y1,lnC (wAt L j) (wAt L ((j+1)%L.length)) k (lineF L B k x0 y0 x1 y1 j).2) else lineF L B k x0 y0 x1 y1 j from rfl);have H0:=jj (show lineF L B k x0 y0 x1 y1 0=([],k.c) from rfl);unfold facL;obtain ⟨T,hT⟩:∃ T,T=lineF L B k x0 y0 x1 y1:=⟨_,rfl⟩;rw[<-hT] at HN H0 BD ⊢;obtain ⟨hl,av,cap,rfl,hcap,-⟩:=hv;obtain ⟨hl2,ev,ecap,rfl,-,-⟩:=he;have HB:=jj hB;have hB2:B.length<=4096:=by omega
 clear hf hk har hT hd hB hln;obtain ⟨i0,hii,hz0,hz1,hz2⟩:=info_parts info_fr22
 go_enter Tryz.func48,Tryz.ntmps48
 go_upto_region 3 with fail
 refine wp_abs (F:=fun w1=>Hid (Hold frK w w1 73 [(w.heap.size,#[.slice av L.length cap,.slice ev B.length ecap,.int .i64 k.width,.bool k.soft,.bool k.dashed,.int .i64 k.p,.int .i64 k.r,.int .i64 k.c,.int .i64 k.size,.int .i64 k.kind,.int .i64 k.front,.int .i64 k.back,.bool k.ccw,.int .i64 k.cull,.bool k.off,.int .i64 k.factor,.int .i64 k.units,.int .i64 x0,.int .i64 y0,.int .i64 x1,.int .i64 y1],82),(w.heap.size+1,#[.int .i64 k.p,.int .i64 k.r,.int .i64 k.c],25)] (.slice none 0 0) [])) (jj (Hold.start (List.forall_mem_cons.2 ⟨by exact rx_,List.forall_mem_cons.2 ⟨by exact rx_,by simp⟩⟩) (by simp) (jz (by exact bl_)))) ?_;intro w1 H1;have c0:=H1.out.rows _ jq;simp only at c0;have c1:=c0.cell;have c2:=c0.frozen;have c3:=c0.lt;clear c0;go_upto_region 4 with fail
 clear c1 c2 c3;go_loopw [14,3] (fun i o wr=>∃ (j:Nat) (vo:Value) (M:List FrP) (cj:Int),j<=B.length/\i=.int .i64 j/\o=vo/\Hid (T j=(M,cj))/\Hid (Hold frK w wr 73 [(w.heap.size,#[.slice av L.length cap,.slice ev B.length ecap,.int .i64 k.width,.bool k.soft,.bool k.dashed,.int .i64 k.p,.int .i64 k.r,.int .i64 k.c,.int .i64 k.size,.int .i64 k.kind,.int .i64 k.front,.int .i64 k.back,.bool k.ccw,.int .i64 k.cull,.bool k.off,.int .i64 k.factor,.int .i64 k.units,.int .i64 x0,.int .i64 y0,.int .i64 x1,.int .i64 y1],82),(w.heap.size+1,#[.int .i64 k.p,.int .i64 k.r,.int .i64 cj],25)] vo M))
  (fun i _ _=>B.length-(intOf i).toNat)
 case atStart=>exact ⟨0,_,[],k.c,by omega,rfl,rfl,H0,H1⟩
 case round =>
  clear H1;obtain ⟨j,vo,M,cj,hj,rfl,hv,hM,hR⟩:=hrel;have hv:=hv.symm;subst hv;have c0:=hR.out.rows _ jq;simp only at c0;have c1:=c0.cell;have c2:=c0.frozen;have c3:=c0.lt;clear c0;have d0:=hR.out.rows _ (jk jq);simp only at d0;have d1:=d0.cell;have d2:=d0.frozen;have d3:=d0.lt;clear d0
  by_cases hlt:j<B.length
  ·have HJ:=jj (show j+1<=B.length from hlt);have hji:(j:Int)<B.length:=by omega
   have hli:(j:Int)<L.length:=by have:=HB.out;omega
   obtain ⟨X0,hX0⟩:=hR.out.ext;obtain ⟨-,ev',ecap',hqe,-,hce⟩:=(by rw[hX0];exact HE.out.ext X0:Recs boK wr (.slice ev B.length ecap) B);obtain ⟨rfl,rfl⟩:ev=ev'/\ecap=ecap':=by simpa using hqe
   rcases hce with e|⟨eb,eo,rfl,heb,hce⟩
   ·rw[e] at hlt;simp at hlt
   obtain ⟨on,hon⟩:∃ f,B[j]?=some f:=⟨_,List.getElem?_eq_getElem hlt⟩;have ge:wr.cell? ⟨eb,eo+j,none⟩=some (.bool on):=by simpa [boK] using hce j _ hon 0 _ rfl
   have hg:B.getD j false=on:=by rw[List.getD_eq_getElem?_getD,hon];rfl
   have hn:=HN.out j;rw[hg,hM.out] at hn;clear hce hqe hon hg;cases on
   ·have E1:=jj (show T (j+1)=(M,cj) by rw[hn];rfl);clear hn hX0;go_wp2;go_roundw
    case rel=>exact ⟨j+1,_,M,cj,HJ.out,by go_num,rfl,E1,hR⟩
    case measure=>have:=HJ.out;simp[intOf];omega
   ·obtain ⟨-,av',cap',hq,-,hcl⟩:=(by rw[hX0];exact HV.out.ext X0:Recs wnK wr (.slice av L.length cap) L);obtain ⟨rfl,rfl⟩:av=av'/\cap=cap':=by simpa using hq
    clear hq hX0;rcases hcl with e|⟨lb,lo,rfl,hlb,hcl⟩
    ·rw[e] at hli;simp at hli;omega
    have hjl:j<L.length:=by omega
    obtain ⟨a,ha⟩:∃ f,L[j]?=some f:=⟨_,List.getElem?_eq_getElem hjl⟩;obtain ⟨m,hm⟩:∃ m,(j+1)%L.length=m:=⟨_,rfl⟩;have hml:m<L.length:=by rw[<-hm];exact Nat.mod_lt _ (by omega)
    have hmi:(m:Int)<L.length:=by omega
    have hrem:((j:Int)+1).tmod (L.length:Int)=m:=by rw[<-hm,Int.tmod_eq_emod_of_nonneg (by omega),Int.natCast_emod];rfl
    have hne1:((L.length:Int)==0)=false:=by simp;intro e;rw[e] at hjl;simp at hjl
    have hne2:(L.length:Int)≠0:=by omega
    obtain ⟨b,hb⟩:∃ f,L[m]?=some f:=⟨_,List.getElem?_eq_getElem hml⟩;have pa0:wr.cell? ⟨lb,lo+j*7,none⟩=some (.int .i64 a.x):=hcl j _ ha 0 _ rfl;have pa1:wr.cell? ⟨lb,lo+j*7+1,none⟩=some (.int .i64 a.y):=hcl j _ ha 1 _ rfl;have pa2:wr.cell? ⟨lb,lo+j*7+2,none⟩=some (.int .i64 a.z):=hcl j _ ha 2 _ rfl;have pa3:wr.cell? ⟨lb,lo+j*7+3,none⟩=some (.int .i64 a.c0):=hcl j _ ha 3 _ rfl;have pa4:wr.cell? ⟨lb,lo+j*7+4,none⟩=some (.int .i64 a.c1):=hcl j _ ha 4 _ rfl;have pa5:wr.cell? ⟨lb,lo+j*7+5,none⟩=some (.int .i64 a.c2):=hcl j _ ha 5 _ rfl;have pa6:wr.cell? ⟨lb,lo+j*7+6,none⟩=some (.int .i64 a.c3):=hcl j _ ha 6 _ rfl;have pb0:wr.cell? ⟨lb,lo+m*7,none⟩=some (.int .i64 b.x):=hcl m _ hb 0 _ rfl;have pb1:wr.cell? ⟨lb,lo+m*7+1,none⟩=some (.int .i64 b.y):=hcl m _ hb 1 _ rfl;have pb2:wr.cell? ⟨lb,lo+m*7+2,none⟩=some (.int .i64 b.z):=hcl m _ hb 2 _ rfl;have pb3:wr.cell? ⟨lb,lo+m*7+3,none⟩=some (.int .i64 b.c0):=hcl m _ hb 3 _ rfl;have pb4:wr.cell? ⟨lb,lo+m*7+4,none⟩=some (.int .i64 b.c1):=hcl m _ hb 4 _ rfl;have pb5:wr.cell? ⟨lb,lo+m*7+5,none⟩=some (.int .i64 b.c2):=hcl m _ hb 5 _ rfl;have pb6:wr.cell? ⟨lb,lo+m*7+6,none⟩=some (.int .i64 b.c3):=hcl m _ hb 6 _ rfl;have na:=wAt_of ha;have nb:=wAt_of hb;rw[hm,na,nb] at hn;have b1:=BD.out j;rw[hM.out] at b1;have G:=jj (fun w=>FL.out a b cj (HF.out a (List.mem_of_getElem? ha)) (HF.out b (List.mem_of_getElem? hb)) b1.2 w);have b2:=LEN1.out a b cj;obtain ⟨S,hS⟩:∃ S,lnL a b k cj x0 y0 x1 y1=S:=⟨_,rfl⟩;obtain ⟨cn,hcn⟩:∃ S,lnC a b k cj=S:=⟨_,rfl⟩;simp only[hS,hcn] at hn G b2;have E1:=jj (show T (j+1)=(M++S,cn) by rw[hn];rfl);have hlb2:M.length<=549755813888:=by have:=b1.1;simp only at this;omega
    have LB1:=jj (show M.length+S.length<=maxLen by unfold maxLen;omega);have LB2:=jj (show (M.length+S.length)*64<=140737488355328 by omega);clear hcl ha hb na nb hn b1 b2 hS hcn hlb2 hm;have rD:=World.rowD_of (hR.out.rows _ List.mem_cons_self);simp only at rD;go_wp2;refine wp_region_rel 25 [none,none,none,none,none,none,none,none,none,none,none,some ([],srV (.int .i64 (L.length:Int))),none,none,none,none,none,none,none,none,some ([],srLn S k.p k.r cn),none,none,none,none] (by kernel_rfl) (by kernel_rfl) ?_;simp only[jx]
    (repeat (first|(refine rel_none ?_;intro K_ hK_;go_big_quiet_op;go_big_quiet_on)|simp only[Act.put,List.setIfInBounds_toArray,List.set_cons_zero,List.set_cons_succ]))
    refine rel_some rfl (fun w_ hw_ hk_ K_ hK_=>?_) (fun v11 f11=>?_)
    ·obtain ⟨X_,rfl⟩:=hw_;go_simp;exact hK_ _ _ rfl ⟨⟨#[],_⟩,(ext_none' _).symm⟩
    obtain rfl:=f11
    (repeat (first|(refine rel_none ?_;intro K_ hK_;go_big_quiet_op;go_big_quiet_on)|simp only[Act.put,List.setIfInBounds_toArray,List.set_cons_zero,List.set_cons_succ]))
    refine rel_some rfl (fun w_ hw_ hk_ K_ hK_=>?_) (fun v20 f20=>?_)
    ·obtain ⟨X_,rfl⟩:=hw_;go_simp
     go_at_call 83
     with_reducible refine (G.out _).mono ?_
     rintro _ _ ⟨v,rfl,h1,h2⟩;exact hK_ _ _ ⟨v,rfl,h1⟩ h2
    obtain ⟨fa,fc,rfl⟩:=f20
    (repeat (first|(refine rel_none ?_;intro K_ hK_;go_big_quiet_op;go_big_quiet_on)|simp only[Act.put,List.setIfInBounds_toArray,List.set_cons_zero,List.set_cons_succ]))
    refine rel_nil ?_;intro w_ hw_ kk;obtain ⟨X,rfl⟩:=hw_;obtain ⟨vs,hvs,hq⟩:=(kk (20,_) (by repeat (first|exact List.mem_cons_self|refine jk ?_)));clear kk;obtain ⟨rfl⟩:vs=.slice fa S.length fc:=by simpa using hvs.symm
    have HQ:=jj hq;clear hq hvs;go_upto_region 9 with fail
    have hsz:=hR.out.size;have Rf0:=hR.out.rows _ List.mem_cons_self;have Rd0:=hR.out.rows _ (jk List.mem_cons_self);have ff0:=hR.out.far _ List.mem_cons_self;have fd0:=hR.out.far _ (jk List.mem_cons_self);simp only at Rf0 Rd0 ff0 fd0;have hne:=row_apart Rd0 fd0 hR.out.own;have q1:=hR.out.put (R':=[]) (b:=w.heap.size+1) (k:=0) (u:=.int .i64 k.p) hne (by omega) (by simp) (by simp);have q2:=q1.put (R':=[]) (b:=w.heap.size+1) (k:=1) (u:=.int .i64 k.r) hne (by omega) (by simp) (by simp);have q3:=q2.put (R':=[(w.heap.size,#[.slice (some ⟨lb,lo,none⟩) L.length cap,.slice (some ⟨eb,eo,none⟩) B.length ecap,.int .i64 k.width,.bool k.soft,.bool k.dashed,.int .i64 k.p,.int .i64 k.r,.int .i64 k.c,.int .i64 k.size,.int .i64 k.kind,.int .i64 k.front,.int .i64 k.back,.bool k.ccw,.int .i64 k.cull,.bool k.off,.int .i64 k.factor,.int .i64 k.units,.int .i64 x0,.int .i64 y0,.int .i64 x1,.int .i64 y1],82),(w.heap.size+1,#[.int .i64 k.p,.int .i64 k.r,.int .i64 cn],25)]) (b:=w.heap.size+1) (k:=2) (u:=.int .i64 cn) hne (by omega) (List.forall_mem_cons.2 ⟨((Rf0.other (by omega) _ _).other (by omega) _ _).other (by omega) _ _,List.forall_mem_cons.2 ⟨((Rd0.set 0 _).set 1 _).set 2 _,by simp⟩⟩) (List.forall_mem_cons.2 ⟨ff0,List.forall_mem_cons.2 ⟨fd0,by simp⟩⟩);have q4:=jj (q3.grow X);have ld0:=Rd0.lt;have nl:=not_short (Rd0.ext X) (by simp) HQ.out;have P:=((HQ.out.set1 (i:=0) (u:=.int .i64 k.p) nl).set1 (i:=1) (u:=.int .i64 k.r) nl).set1 (i:=2) (u:=.int .i64 cn) nl;rw[World.setCell_ext ld0,World.setCell_ext (by simpa [World.setCell] using ld0),World.setCell_ext (by simpa [World.setCell] using ld0)] at P;refine wp_abs (F:=fun wx=>Hid (Hold frK w wx 73 [(w.heap.size,#[.slice (some ⟨lb,lo,none⟩) L.length cap,.slice (some ⟨eb,eo,none⟩) B.length ecap,.int .i64 k.width,.bool k.soft,.bool k.dashed,.int .i64 k.p,.int .i64 k.r,.int .i64 k.c,.int .i64 k.size,.int .i64 k.kind,.int .i64 k.front,.int .i64 k.back,.bool k.ccw,.int .i64 k.cull,.bool k.off,.int .i64 k.factor,.int .i64 k.units,.int .i64 x0,.int .i64 y0,.int .i64 x1,.int .i64 y1],82),(w.heap.size+1,#[.int .i64 k.p,.int .i64 k.r,.int .i64 cn],25)] vo M)/\Recs frK wx (.slice fa S.length fc) S) ⟨q4,P⟩ ?_;clear q1 q2 q3 q4 P nl hne Rf0 Rd0 ff0 fd0 ld0 HQ hR rD c1 c2 c3 d1 d2 d3;rintro wx ⟨hR,hq⟩;have HQ:=jj hq;have hsz:=hR.out.size;clear hq
    go_wp2_with (first
     |(at_builtin;refine wpList_append_recs (K:=frK) rfl _ _ 36 rfl w.heap.size 73 i0 (.agg #[.int .i64 0,.int .i64 0,.int .i64 0,.int .i64 0,.int .i64 0,.int .i64 0,.int .i64 0,.int .i64 0]) 64 Tryz.underlying36 hii hz0 hz1 hz2 rfl vo M rfl hR.out.own (.slice fa S.length fc) S rfl HQ.out LB1.out LB2.out (by omega) ?_;intro v' w5 hown hgrow;have h5:=jj (hR.out.more hown hgrow);clear hown hgrow))
    go_roundw
    case rel=>exact ⟨j+1,_,M++S,cn,HJ.out,by go_num,rfl,E1,h5⟩
    case measure=>have:=HJ.out;simp[intOf];omega
  ·obtain rfl:j=B.length:=by omega
   have b1:=(BD.out B.length).1;rw[hM.out] at b1;have hlb:M.length<=1099511627776:=by simp only at b1;omega
   clear b1;go_wp2;go_ret;refine ⟨_,rfl,⟨?_,fun b hb _=>(hR.out.own.lt b hb).1⟩,hR.out.ext⟩;rw[hM.out];exact own_recs hR.out.own hlb
def gRow (F:Int->Int->FrP) (x0 x y:Int):List FrP:=(rng x0 x).flatMap (fun x=>if 0<(F x y).cov then [F x y] else [])
def gTo (F:Int->Int->FrP) (x0 x1 y0 y:Int):List FrP:=(rng y0 y).flatMap (fun y=>gRow F x0 x1 y)
def dotS (u v s p q:Int):Nat:=if (p-u)*(p-u)+(q-v)*(q-v)<s then 1 else 0
def dotRow (u v s x Y:Int):Nat:=sumTo (fun i=>dotS u v s (256*x+32*(i:Int)+16) Y) 8
def dotN (u v s x y:Int):Nat:=sumTo (fun k=>dotRow u v s x (256*y+32*(k:Int)+16)) 8
def byteI (z:Int):Int:=min (max z 0) 255
def dot1 (u s:Int):Int:=if s%2=1 then u/256-(s-1)/2 else (u+128)/256-s/2
def dotBox (a:WinP) (s:Int):RcP:=⟨dot1 a.x s,dot1 a.y s,dot1 a.x s+s,dot1 a.y s+s⟩
def dotF (a:WinP) (s kind x y:Int):FrP :=
 ⟨x,y,a.z,if kind=2 then byteI ((256*x+128-a.x+128*s)/s) else a.c0,if kind=2 then byteI ((256*y+128-a.y+128*s)/s) else a.c1,a.c2,a.c3,
  if kind=1 then (dotN a.x a.y (128*s*(128*s)) x y:Int) else if (dotBox a s).has x y then 64 else 0⟩
def dotP (a:WinP) (s kind:Int):Prop:=a.fitsP/\widthP s/\0<=kind/\kind<=2
instance (a : WinP) (s kind : Int) : Decidable (dotP a s kind) := by unfold dotP; exact inferInstance
def dotL (a:WinP) (s kind x0 y0 x1 y1:Int):List FrP:=if dotP a s kind/\rightP x0 y0 x1 y1 then gTo (dotF a s kind) x0 x1 y0 y1 else []
def dotsF (L:List WinP) (B:List Bool) (k:LookP) (x0 y0 x1 y1:Int):Nat->List FrP
 |0=>[]
 |j+1=>if B.getD j false then dotsF L B k x0 y0 x1 y1 j++dotL (wAt L j) k.size k.kind x0 y0 x1 y1 else dotsF L B k x0 y0 x1 y1 j
def dotsL (L:List WinP) (B:List Bool) (k:LookP) (x0 y0 x1 y1:Int):List FrP:=dotsF L B k x0 y0 x1 y1 B.length
end Go.Proofs.YthcjfanigfgckaaGreat
