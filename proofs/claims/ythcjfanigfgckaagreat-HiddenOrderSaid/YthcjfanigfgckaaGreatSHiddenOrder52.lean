import Derived.Test.YthcjfanigfgckaaGreatSHiddenOrder45
set_option linter.unusedVariables false
set_option linter.unusedSimpArgs false
set_option maxRecDepth 100000
set_option maxHeartbeats 16000000
namespace Go.Proofs.YthcjfanigfgckaaGreat
open Go.RowKit
theorem frsR {w:World} {v:Value} {L:List FrP} (h:Recs frK w v L) (hf:∀ f∈L,f.ok):Frs w v L:=by
 obtain ⟨hl,a,cap,rfl,hc,h3⟩:=h;exact ⟨hf,hl,a,cap,rfl,hc,h3⟩
theorem fits_ok {f:FrP} {W H:Int} (w1:W<=1024) (h1:H<=1024) (h:f.fits/\frIn 0 0 W H f=true):f.ok:=by
 obtain ⟨⟨k0,k1,k2,k3,k4,k5,k6⟩,h2⟩:=h;have q:=frIn_iff.1 h2;have d:∀ z:Int,-9223372036854775808<=z->z<=9223372036854775807->I64 z:=fun z h0 h1=>⟨h0,h1⟩
 exact ⟨d _ (by omega) (by omega),d _ (by omega) (by omega),d _ (by omega) (by omega),d _ (by omega) (by omega),d _ (by omega) (by omega),d _ (by omega) (by omega),d _ (by omega) (by omega),d _ (by omega) (by omega)⟩
theorem area_im {W H:Int} {C Z:List Int} (h:ImOk W H C Z):areaP 0 0 W H<=1048576:=by
 have:=area_01 h.w0 h.w1 h.h0 h.h1;unfold areaP;rw[Int.sub_zero,Int.sub_zero]
 split<;>omega
theorem opsH_ok (m:Bool):(opsH m).ok:=by
 cases m<;>exact ⟨⟨by decide,by decide⟩,⟨by decide,by decide⟩,⟨by decide,by decide⟩,⟨by decide,by decide⟩,⟨by decide,by decide⟩,⟨by decide,by decide⟩,⟨by decide,by decide⟩⟩
theorem pols_chg {v:Value} {SL:List PsP} {l:List PolP} {wb w wr:World} {g1 g2:Nat} (hp:PolsR wb v SL l) (hx:∃ X,w=wb.ext X) (hg:wb.heap.size<=g1/\wb.heap.size<=g2) (c:Chg (fun k=>k=g1\/k=g2) w wr):PolsR wr v SL l:=by
 obtain ⟨X,rfl⟩:=hx;have hb:Below wb.heap.size wb wr:=((Below.refl wb.heap.size wb).ext (Nat.le_refl _) X).trans (c.below (fun k hk e=>by omega) (by simp));obtain ⟨Y,rfl⟩:=hb.toExt;exact hp.ext Y
def bldPs (parts:Array (Nat×Value)):Sem Value:=Instr.build 114 parts
@[go_sem ↓] theorem bldPs_pre (parts:Array (Nat×Value)):Instr.build 114 parts=bldPs parts:=rfl
@[go_sem] theorem bldPs_run (s:SkP) (m:Bool) (w:World):(bldPs #[(0,.agg #[.int .i64 s.factor,.int .i64 s.units,.bool s.ccw,.int .i64 s.cull,.int .i64 s.width,.int .i64 s.c0,.int .i64 s.c1,.int .i64 s.c2,.int .i64 s.c3]),(1,.bool m)]).run Tryz.prog w=.ok (.agg #[.int .i64 s.factor,.int .i64 s.units,.bool s.ccw,.int .i64 s.cull,.int .i64 s.width,.int .i64 s.c0,.int .i64 s.c1,.int .i64 s.c2,.int .i64 s.c3,.bool m]) w :=
 run_build w _ _ _ (by kernel_rfl)
def bldP2 (parts:Array (Nat×Value)):Sem Value:=Instr.build 116 parts
@[go_sem ↓] theorem bldP2_pre (parts:Array (Nat×Value)):Instr.build 116 parts=bldP2 parts:=rfl
def pass2 (s:SkP):Value:=.agg (#[.int .i64 s.factor,.int .i64 s.units,.bool s.ccw,.int .i64 s.cull,.int .i64 s.width,.int .i64 s.c0,.int .i64 s.c1,.int .i64 s.c2,.int .i64 s.c3,.bool false]++#[.int .i64 s.factor,.int .i64 s.units,.bool s.ccw,.int .i64 s.cull,.int .i64 s.width,.int .i64 s.c0,.int .i64 s.c1,.int .i64 s.c2,.int .i64 s.c3,.bool true])
@[go_sem] theorem bldP2_run (s:SkP) (w:World):(bldP2 #[(0,.agg #[.int .i64 s.factor,.int .i64 s.units,.bool s.ccw,.int .i64 s.cull,.int .i64 s.width,.int .i64 s.c0,.int .i64 s.c1,.int .i64 s.c2,.int .i64 s.c3,.bool false]),(1,.agg #[.int .i64 s.factor,.int .i64 s.units,.bool s.ccw,.int .i64 s.cull,.int .i64 s.width,.int .i64 s.c0,.int .i64 s.c1,.int .i64 s.c2,.int .i64 s.c3,.bool true])]).run Tryz.prog w=.ok (pass2 s) w :=
 run_build w _ _ _ (by kernel_rfl)
@[go_sem] theorem pass2_0 (s:SkP) (w:World):(Instr.index 116 (pass2 s) (.int .i64 0)).run Tryz.prog w=.ok (.agg #[.int .i64 s.factor,.int .i64 s.units,.bool s.ccw,.int .i64 s.cull,.int .i64 s.width,.int .i64 s.c0,.int .i64 s.c1,.int .i64 s.c2,.int .i64 s.c3,.bool false]) w:=by kernel_rfl
@[go_sem] theorem pass2_1 (s:SkP) (w:World):(Instr.index 116 (pass2 s) (.int .i64 1)).run Tryz.prog w=.ok (.agg #[.int .i64 s.factor,.int .i64 s.units,.bool s.ccw,.int .i64 s.cull,.int .i64 s.width,.int .i64 s.c0,.int .i64 s.c1,.int .i64 s.c2,.int .i64 s.c3,.bool true]) w:=by kernel_rfl
theorem hbox27 (W H:Int) (c z:Value) (w:World):Calls Tryz.prog 74 #[Im W H c z] w (Ret (R4 0 0 W H) w):=by
 go_enter Tryz.func74,Tryz.ntmps74
 go_wp2
 first
  |(go_ret;exact Ret.of' rfl (by exact bl_))
  |exact bodyPost_ret (v:=R4 0 0 W H) (by simp[results,Tryz.results74,go_sem]) rfl (Ret.of (by exact bl_))
theorem hdraw (v:Value) (SL:List PsP) (l:List PolP) (s:SkP) (wb w:World) {bm g1 k1 g2 k2:Nat} {W H:Int} {C Z:List Int} (hp:PolsR wb v SL l) (hx:∃ X,w=wb.ext X) (hg:wb.heap.size<=g1/\wb.heap.size<=g2) (hI:Img w bm g1 k1 g2 k2 W H C Z) (hs:s.wide) (hh:hidP l s):Calls Tryz.prog 31 #[.pointer (some ⟨bm,0,none⟩),v,s.v] w (PutsB bm g1 k1 g2 k2 W H (hidImg l s W H C Z).1 (hidImg l s W H C Z).2 (.int .i64 0) w):=by
 have har:=area_im hI.ok;have RI:=jj (fun v S w h=>decide_eq_true hh▸hright v S l s w h hs);have hl64:l.length<=64:=hh.1;have OKF:=jj (fun p (m:Bool)=>show ∀ f∈frsP p s m 0 0 W H,f.ok from fun f hf=>fits_ok hI.ok.w1 hI.ok.h1 (frsP_fits hf));have FG:=jj (fun (q:PsP) (p:PolP) (hpm:p∈l) (m:Bool) w h=>hfragsN q p s m 0 0 W H w h (hh.2.1 p hpm) hs har);have PX:=jj (fun (wr:World) c=>pols_chg (wr:=wr) hp hx hg c);have BX:=jj (fun (c z:Value) w=>hbox27 W H c z w);have OP0:=jj (fun w=>hops s false w);have OP1:=jj (fun w=>hops s true w);have OK0:=jj (opsH_ok false);have OK1:=jj (opsH_ok true);obtain ⟨T0,hT0⟩:∃ T:Nat->List Int×List Int,T=fun k=>imgF (opsH false) W H (C,Z) (frsH (l.take k) s false 0 0 W H):=⟨_,rfl⟩
 obtain ⟨T1,hT1⟩:∃ T:Nat->List Int×List Int,T=fun k=>imgF (opsH true) W H (imgF (opsH false) W H (C,Z) (frsH l s false 0 0 W H)) (frsH (l.take k) s true 0 0 W H):=⟨_,rfl⟩
 have S0:=jj (fun k p (e:l[k]?=some p)=>show T0 (k+1)=imgF (opsH false) W H (T0 k) (frsP p s false 0 0 W H) by rw[hT0];exact imgF_polys _ W H s false 0 0 W H l (C,Z) k p e);have S1:=jj (fun k p (e:l[k]?=some p)=>show T1 (k+1)=imgF (opsH true) W H (T1 k) (frsP p s true 0 0 W H) by rw[hT1];exact imgF_polys _ W H s true 0 0 W H l _ k p e);have E0:=jj (show T0 0=(C,Z) by rw[hT0];simp[frsH,imgF]);have E1:=jj (show T1 0=T0 l.length by rw[hT0,hT1];simp[frsH,imgF]);have E2:=jj (show T1 l.length=hidImg l s W H C Z by rw[hT1];simp[hidImg]);rw[<-E2.out];have HN:=jj hp.n;have hl64:SL.length<=64:=by have:=hp.n;omega
 have HP:=jj (PX.out w Chg.refl);have HI:=jj hI;obtain ⟨-,av,cap,rfl,-,-⟩:=hp.r;obtain ⟨o0,ho0⟩:∃ o,opsH false=o:=⟨_,rfl⟩;obtain ⟨o1,ho1⟩:∃ o,opsH true=o:=⟨_,rfl⟩;rw[ho0] at OP0 OK0 S0;rw[ho1] at OP1 OK1 S1;clear hp hx hg hI hs hh har hT0 hT1 ho0 ho1 E2
 go_enter Tryz.func31,Tryz.ntmps31
 go_upto_region 1 with fail
 refine wp_abs (F:=fun w1=>Row w1 w.heap.size #[.int .i64 s.factor,.int .i64 s.units,.bool s.ccw,.int .i64 s.cull,.int .i64 s.width,.int .i64 s.c0,.int .i64 s.c1,.int .i64 s.c2,.int .i64 s.c3] 48/\∃ X,w1=w.ext X) ⟨by exact rx_,jz (by exact bx_)⟩ ?_;rintro w1 ⟨Ra,X1,hX1⟩;have HP1:=jj (by rw[hX1];exact HP.out.ext X1:PolsR w1 (.slice av SL.length cap) SL l);have HI1:=jj (by rw[hX1];exact HI.out.ext X1:Img w1 bm g1 k1 g2 k2 W H C Z);have HC1:=jj (by rw[hX1];exact Chg.of_ext X1:Chg (fun k=>k=g1\/k=g2) w w1);have ca:=Ra.cell;have fa:=Ra.frozen;have la:=Ra.lt;have da:=World.rowD_of Ra;clear Ra hX1 HP HI;go_upto_region 3 with (first|(go_at_call 67;(with_reducible refine (RI.out _ _ _ (by repeat (first|with_reducible exact HP1.out|with_reducible refine PolsR.ext ?_ _|with_reducible refine PolsR.alloc ?_ _|with_reducible refine PolsR.drew ?_))).mono ?_);rintro _ _ ⟨rfl,X_,rfl⟩))
 go_upto_region 4 with fail
 clear ca fa la da RI;go_loopw [20] (fun i wr=>Hid ((i=.int .i64 0/\Img wr bm g1 k1 g2 k2 W H C Z)\/(i=.int .i64 1/\Img wr bm g1 k1 g2 k2 W H (T0 l.length).1 (T0 l.length).2)\/(i=.int .i64 2/\Img wr bm g1 k1 g2 k2 W H (T1 l.length).1 (T1 l.length).2))/\Hid (Chg (fun k=>k=g1\/k=g2) w wr))
  (fun i _=>2-(intOf i).toNat)
 case atStart =>
  refine ⟨jj (.inl ⟨rfl,?_⟩),jj ?_⟩
  ·repeat (first|with_reducible exact HI1.out|with_reducible refine Img.ext ?_ _)
  ·repeat (first|with_reducible exact HC1.out|with_reducible refine Chg.ext ?_ _)
 case round =>
  obtain ⟨hi,hC⟩:=hrel;clear HI1 HC1 HP1;rcases hi.out with ⟨rfl,hI⟩|⟨rfl,hI⟩|⟨rfl,hI⟩
  ·-- the go of faces
   have HI:=jj (by rw[E0.out];exact hI:Img wr bm g1 k1 g2 k2 W H (T0 0).1 (T0 0).2);clear hI hi;go_upto_region 6 with fail
   refine wp_abs (F:=fun w2=>Row w2 wr.heap.size #[.int .i64 s.factor,.int .i64 s.units,.bool s.ccw,.int .i64 s.cull,.int .i64 s.width,.int .i64 s.c0,.int .i64 s.c1,.int .i64 s.c2,.int .i64 s.c3,.bool false] 114/\Img w2 bm g1 k1 g2 k2 W H (T0 0).1 (T0 0).2/\Chg (fun k=>k=g1\/k=g2) w w2) ⟨by exact rx_,by repeat (first|with_reducible exact HI.out|with_reducible refine Img.ext ?_ _|with_reducible refine Img.alloc ?_ _|with_reducible refine Img.drew ?_),by repeat (first|with_reducible exact hC.out|with_reducible refine Chg.ext ?_ _|with_reducible refine Chg.alloc ?_ _|with_reducible refine Chg.drew ?_)⟩ ?_;have g1l:=HI.out.c.lt;have g2l:=HI.out.z.lt;have bml:=HI.out.row.lt;obtain ⟨Bp,hBp⟩:∃ b,wr.heap.size=b:=⟨_,rfl⟩;rw[hBp] at g1l g2l bml ⊢;clear hBp hC HI;rintro w2 ⟨Rp,hI2,hC2⟩;have HRp:=jj Rp;have HI2:=jj hI2;have HC2:=jj hC2;clear Rp hI2 hC2;go_upto_region 7 with fail
   go_loopw [25] (fun i wq=>∃ (k:Nat),k<=SL.length/\i=.int .i64 k/\Hid (Img wq bm g1 k1 g2 k2 W H (T0 k).1 (T0 k).2)/\Hid (Row wq Bp #[.int .i64 s.factor,.int .i64 s.units,.bool s.ccw,.int .i64 s.cull,.int .i64 s.width,.int .i64 s.c0,.int .i64 s.c1,.int .i64 s.c2,.int .i64 s.c3,.bool false] 114)/\Hid (Chg (fun k=>k=g1\/k=g2) w wq))
    (fun i _=>SL.length-(intOf i).toNat)
   case atStart=>exact ⟨0,by omega,rfl,HI2,HRp,HC2⟩
   case round =>
    clear HI2 HRp HC2;obtain ⟨k,hk,rfl,hI,hP,hC⟩:=hrel
    by_cases hlt:k<SL.length
    ·have HJ:=jj (show k+1<=SL.length from hlt);have hki:(k:Int)<SL.length:=by omega
     obtain ⟨q,hq⟩:∃ f,SL[k]?=some f:=⟨_,List.getElem?_eq_getElem hlt⟩;obtain ⟨p,hp⟩:∃ f,l[k]?=some f:=⟨_,List.getElem?_eq_getElem (by rw[<-HN.out];exact hlt)⟩;have hpm:=List.mem_of_getElem? hp;have HPW:=jj (PX.out wr hC.out);have HQ:=jj (HPW.out.p k _ _ hq hp);obtain ⟨-,av',cap',he,-,hcl⟩:=HPW.out.r;obtain ⟨rfl,rfl⟩:av=av'/\cap=cap':=by simpa using he
     rcases hcl with e|⟨lb,lo,rfl,hlb,hcl⟩
     ·rw[e] at hlt;simp at hlt
     have pa0:wr.cell? ⟨lb,lo+k*2,none⟩=some q.vs:=hcl k _ hq 0 _ rfl;have pa1:wr.cell? ⟨lb,lo+k*2+1,none⟩=some q.es:=hcl k _ hq 1 _ rfl;have FR:=jj (fun w h=>FG.out q p hpm false w h);have OF:=jj (OKF.out p false);have st:=S0.out k p hp;obtain ⟨D,hD⟩:∃ D,frsP p s false 0 0 W H=D:=⟨_,rfl⟩;rw[hD] at FR OF st;have ST:=jj st;clear hcl hq hp he hD st HPW hpm;obtain ⟨va,vn,vc,ea,en,ec⟩:=q;go_upto_region 9 with fail
     refine wp_abs (F:=fun w3=>Row w3 Bp #[.int .i64 s.factor,.int .i64 s.units,.bool s.ccw,.int .i64 s.cull,.int .i64 s.width,.int .i64 s.c0,.int .i64 s.c1,.int .i64 s.c2,.int .i64 s.c3,.bool false] 114/\Row w3 wr.heap.size #[.slice va vn vc,.slice ea en ec] 68/\Img w3 bm g1 k1 g2 k2 W H (T0 k).1 (T0 k).2/\Chg (fun k=>k=g1\/k=g2) w w3/\PolR w3 ⟨va,vn,vc,ea,en,ec⟩ p) ⟨by repeat (first|with_reducible exact hP.out|with_reducible refine Row.ext ?_ _|with_reducible refine row_drew ?_|with_reducible refine Row.alloc ?_ _),by exact rx_,by repeat (first|with_reducible exact hI.out|with_reducible refine Img.ext ?_ _|with_reducible refine Img.alloc ?_ _|with_reducible refine Img.drew ?_),by repeat (first|with_reducible exact hC.out|with_reducible refine Chg.ext ?_ _|with_reducible refine Chg.alloc ?_ _|with_reducible refine Chg.drew ?_),by repeat (first|with_reducible exact HQ.out|with_reducible refine PolR.ext ?_ _|with_reducible refine PolR.alloc ?_ _|with_reducible refine PolR.drew ?_)⟩ ?_;obtain ⟨Bx,hBx⟩:∃ b,wr.heap.size=b:=⟨_,rfl⟩;rw[hBx];clear hBx pa0 pa1 hI hP hC HQ;rintro w3 ⟨Rp,Rx,hI,hC,hQ⟩;have HRp:=jj Rp;have HI:=jj hI;have HC:=jj hC;have HQ:=jj hQ;have cp:=Rp.cell;have fp:=Rp.frozen;have lp:=Rp.lt;have dp:=World.rowD_of Rp;have cx:=Rx.cell;have fx:=Rx.frozen;have lx:=Rx.lt;have ci:=hI.row.cell;have fi:=hI.row.frozen;have li:=hI.row.lt;clear Rp Rx hI hC hQ;refine wp_region_rel 10 [none,none,some ([],srV o0.v),none,none,none,some ([],srV (.pointer (some ⟨bm,0,none⟩))),none,some ([],srV (R4 0 0 W H)),some ([8],srN_ frK w3.heap.size D)] (by kernel_rfl) (by kernel_rfl) ?_;simp only[jx]
     (repeat (first|(refine rel_none ?_;intro K_ hK_;go_big_quiet_op;go_big_quiet_on)|simp only[Act.put,List.setIfInBounds_toArray,List.set_cons_zero,List.set_cons_succ]))
     refine rel_some rfl (fun w_ hw_ hk_ K_ hK_=>?_) (fun e2 f2=>?_)
     ·obtain ⟨X_,rfl⟩:=hw_;go_simp
      go_at_call 73
      with_reducible refine (OP0.out _).mono ?_
      rintro _ _ ⟨rfl,hX⟩;exact hK_ _ _ rfl hX
     obtain rfl:=f2
     (repeat (first|(refine rel_none ?_;intro K_ hK_;go_big_quiet_op;go_big_quiet_on)|simp only[Act.put,List.setIfInBounds_toArray,List.set_cons_zero,List.set_cons_succ]))
     refine rel_some rfl (fun w_ hw_ hk_ K_ hK_=>?_) (fun e6 f6=>?_)
     ·obtain ⟨X_,rfl⟩:=hw_;go_simp;exact hK_ _ _ rfl ⟨⟨#[],_⟩,(ext_none' _).symm⟩
     obtain rfl:=f6
     (repeat (first|(refine rel_none ?_;intro K_ hK_;go_big_quiet_op;go_big_quiet_on)|simp only[Act.put,List.setIfInBounds_toArray,List.set_cons_zero,List.set_cons_succ]))
     refine rel_some rfl (fun w_ hw_ hk_ K_ hK_=>?_) (fun e8 f8=>?_)
     ·obtain ⟨X_,rfl⟩:=hw_;go_simp
      go_at_call 74
      with_reducible refine (BX.out _ _ _).mono ?_
      rintro _ _ ⟨rfl,hX⟩;exact hK_ _ _ rfl hX
     obtain rfl:=f8
     (repeat (first|(refine rel_none ?_;intro K_ hK_;go_big_quiet_op;go_big_quiet_on)|simp only[Act.put,List.setIfInBounds_toArray,List.set_cons_zero,List.set_cons_succ]))
     refine rel_some rfl (fun w_ hw_ hk_ K_ hK_=>?_) (fun e9 f9=>?_)
     ·obtain ⟨X_,rfl⟩:=hw_;go_simp
      go_at_call 71
      with_reducible refine (FR.out _ (HQ.out.ext _)).mono ?_
      rintro _ _ ⟨v,rfl,h1,h2⟩;exact hK_ _ _ (h1.low (by rw[World.size_ext];omega)) h2
     obtain ⟨fa9,fc9,rfl⟩:=f9
     (repeat (first|(refine rel_none ?_;intro K_ hK_;go_big_quiet_op;go_big_quiet_on)|simp only[Act.put,List.setIfInBounds_toArray,List.set_cons_zero,List.set_cons_succ]))
     refine rel_nil ?_;intro w_ hw_ kk;obtain ⟨X9,rfl⟩:=hw_;have hD:=((kk (9,_) (by repeat (first|exact List.mem_cons_self|refine jk ?_))):RecsN frK w3.heap.size _ (.slice fa9 D.length fc9) D);have HD:=jj hD;clear kk hD
     go_wp2_with fail
     refine (all_any (HI.out.ext X9) o0 OK0.out (frsR HD.out.1 OF.out) (fun b hb hne=>by have:=HD.out.2 b hb hne;omega)).mono ?_;rintro _ w4 ⟨rfl,I4,C4⟩;have I5:Img w4 bm g1 k1 g2 k2 W H (T0 (k+1)).1 (T0 (k+1)).2:=by
      rw[ST.out];have e:=allF_img o0 W H (T0 k).1 (T0 k).2 D;rw[e.1,e.2] at I4;exact I4
     have HI5:=jj I5;have HR5:=jj (C4.row (HRp.out.ext X9) (by omega));have HC5:=jj ((HC.out.ext X9).trans C4);clear I4 I5 C4 cp fp lp dp cx fx lx ci fi li;go_wp2;go_roundw
     case rel=>exact ⟨k+1,HJ.out,by go_num,HI5,HR5,HC5⟩
     case measure=>have:=HJ.out;simp[intOf];omega
    ·obtain rfl:k=SL.length:=by omega
     rw[HN.out] at hI;go_wp2;go_roundw
     case rel=>exact ⟨jj (.inr (.inl ⟨rfl,hI.out⟩)),hC⟩
     case measure=>simp[intOf]
  ·-- the go of edges
   have HI:=jj (by rw[E1.out];exact hI:Img wr bm g1 k1 g2 k2 W H (T1 0).1 (T1 0).2);clear hI hi;go_upto_region 6 with fail
   refine wp_abs (F:=fun w2=>Row w2 wr.heap.size #[.int .i64 s.factor,.int .i64 s.units,.bool s.ccw,.int .i64 s.cull,.int .i64 s.width,.int .i64 s.c0,.int .i64 s.c1,.int .i64 s.c2,.int .i64 s.c3,.bool true] 114/\Img w2 bm g1 k1 g2 k2 W H (T1 0).1 (T1 0).2/\Chg (fun k=>k=g1\/k=g2) w w2) ⟨by exact rx_,by repeat (first|with_reducible exact HI.out|with_reducible refine Img.ext ?_ _|with_reducible refine Img.alloc ?_ _|with_reducible refine Img.drew ?_),by repeat (first|with_reducible exact hC.out|with_reducible refine Chg.ext ?_ _|with_reducible refine Chg.alloc ?_ _|with_reducible refine Chg.drew ?_)⟩ ?_;have g1l:=HI.out.c.lt;have g2l:=HI.out.z.lt;have bml:=HI.out.row.lt;obtain ⟨Bp,hBp⟩:∃ b,wr.heap.size=b:=⟨_,rfl⟩;rw[hBp] at g1l g2l bml ⊢;clear hBp hC HI;rintro w2 ⟨Rp,hI2,hC2⟩;have HRp:=jj Rp;have HI2:=jj hI2;have HC2:=jj hC2;clear Rp hI2 hC2;go_upto_region 7 with fail
   go_loopw [25] (fun i wq=>∃ (k:Nat),k<=SL.length/\i=.int .i64 k/\Hid (Img wq bm g1 k1 g2 k2 W H (T1 k).1 (T1 k).2)/\Hid (Row wq Bp #[.int .i64 s.factor,.int .i64 s.units,.bool s.ccw,.int .i64 s.cull,.int .i64 s.width,.int .i64 s.c0,.int .i64 s.c1,.int .i64 s.c2,.int .i64 s.c3,.bool true] 114)/\Hid (Chg (fun k=>k=g1\/k=g2) w wq))
    (fun i _=>SL.length-(intOf i).toNat)
   case atStart=>exact ⟨0,by omega,rfl,HI2,HRp,HC2⟩
   case round =>
    clear HI2 HRp HC2;obtain ⟨k,hk,rfl,hI,hP,hC⟩:=hrel
    by_cases hlt:k<SL.length
    ·have HJ:=jj (show k+1<=SL.length from hlt);have hki:(k:Int)<SL.length:=by omega
     obtain ⟨q,hq⟩:∃ f,SL[k]?=some f:=⟨_,List.getElem?_eq_getElem hlt⟩;obtain ⟨p,hp⟩:∃ f,l[k]?=some f:=⟨_,List.getElem?_eq_getElem (by rw[<-HN.out];exact hlt)⟩;have hpm:=List.mem_of_getElem? hp;have HPW:=jj (PX.out wr hC.out);have HQ:=jj (HPW.out.p k _ _ hq hp);obtain ⟨-,av',cap',he,-,hcl⟩:=HPW.out.r;obtain ⟨rfl,rfl⟩:av=av'/\cap=cap':=by simpa using he
     rcases hcl with e|⟨lb,lo,rfl,hlb,hcl⟩
     ·rw[e] at hlt;simp at hlt
     have pa0:wr.cell? ⟨lb,lo+k*2,none⟩=some q.vs:=hcl k _ hq 0 _ rfl;have pa1:wr.cell? ⟨lb,lo+k*2+1,none⟩=some q.es:=hcl k _ hq 1 _ rfl;have FR:=jj (fun w h=>FG.out q p hpm true w h);have OF:=jj (OKF.out p true);have st:=S1.out k p hp;obtain ⟨D,hD⟩:∃ D,frsP p s true 0 0 W H=D:=⟨_,rfl⟩;rw[hD] at FR OF st;have ST:=jj st;clear hcl hq hp he hD st HPW hpm;obtain ⟨va,vn,vc,ea,en,ec⟩:=q;go_upto_region 9 with fail
     refine wp_abs (F:=fun w3=>Row w3 Bp #[.int .i64 s.factor,.int .i64 s.units,.bool s.ccw,.int .i64 s.cull,.int .i64 s.width,.int .i64 s.c0,.int .i64 s.c1,.int .i64 s.c2,.int .i64 s.c3,.bool true] 114/\Row w3 wr.heap.size #[.slice va vn vc,.slice ea en ec] 68/\Img w3 bm g1 k1 g2 k2 W H (T1 k).1 (T1 k).2/\Chg (fun k=>k=g1\/k=g2) w w3/\PolR w3 ⟨va,vn,vc,ea,en,ec⟩ p) ⟨by repeat (first|with_reducible exact hP.out|with_reducible refine Row.ext ?_ _|with_reducible refine row_drew ?_|with_reducible refine Row.alloc ?_ _),by exact rx_,by repeat (first|with_reducible exact hI.out|with_reducible refine Img.ext ?_ _|with_reducible refine Img.alloc ?_ _|with_reducible refine Img.drew ?_),by repeat (first|with_reducible exact hC.out|with_reducible refine Chg.ext ?_ _|with_reducible refine Chg.alloc ?_ _|with_reducible refine Chg.drew ?_),by repeat (first|with_reducible exact HQ.out|with_reducible refine PolR.ext ?_ _|with_reducible refine PolR.alloc ?_ _|with_reducible refine PolR.drew ?_)⟩ ?_;obtain ⟨Bx,hBx⟩:∃ b,wr.heap.size=b:=⟨_,rfl⟩;rw[hBx];clear hBx pa0 pa1 hI hP hC HQ;rintro w3 ⟨Rp,Rx,hI,hC,hQ⟩;have HRp:=jj Rp;have HI:=jj hI;have HC:=jj hC;have HQ:=jj hQ;have cp:=Rp.cell;have fp:=Rp.frozen;have lp:=Rp.lt;have dp:=World.rowD_of Rp;have cx:=Rx.cell;have fx:=Rx.frozen;have lx:=Rx.lt;have ci:=hI.row.cell;have fi:=hI.row.frozen;have li:=hI.row.lt;clear Rp Rx hI hC hQ;refine wp_region_rel 10 [none,none,some ([],srV o1.v),none,none,none,some ([],srV (.pointer (some ⟨bm,0,none⟩))),none,some ([],srV (R4 0 0 W H)),some ([8],srN_ frK w3.heap.size D)] (by kernel_rfl) (by kernel_rfl) ?_;simp only[jx]
     (repeat (first|(refine rel_none ?_;intro K_ hK_;go_big_quiet_op;go_big_quiet_on)|simp only[Act.put,List.setIfInBounds_toArray,List.set_cons_zero,List.set_cons_succ]))
     refine rel_some rfl (fun w_ hw_ hk_ K_ hK_=>?_) (fun e2 f2=>?_)
     ·obtain ⟨X_,rfl⟩:=hw_;go_simp
      go_at_call 73
      with_reducible refine (OP1.out _).mono ?_
      rintro _ _ ⟨rfl,hX⟩;exact hK_ _ _ rfl hX
     obtain rfl:=f2
     (repeat (first|(refine rel_none ?_;intro K_ hK_;go_big_quiet_op;go_big_quiet_on)|simp only[Act.put,List.setIfInBounds_toArray,List.set_cons_zero,List.set_cons_succ]))
     refine rel_some rfl (fun w_ hw_ hk_ K_ hK_=>?_) (fun e6 f6=>?_)
     ·obtain ⟨X_,rfl⟩:=hw_;go_simp;exact hK_ _ _ rfl ⟨⟨#[],_⟩,(ext_none' _).symm⟩
     obtain rfl:=f6
     (repeat (first|(refine rel_none ?_;intro K_ hK_;go_big_quiet_op;go_big_quiet_on)|simp only[Act.put,List.setIfInBounds_toArray,List.set_cons_zero,List.set_cons_succ]))
     refine rel_some rfl (fun w_ hw_ hk_ K_ hK_=>?_) (fun e8 f8=>?_)
     ·obtain ⟨X_,rfl⟩:=hw_;go_simp
      go_at_call 74
      with_reducible refine (BX.out _ _ _).mono ?_
      rintro _ _ ⟨rfl,hX⟩;exact hK_ _ _ rfl hX
     obtain rfl:=f8
     (repeat (first|(refine rel_none ?_;intro K_ hK_;go_big_quiet_op;go_big_quiet_on)|simp only[Act.put,List.setIfInBounds_toArray,List.set_cons_zero,List.set_cons_succ]))
     refine rel_some rfl (fun w_ hw_ hk_ K_ hK_=>?_) (fun e9 f9=>?_)
     ·obtain ⟨X_,rfl⟩:=hw_;go_simp
      go_at_call 71
      with_reducible refine (FR.out _ (HQ.out.ext _)).mono ?_
      rintro _ _ ⟨v,rfl,h1,h2⟩;exact hK_ _ _ (h1.low (by rw[World.size_ext];omega)) h2
     obtain ⟨fa9,fc9,rfl⟩:=f9
     (repeat (first|(refine rel_none ?_;intro K_ hK_;go_big_quiet_op;go_big_quiet_on)|simp only[Act.put,List.setIfInBounds_toArray,List.set_cons_zero,List.set_cons_succ]))
     refine rel_nil ?_;intro w_ hw_ kk;obtain ⟨X9,rfl⟩:=hw_;have hD:=((kk (9,_) (by repeat (first|exact List.mem_cons_self|refine jk ?_))):RecsN frK w3.heap.size _ (.slice fa9 D.length fc9) D);have HD:=jj hD;clear kk hD
     go_wp2_with fail
     refine (all_any (HI.out.ext X9) o1 OK1.out (frsR HD.out.1 OF.out) (fun b hb hne=>by have:=HD.out.2 b hb hne;omega)).mono ?_;rintro _ w4 ⟨rfl,I4,C4⟩;have I5:Img w4 bm g1 k1 g2 k2 W H (T1 (k+1)).1 (T1 (k+1)).2:=by
      rw[ST.out];have e:=allF_img o1 W H (T1 k).1 (T1 k).2 D;rw[e.1,e.2] at I4;exact I4
     have HI5:=jj I5;have HR5:=jj (C4.row (HRp.out.ext X9) (by omega));have HC5:=jj ((HC.out.ext X9).trans C4);clear I4 I5 C4 cp fp lp dp cx fx lx ci fi li;go_wp2;go_roundw
     case rel=>exact ⟨k+1,HJ.out,by go_num,HI5,HR5,HC5⟩
     case measure=>have:=HJ.out;simp[intOf];omega
    ·obtain rfl:k=SL.length:=by omega
     rw[HN.out] at hI;go_wp2;go_roundw
     case rel=>exact ⟨jj (.inr (.inr ⟨rfl,hI.out⟩)),hC⟩
     case measure=>simp[intOf]
  ·go_wp2;go_ret;exact ⟨rfl,hI,hC.out⟩
end Go.Proofs.YthcjfanigfgckaaGreat
