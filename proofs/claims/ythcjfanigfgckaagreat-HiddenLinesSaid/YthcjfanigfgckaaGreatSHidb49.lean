import Derived.Test.YthcjfanigfgckaaGreatSHidb46
import Derived.Test.YthcjfanigfgckaaGreatSHidb47
set_option linter.unusedVariables false
set_option linter.unusedSimpArgs false
set_option maxRecDepth 100000
set_option maxHeartbeats 16000000
namespace Go.Proofs.YthcjfanigfgckaaGreat
open Go.RowKit _root_.Go.Proofs.Tryz
instance jh48 : Coe Nat Value := ⟨fun n => .int .i64 n⟩
theorem aCz {p:PolP} {s:SkP} (h:p.ok) (hk:s.wide):∀ a∈dW p s,a.wide:=fun a ha=>by
 obtain ⟨v,hv,rfl⟩:=List.mem_map.1 ha;obtain ⟨h1,h2,h3⟩:=h.2.2 v hv;have b:=aLx h3.1 h3.2;unfold aI at h1 h2;refine ⟨?_,?_,?_,hk.c0,hk.c1,hk.c2,hk.c3⟩<;>unfold V3P.win<;>simp only<;>unfold w64<;>omega
def aR8 {α:Type} (K:RecK α) (B:Nat) (L:List α):SR gC:=⟨fun v w=>RecsN K B w v L,fun v w w' h ⟨X,e⟩=>by subst e;exact h.ext X,fun v=>∃ a cap,v=.slice a L.length cap,.slice none L.length 0,⟨_,_,rfl⟩,fun v w ⟨⟨_,a,cap,h,_⟩,_⟩=>⟨a,cap,h⟩⟩
theorem aGn (q:PsP) (p:PolP) (s:SkP) (m:Bool) (x0 y0 x1 y1:Int) (w:World) (h:PolR w q p) (hok:p.ok) (hk:s.wide) (har:cJ x0 y0 x1 y1<=1048576):Calls prog 71 #[aJx s m,.agg #[q.vs,q.es],R4 x0 y0 x1 y1] w (RNew frK w (nN p s m x0 y0 x1 y1)):=by
 have FC:=jj (fun w h=>aSr q p s w h hok);have LK:=jj (fun w=>aP6 s m w);have HP:=jj h;have fw:=aCz hok hk;have fl:=j6 p s;have h64:=hok.1.2;have hm:iW (dW p s) (cI s m)=0\/iW (dW p s) (cI s m)=1:=by rw[nJ];cases m<;>simp
 have DR:=jj (fun (v ev:Value) (w:World) (h1:Recs wnK w v (dW p s)) (h2:Recs boK w ev p.e)=>zI v ev (dW p s) p.e (cI s m) x0 y0 x1 y1 w h1 h2 fw (sL hk m) (by omega) har rfl hm);obtain ⟨D,hD⟩:∃ D,nN p s m x0 y0 x1 y1=D:=⟨_,rfl⟩;unfold nN at hD;rw[hD] at DR;unfold nN;rw[hD];obtain ⟨T,hT⟩:∃ T,dW p s=T:=⟨_,rfl⟩;rw[hT] at FC DR;clear hD hT fw fl h64 hm har hk hok h;obtain ⟨va,vn,vc,ea,en,ec⟩:=q
 go_enter func71,ntmps71
 go_upto_region 1 with fail
 refine aE (F:=fun w1=>Row w1 w.heap.size #[s.factor,s.units,.bool s.ccw,s.cull,s.width,s.c0,s.c1,s.c2,s.c3,.bool m] 114/\Row w1 (w.heap.size+1) #[.slice va vn vc,.slice ea en ec] 68/\Row w1 (w.heap.size+1+1) #[x0,y0,x1,y1] 29/\PolR w1 ⟨va,vn,vc,ea,en,ec⟩ p/\∃ X,w1=w.ext X) ⟨by exact rx_,by exact rx_,by exact rx_,by exact jg HP.out,jz (by exact bl_)⟩ ?_;rintro w1 ⟨Ra,Rb,Rc,hp,hX⟩;have HX:=jj hX;have HQ:=jj hp;have ca:=Ra.cell;have fa:=Ra.frozen;have la:=Ra.lt;have da:=World.rowD_of Ra;have cb:=Rb.cell;have fb:=Rb.frozen;have lb:=Rb.lt;have cc:=Rc.cell;have fc:=Rc.frozen;have lc:=Rc.lt;clear Ra Rb Rc hp hX HP;refine aJ 12 [none,none,none,none,some ([],srR wnK T),none,none,none,some ([],srV (cI s m).v),none,some ([4,8],aR8 frK w.heap.size D),none] (by kernel_rfl) (by kernel_rfl) ?_;simp only[jx]
 (repeat (first|(refine aA ?_;intro K_ hK_;go_big_quiet_op;go_big_quiet_on)|simp only[jw]))
 refine aF rfl (fun w_ hw_ hk_ K_ hK_=>?_) (fun e4 f4=>?_)
 ·obtain ⟨X_,rfl⟩:=hw_;go_simp
  go_at_call 108
  with_reducible refine (FC.out _ (HQ.out.ext _)).mono ?_
  rintro _ _ ⟨v,rfl,h1,h2⟩;exact hK_ _ _ h1 h2
 obtain ⟨fa4,fc4,rfl⟩:=f4
 (repeat (first|(refine aA ?_;intro K_ hK_;go_big_quiet_op;go_big_quiet_on)|simp only[jw]))
 refine aF rfl (fun w_ hw_ hk_ K_ hK_=>?_) (fun e8 f8=>?_)
 ·obtain ⟨X_,rfl⟩:=hw_;go_simp
  go_at_call 105
  with_reducible refine (LK.out _).mono ?_
  rintro _ _ ⟨rfl,hX⟩;exact hK_ _ _ rfl hX
 obtain rfl:=f8
 (repeat (first|(refine aA ?_;intro K_ hK_;go_big_quiet_op;go_big_quiet_on)|simp only[jw]))
 refine aF rfl (fun w_ hw_ hk_ K_ hK_=>?_) (fun e10 f10=>?_)
 ·obtain ⟨X_,rfl⟩:=hw_;have h0:Recs wnK _ (.slice fa4 T.length fc4) T:=(hk_ (4,_) (by repeat (first|exact List.mem_cons_self|refine jk ?_))) (by simp);go_simp
  go_at_call 15
  with_reducible refine (DR.out _ _ _ h0 (HQ.out.ext _).e).mono ?_
  rintro _ _ ⟨v,rfl,h1,h2⟩;exact hK_ _ _ (h1.low (by rw[World.size_ext];omega)) h2
 obtain ⟨fa10,fc10,rfl⟩:=f10
 (repeat (first|(refine aA ?_;intro K_ hK_;go_big_quiet_op;go_big_quiet_on)|simp only[jw]))
 refine aT ?_;intro w_ hw_ kk;obtain ⟨X9,rfl⟩:=hw_;have hD:=jj ((kk (10,_) (by repeat (first|exact List.mem_cons_self|refine jk ?_))):RecsN frK w.heap.size _ (.slice fa10 D.length fc10) D);clear kk;go_wp2;go_ret;obtain ⟨X0,hX0⟩:=HX.out;subst hX0;exact ⟨_,rfl,hD.out,jz (by exact br_)⟩
theorem aP8 (q:PsP) (p:PolP) (s:SkP) (m:Bool) (x0 y0 x1 y1:Int) (w:World) (h:PolR w q p) (hok:p.ok) (hk:s.wide) (har:cJ x0 y0 x1 y1<=1048576):Calls prog 71 #[aJx s m,.agg #[q.vs,q.es],R4 x0 y0 x1 y1] w (cS frK w (nN p s m x0 y0 x1 y1)):=(aGn q p s m x0 y0 x1 y1 w h hok hk har).mono RNew.lists
theorem aSi {α:Type} {K:RecK α} {f:α} {S:List α} {w:World} {n:Nat} {c:Array Value} {T:TypeId} (hS:S=[f]) (hn:w.heap.size=n) (hc:c=(K.cells f).toArray):Recs K (w.alloc (.cells c T)) (.slice (some ⟨n,0,none⟩) 1 1) S:=by
 subst hS;have hr:=dC (w:=w) (c:=c) (T:=T) hn;refine ⟨by simp,_,_,rfl,Nat.le_refl _,.inr ⟨n,0,rfl,hr.lt,fun i g hi q u hq=>?_⟩⟩;have hi0:i=0:=by
  have:=(List.getElem?_eq_some_iff.1 hi).1
  simpa using this
 subst hi0;simp only[List.getElem?_cons_zero,Option.some.injEq] at hi;subst hi;rw[hr.cell,hc]
 simpa using hq
theorem lM {α:Type} {L:List α} {j:Nat} {a:α} (h:L[j]?=some a):L.take (j+1)=L.take j++[a]:=by
 obtain ⟨hj,rfl⟩:=List.getElem?_eq_some_iff.1 h;exact List.take_succ_eq_append_getElem hj
theorem aPi (q:PsP) (p:PolP) (s:SkP) (w:World) (h:PolR w q p) (hok:p.ok):Calls prog 78 #[.agg #[q.vs,q.es],.agg #[s.c0,s.c1,s.c2,s.c3]] w (cS wnK w (dW p s)):=by
 have HV:=jj h.v;have HOK:=jj hok.2.2;obtain ⟨n1,n2⟩:=h.len;obtain ⟨va,vn,vc,ea,en,ec⟩:=q;simp only at n1 n2;subst n1;have h3:3<=p.v.length:=hok.1.1;have h64:p.v.length<=64:=hok.1.2;have FL:=jj (j6 p s);obtain ⟨T,hT⟩:∃ T,dW p s=T:=⟨_,rfl⟩;have FA:=jj (fun j a (e:p.v[j]?=some a)=>hT▸aHd (k:=s) e);rw[hT] at FL ⊢;clear h hok hT n2;obtain ⟨i0,hii,hz0,hz1,hz2⟩:=info_parts sM
 go_enter func78,ntmps78
 go_upto_region 1 with fail
 refine aE (F:=fun w1=>Hid (Hold wnK w w1 45 [(w.heap.size,#[.slice va p.v.length vc,.slice ea en ec],68),(w.heap.size+1,#[.int .i64 s.c0,.int .i64 s.c1,.int .i64 s.c2,.int .i64 s.c3],43)] (.slice none 0 0) [])) (jj (Hold.start (List.forall_mem_cons.2 ⟨by exact rx_,List.forall_mem_cons.2 ⟨by exact rx_,by simp⟩⟩) (by simp) (jz (by exact bl_)))) ?_;intro w1 H1;obtain ⟨-,av',cap',hq,hcap,hcl⟩:=HV.out;obtain ⟨rfl,rfl⟩:va=av'/\vc=cap':=by simpa using hq
 rcases hcl with e|⟨lb,lo,rfl,hlb,hcl⟩
 ·rw[e] at h3;simp at h3
 have HCL:=jj hcl;clear hq hcl hcap;go_upto_region 3 with fail
 go_loopw [6,5] (fun i o wr=>∃ (j:Nat) (vo:Value) (M:List WinP),j<=p.v.length/\i=.int .i64 j/\o=vo/\Hid (T.take j=M)/\Hid (Hold wnK w wr 45 [(w.heap.size,#[.slice (some ⟨lb,lo,none⟩) p.v.length vc,.slice ea en ec],68),(w.heap.size+1,#[.int .i64 s.c0,.int .i64 s.c1,.int .i64 s.c2,.int .i64 s.c3],43)] vo M))
  (fun i _ _=>p.v.length-(intOf i).toNat)
 case atStart=>exact ⟨0,_,[],by omega,rfl,rfl,jj rfl,H1⟩
 case round =>
  clear H1;obtain ⟨j,vo,M,hj,rfl,hv,hM,hR⟩:=hrel;have hv:=hv.symm;subst hv;have c0:=hR.out.rows _ jq;simp only at c0;have c1:=c0.cell;have c2:=c0.frozen;have c3:=c0.lt;clear c0
  by_cases hlt:j<p.v.length
  ·have HJ:=jj (show j+1<=p.v.length from hlt);have hji:(j:Int)<p.v.length:=by omega
   have d0:=hR.out.rows _ (jk jq);simp only at d0;have d1:=d0.cell;have d2:=d0.frozen;have d3:=d0.lt;clear d0;obtain ⟨a,ha⟩:∃ f,p.v[j]?=some f:=⟨_,List.getElem?_eq_getElem hlt⟩;have ce:∀ i,wr.cell? ⟨lb,i,none⟩=w.cell? ⟨lb,i,none⟩:=fun i=>by obtain ⟨X,hX⟩:=hR.out.ext;rw[hX];exact (Chg.of_ext (p:=fun _=>False) X).cell hlb (fun h=>h)
   have pa0:wr.cell? ⟨lb,lo+j*3,none⟩=some (.int .i64 a.x):=by rw[ce];exact HCL.out j _ ha 0 _ rfl
   have pa1:wr.cell? ⟨lb,lo+j*3+1,none⟩=some (.int .i64 a.y):=by rw[ce];exact HCL.out j _ ha 1 _ rfl
   have pa2:wr.cell? ⟨lb,lo+j*3+2,none⟩=some (.int .i64 a.z):=by rw[ce];exact HCL.out j _ ha 2 _ rfl
   have hlw:lb<wr.heap.size:=by have:=hR.out.size;omega
   have HA:=FA.out j a ha;have E1:=jj (show T.take (j+1)=M++[a.win s] by rw[<-hM.out];exact lM HA);have hao:=HOK.out a (List.mem_of_getElem? ha);have DP:=jj (fun w=>aM6 a.z hao.2.2.1 hao.2.2.2 w);obtain ⟨S,hS⟩:∃ S,S=[a.win s]:=⟨_,rfl⟩;rw[<-hS] at E1;have hl1:S.length=1:=by rw[hS];rfl
   have ES:=jj hS;have hml:M.length<=64:=by rw[<-hM.out,List.length_take];omega
   have LB1:=jj (show M.length+S.length<=maxLen by unfold maxLen;omega);have LB2:=jj (show (M.length+S.length)*56<=140737488355328 by omega);have LS:=jj hl1;clear ha ce hao HA hS hl1 hml;go_upto_region 5 with fail
   refine aJ 23 [none,none,none,none,none,none,none,none,none,none,none,none,none,none,none,none,none,none,none,some ([],srV (.int .i64 (lvl a.z))),none,none,some ([19],srR wnK S)] (by kernel_rfl) (by kernel_rfl) ?_;simp only[jx]
   (repeat (first|(refine aA ?_;intro K_ hK_;go_big_quiet_op;go_big_quiet_on)|simp only[jw]))
   refine aF rfl (fun w_ hw_ hk_ K_ hK_=>?_) (fun e19 f19=>?_)
   ·obtain ⟨X_,rfl⟩:=hw_;go_simp
    go_at_call 111
    with_reducible refine (DP.out _).mono ?_
    rintro _ _ ⟨rfl,hX⟩;exact hK_ _ _ rfl hX
   obtain rfl:=f19
   (repeat (first|(refine aA ?_;intro K_ hK_;go_big_quiet_op;go_big_quiet_on)|simp only[jw]))
   refine aF rfl (fun w_ hw_ hk_ K_ hK_=>?_) (fun e22 f22=>?_)
   ·obtain ⟨X_,rfl⟩:=hw_;go_simp;exact hK_ _ _ (aSi ES.out (by simp only[go_sem]) rfl) aS9
   obtain ⟨ga,gc,rfl⟩:=f22
   (repeat (first|(refine aA ?_;intro K_ hK_;go_big_quiet_op;go_big_quiet_on)|simp only[jw]))
   refine aT ?_;intro w_ hw_ kk;obtain ⟨X5,rfl⟩:=hw_;have hq:Recs wnK _ (.slice ga S.length gc) S:=(kk (22,_) (by repeat (first|exact List.mem_cons_self|refine jk ?_)));have HQ:=jj hq;have hR5:=jj (hR.out.grow X5);have hsz:=hR5.out.size;clear hq kk c1 c2 c3 d1 d2 d3
   go_wp2_with (first
    |(at_builtin;refine aS (K:=wnK) rfl _ _ 22 rfl w.heap.size 45 i0 (.agg #[.int .i64 0,.int .i64 0,.int .i64 0,.int .i64 0,.int .i64 0,.int .i64 0,.int .i64 0]) 56 Tryz.underlying22 hii hz0 hz1 hz2 rfl vo M rfl hR5.out.own (.slice ga S.length gc) S rfl HQ.out LB1.out LB2.out (by omega) ?_;intro v' w5 hown hgrow;have h5:=jj (hR5.out.more hown hgrow);clear hown hgrow))
   go_roundw
   case rel=>exact ⟨j+1,_,M++S,HJ.out,by go_num,rfl,E1,h5⟩
   case measure=>have:=HJ.out;simp[intOf];omega
  ·obtain rfl:j=p.v.length:=by omega
   have e:T.take p.v.length=T:=by rw[<-FL.out];exact List.take_length
   have hm:T=M:=by rw[<-e];exact hM.out
   have HM:=jj hm;clear hM e hm;go_wp2;go_ret;refine ⟨_,rfl,?_,hR.out.ext⟩;rw[HM.out];exact cM hR.out.own (by rw[<-HM.out,FL.out];omega)
theorem aS7 {w:World} {v:Value} {L:List FrP} (h:Recs frK w v L) (hf:∀ f∈L,f.ok):Frs w v L:=by
 obtain ⟨hl,a,cap,rfl,hc,h3⟩:=h;exact ⟨hf,hl,a,cap,rfl,hc,h3⟩
theorem aN3 {f:FrP} {W H:Int} (w1:W<=1024) (h1:H<=1024) (h:f.fits/\fU 0 0 W H f=true):f.ok:=by
 obtain ⟨⟨k0,k1,k2,k3,k4,k5,k6⟩,h2⟩:=h;have q:=frIn_iff.1 h2;have d:∀ z:Int,-9223372036854775808<=z->z<=9223372036854775807->I64 z:=fun z h0 h1=>⟨h0,h1⟩
 exact ⟨d _ (by omega) (by omega),d _ (by omega) (by omega),d _ (by omega) (by omega),d _ (by omega) (by omega),d _ (by omega) (by omega),d _ (by omega) (by omega),d _ (by omega) (by omega),d _ (by omega) (by omega)⟩
theorem aH7 {W H:Int} {C Z:List Int} (h:ImOk W H C Z):cJ 0 0 W H<=1048576:=by
 have:=nS h.w0 h.w1 h.h0 h.h1;unfold cJ;rw[Int.sub_zero,Int.sub_zero]
 split<;>omega
theorem aFi (m:Bool):(iG m).ok:=by
 cases m<;>exact ⟨⟨by decide,by decide⟩,⟨by decide,by decide⟩,⟨by decide,by decide⟩,⟨by decide,by decide⟩,⟨by decide,by decide⟩,⟨by decide,by decide⟩,⟨by decide,by decide⟩⟩
theorem aJt {v:Value} {SL:List PsP} {l:List PolP} {wb w wr:World} {g1 g2:Nat} (hp:PolsR wb v SL l) (hx:∃ X,w=wb.ext X) (hg:wb.heap.size<=g1/\wb.heap.size<=g2) (c:Chg (fun k=>k=g1\/k=g2) w wr):PolsR wr v SL l:=by
 obtain ⟨X,rfl⟩:=hx;have hb:Below wb.heap.size wb wr:=((Below.refl wb.heap.size wb).ext (Nat.le_refl _) X).trans (c.below (fun k hk e=>by omega) (by simp));obtain ⟨Y,rfl⟩:=hb.toExt;exact hp.ext Y
def aQt (parts:Array (Nat×Value)):Sem Value:=Instr.build 114 parts
@[go_sem ↓] theorem aQs (parts:Array (Nat×Value)):Instr.build 114 parts=aQt parts:=rfl
@[go_sem] theorem aQr (s:SkP) (m:Bool) (w:World):(aQt #[(0,.agg #[s.factor,s.units,.bool s.ccw,s.cull,s.width,s.c0,s.c1,s.c2,s.c3]),(1,.bool m)]).run prog w=.ok (.agg #[s.factor,s.units,.bool s.ccw,s.cull,s.width,s.c0,s.c1,s.c2,s.c3,.bool m]) w :=
 run_build w _ _ _ (by kernel_rfl)
def aQw (parts:Array (Nat×Value)):Sem Value:=Instr.build 116 parts
@[go_sem ↓] theorem aQv (parts:Array (Nat×Value)):Instr.build 116 parts=aQw parts:=rfl
def aNf (s:SkP):Value:=.agg (#[.int .i64 s.factor,.int .i64 s.units,.bool s.ccw,.int .i64 s.cull,.int .i64 s.width,.int .i64 s.c0,.int .i64 s.c1,.int .i64 s.c2,.int .i64 s.c3,.bool false]++#[.int .i64 s.factor,.int .i64 s.units,.bool s.ccw,.int .i64 s.cull,.int .i64 s.width,.int .i64 s.c0,.int .i64 s.c1,.int .i64 s.c2,.int .i64 s.c3,.bool true])
@[go_sem] theorem aQu (s:SkP) (w:World):(aQw #[(0,.agg #[s.factor,s.units,.bool s.ccw,s.cull,s.width,s.c0,s.c1,s.c2,s.c3,.bool false]),(1,.agg #[s.factor,s.units,.bool s.ccw,s.cull,s.width,s.c0,s.c1,s.c2,s.c3,.bool true])]).run prog w=.ok (aNf s) w :=
 run_build w _ _ _ (by kernel_rfl)
@[go_sem] theorem aSg (s:SkP) (w:World):(Instr.index 116 (aNf s) (.int .i64 0)).run prog w=.ok (.agg #[s.factor,s.units,.bool s.ccw,s.cull,s.width,s.c0,s.c1,s.c2,s.c3,.bool false]) w:=by kernel_rfl
@[go_sem] theorem aSf (s:SkP) (w:World):(Instr.index 116 (aNf s) (.int .i64 1)).run prog w=.ok (.agg #[s.factor,s.units,.bool s.ccw,s.cull,s.width,s.c0,s.c1,s.c2,s.c3,.bool true]) w:=by kernel_rfl
theorem aQa (W H:Int) (c z:Value) (w:World):Calls prog 74 #[Im W H c z] w (Ret (R4 0 0 W H) w):=by
 go_enter func74,ntmps74
 go_wp2
 first
  |(go_ret;exact Ret.of' rfl (by exact bl_))
  |exact bodyPost_ret (v:=R4 0 0 W H) (by simp[results,results74,go_sem]) rfl (Ret.of (by exact bl_))
theorem aP9 (v:Value) (SL:List PsP) (l:List PolP) (s:SkP) (wb w:World) {bm g1 k1 g2 k2:Nat} {W H:Int} {C Z:List Int} (hp:PolsR wb v SL l) (hx:∃ X,w=wb.ext X) (hg:wb.heap.size<=g1/\wb.heap.size<=g2) (hI:Img w bm g1 k1 g2 k2 W H C Z) (hs:s.wide) (hh:iZ l s):Calls prog 31 #[.pointer (some ⟨bm,0,none⟩),v,s.v] w (aIi bm g1 k1 g2 k2 W H (dO l s W H C Z).1 (dO l s W H C Z).2 (.int .i64 0) w):=by
 have har:=aH7 hI.ok;have RI:=jj (fun v S w h=>decide_eq_true hh▸aGk v S l s w h hs);have hl64:l.length<=64:=hh.1;have OKF:=jj (fun p (m:Bool)=>show ∀ f∈nN p s m 0 0 W H,f.ok from fun f hf=>aN3 hI.ok.w1 hI.ok.h1 (qJ hf));have FG:=jj (fun (q:PsP) (p:PolP) (hpm:p∈l) (m:Bool) w h=>aGn q p s m 0 0 W H w h (hh.2.1 p hpm) hs har);have PX:=jj (fun (wr:World) c=>aJt (wr:=wr) hp hx hg c);have BX:=jj (fun (c z:Value) w=>aQa W H c z w);have OP0:=jj (fun w=>aS6 s false w);have OP1:=jj (fun w=>aS6 s true w);have OK0:=jj (aFi false);have OK1:=jj (aFi true);obtain ⟨T0,hT0⟩:∃ T:Nat->List Int×List Int,T=fun k=>kH (iG false) W H (C,Z) (dP (l.take k) s false 0 0 W H):=⟨_,rfl⟩
 obtain ⟨T1,hT1⟩:∃ T:Nat->List Int×List Int,T=fun k=>kH (iG true) W H (kH (iG false) W H (C,Z) (dP l s false 0 0 W H)) (dP (l.take k) s true 0 0 W H):=⟨_,rfl⟩
 have S0:=jj (fun k p (e:l[k]?=some p)=>show T0 (k+1)=kH (iG false) W H (T0 k) (nN p s false 0 0 W H) by rw[hT0];exact sN _ W H s false 0 0 W H l (C,Z) k p e);have S1:=jj (fun k p (e:l[k]?=some p)=>show T1 (k+1)=kH (iG true) W H (T1 k) (nN p s true 0 0 W H) by rw[hT1];exact sN _ W H s true 0 0 W H l _ k p e);have E0:=jj (show T0 0=(C,Z) by rw[hT0];simp[dP,kH]);have E1:=jj (show T1 0=T0 l.length by rw[hT0,hT1];simp[dP,kH]);have E2:=jj (show T1 l.length=dO l s W H C Z by rw[hT1];simp[dO]);rw[<-E2.out];have HN:=jj hp.n;have hl64:SL.length<=64:=by have:=hp.n;omega
 have HP:=jj (PX.out w Chg.refl);have HI:=jj hI;obtain ⟨-,av,cap,rfl,-,-⟩:=hp.r;obtain ⟨o0,ho0⟩:∃ o,iG false=o:=⟨_,rfl⟩;obtain ⟨o1,ho1⟩:∃ o,iG true=o:=⟨_,rfl⟩;rw[ho0] at OP0 OK0 S0;rw[ho1] at OP1 OK1 S1;clear hp hx hg hI hs hh har hT0 hT1 ho0 ho1 E2
 go_enter func31,ntmps31
 go_upto_region 1 with fail
 refine aE (F:=fun w1=>Row w1 w.heap.size #[s.factor,s.units,.bool s.ccw,s.cull,s.width,s.c0,s.c1,s.c2,s.c3] 48/\∃ X,w1=w.ext X) ⟨by exact rx_,jz (by exact bx_)⟩ ?_;rintro w1 ⟨Ra,X1,hX1⟩;have HP1:=jj (by rw[hX1];exact HP.out.ext X1:PolsR w1 (.slice av SL.length cap) SL l);have HI1:=jj (by rw[hX1];exact HI.out.ext X1:Img w1 bm g1 k1 g2 k2 W H C Z);have HC1:=jj (by rw[hX1];exact Chg.of_ext X1:Chg (fun k=>k=g1\/k=g2) w w1);have ca:=Ra.cell;have fa:=Ra.frozen;have la:=Ra.lt;have da:=World.rowD_of Ra;clear Ra hX1 HP HI;go_upto_region 3 with (first|(go_at_call 67;with_reducible refine jn (RI.out _ _ _ (by exact jg HP1.out)) fun X_=>?_))
 go_upto_region 4 with fail
 clear ca fa la da RI;go_loopw [20] (fun i wr=>Hid ((i=.int .i64 0/\Img wr bm g1 k1 g2 k2 W H C Z)\/(i=.int .i64 1/\Img wr bm g1 k1 g2 k2 W H (T0 l.length).1 (T0 l.length).2)\/(i=.int .i64 2/\Img wr bm g1 k1 g2 k2 W H (T1 l.length).1 (T1 l.length).2))/\Hid (Chg (fun k=>k=g1\/k=g2) w wr))
  (fun i _=>2-(intOf i).toNat)
 case atStart =>
  refine ⟨jj (.inl ⟨rfl,?_⟩),jj ?_⟩
  ·repeat (first|with_reducible exact HI1.out|with_reducible refine Img.ext ?_ _)
  ·repeat (first|with_reducible exact HC1.out|with_reducible refine Chg.ext ?_ _)
 case round =>
  obtain ⟨hi,hC⟩:=hrel;clear HI1 HC1 HP1;rcases hi.out with ⟨rfl,hI⟩|⟨rfl,hI⟩|⟨rfl,hI⟩
  ·-- the go of faces
   have HI:=jj (by rw[E0.out];exact hI:Img wr bm g1 k1 g2 k2 W H (T0 0).1 (T0 0).2);clear hI hi;go_upto_region 6 with fail
   refine aE (F:=fun w2=>Row w2 wr.heap.size #[s.factor,s.units,.bool s.ccw,s.cull,s.width,s.c0,s.c1,s.c2,s.c3,.bool false] 114/\Img w2 bm g1 k1 g2 k2 W H (T0 0).1 (T0 0).2/\Chg (fun k=>k=g1\/k=g2) w w2) ⟨by exact rx_,by exact jg HI.out,by exact jg hC.out⟩ ?_;have g1l:=HI.out.c.lt;have g2l:=HI.out.z.lt;have bml:=HI.out.row.lt;obtain ⟨Bp,hBp⟩:∃ b,wr.heap.size=b:=⟨_,rfl⟩;rw[hBp] at g1l g2l bml ⊢;clear hBp hC HI;rintro w2 ⟨Rp,hI2,hC2⟩;have HRp:=jj Rp;have HI2:=jj hI2;have HC2:=jj hC2;clear Rp hI2 hC2;go_upto_region 7 with fail
   go_loopw [25] (fun i wq=>∃ (k:Nat),k<=SL.length/\i=.int .i64 k/\Hid (Img wq bm g1 k1 g2 k2 W H (T0 k).1 (T0 k).2)/\Hid (Row wq Bp #[s.factor,s.units,.bool s.ccw,s.cull,s.width,s.c0,s.c1,s.c2,s.c3,.bool false] 114)/\Hid (Chg (fun k=>k=g1\/k=g2) w wq))
    (fun i _=>SL.length-(intOf i).toNat)
   case atStart=>exact ⟨0,by omega,rfl,HI2,HRp,HC2⟩
   case round =>
    clear HI2 HRp HC2;obtain ⟨k,hk,rfl,hI,hP,hC⟩:=hrel
    by_cases hlt:k<SL.length
    ·have HJ:=jj (show k+1<=SL.length from hlt);have hki:(k:Int)<SL.length:=by omega
     obtain ⟨q,hq⟩:∃ f,SL[k]?=some f:=⟨_,List.getElem?_eq_getElem hlt⟩;obtain ⟨p,hp⟩:∃ f,l[k]?=some f:=⟨_,List.getElem?_eq_getElem (by rw[<-HN.out];exact hlt)⟩;have hpm:=List.mem_of_getElem? hp;have HPW:=jj (PX.out wr hC.out);have HQ:=jj (HPW.out.p k _ _ hq hp);obtain ⟨-,av',cap',he,-,hcl⟩:=HPW.out.r;obtain ⟨rfl,rfl⟩:av=av'/\cap=cap':=by simpa using he
     rcases hcl with e|⟨lb,lo,rfl,hlb,hcl⟩
     ·rw[e] at hlt;simp at hlt
     have pa0:wr.cell? ⟨lb,lo+k*2,none⟩=some q.vs:=hcl k _ hq 0 _ rfl;have pa1:wr.cell? ⟨lb,lo+k*2+1,none⟩=some q.es:=hcl k _ hq 1 _ rfl;have FR:=jj (fun w h=>FG.out q p hpm false w h);have OF:=jj (OKF.out p false);have st:=S0.out k p hp;obtain ⟨D,hD⟩:∃ D,nN p s false 0 0 W H=D:=⟨_,rfl⟩;rw[hD] at FR OF st;have ST:=jj st;clear hcl hq hp he hD st HPW hpm;obtain ⟨va,vn,vc,ea,en,ec⟩:=q;go_upto_region 9 with fail
     refine aE (F:=fun w3=>Row w3 Bp #[s.factor,s.units,.bool s.ccw,s.cull,s.width,s.c0,s.c1,s.c2,s.c3,.bool false] 114/\Row w3 wr.heap.size #[.slice va vn vc,.slice ea en ec] 68/\Img w3 bm g1 k1 g2 k2 W H (T0 k).1 (T0 k).2/\Chg (fun k=>k=g1\/k=g2) w w3/\PolR w3 ⟨va,vn,vc,ea,en,ec⟩ p) ⟨by exact jg hP.out,by exact rx_,by exact jg hI.out,by exact jg hC.out,by exact jg HQ.out⟩ ?_;obtain ⟨Bx,hBx⟩:∃ b,wr.heap.size=b:=⟨_,rfl⟩;rw[hBx];clear hBx pa0 pa1 hI hP hC HQ;rintro w3 ⟨Rp,Rx,hI,hC,hQ⟩;have HRp:=jj Rp;have HI:=jj hI;have HC:=jj hC;have HQ:=jj hQ;have cp:=Rp.cell;have fp:=Rp.frozen;have lp:=Rp.lt;have dp:=World.rowD_of Rp;have cx:=Rx.cell;have fx:=Rx.frozen;have lx:=Rx.lt;have ci:=hI.row.cell;have fi:=hI.row.frozen;have li:=hI.row.lt;clear Rp Rx hI hC hQ;refine aJ 10 [none,none,some ([],srV o0.v),none,none,none,some ([],srV (.pointer (some ⟨bm,0,none⟩))),none,some ([],srV (R4 0 0 W H)),some ([8],aR8 frK w3.heap.size D)] (by kernel_rfl) (by kernel_rfl) ?_;simp only[jx]
     (repeat (first|(refine aA ?_;intro K_ hK_;go_big_quiet_op;go_big_quiet_on)|simp only[jw]))
     refine aF rfl (fun w_ hw_ hk_ K_ hK_=>?_) (fun e2 f2=>?_)
     ·obtain ⟨X_,rfl⟩:=hw_;go_simp
      go_at_call 73
      with_reducible refine (OP0.out _).mono ?_
      rintro _ _ ⟨rfl,hX⟩;exact hK_ _ _ rfl hX
     obtain rfl:=f2
     (repeat (first|(refine aA ?_;intro K_ hK_;go_big_quiet_op;go_big_quiet_on)|simp only[jw]))
     refine aF rfl (fun w_ hw_ hk_ K_ hK_=>?_) (fun e6 f6=>?_)
     ·obtain ⟨X_,rfl⟩:=hw_;go_simp;exact hK_ _ _ rfl ⟨⟨#[],_⟩,(aN _).symm⟩
     obtain rfl:=f6
     (repeat (first|(refine aA ?_;intro K_ hK_;go_big_quiet_op;go_big_quiet_on)|simp only[jw]))
     refine aF rfl (fun w_ hw_ hk_ K_ hK_=>?_) (fun e8 f8=>?_)
     ·obtain ⟨X_,rfl⟩:=hw_;go_simp
      go_at_call 74
      with_reducible refine (BX.out _ _ _).mono ?_
      rintro _ _ ⟨rfl,hX⟩;exact hK_ _ _ rfl hX
     obtain rfl:=f8
     (repeat (first|(refine aA ?_;intro K_ hK_;go_big_quiet_op;go_big_quiet_on)|simp only[jw]))
     refine aF rfl (fun w_ hw_ hk_ K_ hK_=>?_) (fun e9 f9=>?_)
     ·obtain ⟨X_,rfl⟩:=hw_;go_simp
      go_at_call 71
      with_reducible refine (FR.out _ (HQ.out.ext _)).mono ?_
      rintro _ _ ⟨v,rfl,h1,h2⟩;exact hK_ _ _ (h1.low (by rw[World.size_ext];omega)) h2
     obtain ⟨fa9,fc9,rfl⟩:=f9
     (repeat (first|(refine aA ?_;intro K_ hK_;go_big_quiet_op;go_big_quiet_on)|simp only[jw]))
     refine aT ?_;intro w_ hw_ kk;obtain ⟨X9,rfl⟩:=hw_;have hD:=((kk (9,_) (by repeat (first|exact List.mem_cons_self|refine jk ?_))):RecsN frK w3.heap.size _ (.slice fa9 D.length fc9) D);have HD:=jj hD;clear kk hD
     go_wp2_with fail
     refine (aH9 (HI.out.ext X9) o0 OK0.out (aS7 HD.out.1 OF.out) (fun b hb hne=>by have:=HD.out.2 b hb hne;omega)).mono ?_;rintro _ w4 ⟨rfl,I4,C4⟩;have I5:Img w4 bm g1 k1 g2 k2 W H (T0 (k+1)).1 (T0 (k+1)).2:=by
      rw[ST.out];have e:=uF o0 W H (T0 k).1 (T0 k).2 D;rw[e.1,e.2] at I4;exact I4
     have HI5:=jj I5;have HR5:=jj (C4.row (HRp.out.ext X9) (by omega));have HC5:=jj ((HC.out.ext X9).trans C4);clear I4 I5 C4 cp fp lp dp cx fx lx ci fi li;go_wp2;go_roundw
     case rel=>exact ⟨k+1,HJ.out,by go_num,HI5,HR5,HC5⟩
     case measure=>have:=HJ.out;simp[intOf];omega
    ·obtain rfl:k=SL.length:=by omega
     rw[HN.out] at hI;go_wp2;go_roundw
     case rel=>exact ⟨jj (.inr (.inl ⟨rfl,hI.out⟩)),hC⟩
     case measure=>simp[intOf]
  ·-- the go of edges
   have HI:=jj (by rw[E1.out];exact hI:Img wr bm g1 k1 g2 k2 W H (T1 0).1 (T1 0).2);clear hI hi;go_upto_region 6 with fail
   refine aE (F:=fun w2=>Row w2 wr.heap.size #[s.factor,s.units,.bool s.ccw,s.cull,s.width,s.c0,s.c1,s.c2,s.c3,.bool true] 114/\Img w2 bm g1 k1 g2 k2 W H (T1 0).1 (T1 0).2/\Chg (fun k=>k=g1\/k=g2) w w2) ⟨by exact rx_,by exact jg HI.out,by exact jg hC.out⟩ ?_;have g1l:=HI.out.c.lt;have g2l:=HI.out.z.lt;have bml:=HI.out.row.lt;obtain ⟨Bp,hBp⟩:∃ b,wr.heap.size=b:=⟨_,rfl⟩;rw[hBp] at g1l g2l bml ⊢;clear hBp hC HI;rintro w2 ⟨Rp,hI2,hC2⟩;have HRp:=jj Rp;have HI2:=jj hI2;have HC2:=jj hC2;clear Rp hI2 hC2;go_upto_region 7 with fail
   go_loopw [25] (fun i wq=>∃ (k:Nat),k<=SL.length/\i=.int .i64 k/\Hid (Img wq bm g1 k1 g2 k2 W H (T1 k).1 (T1 k).2)/\Hid (Row wq Bp #[s.factor,s.units,.bool s.ccw,s.cull,s.width,s.c0,s.c1,s.c2,s.c3,.bool true] 114)/\Hid (Chg (fun k=>k=g1\/k=g2) w wq))
    (fun i _=>SL.length-(intOf i).toNat)
   case atStart=>exact ⟨0,by omega,rfl,HI2,HRp,HC2⟩
   case round =>
    clear HI2 HRp HC2;obtain ⟨k,hk,rfl,hI,hP,hC⟩:=hrel
    by_cases hlt:k<SL.length
    ·have HJ:=jj (show k+1<=SL.length from hlt);have hki:(k:Int)<SL.length:=by omega
     obtain ⟨q,hq⟩:∃ f,SL[k]?=some f:=⟨_,List.getElem?_eq_getElem hlt⟩;obtain ⟨p,hp⟩:∃ f,l[k]?=some f:=⟨_,List.getElem?_eq_getElem (by rw[<-HN.out];exact hlt)⟩;have hpm:=List.mem_of_getElem? hp;have HPW:=jj (PX.out wr hC.out);have HQ:=jj (HPW.out.p k _ _ hq hp);obtain ⟨-,av',cap',he,-,hcl⟩:=HPW.out.r;obtain ⟨rfl,rfl⟩:av=av'/\cap=cap':=by simpa using he
     rcases hcl with e|⟨lb,lo,rfl,hlb,hcl⟩
     ·rw[e] at hlt;simp at hlt
     have pa0:wr.cell? ⟨lb,lo+k*2,none⟩=some q.vs:=hcl k _ hq 0 _ rfl;have pa1:wr.cell? ⟨lb,lo+k*2+1,none⟩=some q.es:=hcl k _ hq 1 _ rfl;have FR:=jj (fun w h=>FG.out q p hpm true w h);have OF:=jj (OKF.out p true);have st:=S1.out k p hp;obtain ⟨D,hD⟩:∃ D,nN p s true 0 0 W H=D:=⟨_,rfl⟩;rw[hD] at FR OF st;have ST:=jj st;clear hcl hq hp he hD st HPW hpm;obtain ⟨va,vn,vc,ea,en,ec⟩:=q;go_upto_region 9 with fail
     refine aE (F:=fun w3=>Row w3 Bp #[s.factor,s.units,.bool s.ccw,s.cull,s.width,s.c0,s.c1,s.c2,s.c3,.bool true] 114/\Row w3 wr.heap.size #[.slice va vn vc,.slice ea en ec] 68/\Img w3 bm g1 k1 g2 k2 W H (T1 k).1 (T1 k).2/\Chg (fun k=>k=g1\/k=g2) w w3/\PolR w3 ⟨va,vn,vc,ea,en,ec⟩ p) ⟨by exact jg hP.out,by exact rx_,by exact jg hI.out,by exact jg hC.out,by exact jg HQ.out⟩ ?_;obtain ⟨Bx,hBx⟩:∃ b,wr.heap.size=b:=⟨_,rfl⟩;rw[hBx];clear hBx pa0 pa1 hI hP hC HQ;rintro w3 ⟨Rp,Rx,hI,hC,hQ⟩;have HRp:=jj Rp;have HI:=jj hI;have HC:=jj hC;have HQ:=jj hQ;have cp:=Rp.cell;have fp:=Rp.frozen;have lp:=Rp.lt;have dp:=World.rowD_of Rp;have cx:=Rx.cell;have fx:=Rx.frozen;have lx:=Rx.lt;have ci:=hI.row.cell;have fi:=hI.row.frozen;have li:=hI.row.lt;clear Rp Rx hI hC hQ;refine aJ 10 [none,none,some ([],srV o1.v),none,none,none,some ([],srV (.pointer (some ⟨bm,0,none⟩))),none,some ([],srV (R4 0 0 W H)),some ([8],aR8 frK w3.heap.size D)] (by kernel_rfl) (by kernel_rfl) ?_;simp only[jx]
     (repeat (first|(refine aA ?_;intro K_ hK_;go_big_quiet_op;go_big_quiet_on)|simp only[jw]))
     refine aF rfl (fun w_ hw_ hk_ K_ hK_=>?_) (fun e2 f2=>?_)
     ·obtain ⟨X_,rfl⟩:=hw_;go_simp
      go_at_call 73
      with_reducible refine (OP1.out _).mono ?_
      rintro _ _ ⟨rfl,hX⟩;exact hK_ _ _ rfl hX
     obtain rfl:=f2
     (repeat (first|(refine aA ?_;intro K_ hK_;go_big_quiet_op;go_big_quiet_on)|simp only[jw]))
     refine aF rfl (fun w_ hw_ hk_ K_ hK_=>?_) (fun e6 f6=>?_)
     ·obtain ⟨X_,rfl⟩:=hw_;go_simp;exact hK_ _ _ rfl ⟨⟨#[],_⟩,(aN _).symm⟩
     obtain rfl:=f6
     (repeat (first|(refine aA ?_;intro K_ hK_;go_big_quiet_op;go_big_quiet_on)|simp only[jw]))
     refine aF rfl (fun w_ hw_ hk_ K_ hK_=>?_) (fun e8 f8=>?_)
     ·obtain ⟨X_,rfl⟩:=hw_;go_simp
      go_at_call 74
      with_reducible refine (BX.out _ _ _).mono ?_
      rintro _ _ ⟨rfl,hX⟩;exact hK_ _ _ rfl hX
     obtain rfl:=f8
     (repeat (first|(refine aA ?_;intro K_ hK_;go_big_quiet_op;go_big_quiet_on)|simp only[jw]))
     refine aF rfl (fun w_ hw_ hk_ K_ hK_=>?_) (fun e9 f9=>?_)
     ·obtain ⟨X_,rfl⟩:=hw_;go_simp
      go_at_call 71
      with_reducible refine (FR.out _ (HQ.out.ext _)).mono ?_
      rintro _ _ ⟨v,rfl,h1,h2⟩;exact hK_ _ _ (h1.low (by rw[World.size_ext];omega)) h2
     obtain ⟨fa9,fc9,rfl⟩:=f9
     (repeat (first|(refine aA ?_;intro K_ hK_;go_big_quiet_op;go_big_quiet_on)|simp only[jw]))
     refine aT ?_;intro w_ hw_ kk;obtain ⟨X9,rfl⟩:=hw_;have hD:=((kk (9,_) (by repeat (first|exact List.mem_cons_self|refine jk ?_))):RecsN frK w3.heap.size _ (.slice fa9 D.length fc9) D);have HD:=jj hD;clear kk hD
     go_wp2_with fail
     refine (aH9 (HI.out.ext X9) o1 OK1.out (aS7 HD.out.1 OF.out) (fun b hb hne=>by have:=HD.out.2 b hb hne;omega)).mono ?_;rintro _ w4 ⟨rfl,I4,C4⟩;have I5:Img w4 bm g1 k1 g2 k2 W H (T1 (k+1)).1 (T1 (k+1)).2:=by
      rw[ST.out];have e:=uF o1 W H (T1 k).1 (T1 k).2 D;rw[e.1,e.2] at I4;exact I4
     have HI5:=jj I5;have HR5:=jj (C4.row (HRp.out.ext X9) (by omega));have HC5:=jj ((HC.out.ext X9).trans C4);clear I4 I5 C4 cp fp lp dp cx fx lx ci fi li;go_wp2;go_roundw
     case rel=>exact ⟨k+1,HJ.out,by go_num,HI5,HR5,HC5⟩
     case measure=>have:=HJ.out;simp[intOf];omega
    ·obtain rfl:k=SL.length:=by omega
     rw[HN.out] at hI;go_wp2;go_roundw
     case rel=>exact ⟨jj (.inr (.inr ⟨rfl,hI.out⟩)),hC⟩
     case measure=>simp[intOf]
  ·go_wp2;go_ret;exact ⟨rfl,hI,hC.out⟩
end Go.Proofs.YthcjfanigfgckaaGreat
