import Derived.Test.YthcjfanigfgckaaGreatSHidb48
import Derived.Test.YthcjfanigfgckaaGreatSHidb49
set_option linter.unusedVariables false
set_option linter.unusedSimpArgs false
set_option maxRecDepth 100000
set_option maxHeartbeats 16000000
namespace Go.Proofs.YthcjfanigfgckaaGreat
open Go.RowKit _root_.Go.Proofs.Tryz
instance jh49 : Coe Nat Value := ⟨fun n => .int .i64 n⟩
theorem aCo (s:SkP) (m:Bool):bW (cI s m).p (cI s m).r (cI s m).c:=by
 unfold bW cI;simp only;omega
theorem aA1 {p:PolP} {s:SkP} {m:Bool} {x0 y0 x1 y1:Int} (hok:p.ok) (har:cJ x0 y0 x1 y1<=1048576):(nN p s m x0 y0 x1 y1).length<=8589934592:=by
 obtain ⟨⟨-,h2⟩,h3,-⟩:=hok;rw[jK]
 split
 ·cases m
  ·have:=mL (dW p s) (cI s false) x0 y0 x1 y1 har ((dW p s).length-2);rw[j6] at this;simp only[Bool.false_eq_true,if_false];unfold nP;rw[j6];omega
  ·have:=(oV (dW p s) p.e (cI s true) x0 y0 x1 y1 har (aCo s true) p.e.length).1;simp only[if_true];unfold zK;exact Nat.le_trans this (by omega)
 ·simp
theorem qK {l:List PolP} {s:SkP} {m:Bool} {x0 y0 x1 y1:Int} {j:Nat} {p:PolP} (h:l[j]?=some p):dP (l.take (j+1)) s m x0 y0 x1 y1=dP (l.take j) s m x0 y0 x1 y1++nN p s m x0 y0 x1 y1:=by
 unfold dP;rw[lM h,List.flatMap_append];simp
theorem aKn {l:List PolP} {s:SkP} {m:Bool} {x0 y0 x1 y1:Int} (hok:∀ p∈l,p.ok) (har:cJ x0 y0 x1 y1<=1048576):(dP l s m x0 y0 x1 y1).length<=l.length*8589934592:=by
 unfold dP;exact qM _ _ _ fun p hp=>aA1 (hok p hp) har
theorem aJj (v:Value) (SL:List PsP) (l:List PolP) (s:SkP) (m:Bool) (x0 y0 x1 y1:Int) (w:World) (h:PolsR w v SL l) (h64:l.length<=64) (hok:∀ p∈l,p.ok) (har:cJ x0 y0 x1 y1<=1048576):Calls prog 36 #[v,s.v,.int .i64 (if m then 1 else 0),R4 x0 y0 x1 y1] w (RNew frK w (dP l s m x0 y0 x1 y1)):=by
 have HP:=jj h;have OK:=jj hok;obtain ⟨hl,av,cap,rfl,hcap,-⟩:=h.r;have HN:=jj h.n;have LK:=jj (fun w=>aPg s m w);have FCE:=jj (fun (q:PsP) (p:PolP) (hp:p∈l) w h=>aPi q p s w h (hok p hp));have DRW:=jj (fun (p:PolP) (hp:p∈l) (v ev:Value) (w:World) (h1:Recs wnK w v (dW p s)) (h2:Recs boK w ev p.e)=>xP v ev (dW p s) p.e (cI s m) x0 y0 x1 y1 w h1 h2 (by rw[j6];have:=(hok p hp).1.2;omega) har rfl (by rw[nJ];cases m<;>simp));have T1:=jj (fun j p (e:l[j]?=some p)=>qK (s:=s) (m:=m) (x0:=x0) (y0:=y0) (x1:=x1) (y1:=y1) e);have TL:=jj (fun j=>show (dP (l.take j) s m x0 y0 x1 y1).length<=64*8589934592 by
  have h1:=aKn (l:=l.take j) (s:=s) (m:=m) (x0:=x0) (y0:=y0) (x1:=x1) (y1:=y1) (fun p hp=>hok p (List.mem_of_mem_take hp)) har;have h2:(l.take j).length<=64:=by rw[List.length_take];omega
  exact Nat.le_trans h1 (Nat.mul_le_mul_right _ h2))
 have PL:=jj (fun p (hp:p∈l)=>aA1 (s:=s) (m:=m) (hok p hp) har);obtain ⟨T,hT⟩:∃ T:Nat->List FrP,T=fun j=>dP (l.take j) s m x0 y0 x1 y1:=⟨_,rfl⟩
 have TE:dP l s m x0 y0 x1 y1=T l.length:=by rw[hT];simp
 have T1':=jj (fun j p (e:l[j]?=some p)=>show T (j+1)=T j++nN p s m x0 y0 x1 y1 by rw[hT];exact T1.out j p e);have TL':=jj (fun j=>show (T j).length<=549755813888 by rw[hT];exact TL.out j);have T0:=jj (show T 0=[] by rw[hT];simp[dP]);rw[TE,<-HN.out];obtain ⟨mi,hmi⟩:∃ mi:Int,(if m then 1 else 0)=mi:=⟨_,rfl⟩;rw[hmi] at LK ⊢;clear T1 TL hT TE h hok har h64 hmi;obtain ⟨i0,hii,hz0,hz1,hz2⟩:=info_parts jI
 go_enter func36,ntmps36
 go_upto_region 1 with fail
 refine aE (F:=fun w1=>Hid (Hold frK w w1 73 [(w.heap.size,#[.int .i64 s.factor,.int .i64 s.units,.bool s.ccw,.int .i64 s.cull,.int .i64 s.width,.int .i64 s.c0,.int .i64 s.c1,.int .i64 s.c2,.int .i64 s.c3],48),(w.heap.size+1,#[.int .i64 x0,.int .i64 y0,.int .i64 x1,.int .i64 y1],29)] (.slice none 0 0) [])) (jj (Hold.start (List.forall_mem_cons.2 ⟨by exact rx_,List.forall_mem_cons.2 ⟨by exact rx_,by simp⟩⟩) (by simp) (jz (by exact bl_)))) ?_;intro w1 H1;go_upto_region 3 with fail
 go_loopw [10,9] (fun i o wr=>∃ (j:Nat) (vo:Value) (M:List FrP),j<=SL.length/\i=.int .i64 j/\o=vo/\Hid (T j=M)/\Hid (Hold frK w wr 73 [(w.heap.size,#[.int .i64 s.factor,.int .i64 s.units,.bool s.ccw,.int .i64 s.cull,.int .i64 s.width,.int .i64 s.c0,.int .i64 s.c1,.int .i64 s.c2,.int .i64 s.c3],48),(w.heap.size+1,#[.int .i64 x0,.int .i64 y0,.int .i64 x1,.int .i64 y1],29)] vo M))
  (fun i _ _=>SL.length-(intOf i).toNat)
 case atStart=>exact ⟨0,_,[],by omega,rfl,rfl,T0,H1⟩
 case round =>
  clear H1;obtain ⟨j,vo,M,hj,rfl,hv,hM,hR⟩:=hrel;have hv:=hv.symm;subst hv
  by_cases hlt:j<SL.length
  ·have HJ:=jj (show j+1<=SL.length from hlt);have hji:(j:Int)<SL.length:=by omega
   have c0:=hR.out.rows _ jq;simp only at c0;have c1:=c0.cell;have c2:=c0.frozen;have c3:=c0.lt;clear c0;have d0:=hR.out.rows _ (jk jq);simp only at d0;have d1:=d0.cell;have d2:=d0.frozen;have d3:=d0.lt;clear d0;obtain ⟨q,hq⟩:∃ f,SL[j]?=some f:=⟨_,List.getElem?_eq_getElem hlt⟩;obtain ⟨p,hp⟩:∃ f,l[j]?=some f:=⟨_,List.getElem?_eq_getElem (by rw[<-HN.out];exact hlt)⟩;have hpm:=List.mem_of_getElem? hp;obtain ⟨X0,hX0⟩:=hR.out.ext;have HPW:=jj (by rw[hX0];exact HP.out.ext X0:PolsR wr (.slice av SL.length cap) SL l);have HQ:=jj (HPW.out.p j _ _ hq hp);obtain ⟨-,av',cap',he,-,hcl⟩:=HPW.out.r;obtain ⟨rfl,rfl⟩:av=av'/\cap=cap':=by simpa using he
   rcases hcl with e|⟨lb,lo,rfl,hlb,hcl⟩
   ·rw[e] at hlt;simp at hlt
   have pa0:wr.cell? ⟨lb,lo+j*2,none⟩=some q.vs:=hcl j _ hq 0 _ rfl;have pa1:wr.cell? ⟨lb,lo+j*2+1,none⟩=some q.es:=hcl j _ hq 1 _ rfl;have FC:=jj (fun w h=>FCE.out q p hpm w h);have DR:=jj (fun v ev w h1 h2=>DRW.out p hpm v ev w h1 h2);have tn:=T1'.out j p hp;have bp:=PL.out p hpm;have bm:=TL'.out j;have bn:=TL'.out (j+1);obtain ⟨D,hD⟩:∃ D,nN p s m x0 y0 x1 y1=D:=⟨_,rfl⟩;rw[hD] at tn bp;unfold nN at hD;rw[hD] at DR;obtain ⟨F,hF⟩:∃ F,dW p s=F:=⟨_,rfl⟩;rw[hF] at DR FC;rw[hM.out] at tn bm;have E1:=jj tn;have LB1:=jj (show M.length+D.length<=maxLen by unfold maxLen;omega);have LB2:=jj (show (M.length+D.length)*64<=140737488355328 by omega);clear hcl hq hp he hX0 hD hF tn bp bm bn HPW hpm;go_upto_region 5 with fail
   refine aJ 18 [none,none,none,none,none,none,none,some ([],srR wnK F),none,none,none,none,none,none,none,some ([],srV (cI s m).v),none,some ([7,15],srR frK D)] (by kernel_rfl) (by kernel_rfl) ?_;simp only[jx]
   (repeat (first|(refine aA ?_;intro K_ hK_;go_big_quiet_op;go_big_quiet_on)|simp only[jw]))
   refine aF rfl (fun w_ hw_ hk_ K_ hK_=>?_) (fun e7 f7=>?_)
   ·obtain ⟨X_,rfl⟩:=hw_;go_simp
    go_at_call 78
    with_reducible refine (FC.out _ (HQ.out.ext _)).mono ?_
    rintro _ _ ⟨v,rfl,h1,h2⟩;exact hK_ _ _ h1 h2
   obtain ⟨fa7,fc7,rfl⟩:=f7
   (repeat (first|(refine aA ?_;intro K_ hK_;go_big_quiet_op;go_big_quiet_on)|simp only[jw]))
   refine aF rfl (fun w_ hw_ hk_ K_ hK_=>?_) (fun e15 f15=>?_)
   ·obtain ⟨X_,rfl⟩:=hw_;go_simp
    go_at_call 79
    with_reducible refine (LK.out _).mono ?_
    rintro _ _ ⟨rfl,hX⟩;exact hK_ _ _ rfl hX
   obtain rfl:=f15
   (repeat (first|(refine aA ?_;intro K_ hK_;go_big_quiet_op;go_big_quiet_on)|simp only[jw]))
   refine aF rfl (fun w_ hw_ hk_ K_ hK_=>?_) (fun e17 f17=>?_)
   ·obtain ⟨X_,rfl⟩:=hw_;have h0:Recs wnK _ (.slice fa7 F.length fc7) F:=(hk_ (7,_) (by repeat (first|exact List.mem_cons_self|refine jk ?_))) (by simp);go_simp
    go_at_call 16
    with_reducible refine (DR.out _ _ _ h0 (HQ.out.ext _).e).mono ?_
    rintro _ _ ⟨v,rfl,h1,h2⟩;exact hK_ _ _ h1 h2
   obtain ⟨fa17,fc17,rfl⟩:=f17
   (repeat (first|(refine aA ?_;intro K_ hK_;go_big_quiet_op;go_big_quiet_on)|simp only[jw]))
   refine aT ?_;intro w_ hw_ kk;obtain ⟨X5,rfl⟩:=hw_;have hq:Recs frK _ (.slice fa17 D.length fc17) D:=(kk (17,_) (by repeat (first|exact List.mem_cons_self|refine jk ?_)));have HQ2:=jj hq;have hR5:=jj (hR.out.grow X5);have hsz:=hR5.out.size;clear hq kk c1 c2 c3 d1 d2 d3
   go_wp2_with (first
    |(at_builtin;refine aS (K:=frK) rfl _ _ 36 rfl w.heap.size 73 i0 (.agg #[.int .i64 0,.int .i64 0,.int .i64 0,.int .i64 0,.int .i64 0,.int .i64 0,.int .i64 0,.int .i64 0]) 64 Tryz.underlying36 hii hz0 hz1 hz2 rfl vo M rfl hR5.out.own (.slice fa17 D.length fc17) D rfl HQ2.out LB1.out LB2.out (by omega) ?_;intro v' w5 hown hgrow;have h5:=jj (hR5.out.more hown hgrow);clear hown hgrow))
   go_roundw
   case rel=>exact ⟨j+1,_,M++D,HJ.out,by go_num,rfl,E1,h5⟩
   case measure=>have:=HJ.out;simp[intOf];omega
  ·obtain rfl:j=SL.length:=by omega
   have b1:=TL'.out SL.length;rw[hM.out] at b1;have hlb:M.length<=1099511627776:=by omega
   clear b1;go_wp2;go_ret;refine ⟨_,rfl,⟨?_,fun b hb _=>(hR.out.own.lt b hb).1⟩,hR.out.ext⟩;rw[hM.out];exact cM hR.out.own hlb
theorem xN (v:Value) (SL:List PsP) (l:List PolP) (s:SkP) (m:Bool) (x0 y0 x1 y1:Int) (w:World) (h:PolsR w v SL l) (h64:l.length<=64) (hok:∀ p∈l,p.ok) (har:cJ x0 y0 x1 y1<=1048576):Calls prog 36 #[v,s.v,.int .i64 (if m then 1 else 0),R4 x0 y0 x1 y1] w (cS frK w (dP l s m x0 y0 x1 y1)):=(aJj v SL l s m x0 y0 x1 y1 w h h64 hok har).mono RNew.lists
theorem zW (x y:Int):cJ x y (x+1) (y+1)<=1048576:=by
 unfold cJ;rw[show x+1-x=1 by omega,show y+1-y=1 by omega]
 split<;>decide
theorem vN (z:Int) (L:List FrP) (f:FrP):oA z (L++[f])=min (oA z L) f.z:=by
 unfold oA;rw[List.foldl_append];rfl
theorem yD (z:Int) (A B:List FrP):oA z (A++B)=oA (oA z A) B:=by
 unfold oA;rw[List.foldl_append]
theorem aM5 (v:Value) (SL:List PsP) (l:List PolP) (s:SkP) (x y far:Int) (w:World) (h:PolsR w v SL l) (x0:0<=x) (x1:x<=65535) (y0:0<=y) (y1:y<=65535):Calls prog 28 #[v,s.v,x,y,far] w (Ret (.bool (decide (iZ l s/\bK l s x y far))) w):=by
 have HP:=jj h;have RI0:=fun w h=>pO v SL l s w h
 by_cases hh:iZ l s
 case neg =>
  rw[decide_eq_false hh] at RI0;have RI:=jj RI0;rw[decide_eq_false (show ¬(iZ l s/\bK l s x y far) from fun q=>hh q.1)];clear hh RI0 h
  go_enter func28,ntmps28
  go_wp2_with (first|(go_at_call 34;with_reducible refine jn (RI.out _ (by exact jg HP.out)) fun X_=>?_))
  go_ret;exact Ret.of' rfl (by exact bl_)
 rw[decide_eq_true hh] at RI0;have RI:=jj RI0;have FR0:=jj (fun w h=>xN v SL l s false x y (x+1) (y+1) w h hh.1 hh.2.1 (zW x y));have FR1:=jj (fun w h=>xN v SL l s true x y (x+1) (y+1) w h hh.1 hh.2.1 (zW x y));simp only[if_true,if_false,Bool.false_eq_true] at FR0 FR1;rw[show decide (iZ l s/\bK l s x y far)=decide (bK l s x y far) by simp[hh]];obtain ⟨Z,hZ⟩:∃ Z,decide (bK l s x y far)=Z:=⟨_,rfl⟩;rw[hZ];have z1:(∃ f∈dP l s true x y (x+1) (y+1),f.z<=oA far (dP l s false x y (x+1) (y+1)))->Z=true:=fun q=>by rw[<-hZ];exact decide_eq_true q
 have z2:¬(∃ f∈dP l s true x y (x+1) (y+1),f.z<=oA far (dP l s false x y (x+1) (y+1)))->Z=false:=fun q=>by rw[<-hZ];exact decide_eq_false q
 obtain ⟨F,hF⟩:∃ F,dP l s false x y (x+1) (y+1)=F:=⟨_,rfl⟩;obtain ⟨E,hE⟩:∃ F,dP l s true x y (x+1) (y+1)=F:=⟨_,rfl⟩;rw[hF] at FR0;rw[hE] at FR1;rw[hF,hE] at z1 z2;have Z1:=jj z1;have Z2:=jj z2;clear z1 z2;have w1:=IntWalk.i64_in (x+1) (by omega);have w2:=IntWalk.i64_in (y+1) (by omega);clear hZ hF hE hh RI0 h
 go_enter func28,ntmps28
 go_upto_region 5 with (first|(go_at_call 34;with_reducible refine jn (RI.out _ (by exact jg HP.out)) fun X_=>?_)|(go_at_call 36;(with_reducible refine (FR0.out _ (by exact jg HP.out)).mono ?_);rintro _ _ ⟨vf,rfl,hf,⟨XF,rfl⟩⟩;have HFV:=jj hf;clear hf))
 obtain ⟨Br,hBr⟩:∃ B,w.heap.size+1+X_.sz=B:=⟨_,rfl⟩;have hb:w.heap.size+1<=Br:=by omega
 refine aE (F:=fun w1=>Row w1 w.heap.size #[s.factor,s.units,.bool s.ccw,s.cull,s.width,s.c0,s.c1,s.c2,s.c3] 48/\Row w1 Br #[x,y,.int .i64 (x+1),.int .i64 (y+1)] 29/\PolsR w1 v SL l/\Recs frK w1 vf F/\∃ X,w1=w.ext X) ⟨by exact rx_,by rw[<-hBr];exact rx_,by exact jg HP.out,HFV.out,jz (by exact bx_)⟩ ?_;rw[hBr];clear HFV hBr;rintro w1 ⟨Ra,Rb,hp,hf,hX⟩;have HX:=jj hX;have HQ:=jj hp;have ca:=Ra.cell;have fa:=Ra.frozen;have la:=Ra.lt;have da:=World.rowD_of Ra;have cb:=Rb.cell;have fb:=Rb.frozen;have lb:=Rb.lt;obtain ⟨hfl,av,cap,rfl,-,hcl⟩:=hf;have HCL:=jj hcl;clear Ra Rb hp hX hcl HP FR0 RI;go_upto_region 7 with fail
 go_loopw [14,13] (fun i o wr=>∃ (j:Nat) (m:Int),j<=F.length/\i=.int .i64 j/\o=.int .i64 m/\Hid (m=oA far (F.take j))/\∃ X,wr=w1.ext X)
  (fun i _ _=>F.length-(intOf i).toNat)
 case atStart=>exact ⟨0,far,by omega,rfl,rfl,jj rfl,_,(aN _).symm⟩
 case round =>
  obtain ⟨j,m,hj,rfl,rfl,hM,X,rfl⟩:=hrel
  by_cases hlt:j<F.length
  ·have HJ:=jj (show j+1<=F.length from hlt);have hji:(j:Int)<F.length:=by omega
   obtain ⟨f,hf⟩:∃ f,F[j]?=some f:=⟨_,List.getElem?_eq_getElem hlt⟩;rcases HCL.out with e|⟨gb,go,rfl,hgb,hcl⟩
   ·rw[e] at hlt;simp at hlt
   have pa2:w1.cell? ⟨gb,go+j*8+2,none⟩=some (.int .i64 f.z):=hcl j _ hf 2 _ rfl;have nxt:=jj (show min m f.z=oA far (F.take (j+1)) by rw[lM hf,vN,<-hM.out]);clear hcl hf hM;go_wp2;go_roundw
   case rel=>exact ⟨j+1,min m f.z,HJ.out,by go_num,rfl,nxt,jz (by exact br_)⟩
   case measure=>have:=HJ.out;simp[intOf];omega
  ·obtain rfl:j=F.length:=by omega
   have hm:=hM.out;rw[List.take_length] at hm;have HM:=jj hm;clear hm hM;go_upto_region 11 with (first|(go_at_call 36;(with_reducible refine (FR1.out _ (by exact jg HQ.out)).mono ?_);rintro _ _ ⟨ve,rfl,hf,⟨XF,rfl⟩⟩;have HFV:=jj hf;clear hf))
   refine aE (F:=fun w2=>Recs frK w2 ve E/\∃ X,w2=w.ext X) ⟨HFV.out,by obtain ⟨X0,hX0⟩:=HX.out;subst hX0;exact jz (by exact br_)⟩ ?_;clear HFV HX ca fa la da cb fb lb HCL HQ;rintro w2 ⟨hf,hX⟩;have HX:=jj hX;obtain ⟨hel,ev,ecap,rfl,-,hcl⟩:=hf;have HCL:=jj hcl;clear hX hcl;go_upto_region 12 with fail
   go_loopw [16] (fun i wr=>∃ (j:Nat),j<=E.length/\i=.int .i64 j/\Hid (∀ i f,i<j->E[i]?=some f->¬f.z<=m)/\∃ X,wr=w2.ext X)
    (fun i _=>E.length-(intOf i).toNat)
   case atStart=>exact ⟨0,by omega,rfl,jj (fun i f hi=>by omega),_,(aN _).symm⟩
   case round =>
    obtain ⟨j,hj,rfl,hN,X,rfl⟩:=hrel
    by_cases hlt:j<E.length
    ·have HJ:=jj (show j+1<=E.length from hlt);have hji:(j:Int)<E.length:=by omega
     obtain ⟨f,hf⟩:∃ f,E[j]?=some f:=⟨_,List.getElem?_eq_getElem hlt⟩;rcases HCL.out with e|⟨gb,go,rfl,hgb,hcl⟩
     ·rw[e] at hlt;simp at hlt
     have pa2:w2.cell? ⟨gb,go+j*8+2,none⟩=some (.int .i64 f.z):=hcl j _ hf 2 _ rfl
     by_cases hz:f.z<=m
     ·have e:=Z1.out ⟨f,List.mem_of_getElem? hf,by rw[<-HM.out];exact hz⟩;subst e;clear hcl hf hN Z1 Z2;go_wp2;go_ret;obtain ⟨X0,hX0⟩:=HX.out;subst hX0;exact Ret.of' rfl (by exact br_)
     ·have nxt:=jj (kO hN.out hf hz);clear hcl hf hN;go_wp2;go_roundw
      case rel=>exact ⟨j+1,HJ.out,by go_num,nxt,jz (by exact br_)⟩
      case measure=>have:=HJ.out;simp[intOf];omega
    ·obtain rfl:j=E.length:=by omega
     have e:=Z2.out (fun ⟨f,hf,hz⟩=>rE hN.out f hf (by rw[HM.out];exact hz));subst e;clear hN Z1 Z2;go_wp2;go_ret;obtain ⟨X0,hX0⟩:=HX.out;subst hX0;exact Ret.of' rfl (by exact br_)
theorem aGv {l:List PolP} {s:SkP} {x0 y0 x1 y1 m:Int} {j:Nat} {p:PolP} {D:List FrP} (hp:l[j]?=some p) (hD:nN p s true x0 y0 x1 y1=D) (h:∀ f∈dP (l.take j) s true x0 y0 x1 y1,m<f.z) (h2:∀ f∈D,m<f.z):∀ f∈dP (l.take (j+1)) s true x0 y0 x1 y1,m<f.z:=fun f hf=>by
 rw[qK hp,hD,List.mem_append] at hf;rcases hf with hf|hf
 ·exact h f hf
 ·exact h2 f hf
theorem aKm {l:List PolP} {s:SkP} {x0 y0 x1 y1:Int} {p:PolP} {f:FrP} (hp:p∈l) (hf:f∈nN p s true x0 y0 x1 y1):f∈dP l s true x0 y0 x1 y1:=List.mem_flatMap.2 ⟨p,hp,hf⟩
theorem vU (v:Value) (SL:List PsP) (l:List PolP) (s:SkP) (x y far:Int) (w:World) (h:PolsR w v SL l) (hs:s.wide) (x0:0<=x) (x1:x<=65535) (y0:0<=y) (y1:y<=65535):Calls prog 27 #[v,s.v,x,y,far] w (Ret (.bool (decide (iZ l s/\bK l s x y far))) w):=by
 have HP:=jj h;have RI0:=fun w h=>aGk v SL l s w h hs
 by_cases hh:iZ l s
 case neg =>
  rw[decide_eq_false hh] at RI0;have RI:=jj RI0;rw[decide_eq_false (show ¬(iZ l s/\bK l s x y far) from fun q=>hh q.1)];clear hh RI0 h
  go_enter func27,ntmps27
  go_wp2_with (first|(go_at_call 67;with_reducible refine jn (RI.out _ (by exact jg HP.out)) fun X_=>?_))
  go_ret;exact Ret.of' rfl (by exact bl_)
 rw[decide_eq_true hh] at RI0;have RI:=jj RI0;have FRG:=jj (fun q p (hp:p∈l) m w h=>aP8 q p s m x y (x+1) (y+1) w h (hh.2.1 p hp) hs (zW x y));rw[show decide (iZ l s/\bK l s x y far)=decide (bK l s x y far) by simp[hh]];obtain ⟨Z,hZ⟩:∃ Z,decide (bK l s x y far)=Z:=⟨_,rfl⟩;rw[hZ];have Z1:=jj (show ∀ m,m=oA far (dP l s false x y (x+1) (y+1))->∀ f∈dP l s true x y (x+1) (y+1),f.z<=m->Z=true from fun m e f hf q=>by rw[<-hZ];exact decide_eq_true ⟨f,hf,e▸q⟩);have Z2:=jj (show ∀ m,m=oA far (dP l s false x y (x+1) (y+1))->(∀ f∈dP l s true x y (x+1) (y+1),m<f.z)->Z=false from fun m e k=>by rw[<-hZ];exact decide_eq_false fun ⟨f,hf,q⟩=>by have:=k f hf;have:=e▸q;omega);have w1:=IntWalk.i64_in (x+1) (by omega);have w2:=IntWalk.i64_in (y+1) (by omega);have HN:=jj h.n;obtain ⟨hl,av,cap,rfl,-,-⟩:=h.r;clear hZ hh RI0 h
 go_enter func27,ntmps27
 go_upto_region 5 with (first|(go_at_call 67;with_reducible refine jn (RI.out _ (by exact jg HP.out)) fun X_=>?_))
 obtain ⟨Br,hBr⟩:∃ B,w.heap.size+1+X_.sz=B:=⟨_,rfl⟩;have hb:w.heap.size+1<=Br:=by omega
 refine aE (F:=fun w1=>Row w1 w.heap.size #[s.factor,s.units,.bool s.ccw,s.cull,s.width,s.c0,s.c1,s.c2,s.c3] 48/\Row w1 Br #[x,y,.int .i64 (x+1),.int .i64 (y+1)] 29/\PolsR w1 (.slice av SL.length cap) SL l/\∃ X,w1=w.ext X) ⟨by exact rx_,by rw[<-hBr];exact rx_,by exact jg HP.out,jz (by exact bx_)⟩ ?_;rw[hBr];clear hBr;rintro w1 ⟨Ra,Rb,hp,hX⟩;have HX:=jj hX;have HQ:=jj hp;have ca:=Ra.cell;have fa:=Ra.frozen;have la:=Ra.lt;have la2:w.heap.size<w1.heap.size+1:=by omega
 have da:=World.rowD_of Ra;have cb:=Rb.cell;have fb:=Rb.frozen;have lb:=Rb.lt;have lb2:Br<w1.heap.size+1:=by omega
 obtain ⟨-,av',cap',he,-,hcl⟩:=hp.r;obtain ⟨rfl,rfl⟩:av=av'/\cap=cap':=by simpa using he
 have HCL:=jj hcl;clear Ra Rb hp hX hcl HP RI he;go_upto_region 6 with fail
 go_loopw [35,12] (fun i o wr=>∃ (j:Nat) (m:Int),j<=SL.length/\i=.int .i64 j/\o=.int .i64 m/\Hid (m=oA far (dP (l.take j) s false x y (x+1) (y+1)))/\∃ X,wr=w1.ext X)
  (fun i _ _=>SL.length-(intOf i).toNat)
 case atStart=>exact ⟨0,far,by omega,rfl,rfl,jj rfl,_,(aN _).symm⟩
 case round =>
  obtain ⟨j,m,hj,rfl,rfl,hM,X,rfl⟩:=hrel
  by_cases hlt:j<SL.length
  ·have HJ:=jj (show j+1<=SL.length from hlt);have hji:(j:Int)<SL.length:=by omega
   obtain ⟨q,hq⟩:∃ f,SL[j]?=some f:=⟨_,List.getElem?_eq_getElem hlt⟩;obtain ⟨p,hp⟩:∃ f,l[j]?=some f:=⟨_,List.getElem?_eq_getElem (by rw[<-HN.out];exact hlt)⟩;rcases HCL.out with e|⟨gb,go,rfl,hgb,hcl⟩
   ·rw[e] at hlt;simp at hlt
   have pa0:w1.cell? ⟨gb,go+j*2,none⟩=some q.vs:=hcl j _ hq 0 _ rfl;have pa1:w1.cell? ⟨gb,go+j*2+1,none⟩=some q.es:=hcl j _ hq 1 _ rfl;have HR:=jj (HQ.out.p j _ _ hq hp);have FR:=jj (fun w h=>FRG.out q p (List.mem_of_getElem? hp) false w h);have HPJ:=jj hp;obtain ⟨D,hD⟩:∃ D,nN p s false x y (x+1) (y+1)=D:=⟨_,rfl⟩;rw[hD] at FR;have HD:=jj hD;clear hcl hq hp hD;go_upto_region 9 with (first|(go_at_call 71;(with_reducible refine (FR.out _ (by exact jg HR.out)).mono ?_);rintro _ _ ⟨vf,rfl,hf,⟨XF,rfl⟩⟩;have HFV:=jj hf;obtain ⟨-,dv,dcap,rfl,-,-⟩:=hf))
   refine aE (F:=fun w2=>Recs frK w2 (.slice dv D.length dcap) D/\∃ X,w2=w1.ext X) ⟨HFV.out,jz (by exact br_)⟩ ?_;clear HFV FR HR pa0 pa1;rintro w2 ⟨hf,hX⟩;have HX2:=jj hX;obtain ⟨hfl,dv',dcap',hqd,-,hcl⟩:=hf;obtain ⟨rfl,rfl⟩:dv=dv'/\dcap=dcap':=by simpa using hqd
   have HDL:=jj hcl;clear hcl hX hqd;go_upto_region 9 with fail
   go_loopw [45,12] (fun i o wr=>∃ (k:Nat) (u:Int),k<=D.length/\i=.int .i64 k/\o=.int .i64 u/\Hid (u=oA m (D.take k))/\∃ X,wr=w2.ext X)
    (fun i _ _=>D.length-(intOf i).toNat)
   case atStart=>exact ⟨0,m,by omega,rfl,rfl,jj rfl,_,(aN _).symm⟩
   case round =>
    obtain ⟨k,u,hk,rfl,rfl,hU,X,rfl⟩:=hrel
    by_cases hkt:k<D.length
    ·have HK:=jj (show k+1<=D.length from hkt);have hki:(k:Int)<D.length:=by omega
     obtain ⟨f,hf⟩:∃ f,D[k]?=some f:=⟨_,List.getElem?_eq_getElem hkt⟩;rcases HDL.out with e|⟨db,d0,rfl,hdb,hcl⟩
     ·rw[e] at hkt;simp at hkt
     have pd0:w2.cell? ⟨db,d0+k*8,none⟩=some (.int .i64 f.x):=hcl k _ hf 0 _ rfl;have pd1:w2.cell? ⟨db,d0+k*8+1,none⟩=some (.int .i64 f.y):=hcl k _ hf 1 _ rfl;have pd2:w2.cell? ⟨db,d0+k*8+2,none⟩=some (.int .i64 f.z):=hcl k _ hf 2 _ rfl;have pd3:w2.cell? ⟨db,d0+k*8+3,none⟩=some (.int .i64 f.c0):=hcl k _ hf 3 _ rfl;have pd4:w2.cell? ⟨db,d0+k*8+4,none⟩=some (.int .i64 f.c1):=hcl k _ hf 4 _ rfl;have pd5:w2.cell? ⟨db,d0+k*8+5,none⟩=some (.int .i64 f.c2):=hcl k _ hf 5 _ rfl;have pd6:w2.cell? ⟨db,d0+k*8+6,none⟩=some (.int .i64 f.c3):=hcl k _ hf 6 _ rfl;have pd7:w2.cell? ⟨db,d0+k*8+7,none⟩=some (.int .i64 f.cov):=hcl k _ hf 7 _ rfl;have nxt:=jj (show min u f.z=oA m (D.take (k+1)) by rw[lM hf,vN,<-hU.out]);clear hcl hf hU;go_wp2;go_roundw
     case rel=>exact ⟨k+1,min u f.z,HK.out,by go_num,rfl,nxt,jz (by exact br_)⟩
     case measure=>have:=HK.out;simp[intOf];omega
    ·obtain rfl:k=D.length:=by omega
     have nx:=jj (show u=oA far (dP (l.take (j+1)) s false x y (x+1) (y+1)) by rw[qK HPJ.out,HD.out,yD,<-hM.out,hU.out,List.take_length]);clear hM hU;go_wp2;go_roundw
     case rel =>
      obtain ⟨X0,hX0⟩:=HX2.out;subst hX0;exact ⟨j+1,u,HJ.out,by go_num,rfl,nx,jz (by exact br_)⟩
     case measure=>have:=HJ.out;simp[intOf];omega
  ·obtain rfl:j=SL.length:=by omega
   have hm:=hM.out;rw[HN.out,List.take_length] at hm;have HM:=jj hm;clear hm hM;go_upto_region 15 with fail
   go_loopw [57] (fun i wr=>∃ (j:Nat),j<=SL.length/\i=.int .i64 j/\Hid (∀ f∈dP (l.take j) s true x y (x+1) (y+1),m<f.z)/\∃ X,wr=w1.ext X)
    (fun i _=>SL.length-(intOf i).toNat)
   case atStart=>exact ⟨0,by omega,rfl,jj (fun f hf=>by simp[dP] at hf),_,rfl⟩
   case round =>
    obtain ⟨j,hj,rfl,hE,X,rfl⟩:=hrel
    by_cases hlt:j<SL.length
    ·have HJ:=jj (show j+1<=SL.length from hlt);have hji:(j:Int)<SL.length:=by omega
     obtain ⟨q,hq⟩:∃ f,SL[j]?=some f:=⟨_,List.getElem?_eq_getElem hlt⟩;obtain ⟨p,hp⟩:∃ f,l[j]?=some f:=⟨_,List.getElem?_eq_getElem (by rw[<-HN.out];exact hlt)⟩;rcases HCL.out with e|⟨gb,go,rfl,hgb,hcl⟩
     ·rw[e] at hlt;simp at hlt
     have pa0:w1.cell? ⟨gb,go+j*2,none⟩=some q.vs:=hcl j _ hq 0 _ rfl;have pa1:w1.cell? ⟨gb,go+j*2+1,none⟩=some q.es:=hcl j _ hq 1 _ rfl;have HR:=jj (HQ.out.p j _ _ hq hp);have FR:=jj (fun w h=>FRG.out q p (List.mem_of_getElem? hp) true w h);have HPJ:=jj hp;obtain ⟨D,hD⟩:∃ D,nN p s true x y (x+1) (y+1)=D:=⟨_,rfl⟩;rw[hD] at FR;have HD:=jj hD;clear hcl hq hp hD;go_upto_region 18 with (first|(go_at_call 71;(with_reducible refine (FR.out _ (by exact jg HR.out)).mono ?_);rintro _ _ ⟨vf,rfl,hf,⟨XF,rfl⟩⟩;have HFV:=jj hf;obtain ⟨-,dv,dcap,rfl,-,-⟩:=hf))
     refine aE (F:=fun w2=>Recs frK w2 (.slice dv D.length dcap) D/\∃ X,w2=w1.ext X) ⟨HFV.out,jz (by exact br_)⟩ ?_;clear HFV FR HR pa0 pa1;rintro w2 ⟨hf,hX⟩;have HX2:=jj hX;obtain ⟨hfl,dv',dcap',hqd,-,hcl⟩:=hf;obtain ⟨rfl,rfl⟩:dv=dv'/\dcap=dcap':=by simpa using hqd
     have HDL:=jj hcl;clear hcl hX hqd;go_upto_region 18 with fail
     go_loopw [67] (fun i wr=>∃ (k:Nat),k<=D.length/\i=.int .i64 k/\Hid (∀ i f,i<k->D[i]?=some f->m<f.z)/\∃ X,wr=w2.ext X)
      (fun i _=>D.length-(intOf i).toNat)
     case atStart=>exact ⟨0,by omega,rfl,jj (fun i f hi=>by omega),_,(aN _).symm⟩
     case round =>
      obtain ⟨k,hk,rfl,hU,X,rfl⟩:=hrel
      by_cases hkt:k<D.length
      ·have HK:=jj (show k+1<=D.length from hkt);have hki:(k:Int)<D.length:=by omega
       obtain ⟨f,hf⟩:∃ f,D[k]?=some f:=⟨_,List.getElem?_eq_getElem hkt⟩;rcases HDL.out with e|⟨db,d0,rfl,hdb,hcl⟩
       ·rw[e] at hkt;simp at hkt
       have pd0:w2.cell? ⟨db,d0+k*8,none⟩=some (.int .i64 f.x):=hcl k _ hf 0 _ rfl;have pd1:w2.cell? ⟨db,d0+k*8+1,none⟩=some (.int .i64 f.y):=hcl k _ hf 1 _ rfl;have pd2:w2.cell? ⟨db,d0+k*8+2,none⟩=some (.int .i64 f.z):=hcl k _ hf 2 _ rfl;have pd3:w2.cell? ⟨db,d0+k*8+3,none⟩=some (.int .i64 f.c0):=hcl k _ hf 3 _ rfl;have pd4:w2.cell? ⟨db,d0+k*8+4,none⟩=some (.int .i64 f.c1):=hcl k _ hf 4 _ rfl;have pd5:w2.cell? ⟨db,d0+k*8+5,none⟩=some (.int .i64 f.c2):=hcl k _ hf 5 _ rfl;have pd6:w2.cell? ⟨db,d0+k*8+6,none⟩=some (.int .i64 f.c3):=hcl k _ hf 6 _ rfl;have pd7:w2.cell? ⟨db,d0+k*8+7,none⟩=some (.int .i64 f.cov):=hcl k _ hf 7 _ rfl
       by_cases hz:f.z<=m
       ·have e:=Z1.out m HM.out f (aKm (List.mem_of_getElem? HPJ.out) (by rw[HD.out];exact List.mem_of_getElem? hf)) hz;subst e;clear hcl hf hU hE Z1 Z2;go_wp2;go_ret;obtain ⟨X2,hX2⟩:=HX2.out;subst hX2;obtain ⟨X0,hX0⟩:=HX.out;subst hX0;exact Ret.of' rfl (by exact br_)
       ·have nxt:=jj (kO hU.out hf (show m<f.z by omega));clear hcl hf hU;go_wp2;go_roundw
        case rel=>exact ⟨k+1,HK.out,by go_num,nxt,jz (by exact br_)⟩
        case measure=>have:=HK.out;simp[intOf];omega
      ·obtain rfl:k=D.length:=by omega
       have nx:=jj (aGv HPJ.out HD.out hE.out (rE hU.out));clear hE hU;go_wp2;go_roundw
       case rel =>
        obtain ⟨X2,hX2⟩:=HX2.out;subst hX2;exact ⟨j+1,HJ.out,by go_num,nx,jz (by exact br_)⟩
       case measure=>have:=HJ.out;simp[intOf];omega
    ·obtain rfl:j=SL.length:=by omega
     have e:=Z2.out m HM.out (by have:=hE.out;rwa [HN.out,List.take_length] at this);subst e;clear hE Z1 Z2;go_wp2;go_ret;obtain ⟨X0,hX0⟩:=HX.out;subst hX0;exact Ret.of' rfl (by exact br_)
end Go.Proofs.YthcjfanigfgckaaGreat
