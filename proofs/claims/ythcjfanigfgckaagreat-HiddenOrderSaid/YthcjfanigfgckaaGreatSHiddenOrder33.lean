import Derived.Test.YthcjfanigfgckaaGreatSHiddenOrder30
import Derived.Test.YthcjfanigfgckaaGreatSHiddenOrder32
set_option linter.unusedVariables false
set_option linter.unusedSimpArgs false
set_option maxRecDepth 100000
set_option maxHeartbeats 16000000
namespace Go.Proofs.YthcjfanigfgckaaGreat
open Go.RowKit
def offK (k:LookP) (a b c:WinP):Int:=if k.off then offV a b c k.factor k.units else 0
theorem offK_bd {k:LookP} (h:k.ok) (a b c:WinP):-33554432<=offK k a b c/\offK k a b c<=33554432:=by
 unfold LookP.ok amongP at h;unfold offK
 split
 ·unfold offV
  split
  ·omega
  ·unfold clampI;omega
 ·omega
def fillF (L:List WinP) (k:LookP) (x0 y0 x1 y1:Int):Nat->List FrP
 |0=>[]
 |j+1=>fillF L k x0 y0 x1 y1 j++fillL (wAt L 0) (wAt L (j+1)) (wAt L (j+2)) (offK k (wAt L 0) (wAt L (j+1)) (wAt L (j+2))) x0 y0 x1 y1
def faceF (L:List WinP) (k:LookP) (x0 y0 x1 y1:Int):List FrP:=fillF L k x0 y0 x1 y1 (L.length-2)
theorem fillL_len (a b c:WinP) (o x0 y0 x1 y1:Int) (har:areaP x0 y0 x1 y1<=1048576):(fillL a b c o x0 y0 x1 y1).length<=1048576:=by
 unfold fillL spansL
 split
 ·simp[fillTo]
 ·rename_i h
  have h0:ar a b c≠0:=fun e=>h (.inl e)
  have hr:rightP x0 y0 x1 y1:=Classical.byContradiction fun e=>h (.inr e)
  have hx:x0<=x1:=by unfold rightP at hr;omega
  exact Nat.le_trans (fillTo_len a b c o x0 x1 y0 y1 h0 hx) (area_nat hr har)
theorem fillF_len (L:List WinP) (k:LookP) (x0 y0 x1 y1:Int) (har:areaP x0 y0 x1 y1<=1048576):∀ j,(fillF L k x0 y0 x1 y1 j).length<=j*1048576
 |0=>by simp[fillF]
 |j+1=>by
  have:=fillF_len L k x0 y0 x1 y1 har j;have h2:=fillL_len (wAt L 0) (wAt L (j+1)) (wAt L (j+2)) (offK k (wAt L 0) (wAt L (j+1)) (wAt L (j+2))) x0 y0 x1 y1 har;unfold fillF;rw[List.length_append];omega
theorem info_fr22:(Tryz.prog.info? 73).map (fun i=>(i.zero,i.size,i.bytes))=some (some (.agg #[.int .i64 0,.int .i64 0,.int .i64 0,.int .i64 0,.int .i64 0,.int .i64 0,.int .i64 0,.int .i64 0]),8,64):=by kernel_rfl
def RecsN {α:Type} (K:RecK α) (B:Nat) (w:World) (v:Value) (L:List α):Prop:=Recs K w v L/\∀ b,v.ownBlock=some b->L≠[]->B<=b
theorem RecsN.ext {α:Type} {K:RecK α} {B:Nat} {w:World} {v:Value} {L:List α} (h:RecsN K B w v L) (X:Xt):RecsN K B (w.ext X) v L:=⟨h.1.ext X,h.2⟩
theorem RecsN.low {α:Type} {K:RecK α} {B B':Nat} {w:World} {v:Value} {L:List α} (h:RecsN K B w v L) (hb:B'<=B):RecsN K B' w v L:=⟨h.1,fun b e n=>Nat.le_trans hb (h.2 b e n)⟩
def RNew {α:Type} (K:RecK α) (w:World) (L:List α) (e:Ending) (w':World):Prop:=∃ v,e=.returned v/\RecsN K w.heap.size w' v L/\∃ X,w'=w.ext X
theorem RNew.lists {α:Type} {K:RecK α} {w:World} {L:List α} (e:Ending) (w':World) (h:RNew K w L e w'):RLists K w L e w':=by
 obtain ⟨v,h1,h2,h3⟩:=h;exact ⟨v,h1,h2.1,h3⟩
theorem RNew.nil {α:Type} {K:RecK α} {w:World} (e:Ending) (w':World) (h:RLists K w [] e w'):RNew K w [] e w':=by
 obtain ⟨v,h1,h2,h3⟩:=h;exact ⟨v,h1,⟨h2,fun _ _ c=>absurd rfl c⟩,h3⟩
theorem face_filledN (v:Value) (L:List WinP) (ea:Option Addr) (el ec:Nat) (k:LookP) (x0 y0 x1 y1:Int) (w:World) (hv:Recs wnK w v L) (hf:∀ a∈L,a.fits) (hk:k.ok) (hL:L.length<=4096) (har:areaP x0 y0 x1 y1<=1048576):Calls Tryz.prog 47 #[fcV v (.slice ea el ec) k x0 y0 x1 y1] w (RNew frK w (faceF L k x0 y0 x1 y1)):=by
 have HV:=jj hv;have HF:=jj hf;have HO:=jj (fun a b c=>offK_bd hk a b c);have hk':=hk;unfold LookP.ok amongP at hk';obtain ⟨-,-,-,-,-,-,⟨k0,k1⟩,⟨k2,k3⟩,-⟩:=hk';have OF:=jj (fun a b c (ha:a.fits) (hb:b.fits) (hc:c.fits) w=>offset21_any a b c k.factor k.units ha hb hc k0 k1 k2 k3 w);have FL:=jj (fun a b c o (ha:a.fits) (hb:b.fits) (hc:c.fits) (o0:-33554432<=o) (o1:o<=33554432) w=>fill_any a b c o x0 y0 x1 y1 ha hb hc o0 o1 har w);have LEN:=jj (fun j=>fillF_len L k x0 y0 x1 y1 har j);have LEN1:=jj (fun a b c o=>fillL_len a b c o x0 y0 x1 y1 har);obtain ⟨T,hT⟩:∃ T,T=fillF L k x0 y0 x1 y1:=⟨_,rfl⟩;have HN:=jj (fun j=>show fillF L k x0 y0 x1 y1 (j+1)=fillF L k x0 y0 x1 y1 j++fillL (wAt L 0) (wAt L (j+1)) (wAt L (j+2)) (offK k (wAt L 0) (wAt L (j+1)) (wAt L (j+2))) x0 y0 x1 y1 from rfl);have H0:=jj (show fillF L k x0 y0 x1 y1 0=[] from rfl);unfold faceF;rw[<-hT] at HN H0 LEN ⊢;obtain ⟨hl,av,cap,rfl,hcap,-⟩:=hv;clear hf hk har hT;obtain ⟨i0,hii,hz0,hz1,hz2⟩:=info_parts info_fr22
 go_enter Tryz.func47,Tryz.ntmps47
 go_upto_region 2 with fail
 refine wp_abs (F:=fun w1=>Row w1 w.heap.size #[.slice av L.length cap,.slice ea el ec,.int .i64 k.width,.bool k.soft,.bool k.dashed,.int .i64 k.p,.int .i64 k.r,.int .i64 k.c,.int .i64 k.size,.int .i64 k.kind,.int .i64 k.front,.int .i64 k.back,.bool k.ccw,.int .i64 k.cull,.bool k.off,.int .i64 k.factor,.int .i64 k.units,.int .i64 x0,.int .i64 y0,.int .i64 x1,.int .i64 y1] 82/\Recs wnK w1 (.slice av L.length cap) L/\∃ X,w1=w.ext X) ⟨by exact rx_,HV.out.alloc _,jz (by exact bl_)⟩ ?_;rintro w1 ⟨Rl,hv1,hX⟩;have HX:=jj hX;have HV1:=jj hv1;have HRl:=jj Rl;have ll:=Rl.lt;clear hX hv1 HV Rl;go_wp2;go_loopw [4,3] (fun i o wr=>∃ (j:Nat) (vo:Value) (M:List FrP),(j=0\/j+2<=L.length)/\i=.int .i64 ((j:Int)+2)/\o=vo/\Hid (M=T j)/\Hid (Hold frK w1 wr 73 [(w.heap.size,#[.slice av L.length cap,.slice ea el ec,.int .i64 k.width,.bool k.soft,.bool k.dashed,.int .i64 k.p,.int .i64 k.r,.int .i64 k.c,.int .i64 k.size,.int .i64 k.kind,.int .i64 k.front,.int .i64 k.back,.bool k.ccw,.int .i64 k.cull,.bool k.off,.int .i64 k.factor,.int .i64 k.units,.int .i64 x0,.int .i64 y0,.int .i64 x1,.int .i64 y1],82)] vo M))
  (fun i _ _=>L.length+2-(intOf i).toNat)
 case atStart=>exact ⟨0,_,[],.inl rfl,rfl,rfl,jj H0.out.symm,jj (Hold.start (List.forall_mem_cons.2 ⟨HRl.out,by simp⟩) (by simp) ⟨_,(ext_none' _).symm⟩)⟩
 case round =>
  obtain ⟨j,vo,M,hj,rfl,hv,hM,hR⟩:=hrel;have hv:=hv.symm;subst hv;have c0:=hR.out.rows _ jq;simp only at c0;have c1:=c0.cell;have c2:=c0.frozen;have c3:=c0.lt;clear c0
  by_cases hlt:j+2<L.length
  ·have hki:(j:Int)+2<L.length:=by omega
   have h0:0<L.length:=by omega
   have h1:j+1<L.length:=by omega
   have hi0:(0:Int)<L.length:=by omega
   have hi1:(j:Int)+1<L.length:=by omega
   obtain ⟨X0,hX0⟩:=hR.out.ext;obtain ⟨-,av',cap',hq,-,hcl⟩:=(by rw[hX0];exact HV1.out.ext X0:Recs wnK wr (.slice av L.length cap) L);obtain ⟨rfl,rfl⟩:av=av'/\cap=cap':=by simpa using hq
   clear hq hX0;rcases hcl with e|⟨lb,lo,rfl,hlb,hcl⟩
   ·rw[e] at h0;simp at h0
   obtain ⟨a,ha⟩:∃ f,L[0]?=some f:=⟨_,List.getElem?_eq_getElem h0⟩;obtain ⟨b,hb⟩:∃ f,L[j+1]?=some f:=⟨_,List.getElem?_eq_getElem h1⟩;obtain ⟨c,hc⟩:∃ f,L[j+2]?=some f:=⟨_,List.getElem?_eq_getElem hlt⟩;have pa0:wr.cell? ⟨lb,lo,none⟩=some (.int .i64 a.x):=by simpa using hcl 0 _ ha 0 _ rfl
   have pa1:wr.cell? ⟨lb,lo+1,none⟩=some (.int .i64 a.y):=by simpa using hcl 0 _ ha 1 _ rfl
   have pa2:wr.cell? ⟨lb,lo+2,none⟩=some (.int .i64 a.z):=by simpa using hcl 0 _ ha 2 _ rfl
   have pa3:wr.cell? ⟨lb,lo+3,none⟩=some (.int .i64 a.c0):=by simpa using hcl 0 _ ha 3 _ rfl
   have pa4:wr.cell? ⟨lb,lo+4,none⟩=some (.int .i64 a.c1):=by simpa using hcl 0 _ ha 4 _ rfl
   have pa5:wr.cell? ⟨lb,lo+5,none⟩=some (.int .i64 a.c2):=by simpa using hcl 0 _ ha 5 _ rfl
   have pa6:wr.cell? ⟨lb,lo+6,none⟩=some (.int .i64 a.c3):=by simpa using hcl 0 _ ha 6 _ rfl
   have pb0:wr.cell? ⟨lb,lo+(j+1)*7,none⟩=some (.int .i64 b.x):=hcl (j+1) _ hb 0 _ rfl;have pb1:wr.cell? ⟨lb,lo+(j+1)*7+1,none⟩=some (.int .i64 b.y):=hcl (j+1) _ hb 1 _ rfl;have pb2:wr.cell? ⟨lb,lo+(j+1)*7+2,none⟩=some (.int .i64 b.z):=hcl (j+1) _ hb 2 _ rfl;have pb3:wr.cell? ⟨lb,lo+(j+1)*7+3,none⟩=some (.int .i64 b.c0):=hcl (j+1) _ hb 3 _ rfl;have pb4:wr.cell? ⟨lb,lo+(j+1)*7+4,none⟩=some (.int .i64 b.c1):=hcl (j+1) _ hb 4 _ rfl;have pb5:wr.cell? ⟨lb,lo+(j+1)*7+5,none⟩=some (.int .i64 b.c2):=hcl (j+1) _ hb 5 _ rfl;have pb6:wr.cell? ⟨lb,lo+(j+1)*7+6,none⟩=some (.int .i64 b.c3):=hcl (j+1) _ hb 6 _ rfl;have pc0:wr.cell? ⟨lb,lo+(j+2)*7,none⟩=some (.int .i64 c.x):=hcl (j+2) _ hc 0 _ rfl;have pc1:wr.cell? ⟨lb,lo+(j+2)*7+1,none⟩=some (.int .i64 c.y):=hcl (j+2) _ hc 1 _ rfl;have pc2:wr.cell? ⟨lb,lo+(j+2)*7+2,none⟩=some (.int .i64 c.z):=hcl (j+2) _ hc 2 _ rfl;have pc3:wr.cell? ⟨lb,lo+(j+2)*7+3,none⟩=some (.int .i64 c.c0):=hcl (j+2) _ hc 3 _ rfl;have pc4:wr.cell? ⟨lb,lo+(j+2)*7+4,none⟩=some (.int .i64 c.c1):=hcl (j+2) _ hc 4 _ rfl;have pc5:wr.cell? ⟨lb,lo+(j+2)*7+5,none⟩=some (.int .i64 c.c2):=hcl (j+2) _ hc 5 _ rfl;have pc6:wr.cell? ⟨lb,lo+(j+2)*7+6,none⟩=some (.int .i64 c.c3):=hcl (j+2) _ hc 6 _ rfl;have na:=wAt_of ha;have nb:=wAt_of hb;have nc:=wAt_of hc;have fa:=HF.out a (List.mem_of_getElem? ha);have fb:=HF.out b (List.mem_of_getElem? hb);have fc:=HF.out c (List.mem_of_getElem? hc);have O:=jj (fun w=>OF.out a b c fa fb fc w);obtain ⟨o0,o1⟩:=HO.out a b c;have G:=jj (fun w=>FL.out a b c (offK k a b c) fa fb fc o0 o1 w);have e1:=HN.out j;rw[na,nb,nc] at e1;have b1:=LEN.out j;have b2:=LEN1.out a b c (offK k a b c);have hoff:=jj (show offK k a b c=if k.off then offV a b c k.factor k.units else 0 from rfl);obtain ⟨oo,hoo⟩:∃ o,offK k a b c=o:=⟨_,rfl⟩;obtain ⟨ov,hov⟩:∃ o,offV a b c k.factor k.units=o:=⟨_,rfl⟩;rw[hoo] at o0 o1 G e1 b2 hoff;rw[hov] at O hoff;obtain ⟨S,hS⟩:∃ S,fillL a b c oo x0 y0 x1 y1=S:=⟨_,rfl⟩;rw[hS] at e1 b2 G;have e2:=hM.out;have E1:=jj (show T (j+1)=M++S by rw[e1,e2]);have hlb:M.length<=4294967296:=by rw[e2];omega
   have LB1:=jj (show M.length+S.length<=maxLen by unfold maxLen;omega);have LB2:=jj (show (M.length+S.length)*64<=140737488355328 by omega);clear hcl ha hb hc na nb nc fa fb fc e1 e2 b1 b2 hS hoo hov hlb hj;go_wp2;refine wp_region_mix (by kernel_rfl) ?_
   repeat (first|(refine mix_skip rfl ?_;simp only[List.nil_append,List.cons_append])|(refine mix_ncheck rfl rfl rfl ?_;simp only[Act.put,List.setIfInBounds_toArray,List.set_cons_zero,List.set_cons_succ,List.nil_append,List.cons_append])|(refine mix_calm rfl rfl ?_;intro K_ hK_;go_big_quiet_op;go_big_quiet_on;simp only[List.nil_append,List.cons_append])|(refine mix_alloc rfl rfl Tryz.zeroValue45 ?_;simp only[List.nil_append,List.cons_append])|(refine mix_fill 15 rfl rfl rfl rfl (by simp[Value.oneCell']) (by kernel_rfl) (by simp) rfl rfl rfl rfl ?_;simp only[List.nil_append,List.cons_append])|(refine mix_fill 16 rfl rfl rfl rfl (by simp[Value.oneCell']) (by kernel_rfl) (by simp) rfl rfl rfl rfl ?_;simp only[List.nil_append,List.cons_append])|(refine mix_fill 17 rfl rfl rfl rfl (by simp[Value.oneCell']) (by kernel_rfl) (by simp) rfl rfl rfl rfl ?_;simp only[List.nil_append,List.cons_append]))
   refine mix_nil (mix_end3 15 16 17 18 19 20 ⟨by kernel_rfl,by kernel_rfl⟩ rfl rfl rfl rfl rfl (by kernel_rfl) rfl rfl rfl rfl (by kernel_rfl) rfl rfl rfl rfl (by kernel_rfl) ?_);intro X p q r hp hq hr ne_p_q ne_p_r ne_q_r;have c_hp:=hp.cell;have f_hp:=hp.frozen;have g_hp:=hp.gap;have b_hp:=jj hp.block
   try simp only[World.size_ext,World.size_alloc,World.size_drew,World.size_setCell] at g_hp
   clear hp;have c_hq:=hq.cell;have f_hq:=hq.frozen;have g_hq:=hq.gap;have b_hq:=jj hq.block
   try simp only[World.size_ext,World.size_alloc,World.size_drew,World.size_setCell] at g_hq
   clear hq;have c_hr:=hr.cell;have f_hr:=hr.frozen;have g_hr:=hr.gap;have b_hr:=jj hr.block
   try simp only[World.size_ext,World.size_alloc,World.size_drew,World.size_setCell] at g_hr
   clear hr;simp only[Act.put,List.setIfInBounds_toArray,List.set_cons_zero,List.set_cons_succ,ptr];go_upto_region 7 with fail
   refine wp_abs (F:=fun wx=>Hid (Hold frK w1 wx 73 [(w.heap.size,#[.slice (some ⟨lb,lo,none⟩) L.length cap,.slice ea el ec,.int .i64 k.width,.bool k.soft,.bool k.dashed,.int .i64 k.p,.int .i64 k.r,.int .i64 k.c,.int .i64 k.size,.int .i64 k.kind,.int .i64 k.front,.int .i64 k.back,.bool k.ccw,.int .i64 k.cull,.bool k.off,.int .i64 k.factor,.int .i64 k.units,.int .i64 x0,.int .i64 y0,.int .i64 x1,.int .i64 y1],82),(p,#[.int .i64 a.x,.int .i64 a.y,.int .i64 a.z,.int .i64 a.c0,.int .i64 a.c1,.int .i64 a.c2,.int .i64 a.c3],45),(q,#[.int .i64 b.x,.int .i64 b.y,.int .i64 b.z,.int .i64 b.c0,.int .i64 b.c1,.int .i64 b.c2,.int .i64 b.c3],45),(r,#[.int .i64 c.x,.int .i64 c.y,.int .i64 c.z,.int .i64 c.c0,.int .i64 c.c1,.int .i64 c.c2,.int .i64 c.c3],45)] vo M)) (jj ((hR.out.grown (by exact bl_)).with (List.forall_mem_cons.2 ⟨by (repeat (first|exact hR.out.rows _ (List.mem_cons_self)|with_reducible refine Row.ext ?_ _|with_reducible refine row_drew ?_)),List.forall_mem_cons.2 ⟨by (repeat (first|exact b_hp.out|with_reducible refine Row.ext ?_ _|with_reducible refine row_drew ?_)),List.forall_mem_cons.2 ⟨by (repeat (first|exact b_hq.out|with_reducible refine Row.ext ?_ _|with_reducible refine row_drew ?_)),List.forall_mem_cons.2 ⟨by (repeat (first|exact b_hr.out|with_reducible refine Row.ext ?_ _|with_reducible refine row_drew ?_)),by simp⟩⟩⟩⟩) (by simp))) ?_;clear c_hp c_hq c_hr f_hp f_hq f_hr g_hp g_hq g_hr b_hp b_hq b_hr c1 c2 c3 pa0 pa1 pa2 pa3 pa4 pa5 pa6 pb0 pb1 pb2 pb3 pb4 pb5 pb6 pc0 pc1 pc2 pc3 pc4 pc5 pc6 hR;intro wx hR;have c0:=hR.out.rows _ jq;simp only at c0;have c1:=c0.cell;have c2:=c0.frozen;have c3:=c0.lt;clear c0;have d0:=hR.out.rows _ (jk jq);simp only at d0;have d1:=d0.cell;have d2:=d0.frozen;have d3:=d0.lt;clear d0;have e0:=hR.out.rows _ (jk (jk jq));simp only at e0;have e1:=e0.cell;have e2:=e0.frozen;have e3:=e0.lt;clear e0;have f0:=hR.out.rows _ (jk (jk (jk jq)));simp only at f0;have f1:=f0.cell;have f2:=f0.frozen;have f3:=f0.lt;clear f0;have hsz:=hR.out.size
   by_cases hb:k.off=true
   all_goals
    have ho:=hoff.out;simp only[hb,if_true,if_false,Bool.false_eq_true] at ho;subst ho
    try (have hb:k.off=false:=by simpa using hb)
    clear hoff
    go_wp2_with (first
     |(go_at_call 81;(with_reducible refine (O.out _).mono ?_);rintro _ _ ⟨rfl,X_,rfl⟩)
     |(go_at_call 82;(with_reducible refine (G.out _).mono ?_);rintro _ _ ⟨vq,rfl,hq,⟨XQ,rfl⟩⟩;have HQ:=jj hq;clear hq)
     |(at_builtin;refine wpList_append_recs (K:=frK) rfl _ _ 36 rfl w1.heap.size 73 i0 (.agg #[.int .i64 0,.int .i64 0,.int .i64 0,.int .i64 0,.int .i64 0,.int .i64 0,.int .i64 0,.int .i64 0]) 64 Tryz.underlying36 hii hz0 hz1 hz2 rfl vo M rfl ((hR.out.grown (by exact bl_)).own) vq S rfl (by first|exact HQ.out|exact HQ.out.drew) LB1.out LB2.out (by simp;omega) ?_;intro v' w5 hown hgrow;have h5:=jj ((hR.out.grown (by exact bl_)).more hown hgrow);clear hown hgrow))
    go_roundw
    case rel=>exact ⟨j+1,_,M++S,.inr (by omega),by go_num,rfl,jj E1.out.symm,jj (h5.out.with (List.forall_mem_cons.2 ⟨h5.out.rows _ (List.mem_cons_self),by simp⟩) (by simp))⟩
    case measure=>simp[intOf];omega
  ·have hkk:L.length-2=j:=by omega
   have HK:=jj hkk;have b1:=LEN.out j;have hge:¬((j:Int)+2<L.length):=by omega
   have e2:=hM.out;have hlb:M.length<=1099511627776:=by rw[e2];omega
   clear hkk b1 e2;go_wp2;go_ret;refine ⟨_,rfl,⟨?_,fun b hb _=>?_⟩,?_⟩
   ·rw[HK.out,<-hM.out];exact own_recs hR.out.own hlb
   ·have h:=(hR.out.own.lt b hb).1;obtain ⟨X0,hX0⟩:=HX.out;rw[hX0,World.size_ext] at h;omega
   ·obtain ⟨X1,hX1⟩:=hR.out.ext;obtain ⟨X0,hX0⟩:=HX.out;subst hX0;subst hX1;exact jz (by exact br_)
end Go.Proofs.YthcjfanigfgckaaGreat
