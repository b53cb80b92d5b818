import Derived.Test.YthcjfanigfgckaaGreatSHiddenOrder44
set_option linter.unusedVariables false
set_option linter.unusedSimpArgs false
set_option maxRecDepth 100000
set_option maxHeartbeats 16000000
namespace Go.Proofs.YthcjfanigfgckaaGreat
open Go.RowKit
theorem faceW_wide {p:PolP} {s:SkP} (h:p.ok) (hk:s.wide):∀ a∈faceW p s,a.wide:=fun a ha=>by
 obtain ⟨v,hv,rfl⟩:=List.mem_map.1 ha;obtain ⟨h1,h2,h3⟩:=h.2.2 v hv;have b:=lvl_in h3.1 h3.2;unfold amongP at h1 h2;refine ⟨?_,?_,?_,hk.c0,hk.c1,hk.c2,hk.c3⟩<;>unfold V3P.win<;>simp only<;>unfold w64<;>omega
def srN_ {α:Type} (K:RecK α) (B:Nat) (L:List α):SR Grows:=⟨fun v w=>RecsN K B w v L,fun v w w' h ⟨X,e⟩=>by subst e;exact h.ext X,fun v=>∃ a cap,v=.slice a L.length cap,.slice none L.length 0,⟨_,_,rfl⟩,fun v w ⟨⟨_,a,cap,h,_⟩,_⟩=>⟨a,cap,h⟩⟩
theorem hfragsN (q:PsP) (p:PolP) (s:SkP) (m:Bool) (x0 y0 x1 y1:Int) (w:World) (h:PolR w q p) (hok:p.ok) (hk:s.wide) (har:areaP x0 y0 x1 y1<=1048576):Calls Tryz.prog 71 #[passV s m,.agg #[q.vs,q.es],R4 x0 y0 x1 y1] w (RNew frK w (frsP p s m x0 y0 x1 y1)):=by
 have FC:=jj (fun w h=>hface q p s w h hok);have LK:=jj (fun w=>hlook s m w);have HP:=jj h;have fw:=faceW_wide hok hk;have fl:=face_len p s;have h64:=hok.1.2;have hm:modeK (faceW p s) (lookH s m)=0\/modeK (faceW p s) (lookH s m)=1:=by rw[lookH_mode];cases m<;>simp
 have DR:=jj (fun (v ev:Value) (w:World) (h1:Recs wnK w v (faceW p s)) (h2:Recs boK w ev p.e)=>face_draw0N v ev (faceW p s) p.e (lookH s m) x0 y0 x1 y1 w h1 h2 fw (lookH_wide hk m) (by omega) har rfl hm);obtain ⟨D,hD⟩:∃ D,frsP p s m x0 y0 x1 y1=D:=⟨_,rfl⟩;unfold frsP at hD;rw[hD] at DR;unfold frsP;rw[hD];obtain ⟨T,hT⟩:∃ T,faceW p s=T:=⟨_,rfl⟩;rw[hT] at FC DR;clear hD hT fw fl h64 hm har hk hok h;obtain ⟨va,vn,vc,ea,en,ec⟩:=q
 go_enter Tryz.func71,Tryz.ntmps71
 go_upto_region 1 with fail
 refine wp_abs (F:=fun w1=>Row w1 w.heap.size #[.int .i64 s.factor,.int .i64 s.units,.bool s.ccw,.int .i64 s.cull,.int .i64 s.width,.int .i64 s.c0,.int .i64 s.c1,.int .i64 s.c2,.int .i64 s.c3,.bool m] 114/\Row w1 (w.heap.size+1) #[.slice va vn vc,.slice ea en ec] 68/\Row w1 (w.heap.size+1+1) #[.int .i64 x0,.int .i64 y0,.int .i64 x1,.int .i64 y1] 29/\PolR w1 ⟨va,vn,vc,ea,en,ec⟩ p/\∃ X,w1=w.ext X) ⟨by exact rx_,by exact rx_,by exact rx_,by (repeat (first|with_reducible exact HP.out|with_reducible refine PolR.ext ?_ _|with_reducible refine PolR.alloc ?_ _|with_reducible refine PolR.drew ?_)),jz (by exact bl_)⟩ ?_;rintro w1 ⟨Ra,Rb,Rc,hp,hX⟩;have HX:=jj hX;have HQ:=jj hp;have ca:=Ra.cell;have fa:=Ra.frozen;have la:=Ra.lt;have da:=World.rowD_of Ra;have cb:=Rb.cell;have fb:=Rb.frozen;have lb:=Rb.lt;have cc:=Rc.cell;have fc:=Rc.frozen;have lc:=Rc.lt;clear Ra Rb Rc hp hX HP;refine wp_region_rel 12 [none,none,none,none,some ([],srR wnK T),none,none,none,some ([],srV (lookH s m).v),none,some ([4,8],srN_ frK w.heap.size D),none] (by kernel_rfl) (by kernel_rfl) ?_;simp only[jx]
 (repeat (first|(refine rel_none ?_;intro K_ hK_;go_big_quiet_op;go_big_quiet_on)|simp only[Act.put,List.setIfInBounds_toArray,List.set_cons_zero,List.set_cons_succ]))
 refine rel_some rfl (fun w_ hw_ hk_ K_ hK_=>?_) (fun e4 f4=>?_)
 ·obtain ⟨X_,rfl⟩:=hw_;go_simp
  go_at_call 108
  with_reducible refine (FC.out _ (HQ.out.ext _)).mono ?_
  rintro _ _ ⟨v,rfl,h1,h2⟩;exact hK_ _ _ h1 h2
 obtain ⟨fa4,fc4,rfl⟩:=f4
 (repeat (first|(refine rel_none ?_;intro K_ hK_;go_big_quiet_op;go_big_quiet_on)|simp only[Act.put,List.setIfInBounds_toArray,List.set_cons_zero,List.set_cons_succ]))
 refine rel_some rfl (fun w_ hw_ hk_ K_ hK_=>?_) (fun e8 f8=>?_)
 ·obtain ⟨X_,rfl⟩:=hw_;go_simp
  go_at_call 105
  with_reducible refine (LK.out _).mono ?_
  rintro _ _ ⟨rfl,hX⟩;exact hK_ _ _ rfl hX
 obtain rfl:=f8
 (repeat (first|(refine rel_none ?_;intro K_ hK_;go_big_quiet_op;go_big_quiet_on)|simp only[Act.put,List.setIfInBounds_toArray,List.set_cons_zero,List.set_cons_succ]))
 refine rel_some rfl (fun w_ hw_ hk_ K_ hK_=>?_) (fun e10 f10=>?_)
 ·obtain ⟨X_,rfl⟩:=hw_;have h0:Recs wnK _ (.slice fa4 T.length fc4) T:=(hk_ (4,_) (by repeat (first|exact List.mem_cons_self|refine jk ?_))) (by simp);go_simp
  go_at_call 15
  with_reducible refine (DR.out _ _ _ h0 (HQ.out.ext _).e).mono ?_
  rintro _ _ ⟨v,rfl,h1,h2⟩;exact hK_ _ _ (h1.low (by rw[World.size_ext];omega)) h2
 obtain ⟨fa10,fc10,rfl⟩:=f10
 (repeat (first|(refine rel_none ?_;intro K_ hK_;go_big_quiet_op;go_big_quiet_on)|simp only[Act.put,List.setIfInBounds_toArray,List.set_cons_zero,List.set_cons_succ]))
 refine rel_nil ?_;intro w_ hw_ kk;obtain ⟨X9,rfl⟩:=hw_;have hD:=jj ((kk (10,_) (by repeat (first|exact List.mem_cons_self|refine jk ?_))):RecsN frK w.heap.size _ (.slice fa10 D.length fc10) D);clear kk;go_wp2;go_ret;obtain ⟨X0,hX0⟩:=HX.out;subst hX0;exact ⟨_,rfl,hD.out,jz (by exact br_)⟩
theorem hfrags (q:PsP) (p:PolP) (s:SkP) (m:Bool) (x0 y0 x1 y1:Int) (w:World) (h:PolR w q p) (hok:p.ok) (hk:s.wide) (har:areaP x0 y0 x1 y1<=1048576):Calls Tryz.prog 71 #[passV s m,.agg #[q.vs,q.es],R4 x0 y0 x1 y1] w (RLists frK w (frsP p s m x0 y0 x1 y1)):=(hfragsN q p s m x0 y0 x1 y1 w h hok hk har).mono RNew.lists
end Go.Proofs.YthcjfanigfgckaaGreat
