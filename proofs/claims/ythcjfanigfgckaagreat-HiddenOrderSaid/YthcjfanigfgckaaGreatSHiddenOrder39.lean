import Derived.Test.YthcjfanigfgckaaGreatSHiddenOrder35
import Derived.Test.YthcjfanigfgckaaGreatSHiddenOrder37
set_option linter.unusedVariables false
set_option linter.unusedSimpArgs false
set_option maxRecDepth 100000
set_option maxHeartbeats 16000000
namespace Go.Proofs.YthcjfanigfgckaaGreat
open Go.RowKit
theorem face_draw_linedN (v ev:Value) (L:List WinP) (B:List Bool) (k:LookP) (x0 y0 x1 y1:Int) (w:World) (hv:Recs wnK w v L) (he:Recs boK w ev B) (hw:∀ a∈L,a.wide) (hk:k.wide) (h:showP L B k x0 y0 x1 y1) (hm:modeK L k=1) (hL:L.length<=4096) (har:areaP x0 y0 x1 y1<=1048576) (hln:LineOk k x0 y0 x1 y1):Calls Tryz.prog 15 #[v,ev,k.v,R4 x0 y0 x1 y1] w (RNew frK w (facL L B k x0 y0 x1 y1)):=by
 obtain ⟨h1,h2,h3,h4⟩:=h;have MY:=jj (fun w1 h g=>decide_eq_true h1▸face_may v ev L B k x0 y0 x1 y1 w1 h g hw);have RI:=jj (fun w=>decide_eq_true h2▸look_right k hk w);have RR:=jj (fun w=>decide_eq_true h3▸rect_right x0 y0 x1 y1 w);have CU0:=fun w1 h=>face_culled v L k w1 h (may_fits h1) (ok_cull h2)
 have FT0:=fun w1 h=>face_front v L k.ccw w1 h (may_fits h1)
 have FI:=jj (fun w1 h g=>face_linedN v ev L B k x0 y0 x1 y1 w1 h g h1.2.2 h2 h1.2.1 hL har hln);unfold frontK at h4;simp only[h4] at CU0;have CU:=jj CU0;unfold modeK frontK at hm;obtain ⟨bf,hbf⟩:∃ b,frontB (sgn (faceN L)) k.ccw=b:=⟨_,rfl⟩;rw[hbf] at FT0 hm;have FT:=jj FT0;clear CU0 FT0 h1 h2 h3 h4 hw hk hbf hL har
 try clear hln
 obtain ⟨TT,hTT⟩:∃ T,facL L B k x0 y0 x1 y1=T:=⟨_,rfl⟩;rw[hTT] at FI ⊢;clear hTT;have HV:=jj hv;have HE:=jj he;obtain ⟨hl,av,cap,rfl,hcap,-⟩:=hv;obtain ⟨hl2,ev,ecap,rfl,-,-⟩:=he;cases bf
 case false =>
  simp only[if_true,if_false,Bool.false_eq_true] at hm;obtain ⟨k2,rfl⟩:∃ k2:LookP,k={ k2 with back:=1 }:=⟨k,by cases k;simp only at hm;subst hm;rfl⟩;clear hm;simp only at FI CU FT RI MY
  go_enter Tryz.func15,Tryz.ntmps15
  go_upto_region 2 with fail
  refine wp_abs (F:=fun w1=>Row w1 w.heap.size #[.int .i64 k2.width,.bool k2.soft,.bool k2.dashed,.int .i64 k2.p,.int .i64 k2.r,.int .i64 k2.c,.int .i64 k2.size,.int .i64 k2.kind,.int .i64 k2.front,.int .i64 1,.bool k2.ccw,.int .i64 k2.cull,.bool k2.off,.int .i64 k2.factor,.int .i64 k2.units] 27/\Row w1 (w.heap.size+1) #[.int .i64 x0,.int .i64 y0,.int .i64 x1,.int .i64 y1] 29/\Row w1 (w.heap.size+1+1) #[.slice av L.length cap,.slice ev B.length ecap,.int .i64 k2.width,.bool k2.soft,.bool k2.dashed,.int .i64 k2.p,.int .i64 k2.r,.int .i64 k2.c,.int .i64 k2.size,.int .i64 k2.kind,.int .i64 k2.front,.int .i64 1,.bool k2.ccw,.int .i64 k2.cull,.bool k2.off,.int .i64 k2.factor,.int .i64 k2.units,.int .i64 x0,.int .i64 y0,.int .i64 x1,.int .i64 y1] 82/\Recs wnK w1 (.slice av L.length cap) L/\Recs boK w1 (.slice ev B.length ecap) B/\∃ X,w1=w.ext X) ⟨by exact rx_,by exact rx_,by exact rx_,(by exact rc_ HV.out),(by exact rc_ HE.out),jz (by exact bl_)⟩ ?_;clear HV HE;rintro w1 ⟨Rk,Rr,Rf,hv,he,hX⟩;have HX:=jj hX;have HV:=jj hv;have HE:=jj he;have ck:=Rk.cell;have fk:=Rk.frozen;have lk:=Rk.lt;have cr:=Rr.cell;have fr:=Rr.frozen;have lr:=Rr.lt;have cf:=Rf.cell;have ff:=Rf.frozen;have lf:=Rf.lt;have dk:=World.rowD_of Rk;have df:=World.rowD_of Rf;clear Rk Rr Rf hv he hX
  go_wp2_with (first
   |(go_at_call 45;(with_reducible refine (MY.out _ (by exact rc_ HV.out) (by exact rc_ HE.out)).mono ?_);rintro _ _ ⟨rfl,X_,rfl⟩)
   |(go_at_call 12;(with_reducible refine (RI.out _).mono ?_);rintro _ _ ⟨rfl,X_,rfl⟩)
   |(go_at_call 46;(with_reducible refine (RR.out _).mono ?_);rintro _ _ ⟨rfl,X_,rfl⟩)
   |(go_at_call 22;(with_reducible refine (CU.out _ (by exact rc_ HV.out)).mono ?_);rintro _ _ ⟨rfl,X_,rfl⟩)
   |(go_at_call 20;(with_reducible refine (FT.out _ (by exact rc_ HV.out)).mono ?_);rintro _ _ ⟨rfl,X_,rfl⟩)
   |(go_at_call 48;(with_reducible refine (FI.out _ (by exact rc_ HV.out) (by exact rc_ HE.out)).mono ?_);rintro _ _ ⟨vq,rfl,hq,⟨XQ,rfl⟩⟩;have HQ:=jj hq;clear hq))
  go_ret;obtain ⟨X0,hX0⟩:=HX.out;subst hX0;exact ⟨_,rfl,HQ.out.low (by first|omega|(simp;omega)|simp),jz (by exact br_)⟩
 case true =>
  simp only[if_true,if_false,Bool.false_eq_true] at hm;obtain ⟨k2,rfl⟩:∃ k2:LookP,k={ k2 with front:=1 }:=⟨k,by cases k;simp only at hm;subst hm;rfl⟩;clear hm;simp only at FI CU FT RI MY
  go_enter Tryz.func15,Tryz.ntmps15
  go_upto_region 2 with fail
  refine wp_abs (F:=fun w1=>Row w1 w.heap.size #[.int .i64 k2.width,.bool k2.soft,.bool k2.dashed,.int .i64 k2.p,.int .i64 k2.r,.int .i64 k2.c,.int .i64 k2.size,.int .i64 k2.kind,.int .i64 1,.int .i64 k2.back,.bool k2.ccw,.int .i64 k2.cull,.bool k2.off,.int .i64 k2.factor,.int .i64 k2.units] 27/\Row w1 (w.heap.size+1) #[.int .i64 x0,.int .i64 y0,.int .i64 x1,.int .i64 y1] 29/\Row w1 (w.heap.size+1+1) #[.slice av L.length cap,.slice ev B.length ecap,.int .i64 k2.width,.bool k2.soft,.bool k2.dashed,.int .i64 k2.p,.int .i64 k2.r,.int .i64 k2.c,.int .i64 k2.size,.int .i64 k2.kind,.int .i64 1,.int .i64 k2.back,.bool k2.ccw,.int .i64 k2.cull,.bool k2.off,.int .i64 k2.factor,.int .i64 k2.units,.int .i64 x0,.int .i64 y0,.int .i64 x1,.int .i64 y1] 82/\Recs wnK w1 (.slice av L.length cap) L/\Recs boK w1 (.slice ev B.length ecap) B/\∃ X,w1=w.ext X) ⟨by exact rx_,by exact rx_,by exact rx_,(by exact rc_ HV.out),(by exact rc_ HE.out),jz (by exact bl_)⟩ ?_;clear HV HE;rintro w1 ⟨Rk,Rr,Rf,hv,he,hX⟩;have HX:=jj hX;have HV:=jj hv;have HE:=jj he;have ck:=Rk.cell;have fk:=Rk.frozen;have lk:=Rk.lt;have cr:=Rr.cell;have fr:=Rr.frozen;have lr:=Rr.lt;have cf:=Rf.cell;have ff:=Rf.frozen;have lf:=Rf.lt;have dk:=World.rowD_of Rk;have df:=World.rowD_of Rf;clear Rk Rr Rf hv he hX
  go_wp2_with (first
   |(go_at_call 45;(with_reducible refine (MY.out _ (by exact rc_ HV.out) (by exact rc_ HE.out)).mono ?_);rintro _ _ ⟨rfl,X_,rfl⟩)
   |(go_at_call 12;(with_reducible refine (RI.out _).mono ?_);rintro _ _ ⟨rfl,X_,rfl⟩)
   |(go_at_call 46;(with_reducible refine (RR.out _).mono ?_);rintro _ _ ⟨rfl,X_,rfl⟩)
   |(go_at_call 22;(with_reducible refine (CU.out _ (by exact rc_ HV.out)).mono ?_);rintro _ _ ⟨rfl,X_,rfl⟩)
   |(go_at_call 20;(with_reducible refine (FT.out _ (by exact rc_ HV.out)).mono ?_);rintro _ _ ⟨rfl,X_,rfl⟩)
   |(go_at_call 48;(with_reducible refine (FI.out _ (by exact rc_ HV.out) (by exact rc_ HE.out)).mono ?_);rintro _ _ ⟨vq,rfl,hq,⟨XQ,rfl⟩⟩;have HQ:=jj hq;clear hq))
  go_ret;obtain ⟨X0,hX0⟩:=HX.out;subst hX0;exact ⟨_,rfl,HQ.out.low (by first|omega|(simp;omega)|simp),jz (by exact br_)⟩
def drawL (L:List WinP) (B:List Bool) (k:LookP) (x0 y0 x1 y1:Int):List FrP:=if showP L B k x0 y0 x1 y1 then (if modeK L k=0 then faceF L k x0 y0 x1 y1 else if modeK L k=1 then facL L B k x0 y0 x1 y1 else dotsL L B k x0 y0 x1 y1) else []
theorem face_draw0N (v ev:Value) (L:List WinP) (B:List Bool) (k:LookP) (x0 y0 x1 y1:Int) (w:World) (hv:Recs wnK w v L) (he:Recs boK w ev B) (hw:∀ a∈L,a.wide) (hk:k.wide) (hL:L.length<=4096) (har:areaP x0 y0 x1 y1<=1048576) (hs:k.soft=false) (hm:modeK L k=0\/modeK L k=1):Calls Tryz.prog 15 #[v,ev,k.v,R4 x0 y0 x1 y1] w (RNew frK w (drawL L B k x0 y0 x1 y1)):=by
 unfold drawL
 by_cases h:showP L B k x0 y0 x1 y1
 ·rw[if_pos h];rcases hm with hm|hm
  ·rw[if_pos hm];exact face_draw_fillN v ev L B k x0 y0 x1 y1 w hv he hw hk h hm hL har
  ·rw[if_neg (by omega),if_pos hm];exact face_draw_linedN v ev L B k x0 y0 x1 y1 w hv he hw hk h hm hL har (line_ok0 hs har)
 ·rw[if_neg h];exact (face_draw_no v ev L B k x0 y0 x1 y1 w hv he hw hk h).mono RNew.nil
end Go.Proofs.YthcjfanigfgckaaGreat
