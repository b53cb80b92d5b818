import Derived.Test.YthcjfanigfgckaaGreatSHiddenOrder31
import Derived.Test.YthcjfanigfgckaaGreatSHiddenOrder33
set_option linter.unusedVariables false
set_option linter.unusedSimpArgs false
set_option maxRecDepth 100000
set_option maxHeartbeats 16000000
namespace Go.Proofs.YthcjfanigfgckaaGreat
open Go.RowKit
def frontK (L:List WinP) (k:LookP):Bool:=frontB (sgn (faceN L)) k.ccw
def showP (L:List WinP) (B:List Bool) (k:LookP) (x0 y0 x1 y1:Int):Prop:=mayP L B/\k.ok/\rightP x0 y0 x1 y1/\culledB (frontK L k) k.cull=false
instance (L : List WinP) (B : List Bool) (k : LookP) (x0 y0 x1 y1 : Int) : Decidable (showP L B k x0 y0 x1 y1) := by unfold showP; exact inferInstance
def modeK (L:List WinP) (k:LookP):Int:=if frontK L k then k.front else k.back
@[go_sem] theorem index3_0 (f g h:Value) (w:World):(Instr.index 84 (.agg #[f,g,h]) (.int .i64 0)).run Tryz.prog w=.ok f w:=by kernel_rfl
@[go_sem] theorem index3_1 (f g h:Value) (w:World):(Instr.index 84 (.agg #[f,g,h]) (.int .i64 1)).run Tryz.prog w=.ok g w:=by kernel_rfl
@[go_sem] theorem index3_2 (f g h:Value) (w:World):(Instr.index 84 (.agg #[f,g,h]) (.int .i64 2)).run Tryz.prog w=.ok h w:=by kernel_rfl
theorem may_fits {L:List WinP} {B:List Bool} (h:mayP L B):∀ a∈L,a.fits:=fun a ha=>(h.2.2 a ha).f
theorem ok_cull {k:LookP} (h:k.ok):amongP k.cull 0 3:=h.2.2.2.2.2.1
theorem face_draw_no (v ev:Value) (L:List WinP) (B:List Bool) (k:LookP) (x0 y0 x1 y1:Int) (w:World) (hv:Recs wnK w v L) (he:Recs boK w ev B) (hw:∀ a∈L,a.wide) (hk:k.wide) (h:¬showP L B k x0 y0 x1 y1):Calls Tryz.prog 15 #[v,ev,k.v,R4 x0 y0 x1 y1] w (RLists frK w []):=by
 have MY0:=fun w1 h g=>face_may v ev L B k x0 y0 x1 y1 w1 h g hw
 have RI0:=fun w=>look_right k hk w
 have RR0:=fun w=>rect_right x0 y0 x1 y1 w
 have CU0:=fun w1 h (q:mayP L B) (c:k.ok)=>face_culled v L k w1 h (may_fits q) (ok_cull c)
 obtain ⟨bc,hbc⟩:∃ b,culledB (frontB (sgn (faceN L)) k.ccw) k.cull=b:=⟨_,rfl⟩;rw[hbc] at CU0
 by_cases h1:mayP L B
 case neg =>
  simp only[h1,decide_false] at MY0;have MY:=jj MY0;clear h h1 MY0 RI0 RR0 CU0 hw hk hbc;have HV:=jj hv;have HE:=jj he;obtain ⟨hl,av,cap,rfl,hcap,-⟩:=hv;obtain ⟨hl2,ev,ecap,rfl,-,-⟩:=he

  go_enter Tryz.func15,Tryz.ntmps15
  go_upto_region 2 with fail
  refine wp_abs (F:=fun w1=>Row w1 w.heap.size #[.int .i64 k.width,.bool k.soft,.bool k.dashed,.int .i64 k.p,.int .i64 k.r,.int .i64 k.c,.int .i64 k.size,.int .i64 k.kind,.int .i64 k.front,.int .i64 k.back,.bool k.ccw,.int .i64 k.cull,.bool k.off,.int .i64 k.factor,.int .i64 k.units] 27/\Row w1 (w.heap.size+1) #[.int .i64 x0,.int .i64 y0,.int .i64 x1,.int .i64 y1] 29/\Row w1 (w.heap.size+1+1) #[.slice av L.length cap,.slice ev B.length ecap,.int .i64 k.width,.bool k.soft,.bool k.dashed,.int .i64 k.p,.int .i64 k.r,.int .i64 k.c,.int .i64 k.size,.int .i64 k.kind,.int .i64 k.front,.int .i64 k.back,.bool k.ccw,.int .i64 k.cull,.bool k.off,.int .i64 k.factor,.int .i64 k.units,.int .i64 x0,.int .i64 y0,.int .i64 x1,.int .i64 y1] 82/\Recs wnK w1 (.slice av L.length cap) L/\Recs boK w1 (.slice ev B.length ecap) B/\∃ X,w1=w.ext X) ⟨by exact rx_,by exact rx_,by exact rx_,(by exact rc_ HV.out),(by exact rc_ HE.out),jz (by exact bl_)⟩ ?_;clear HV HE;rintro w1 ⟨Rk,Rr,Rf,hv,he,hX⟩;have HX:=jj hX;have HV:=jj hv;have HE:=jj he;have ck:=Rk.cell;have fk:=Rk.frozen;have lk:=Rk.lt;have cr:=Rr.cell;have fr:=Rr.frozen;have lr:=Rr.lt;have cf:=Rf.cell;have ff:=Rf.frozen;have lf:=Rf.lt;have dk:=World.rowD_of Rk;have df:=World.rowD_of Rf;clear Rk Rr Rf hv he hX
  go_wp2_with (first
   |(go_at_call 45;(with_reducible refine (MY.out _ (by exact rc_ HV.out) (by exact rc_ HE.out)).mono ?_);rintro _ _ ⟨rfl,X_,rfl⟩)
   |(fail)
   |(fail)
   |(fail)
   |(fail))
  go_ret;obtain ⟨X0,hX0⟩:=HX.out;subst hX0;exact ⟨_,rfl,recs_nil _,jz (by exact br_)⟩
 simp only[h1,decide_true] at MY0;have MY:=jj MY0
 by_cases h2:k.ok
 case neg =>
  simp only[h2,decide_false] at RI0;have RI:=jj RI0;clear h h1 h2 MY0 RI0 RR0 CU0 hw hk hbc;have HV:=jj hv;have HE:=jj he;obtain ⟨hl,av,cap,rfl,hcap,-⟩:=hv;obtain ⟨hl2,ev,ecap,rfl,-,-⟩:=he
  go_enter Tryz.func15,Tryz.ntmps15
  go_upto_region 2 with fail
  refine wp_abs (F:=fun w1=>Row w1 w.heap.size #[.int .i64 k.width,.bool k.soft,.bool k.dashed,.int .i64 k.p,.int .i64 k.r,.int .i64 k.c,.int .i64 k.size,.int .i64 k.kind,.int .i64 k.front,.int .i64 k.back,.bool k.ccw,.int .i64 k.cull,.bool k.off,.int .i64 k.factor,.int .i64 k.units] 27/\Row w1 (w.heap.size+1) #[.int .i64 x0,.int .i64 y0,.int .i64 x1,.int .i64 y1] 29/\Row w1 (w.heap.size+1+1) #[.slice av L.length cap,.slice ev B.length ecap,.int .i64 k.width,.bool k.soft,.bool k.dashed,.int .i64 k.p,.int .i64 k.r,.int .i64 k.c,.int .i64 k.size,.int .i64 k.kind,.int .i64 k.front,.int .i64 k.back,.bool k.ccw,.int .i64 k.cull,.bool k.off,.int .i64 k.factor,.int .i64 k.units,.int .i64 x0,.int .i64 y0,.int .i64 x1,.int .i64 y1] 82/\Recs wnK w1 (.slice av L.length cap) L/\Recs boK w1 (.slice ev B.length ecap) B/\∃ X,w1=w.ext X) ⟨by exact rx_,by exact rx_,by exact rx_,(by exact rc_ HV.out),(by exact rc_ HE.out),jz (by exact bl_)⟩ ?_;clear HV HE;rintro w1 ⟨Rk,Rr,Rf,hv,he,hX⟩;have HX:=jj hX;have HV:=jj hv;have HE:=jj he;have ck:=Rk.cell;have fk:=Rk.frozen;have lk:=Rk.lt;have cr:=Rr.cell;have fr:=Rr.frozen;have lr:=Rr.lt;have cf:=Rf.cell;have ff:=Rf.frozen;have lf:=Rf.lt;have dk:=World.rowD_of Rk;have df:=World.rowD_of Rf;clear Rk Rr Rf hv he hX
  go_wp2_with (first
   |(go_at_call 45;(with_reducible refine (MY.out _ (by exact rc_ HV.out) (by exact rc_ HE.out)).mono ?_);rintro _ _ ⟨rfl,X_,rfl⟩)
   |(go_at_call 12;(with_reducible refine (RI.out _).mono ?_);rintro _ _ ⟨rfl,X_,rfl⟩)
   |(fail)
   |(fail)
   |(fail))
  go_ret;obtain ⟨X0,hX0⟩:=HX.out;subst hX0;exact ⟨_,rfl,recs_nil _,jz (by exact br_)⟩
 simp only[h2,decide_true] at RI0;have RI:=jj RI0
 by_cases h3:rightP x0 y0 x1 y1
 case neg =>
  simp only[h3,decide_false] at RR0;have RR:=jj RR0;clear h h1 h2 h3 MY0 RI0 RR0 CU0 hw hk hbc;have HV:=jj hv;have HE:=jj he;obtain ⟨hl,av,cap,rfl,hcap,-⟩:=hv;obtain ⟨hl2,ev,ecap,rfl,-,-⟩:=he
  go_enter Tryz.func15,Tryz.ntmps15
  go_upto_region 2 with fail
  refine wp_abs (F:=fun w1=>Row w1 w.heap.size #[.int .i64 k.width,.bool k.soft,.bool k.dashed,.int .i64 k.p,.int .i64 k.r,.int .i64 k.c,.int .i64 k.size,.int .i64 k.kind,.int .i64 k.front,.int .i64 k.back,.bool k.ccw,.int .i64 k.cull,.bool k.off,.int .i64 k.factor,.int .i64 k.units] 27/\Row w1 (w.heap.size+1) #[.int .i64 x0,.int .i64 y0,.int .i64 x1,.int .i64 y1] 29/\Row w1 (w.heap.size+1+1) #[.slice av L.length cap,.slice ev B.length ecap,.int .i64 k.width,.bool k.soft,.bool k.dashed,.int .i64 k.p,.int .i64 k.r,.int .i64 k.c,.int .i64 k.size,.int .i64 k.kind,.int .i64 k.front,.int .i64 k.back,.bool k.ccw,.int .i64 k.cull,.bool k.off,.int .i64 k.factor,.int .i64 k.units,.int .i64 x0,.int .i64 y0,.int .i64 x1,.int .i64 y1] 82/\Recs wnK w1 (.slice av L.length cap) L/\Recs boK w1 (.slice ev B.length ecap) B/\∃ X,w1=w.ext X) ⟨by exact rx_,by exact rx_,by exact rx_,(by exact rc_ HV.out),(by exact rc_ HE.out),jz (by exact bl_)⟩ ?_;clear HV HE;rintro w1 ⟨Rk,Rr,Rf,hv,he,hX⟩;have HX:=jj hX;have HV:=jj hv;have HE:=jj he;have ck:=Rk.cell;have fk:=Rk.frozen;have lk:=Rk.lt;have cr:=Rr.cell;have fr:=Rr.frozen;have lr:=Rr.lt;have cf:=Rf.cell;have ff:=Rf.frozen;have lf:=Rf.lt;have dk:=World.rowD_of Rk;have df:=World.rowD_of Rf;clear Rk Rr Rf hv he hX
  go_wp2_with (first
   |(go_at_call 45;(with_reducible refine (MY.out _ (by exact rc_ HV.out) (by exact rc_ HE.out)).mono ?_);rintro _ _ ⟨rfl,X_,rfl⟩)
   |(go_at_call 12;(with_reducible refine (RI.out _).mono ?_);rintro _ _ ⟨rfl,X_,rfl⟩)
   |(go_at_call 46;(with_reducible refine (RR.out _).mono ?_);rintro _ _ ⟨rfl,X_,rfl⟩)
   |(fail)
   |(fail))
  go_ret;obtain ⟨X0,hX0⟩:=HX.out;subst hX0;exact ⟨_,rfl,recs_nil _,jz (by exact br_)⟩
 simp only[h3,decide_true] at RR0;have RR:=jj RR0;have hb:bc=true:=by
  cases hq:bc
  ·exact absurd ⟨h1,h2,h3,by unfold frontK;rw[hbc,hq]⟩ h
  ·rfl
 subst hb;have CU:=jj (fun w1 h=>CU0 w1 h h1 h2);clear h h1 h2 h3 MY0 RI0 RR0 CU0 hw hk hbc;have HV:=jj hv;have HE:=jj he;obtain ⟨hl,av,cap,rfl,hcap,-⟩:=hv;obtain ⟨hl2,ev,ecap,rfl,-,-⟩:=he
 go_enter Tryz.func15,Tryz.ntmps15
 go_upto_region 2 with fail
 refine wp_abs (F:=fun w1=>Row w1 w.heap.size #[.int .i64 k.width,.bool k.soft,.bool k.dashed,.int .i64 k.p,.int .i64 k.r,.int .i64 k.c,.int .i64 k.size,.int .i64 k.kind,.int .i64 k.front,.int .i64 k.back,.bool k.ccw,.int .i64 k.cull,.bool k.off,.int .i64 k.factor,.int .i64 k.units] 27/\Row w1 (w.heap.size+1) #[.int .i64 x0,.int .i64 y0,.int .i64 x1,.int .i64 y1] 29/\Row w1 (w.heap.size+1+1) #[.slice av L.length cap,.slice ev B.length ecap,.int .i64 k.width,.bool k.soft,.bool k.dashed,.int .i64 k.p,.int .i64 k.r,.int .i64 k.c,.int .i64 k.size,.int .i64 k.kind,.int .i64 k.front,.int .i64 k.back,.bool k.ccw,.int .i64 k.cull,.bool k.off,.int .i64 k.factor,.int .i64 k.units,.int .i64 x0,.int .i64 y0,.int .i64 x1,.int .i64 y1] 82/\Recs wnK w1 (.slice av L.length cap) L/\Recs boK w1 (.slice ev B.length ecap) B/\∃ X,w1=w.ext X) ⟨by exact rx_,by exact rx_,by exact rx_,(by exact rc_ HV.out),(by exact rc_ HE.out),jz (by exact bl_)⟩ ?_;clear HV HE;rintro w1 ⟨Rk,Rr,Rf,hv,he,hX⟩;have HX:=jj hX;have HV:=jj hv;have HE:=jj he;have ck:=Rk.cell;have fk:=Rk.frozen;have lk:=Rk.lt;have cr:=Rr.cell;have fr:=Rr.frozen;have lr:=Rr.lt;have cf:=Rf.cell;have ff:=Rf.frozen;have lf:=Rf.lt;have dk:=World.rowD_of Rk;have df:=World.rowD_of Rf;clear Rk Rr Rf hv he hX
 go_wp2_with (first
  |(go_at_call 45;(with_reducible refine (MY.out _ (by exact rc_ HV.out) (by exact rc_ HE.out)).mono ?_);rintro _ _ ⟨rfl,X_,rfl⟩)
  |(go_at_call 12;(with_reducible refine (RI.out _).mono ?_);rintro _ _ ⟨rfl,X_,rfl⟩)
  |(go_at_call 46;(with_reducible refine (RR.out _).mono ?_);rintro _ _ ⟨rfl,X_,rfl⟩)
  |(go_at_call 22;(with_reducible refine (CU.out _ (by exact rc_ HV.out)).mono ?_);rintro _ _ ⟨rfl,X_,rfl⟩)
  |(fail))
 go_ret;obtain ⟨X0,hX0⟩:=HX.out;subst hX0;exact ⟨_,rfl,recs_nil _,jz (by exact br_)⟩
theorem face_draw_fillN (v ev:Value) (L:List WinP) (B:List Bool) (k:LookP) (x0 y0 x1 y1:Int) (w:World) (hv:Recs wnK w v L) (he:Recs boK w ev B) (hw:∀ a∈L,a.wide) (hk:k.wide) (h:showP L B k x0 y0 x1 y1) (hm:modeK L k=0) (hL:L.length<=4096) (har:areaP x0 y0 x1 y1<=1048576):Calls Tryz.prog 15 #[v,ev,k.v,R4 x0 y0 x1 y1] w (RNew frK w (faceF L k x0 y0 x1 y1)):=by
 obtain ⟨h1,h2,h3,h4⟩:=h;have MY:=jj (fun w1 h g=>decide_eq_true h1▸face_may v ev L B k x0 y0 x1 y1 w1 h g hw);have RI:=jj (fun w=>decide_eq_true h2▸look_right k hk w);have RR:=jj (fun w=>decide_eq_true h3▸rect_right x0 y0 x1 y1 w);have CU0:=fun w1 h=>face_culled v L k w1 h (may_fits h1) (ok_cull h2)
 have FT0:=fun w1 h=>face_front v L k.ccw w1 h (may_fits h1)
 have FI:=jj (fun ea el ec w1 h=>face_filledN v L ea el ec k x0 y0 x1 y1 w1 h (may_fits h1) h2 hL har);unfold frontK at h4;simp only[h4] at CU0;have CU:=jj CU0;unfold modeK frontK at hm;obtain ⟨bf,hbf⟩:∃ b,frontB (sgn (faceN L)) k.ccw=b:=⟨_,rfl⟩;rw[hbf] at FT0 hm;have FT:=jj FT0;clear CU0 FT0 h1 h2 h3 h4 hw hk hbf hL har;obtain ⟨TT,hTT⟩:∃ T,faceF L k x0 y0 x1 y1=T:=⟨_,rfl⟩;rw[hTT] at FI ⊢;clear hTT;have HV:=jj hv;have HE:=jj he;obtain ⟨hl,av,cap,rfl,hcap,-⟩:=hv;obtain ⟨hl2,ev,ecap,rfl,-,-⟩:=he;cases bf
 case false =>
  simp only[if_true,if_false,Bool.false_eq_true] at hm;obtain ⟨k2,rfl⟩:∃ k2:LookP,k={ k2 with back:=0 }:=⟨k,by cases k;simp only at hm;subst hm;rfl⟩;clear hm;simp only at FI CU FT RI MY
  go_enter Tryz.func15,Tryz.ntmps15
  go_upto_region 2 with fail
  refine wp_abs (F:=fun w1=>Row w1 w.heap.size #[.int .i64 k2.width,.bool k2.soft,.bool k2.dashed,.int .i64 k2.p,.int .i64 k2.r,.int .i64 k2.c,.int .i64 k2.size,.int .i64 k2.kind,.int .i64 k2.front,.int .i64 0,.bool k2.ccw,.int .i64 k2.cull,.bool k2.off,.int .i64 k2.factor,.int .i64 k2.units] 27/\Row w1 (w.heap.size+1) #[.int .i64 x0,.int .i64 y0,.int .i64 x1,.int .i64 y1] 29/\Row w1 (w.heap.size+1+1) #[.slice av L.length cap,.slice ev B.length ecap,.int .i64 k2.width,.bool k2.soft,.bool k2.dashed,.int .i64 k2.p,.int .i64 k2.r,.int .i64 k2.c,.int .i64 k2.size,.int .i64 k2.kind,.int .i64 k2.front,.int .i64 0,.bool k2.ccw,.int .i64 k2.cull,.bool k2.off,.int .i64 k2.factor,.int .i64 k2.units,.int .i64 x0,.int .i64 y0,.int .i64 x1,.int .i64 y1] 82/\Recs wnK w1 (.slice av L.length cap) L/\Recs boK w1 (.slice ev B.length ecap) B/\∃ X,w1=w.ext X) ⟨by exact rx_,by exact rx_,by exact rx_,(by exact rc_ HV.out),(by exact rc_ HE.out),jz (by exact bl_)⟩ ?_;clear HV HE;rintro w1 ⟨Rk,Rr,Rf,hv,he,hX⟩;have HX:=jj hX;have HV:=jj hv;have HE:=jj he;have ck:=Rk.cell;have fk:=Rk.frozen;have lk:=Rk.lt;have cr:=Rr.cell;have fr:=Rr.frozen;have lr:=Rr.lt;have cf:=Rf.cell;have ff:=Rf.frozen;have lf:=Rf.lt;have dk:=World.rowD_of Rk;have df:=World.rowD_of Rf;clear Rk Rr Rf hv he hX
  go_wp2_with (first
   |(go_at_call 45;(with_reducible refine (MY.out _ (by exact rc_ HV.out) (by exact rc_ HE.out)).mono ?_);rintro _ _ ⟨rfl,X_,rfl⟩)
   |(go_at_call 12;(with_reducible refine (RI.out _).mono ?_);rintro _ _ ⟨rfl,X_,rfl⟩)
   |(go_at_call 46;(with_reducible refine (RR.out _).mono ?_);rintro _ _ ⟨rfl,X_,rfl⟩)
   |(go_at_call 22;(with_reducible refine (CU.out _ (by exact rc_ HV.out)).mono ?_);rintro _ _ ⟨rfl,X_,rfl⟩)
   |(go_at_call 20;(with_reducible refine (FT.out _ (by exact rc_ HV.out)).mono ?_);rintro _ _ ⟨rfl,X_,rfl⟩)
   |(go_at_call 47;(with_reducible refine (FI.out _ _ _ _ (by exact rc_ HV.out)).mono ?_);rintro _ _ ⟨vq,rfl,hq,⟨XQ,rfl⟩⟩;have HQ:=jj hq;clear hq))
  go_ret;obtain ⟨X0,hX0⟩:=HX.out;subst hX0;exact ⟨_,rfl,HQ.out.low (by first|omega|(simp;omega)|simp),jz (by exact br_)⟩
 case true =>
  simp only[if_true,if_false,Bool.false_eq_true] at hm;obtain ⟨k2,rfl⟩:∃ k2:LookP,k={ k2 with front:=0 }:=⟨k,by cases k;simp only at hm;subst hm;rfl⟩;clear hm;simp only at FI CU FT RI MY
  go_enter Tryz.func15,Tryz.ntmps15
  go_upto_region 2 with fail
  refine wp_abs (F:=fun w1=>Row w1 w.heap.size #[.int .i64 k2.width,.bool k2.soft,.bool k2.dashed,.int .i64 k2.p,.int .i64 k2.r,.int .i64 k2.c,.int .i64 k2.size,.int .i64 k2.kind,.int .i64 0,.int .i64 k2.back,.bool k2.ccw,.int .i64 k2.cull,.bool k2.off,.int .i64 k2.factor,.int .i64 k2.units] 27/\Row w1 (w.heap.size+1) #[.int .i64 x0,.int .i64 y0,.int .i64 x1,.int .i64 y1] 29/\Row w1 (w.heap.size+1+1) #[.slice av L.length cap,.slice ev B.length ecap,.int .i64 k2.width,.bool k2.soft,.bool k2.dashed,.int .i64 k2.p,.int .i64 k2.r,.int .i64 k2.c,.int .i64 k2.size,.int .i64 k2.kind,.int .i64 0,.int .i64 k2.back,.bool k2.ccw,.int .i64 k2.cull,.bool k2.off,.int .i64 k2.factor,.int .i64 k2.units,.int .i64 x0,.int .i64 y0,.int .i64 x1,.int .i64 y1] 82/\Recs wnK w1 (.slice av L.length cap) L/\Recs boK w1 (.slice ev B.length ecap) B/\∃ X,w1=w.ext X) ⟨by exact rx_,by exact rx_,by exact rx_,(by exact rc_ HV.out),(by exact rc_ HE.out),jz (by exact bl_)⟩ ?_;clear HV HE;rintro w1 ⟨Rk,Rr,Rf,hv,he,hX⟩;have HX:=jj hX;have HV:=jj hv;have HE:=jj he;have ck:=Rk.cell;have fk:=Rk.frozen;have lk:=Rk.lt;have cr:=Rr.cell;have fr:=Rr.frozen;have lr:=Rr.lt;have cf:=Rf.cell;have ff:=Rf.frozen;have lf:=Rf.lt;have dk:=World.rowD_of Rk;have df:=World.rowD_of Rf;clear Rk Rr Rf hv he hX
  go_wp2_with (first
   |(go_at_call 45;(with_reducible refine (MY.out _ (by exact rc_ HV.out) (by exact rc_ HE.out)).mono ?_);rintro _ _ ⟨rfl,X_,rfl⟩)
   |(go_at_call 12;(with_reducible refine (RI.out _).mono ?_);rintro _ _ ⟨rfl,X_,rfl⟩)
   |(go_at_call 46;(with_reducible refine (RR.out _).mono ?_);rintro _ _ ⟨rfl,X_,rfl⟩)
   |(go_at_call 22;(with_reducible refine (CU.out _ (by exact rc_ HV.out)).mono ?_);rintro _ _ ⟨rfl,X_,rfl⟩)
   |(go_at_call 20;(with_reducible refine (FT.out _ (by exact rc_ HV.out)).mono ?_);rintro _ _ ⟨rfl,X_,rfl⟩)
   |(go_at_call 47;(with_reducible refine (FI.out _ _ _ _ (by exact rc_ HV.out)).mono ?_);rintro _ _ ⟨vq,rfl,hq,⟨XQ,rfl⟩⟩;have HQ:=jj hq;clear hq))
  go_ret;obtain ⟨X0,hX0⟩:=HX.out;subst hX0;exact ⟨_,rfl,HQ.out.low (by first|omega|(simp;omega)|simp),jz (by exact br_)⟩
end Go.Proofs.YthcjfanigfgckaaGreat
