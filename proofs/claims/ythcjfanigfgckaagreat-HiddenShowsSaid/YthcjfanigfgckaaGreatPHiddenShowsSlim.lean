/- HiddenShows: whatever the input, the law returns true and leaves its arguments as they read. No condition. -/
import Derived.Test.YthcjfanigfgckaaGreatSHidb53
set_option linter.unusedVariables false
set_option linter.unusedSimpArgs false
set_option maxRecDepth 100000
set_option maxHeartbeats 16000000
namespace Go.Proofs.YthcjfanigfgckaaGreat
open Go.RowKit _root_.Go.Proofs.Tryz
instance jh55 : Coe Nat Value := ⟨fun n => .int .i64 n⟩
section
open Go.RowKit Go.ChangeShapes Go.WideShapes
def HiddenShows_stmt:Prop:=∀ (aL:Value) (aSFactor:Int) (aSUnits:Int) (aSCcw:Bool) (aSCull:Int) (aSWidth:Int) (aSLine0:Int) (aSLine1:Int) (aSLine2:Int) (aSLine3:Int) (aW:Int) (aH:Int) (aFar:Int) (w:World),((∃ zaL,Sls w 2 (fun r=>∃ (eaLV:Value) (eaLE:Value),r=[eaLV,eaLE]/\(∃ zeaLV,Sls w 3 (fun r=>∃ (eeaLV0:Int) (eeaLV1:Int) (eeaLV2:Int),r=[.int .i64 eeaLV0,.int .i64 eeaLV1,.int .i64 eeaLV2]/\(-9223372036854775808<=eeaLV0/\eeaLV0<=9223372036854775807)/\(-9223372036854775808<=eeaLV1/\eeaLV1<=9223372036854775807)/\(-9223372036854775808<=eeaLV2/\eeaLV2<=9223372036854775807)) eaLV zeaLV)/\(∃ zeaLE,Sls w 1 (fun r=>∃ (eeaLE:Bool),r=[.bool eeaLE]/\True) eaLE zeaLE)) aL zaL)/\(-9223372036854775808<=aSFactor/\aSFactor<=9223372036854775807)/\(-9223372036854775808<=aSUnits/\aSUnits<=9223372036854775807)/\(-9223372036854775808<=aSCull/\aSCull<=9223372036854775807)/\(-9223372036854775808<=aSWidth/\aSWidth<=9223372036854775807)/\(-9223372036854775808<=aSLine0/\aSLine0<=9223372036854775807)/\(-9223372036854775808<=aSLine1/\aSLine1<=9223372036854775807)/\(-9223372036854775808<=aSLine2/\aSLine2<=9223372036854775807)/\(-9223372036854775808<=aSLine3/\aSLine3<=9223372036854775807)/\(0<=aW/\aW<=255)/\(0<=aH/\aH<=255)/\(-9223372036854775808<=aFar/\aFar<=9223372036854775807))->Calls prog 5 #[.agg #[aL,aSFactor,aSUnits,.bool aSCcw,aSCull,aSWidth,aSLine0,aSLine1,aSLine2,aSLine3,.int .u8 aW,.int .u8 aH,aFar]] w (Ret (.bool true) w)
theorem HiddenShows_end (hw:HiddenShows_stmt):Rows.HiddenShowsSaid :=
 OpenClaim.holds_of_wide 5 Tryz.f5 rfl rfl rfl rfl rfl rfl rfl ⟨rfl,rfl,rfl,rfl,rfl⟩ rfl rfl rfl rfl rfl (by kernel_rfl) func5 (by kernel_rfl) (of_decide_eq_true (by kernel_rfl))
  (by unfold Func.isWrapper;rw[if_neg (of_decide_eq_false (by kernel_rfl))];exact ⟨rfl,rfl⟩)
  (fun os started H enc _=>nK Rows.hiddenShowsSpec 5 Tryz.f5 (by kernel_rfl) func5 rfl rfl
   (fun H ds hl=>by
    rw[Tryz.params5] at hl;obtain ⟨d0,rfl⟩:=aF2 ds hl;exact ⟨rfl,rfl,rfl⟩) (by kernel_rfl)
   (fun W args h=>by
    obtain ⟨H,enc,ds,ps,base,hA,hval,hlt,hfz⟩:=h;rw[Tryz.params5] at hA hval;obtain ⟨v0,vs0,d0,ds0,p0,q0,e0,-,-,h0,r0⟩:=trodAll_cons hA;obtain ⟨e1,-,-⟩:=trodAll_nil r0;obtain rfl:args=#[v0]:=by rw[<-Array.toArray_toList (xs:=args),e0,e1]
    obtain ⟨aL,aSFactor,aSUnits,aSCcw,aSCull,aSWidth,aSLine0,aSLine1,aSLine2,aSLine3,aW,aH,aFar,rfl,f0⟩:=cV (hval 0 _ v0 rfl rfl) h0;exact hw aL aSFactor aSUnits aSCcw aSCull aSWidth aSLine0 aSLine1 aSLine2 aSLine3 aW aH aFar W f0)
   os started H enc (ChangeSpec.witness6 (enc:=enc) (C:=Tryz.checked) false ⟨#[],#[.agg #[.slice none 0 0,.int .i64 0,.int .i64 0,.bool false,.int .i64 0,.int .i64 0,.int .i64 0,.int .i64 0,.int .i64 0,.int .i64 0,.int .u8 0,.int .u8 0,.int .i64 0]],[]⟩ 8 (by kernel_rfl) (by kernel_rfl) (by kernel_rfl) (by kernel_rfl)))
end
/- HiddenShows: whatever the input,the law returns true and leaves its arguments as they read. No condition. -/
theorem aI9 (av:Option Addr) (n cap:Nat) (s:SkP) (aW aH far:Int) (w:World) (hn:n<=maxLen) (my:∀ X,Calls prog 24 #[mR (.slice av n cap) s aW aH far] (w.ext X) (Ret (.bool false) (w.ext X))):Calls prog 5 #[mR (.slice av n cap) s aW aH far] w (Ret (.bool true) w):=by
 have MY:=jj my;have AW:=jj (fun w=>jQ w);unfold maxLen at hn;clear my
 go_enter func5,ntmps5
 go_upto_region 1 with fail
 refine aE (F:=fun w1=>Row w1 w.heap.size #[.slice av n cap,s.factor,s.units,.bool s.ccw,s.cull,s.width,s.c0,s.c1,s.c2,s.c3,.int .u8 aW,.int .u8 aH,far] 50/\∃ X,w1=w.ext X) ⟨by exact rx_,jz (by exact bx_)⟩ ?_;rintro w1 ⟨Ra,X1,hX1⟩;have MY0:=jj (by rw[hX1];exact MY.out X1:Calls prog 24 #[mR (.slice av n cap) s aW aH far] w1 (Ret (.bool false) w1));have HX:=jj (show ∃ X,w1=w.ext X from ⟨X1,hX1⟩);have ca:=Ra.cell;have fa:=Ra.frozen;have la:=Ra.lt;have da:=World.rowD_of Ra;clear Ra hX1 MY
 go_wp2_with (first|(go_at_call 24;with_reducible refine jn (MY0.out) fun X_=>?_)|(go_at_call 25;with_reducible refine jn (AW.out _) fun X_=>?_))
 go_ret;obtain ⟨X0,hX0⟩:=HX.out;subst hX0;exact Ret.of' rfl (by exact br_)
theorem aEb (v:Value) (S:List PsP) (l:List PolP) (s:SkP) (aW aH far:Int) (w:World) (h12:S.length<=12) (hp:PolsR w v S l) (hs:s.wide) (hW:0<=aW/\aW<=255) (hH:0<=aH/\aH<=255) (f0:0<=far) (f1:far<=16777215) (my:∀ X,Calls prog 24 #[mR v s aW aH far] (w.ext X) (Ret (.bool true) (w.ext X))):Calls prog 5 #[mR v s aW aH far] w (Ret (.bool true) w):=by
 obtain ⟨n,hn,n1,n2⟩:=mP (W:=1+aW%12) (H:=1+aH%12) (by omega) (by omega) (by omega) (by omega);have MY:=jj my;have AW:=jj (fun w=>jQ w);have BK:=jj (fun w=>aQb v s aW aH far n w hW hH hn f0 f1);have w0:1<=1+aW%12/\1+aW%12<=12:=by omega
 have SH:=jj (fun x y w h x0 x1 y0 y1=>vU v S l s x y far w h hs x0 x1 y0 y1);have RS:=jj (fun x y w h x0 x1 y0 y1=>aM5 v S l s x y far w h x0 x1 y0 y1);obtain ⟨W,hWe⟩:∃ W,1+aW%12=W:=⟨_,rfl⟩;obtain ⟨H,hHe⟩:∃ H,1+aH%12=H:=⟨_,rfl⟩;rw[hWe,hHe] at BK;rw[hWe] at w0;have HP:=jj hp;obtain ⟨-,av,cap,rfl,-,-⟩:=hp.r;clear hn hWe hHe my hp hs hW hH f0 f1
 go_enter func5,ntmps5
 go_upto_region 1 with fail
 refine aE (F:=fun w1=>Row w1 w.heap.size #[.slice av S.length cap,s.factor,s.units,.bool s.ccw,s.cull,s.width,s.c0,s.c1,s.c2,s.c3,.int .u8 aW,.int .u8 aH,far] 50/\∃ X,w1=w.ext X) ⟨by exact rx_,jz (by exact bx_)⟩ ?_;rintro w1 ⟨Ra,X1,hX1⟩;have MY0:=jj (by rw[hX1];exact MY.out X1:Calls prog 24 #[mR (.slice av S.length cap) s aW aH far] w1 (Ret (.bool true) w1));have HP1:=jj (by rw[hX1];exact HP.out.ext X1:PolsR w1 (.slice av S.length cap) S l);have HX:=jj (show ∃ X,w1=w.ext X from ⟨X1,hX1⟩);have HRa:=jj Ra;have ca:=Ra.cell;have fa:=Ra.frozen;have la:=Ra.lt;have da:=World.rowD_of Ra;clear Ra hX1 MY HP;go_upto_region 4 with (first|(go_at_call 24;with_reducible refine jn (MY0.out) fun X_=>?_)|(go_at_call 26;(with_reducible refine (BK.out _).mono ?_);rintro _ _ ⟨vc,vz,rfl,⟨XN,rfl⟩,hc,hz⟩;obtain ⟨-,-,a1,c1,rfl,-,-⟩:=hc;obtain ⟨-,-,a2,c2,rfl,-,-⟩:=hz))
 try simp only[List.length_replicate]
 refine aE (F:=fun w2=>Row w2 w.heap.size #[.slice av S.length cap,s.factor,s.units,.bool s.ccw,s.cull,s.width,s.c0,s.c1,s.c2,s.c3,.int .u8 aW,.int .u8 aH,far] 50/\Row w2 (w1.heap.size+X_.sz+XN.sz) #[W,H,.slice a1 n c1,.slice a2 n c2] 54/\PolsR w2 (.slice av S.length cap) S l/\∃ X,w2=w.ext X) ⟨by exact jg HRa.out,by exact rx_,by exact jg HP1.out,by obtain ⟨X0,hX0⟩:=HX.out;subst hX0;exact jz (by exact br_)⟩ ?_;obtain ⟨Bm,hBm⟩:∃ b,w1.heap.size+X_.sz+XN.sz=b:=⟨_,rfl⟩;rw[hBm];clear hBm HRa HX HP1 ca fa la da MY0 BK;rintro w2 ⟨Ra,Rm,hp,hX⟩;have HX:=jj hX;have HQ:=jj hp;have ca:=Ra.cell;have fa:=Ra.frozen;have la:=Ra.lt;have da:=World.rowD_of Ra;have cm:=Rm.cell;have fm:=Rm.frozen;have lm:=Rm.lt;clear Ra Rm hp hX;go_upto_region 5 with fail
 go_loopw [4] (fun i wr=>∃ (j:Nat),j<=n/\i=.int .i64 j/\∃ X,wr=w2.ext X)
  (fun i _=>n-(intOf i).toNat)
 case atStart=>exact ⟨0,by omega,rfl,_,(aN _).symm⟩
 case round =>
  obtain ⟨j,hj,rfl,X,rfl⟩:=hrel
  by_cases hlt:j<n
  ·have HJ:=jj (show j+1<=n from hlt);have hji:(j:Int)<n:=by omega
   have hw0:¬W=0:=by omega
   have hwb:(W==0)=false:=by simpa using hw0
   have x0:0<=(j:Int)%W/\(j:Int)%W<=65535:=by
    have e1:=Int.emod_nonneg (j:Int) hw0;have e2:=Int.emod_lt_of_pos (j:Int) (show 0<W by omega);omega
   have y0:0<=(j:Int)/W/\(j:Int)/W<=65535:=by
    have e1:=Int.ediv_nonneg (a:=(j:Int)) (b:=W) (by omega) (by omega);have e2:=Int.ediv_le_self (a:=(j:Int)) W (by omega);omega
   have hk:wrap64 ((j:Int)/W)=(j:Int)/W:=IntWalk.wrap64_in _ (by omega);rw[<-hk] at y0;have Q1:=fun Y=>SH.out ((j:Int)%W) (wrap64 ((j:Int)/W)) ((w2.ext X).ext Y) ((HQ.out.ext X).ext Y) x0.1 x0.2 y0.1 y0.2
   have Q2:=fun Y=>RS.out ((j:Int)%W) (wrap64 ((j:Int)/W)) ((w2.ext X).ext Y) ((HQ.out.ext X).ext Y) x0.1 x0.2 y0.1 y0.2
   generalize decide (iZ l s/\bK l s ((j:Int)%W) (wrap64 ((j:Int)/W)) far)=b at Q1 Q2;have HQ1:=jj Q1;have HQ2:=jj Q2;clear Q1 Q2 x0 y0 hk;cases b
   all_goals
    go_upto_region 7 with fail
    refine jy ?_
    repeat (go_big_quiet_step ((first|(go_at_call 27;with_reducible exact Calls.quiet_ret (HQ1.out _))|(go_at_call 28;with_reducible exact Calls.quiet_ret (HQ2.out _)))))
    refine jv fun X9=>?_
    go_wp2;go_roundw
    case rel=>exact ⟨j+1,HJ.out,by go_num,jz (by exact br_)⟩
    case measure=>have:=HJ.out;simp[intOf];omega
  ·obtain rfl:j=n:=by omega
   go_wp2_with (first|(go_at_call 25;with_reducible refine jn (AW.out _) fun X_=>?_))
   go_ret;obtain ⟨X0,hX0⟩:=HX.out;subst hX0;exact Ret.of' rfl (by exact br_)
theorem HiddenShows_holds:Rows.HiddenShowsSaid:=HiddenShows_end fun aL f u c k wd c0 c1 c2 c3 aW aH far w h=>by
 obtain ⟨hL,hf,hu,hk,hwd,h0,h1,h2,h3,hW,hH,hF⟩:=h;rcases qZ aL ⟨f,u,c,k,wd,c0,c1,c2,c3⟩ aW aH far w hL with ⟨a,n,cap,rfl,hn,my⟩|⟨S,l,h12,hp,f0,f1,my⟩
 ·exact aI9 a n cap ⟨f,u,c,k,wd,c0,c1,c2,c3⟩ aW aH far w hn my
 ·exact aEb aL S l ⟨f,u,c,k,wd,c0,c1,c2,c3⟩ aW aH far w h12 hp ⟨hf,hu,hk,hwd,h0,h1,h2,h3⟩ hW hH f0 f1 my
end Go.Proofs.YthcjfanigfgckaaGreat
