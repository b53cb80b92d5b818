/- HiddenLeast: whatever the input, the law returns true and leaves its arguments as they read. No condition. -/
import Derived.Test.YthcjfanigfgckaaGreatSHidb53
set_option linter.unusedVariables false
set_option linter.unusedSimpArgs false
set_option maxRecDepth 100000
set_option maxHeartbeats 16000000
namespace Go.Proofs.YthcjfanigfgckaaGreat
open Go.RowKit _root_.Go.Proofs.Tryz
instance jh54 : Coe Nat Value := ⟨fun n => .int .i64 n⟩
section
open Go.RowKit Go.ChangeShapes Go.WideShapes
def HiddenLeast_stmt:Prop:=∀ (aL:Value) (aSFactor:Int) (aSUnits:Int) (aSCcw:Bool) (aSCull:Int) (aSWidth:Int) (aSLine0:Int) (aSLine1:Int) (aSLine2:Int) (aSLine3:Int) (aW:Int) (aH:Int) (aFar:Int) (w:World),((∃ zaL,Sls w 2 (fun r=>∃ (eaLV:Value) (eaLE:Value),r=[eaLV,eaLE]/\(∃ zeaLV,Sls w 3 (fun r=>∃ (eeaLV0:Int) (eeaLV1:Int) (eeaLV2:Int),r=[.int .i64 eeaLV0,.int .i64 eeaLV1,.int .i64 eeaLV2]/\(-9223372036854775808<=eeaLV0/\eeaLV0<=9223372036854775807)/\(-9223372036854775808<=eeaLV1/\eeaLV1<=9223372036854775807)/\(-9223372036854775808<=eeaLV2/\eeaLV2<=9223372036854775807)) eaLV zeaLV)/\(∃ zeaLE,Sls w 1 (fun r=>∃ (eeaLE:Bool),r=[.bool eeaLE]/\True) eaLE zeaLE)) aL zaL)/\(-9223372036854775808<=aSFactor/\aSFactor<=9223372036854775807)/\(-9223372036854775808<=aSUnits/\aSUnits<=9223372036854775807)/\(-9223372036854775808<=aSCull/\aSCull<=9223372036854775807)/\(-9223372036854775808<=aSWidth/\aSWidth<=9223372036854775807)/\(-9223372036854775808<=aSLine0/\aSLine0<=9223372036854775807)/\(-9223372036854775808<=aSLine1/\aSLine1<=9223372036854775807)/\(-9223372036854775808<=aSLine2/\aSLine2<=9223372036854775807)/\(-9223372036854775808<=aSLine3/\aSLine3<=9223372036854775807)/\(0<=aW/\aW<=255)/\(0<=aH/\aH<=255)/\(-9223372036854775808<=aFar/\aFar<=9223372036854775807))->Calls prog 9 #[.agg #[aL,aSFactor,aSUnits,.bool aSCcw,aSCull,aSWidth,aSLine0,aSLine1,aSLine2,aSLine3,.int .u8 aW,.int .u8 aH,aFar]] w (Ret (.bool true) w)
theorem HiddenLeast_end (hw:HiddenLeast_stmt):Rows.HiddenLeastSaid :=
 OpenClaim.holds_of_wide 9 Tryz.f9 rfl rfl rfl rfl rfl rfl rfl ⟨rfl,rfl,rfl,rfl,rfl⟩ rfl rfl rfl rfl rfl (by kernel_rfl) func9 (by kernel_rfl) (of_decide_eq_true (by kernel_rfl))
  (by unfold Func.isWrapper;rw[if_neg (of_decide_eq_false (by kernel_rfl))];exact ⟨rfl,rfl⟩)
  (fun os started H enc _=>nK Rows.hiddenLeastSpec 9 Tryz.f9 (by kernel_rfl) func9 rfl rfl
   (fun H ds hl=>by
    rw[Tryz.params9] at hl;obtain ⟨d0,rfl⟩:=aF2 ds hl;exact ⟨rfl,rfl,rfl⟩) (by kernel_rfl)
   (fun W args h=>by
    obtain ⟨H,enc,ds,ps,base,hA,hval,hlt,hfz⟩:=h;rw[Tryz.params9] at hA hval;obtain ⟨v0,vs0,d0,ds0,p0,q0,e0,-,-,h0,r0⟩:=trodAll_cons hA;obtain ⟨e1,-,-⟩:=trodAll_nil r0;obtain rfl:args=#[v0]:=by rw[<-Array.toArray_toList (xs:=args),e0,e1]
    obtain ⟨aL,aSFactor,aSUnits,aSCcw,aSCull,aSWidth,aSLine0,aSLine1,aSLine2,aSLine3,aW,aH,aFar,rfl,f0⟩:=cV (hval 0 _ v0 rfl rfl) h0;exact hw aL aSFactor aSUnits aSCcw aSCull aSWidth aSLine0 aSLine1 aSLine2 aSLine3 aW aH aFar W f0)
   os started H enc (ChangeSpec.witness6 (enc:=enc) (C:=Tryz.checked) false ⟨#[],#[.agg #[.slice none 0 0,.int .i64 0,.int .i64 0,.bool false,.int .i64 0,.int .i64 0,.int .i64 0,.int .i64 0,.int .i64 0,.int .i64 0,.int .u8 0,.int .u8 0,.int .i64 0]],[]⟩ 8 (by kernel_rfl) (by kernel_rfl) (by kernel_rfl) (by kernel_rfl)))
end
/- HiddenLeast: whatever the input,the law returns true and leaves its arguments as they read. No condition. -/
theorem aCs (av:Option Addr) (n cap:Nat) (s:SkP) (aW aH far:Int) (w:World) (my:∀ X,Calls prog 24 #[mR (.slice av n cap) s aW aH far] (w.ext X) (Ret (.bool false) (w.ext X))):Calls prog 9 #[mR (.slice av n cap) s aW aH far] w (Ret (.bool true) w):=by
 have MY:=jj my;have AW:=jj (fun w=>jQ w);clear my
 go_enter func9,ntmps9
 go_upto_region 1 with fail
 refine aE (F:=fun w1=>Row w1 w.heap.size #[.slice av n cap,s.factor,s.units,.bool s.ccw,s.cull,s.width,s.c0,s.c1,s.c2,s.c3,.int .u8 aW,.int .u8 aH,far] 50/\∃ X,w1=w.ext X) ⟨by exact rx_,jz (by exact bx_)⟩ ?_;rintro w1 ⟨Ra,X1,hX1⟩;have MY0:=jj (by rw[hX1];exact MY.out X1:Calls prog 24 #[mR (.slice av n cap) s aW aH far] w1 (Ret (.bool false) w1));have HX:=jj (show ∃ X,w1=w.ext X from ⟨X1,hX1⟩);have ca:=Ra.cell;have fa:=Ra.frozen;have la:=Ra.lt;have da:=World.rowD_of Ra;clear Ra hX1 MY
 go_wp2_with (first|(go_at_call 24;with_reducible refine jn (MY0.out) fun X_=>?_)|(go_at_call 25;with_reducible refine jn (AW.out _) fun X_=>?_))
 go_ret;obtain ⟨X0,hX0⟩:=HX.out;subst hX0;exact Ret.of' rfl (by exact br_)
theorem yQ (v:Value) (S:List PsP) (l:List PolP) (s:SkP) (aW aH far:Int) (w:World) (hp:PolsR w v S l) (hh:¬iZ l s) (my:∀ X,Calls prog 24 #[mR v s aW aH far] (w.ext X) (Ret (.bool true) (w.ext X))):Calls prog 9 #[mR v s aW aH far] w (Ret (.bool true) w):=by
 have MY:=jj my;have AW:=jj (fun w=>jQ w);have RI:=jj (fun v S w h=>decide_eq_false hh▸pO v S l s w h);have HP:=jj hp;obtain ⟨-,av,cap,rfl,-,-⟩:=hp.r;clear my hp hh
 go_enter func9,ntmps9
 go_upto_region 1 with fail
 refine aE (F:=fun w1=>Row w1 w.heap.size #[.slice av S.length cap,s.factor,s.units,.bool s.ccw,s.cull,s.width,s.c0,s.c1,s.c2,s.c3,.int .u8 aW,.int .u8 aH,far] 50/\∃ X,w1=w.ext X) ⟨by exact rx_,jz (by exact bx_)⟩ ?_;rintro w1 ⟨Ra,X1,hX1⟩;have MY0:=jj (by rw[hX1];exact MY.out X1:Calls prog 24 #[mR (.slice av S.length cap) s aW aH far] w1 (Ret (.bool true) w1));have HP1:=jj (by rw[hX1];exact HP.out.ext X1:PolsR w1 (.slice av S.length cap) S l);have HX:=jj (show ∃ X,w1=w.ext X from ⟨X1,hX1⟩);have ca:=Ra.cell;have fa:=Ra.frozen;have la:=Ra.lt;have da:=World.rowD_of Ra;clear Ra hX1 MY HP
 go_wp2_with (first|(go_at_call 24;with_reducible refine jn (MY0.out) fun X_=>?_)|(go_at_call 34;with_reducible refine jn (RI.out _ S _ (by exact jg HP1.out)) fun X_=>?_)|(go_at_call 25;with_reducible refine jn (AW.out _) fun X_=>?_))
 go_ret;obtain ⟨X0,hX0⟩:=HX.out;subst hX0;exact Ret.of' rfl (by exact br_)
theorem elt_rep {n j:Nat} {z:Int} (h:j<n):elt (List.replicate n z) j=z:=by simp[elt,h]
theorem aGm {l:List PolP} {s:SkP} {W H far:Int} {n j:Nat} (h:ImOk W H (List.replicate n 0) (List.replicate n far)) (hj:j<n):elt (dO l s W H (List.replicate n 0) (List.replicate n far)).2 j=gE W j far (dP l s false 0 0 W H):=by
 rw[aNx h (by simpa using hj),elt_rep hj]
theorem yP (v:Value) (S:List PsP) (l:List PolP) (s:SkP) (aW aH far:Int) (w:World) (hp:PolsR w v S l) (hs:s.wide) (hh:iZ l s) (hW:0<=aW/\aW<=255) (hH:0<=aH/\aH<=255) (f0:0<=far) (f1:far<=16777215) (my:∀ X,Calls prog 24 #[mR v s aW aH far] (w.ext X) (Ret (.bool true) (w.ext X))):Calls prog 9 #[mR v s aW aH far] w (Ret (.bool true) w):=by
 obtain ⟨n,hn,n1,n2⟩:=mP (W:=1+aW%12) (H:=1+aH%12) (by omega) (by omega) (by omega) (by omega);have okI:ImOk (1+aW%12) (1+aH%12) (List.replicate n 0) (List.replicate n far):=uA (by omega) (by omega) (by omega) (by omega) hn f0 f1;have har:=aH7 okI;have MY:=jj my;have AW:=jj (fun w=>jQ w);have RI:=jj (fun v S w h=>decide_eq_true hh▸pO v S l s w h);have BK:=jj (fun w=>yY v s aW aH far n w hW hH hn f0 f1);have w0:1<=1+aW%12/\1+aW%12<=12:=by omega
 have h0:1<=1+aH%12/\1+aH%12<=12:=by omega
 have DR:=fun wb w {bm g1 k1 g2 k2:Nat} hp hx hg hI=>aP9 v S l s wb w (bm:=bm) (g1:=g1) (k1:=k1) (g2:=g2) (k2:=k2) (W:=1+aW%12) (H:=1+aH%12) (C:=List.replicate n 0) (Z:=List.replicate n far) hp hx hg hI hs hh
 have LN:=fun j (hj:j<n)=>aGm (l:=l) (s:=s) okI hj
 have ln1:=(hid_len (l:=l) (s:=s) (W:=1+aW%12) (H:=1+aH%12) (C:=List.replicate n 0) (Z:=List.replicate n far)).1;have ln2:=(hid_len (l:=l) (s:=s) (W:=1+aW%12) (H:=1+aH%12) (C:=List.replicate n 0) (Z:=List.replicate n far)).2;rw[List.length_replicate] at ln1 ln2;have FG:=fun w h=>xN v S l s false 0 0 (1+aW%12) (1+aH%12) w h hh.1 hh.2.1 har
 simp only[if_false,Bool.false_eq_true] at FG;have FT:=fun f (hf:f∈dP l s false 0 0 (1+aW%12) (1+aH%12))=>(vX hf).1
 obtain ⟨F,hF⟩:∃ F,dP l s false 0 0 (1+aW%12) (1+aH%12)=F:=⟨_,rfl⟩;rw[hF] at FG LN FT;obtain ⟨D,hD⟩:∃ D,dO l s (1+aW%12) (1+aH%12) (List.replicate n 0) (List.replicate n far)=D:=⟨_,rfl⟩;rw[hD] at DR LN ln1 ln2;obtain ⟨W,hWe⟩:∃ W,1+aW%12=W:=⟨_,rfl⟩;obtain ⟨H,hHe⟩:∃ H,1+aH%12=H:=⟨_,rfl⟩;rw[hWe,hHe] at BK DR hn okI FG;rw[hWe] at LN w0;rw[hHe] at h0;have BX:=jj (fun c z w=>aLq W H c z w);have HDR:=jj @DR;have HLN:=jj LN;have HFG:=jj FG;have HFT:=jj FT;have HL1:=jj ln1;have HL2:=jj ln2;have HOK:=jj okI;have HP:=jj hp;obtain ⟨-,av,cap,rfl,-,-⟩:=hp.r;clear my hp hs hh hW hH f0 f1 DR LN FG FT ln1 ln2 okI har hD hF hWe hHe
 go_enter func9,ntmps9
 go_upto_region 1 with fail
 refine aE (F:=fun w1=>Row w1 w.heap.size #[.slice av S.length cap,s.factor,s.units,.bool s.ccw,s.cull,s.width,s.c0,s.c1,s.c2,s.c3,.int .u8 aW,.int .u8 aH,far] 50/\∃ X,w1=w.ext X) ⟨by exact rx_,jz (by exact bx_)⟩ ?_;rintro w1 ⟨Ra,X1,hX1⟩;have MY0:=jj (by rw[hX1];exact MY.out X1:Calls prog 24 #[mR (.slice av S.length cap) s aW aH far] w1 (Ret (.bool true) w1));have HP1:=jj (by rw[hX1];exact HP.out.ext X1:PolsR w1 (.slice av S.length cap) S l);have HX:=jj (show ∃ X,w1=w.ext X from ⟨X1,hX1⟩);have HRa:=jj Ra;have ca:=Ra.cell;have fa:=Ra.frozen;have la:=Ra.lt;have da:=World.rowD_of Ra;clear Ra hX1 MY;go_upto_region 3 with (first|(go_at_call 24;with_reducible refine jn (MY0.out) fun X_=>?_)|(go_at_call 34;with_reducible refine jn (RI.out _ S _ (by exact jg HP1.out)) fun X_=>?_))
 refine aE (F:=fun w2=>Row w2 w.heap.size #[.slice av S.length cap,s.factor,s.units,.bool s.ccw,s.cull,s.width,s.c0,s.c1,s.c2,s.c3,.int .u8 aW,.int .u8 aH,far] 50/\∃ X,w2=w.ext X) ⟨by exact jg HRa.out,by obtain ⟨X0,hX0⟩:=HX.out;subst hX0;exact jz (by exact br_)⟩ ?_;clear HX HRa HP1 MY0 RI ca fa la da;rintro w2 ⟨Ra,X2,hX2⟩;have HP2:=jj (by rw[hX2];exact HP.out.ext X2:PolsR w2 (.slice av S.length cap) S l);have HX2:=jj (show ∃ X,w2=w.ext X from ⟨X2,hX2⟩);have HRa:=jj Ra;have ca:=Ra.cell;have fa:=Ra.frozen;have la:=Ra.lt;have da:=World.rowD_of Ra;clear Ra hX2;go_upto_region 4 with (first|(go_at_call 26;(with_reducible refine (BK.out _).mono ?_);rintro _ _ ⟨g1,k1,g2,k2,rfl,⟨XN,rfl⟩,A1,A2,b1,b2,ne12⟩;have HA1:=jj A1;have HA2:=jj A2;clear A1 A2))
 have l1:=HA1.out.lt;have l2:=HA2.out.lt;rw[World.size_ext] at l1 l2;refine aE (F:=fun w3=>Img w3 (w2.heap.size+XN.sz) g1 k1 g2 k2 W H (List.replicate n 0) (List.replicate n far)/\Row w3 w.heap.size #[.slice av S.length cap,s.factor,s.units,.bool s.ccw,s.cull,s.width,s.c0,s.c1,s.c2,s.c3,.int .u8 aW,.int .u8 aH,far] 50/\∃ X,w3=w2.ext X) ⟨⟨HOK.out,by rw[List.length_replicate];exact rx_,HA1.out.chg (p:=fun _=>False) (Chg.refl.alloc _) id,HA2.out.chg (p:=fun _=>False) (Chg.refl.alloc _) id,by omega,by omega,ne12⟩,(HRa.out.ext XN).alloc _,jz (by exact br_)⟩ ?_;obtain ⟨Bm,hBm⟩:∃ b,w2.heap.size+XN.sz=b:=⟨_,rfl⟩;rw[hBm] at l1 l2 ⊢;have hag:w.heap.size<g1/\w.heap.size<g2:=by omega
 clear hBm HA1 HA2 HRa ca fa la da BK;rintro w3 ⟨hI3,Ra,hX3⟩;have HI3:=jj hI3;have HX3:=jj hX3;have HRa:=jj Ra;have ca:=Ra.cell;have fa:=Ra.frozen;have la:=Ra.lt;have da:=World.rowD_of Ra;clear Ra hI3 hX3;go_upto_region 5 with (first|(go_at_call 31;(with_reducible refine (HDR.out w2 _ HP2.out HX3.out ⟨b1,b2⟩ HI3.out).mono ?_);rintro _ w4 ⟨rfl,I4,C4⟩;have RM:=I4.row;rw[HL1.out] at RM;have HI4:=jj I4;have HM4:=jj RM;have HA4:=jj (C4.row HRa.out (by omega));have HX4:=jj (Below.chg (by obtain ⟨Y,hY⟩:=HX3.out;rw[hY];exact (Below.refl _ _).ext (Nat.le_refl _) Y:Below w2.heap.size w2 w3) C4 (by obtain ⟨Y,hY⟩:=HX3.out;rw[hY];simp) (fun k hk h=>by omega));clear I4 RM C4))
 have HP4:=jj (by obtain ⟨Y,hY⟩:=HX4.out.toExt;rw[hY];exact HP2.out.ext Y:PolsR w4 (.slice av S.length cap) S l);have HX5:=jj (by obtain ⟨Y,hY⟩:=HX4.out.toExt;obtain ⟨X0,hX0⟩:=HX2.out;rw[hY,hX0];exact ⟨_,World.ext_ext ..⟩:∃ X,w4=w.ext X);have HAC:=jj (HI4.out.z);clear ca fa la da HX2 HX3 HX4 HI3 HRa HP2 HDR HOK HP HI4 b1 b2 l1 l2 hag;have ca:=HA4.out.cell;have fa:=HA4.out.frozen;have la:=HA4.out.lt;have da:=World.rowD_of HA4.out;have cm:=HM4.out.cell;have fm:=HM4.out.frozen;have lm:=HM4.out.lt;refine aJ 7 [none,none,none,none,none,some ([],srV (R4 0 0 W H)),some ([5],srR frK F)] (by kernel_rfl) (by kernel_rfl) ?_;simp only[jx]
 (repeat (first|(refine aA ?_;intro K_ hK_;go_big_quiet_op;go_big_quiet_on)|simp only[jw]))
 refine aF rfl (fun w_ hw_ hk_ K_ hK_=>?_) (fun e5 f5=>?_)
 ·obtain ⟨X_,rfl⟩:=hw_;go_simp
  go_at_call 37
  with_reducible refine (BX.out _ _ _).mono ?_
  rintro _ _ ⟨rfl,hX⟩;exact hK_ _ _ rfl hX
 obtain rfl:=f5
 (repeat (first|(refine aA ?_;intro K_ hK_;go_big_quiet_op;go_big_quiet_on)|simp only[jw]))
 refine aF rfl (fun w_ hw_ hk_ K_ hK_=>?_) (fun e6 f6=>?_)
 ·obtain ⟨X_,rfl⟩:=hw_;go_simp
  go_at_call 36
  with_reducible refine (HFG.out _ (HP4.out.ext _)).mono ?_
  rintro _ _ ⟨v,rfl,h1,h2⟩;exact hK_ _ _ h1 h2
 obtain ⟨fa6,fc6,rfl⟩:=f6
 (repeat (first|(refine aA ?_;intro K_ hK_;go_big_quiet_op;go_big_quiet_on)|simp only[jw]))
 refine aT ?_;intro w_ hw_ kk;obtain ⟨X9,rfl⟩:=hw_;have HF5:=jj ((kk (6,_) (by repeat (first|exact List.mem_cons_self|refine jk ?_))):Recs frK _ (.slice fa6 F.length fc6) F);clear kk;go_upto_region 6 with fail
 refine aE (F:=fun w5=>Row w5 w.heap.size #[.slice av S.length cap,s.factor,s.units,.bool s.ccw,s.cull,s.width,s.c0,s.c1,s.c2,s.c3,.int .u8 aW,.int .u8 aH,far] 50/\Row w5 Bm #[W,H,.slice (some ⟨g1,0,none⟩) n k1,.slice (some ⟨g2,0,none⟩) n k2] 54/\Recs frK w5 (.slice fa6 F.length fc6) F/\Arr w5 g2 k2 D.2/\PolsR w5 (.slice av S.length cap) S l/\∃ X,w5=w.ext X) ⟨HA4.out.ext X9,HM4.out.ext X9,HF5.out,HAC.out.chg (p:=fun _=>False) (Chg.of_ext X9) id,HP4.out.ext X9,by obtain ⟨X0,hX0⟩:=HX5.out;rw[hX0];exact ⟨_,World.ext_ext ..⟩⟩ ?_;clear ca fa la da cm fm lm HA4 HM4 HF5 HAC HP4 HX5;rintro w5 ⟨Ra,Rm,hf,hz,hp,hX⟩;have HX:=jj hX;have HP5:=jj hp;have HF5:=jj hf;have HAC:=jj hz;have HRa:=jj Ra;have HRm:=jj Rm;have ca:=Ra.cell;have fa:=Ra.frozen;have la:=Ra.lt;have da:=World.rowD_of Ra;have cm:=Rm.cell;have fm:=Rm.frozen;have lm:=Rm.lt;have lg:=hz.lt;have lgh:g2<=w5.heap.size:=by omega
 have hwh:wrap64 (W*H)=n:=by rw[IntWalk.wrap64_in _ (by omega)];exact hn
 clear Ra Rm hf hz hp hX;go_upto_region 8 with fail
 clear hwh;go_upto_region 9 with fail
 go_loopw [5] (fun i wr=>∃ (j:Nat) (X:Xt),j<=n/\i=.int .i64 j/\wr=w5.ext X)
  (fun i _=>n-(intOf i).toNat)
 case atStart=>exact ⟨0,⟨#[],w5.drawn⟩,by omega,rfl,(aKu _).symm⟩
 case round =>
  obtain ⟨j,X,hj,rfl,rfl⟩:=hrel
  by_cases hlt:j<n
  ·have hji:(j:Int)<n:=by omega
   have hw0:¬W=0:=by omega
   have hwb:(W==0)=false:=by simpa using hw0
   have y0':0<=(j:Int)/W:=Int.ediv_nonneg (by omega) (by omega);have y1':(j:Int)/W<=1024:=by
    have e2:=Int.ediv_le_self (a:=(j:Int)) W (by omega);omega
   have dz:=HAC.out.cell (i:=j) (by rw[HL2.out];exact hlt);rw[HLN.out j hlt] at dz;have HJ:=jj (show j+1<=n from hlt);go_upto_region 13 with fail
   go_loopw [6,7] (fun zz kx wr=>∃ (k:Nat) (X:Xt),k<=F.length/\kx=.int .i64 k/\zz=.int .i64 (gE W j far (F.take k))/\wr=w5.ext X) (fun _ kx _=>F.length-(intOf kx).toNat)
   case atStart=>exact ⟨0,X,by omega,rfl,rfl,rfl⟩
   case round =>
    clear hlt;obtain ⟨k,X,hk,rfl,rfl,rfl⟩:=hrel
    by_cases hlt:k<F.length
    ·have LS:=jj (yO W j far F k hlt);obtain ⟨hfl,a1,cap1,q1,-,h3⟩:=HF5.out;rcases h3 with rfl|⟨b,off,rfl,hb,hcl⟩
     ·simp at hlt
     obtain ⟨rfl,rfl⟩:fa6=some ⟨b,off,none⟩/\fc6=cap1:=by simpa using q1
     have hfk:F[k]?=some F[k]:=by simp[hlt]
     have af:=HFT.out F[k] (by simp);have cl:=hcl k F[k] hfk;clear q1 hcl;obtain ⟨f,hF⟩:∃ f,F[k]=f:=⟨_,rfl⟩;rw[hF] at cl af;have HF:=jj hF;clear hF hfk;have e0:w5.cell? ⟨b,off+k*8+0,none⟩=some (.int .i64 f.x):=cl 0 _ rfl;have e1:w5.cell? ⟨b,off+k*8+1,none⟩=some (.int .i64 f.y):=cl 1 _ rfl;have e2:w5.cell? ⟨b,off+k*8+2,none⟩=some (.int .i64 f.z):=cl 2 _ rfl;simp only[Nat.add_zero] at e0;clear cl;have hb':b<=w5.heap.size:=by omega
     have hki:(k:Int)<F.length:=by omega
     have hfl':(F.length:Int)<=1099511627776:=by omega
     go_upto_region 15 with fail
     by_cases ax:f.x=(j:Int)%W
     ·have ax':(f.x==(j:Int)%W)=true:=by simpa using ax
      by_cases ay:f.y=(j:Int)/W
      ·have ay':(f.y==(j:Int)/W)=true:=by simpa using ay
       have na:aLa W j f:=⟨ax,ay,af⟩;have NA:=jj na;clear na ax ay af;refine jy ?_
       repeat (go_big_quiet_step ((fail)))
       refine jv fun X4=>?_
       go_wp2;go_roundw
       case rel=>exact ⟨k+1,_,by omega,by go_num,by rw[LS.out,HF.out];unfold aIo;rw[if_pos NA.out],World.ext_ext⟩
       case measure=>simp[intOf];omega
      ·have ay':(f.y==(j:Int)/W)=false:=by simpa using ay
       have na:¬aLa W j f:=fun h=>ay h.2.1
       have NA:=jj na;clear na ax ay af;refine jy ?_
       repeat (go_big_quiet_step ((fail)))
       refine jv fun X4=>?_
       go_wp2;go_roundw
       case rel=>exact ⟨k+1,_,by omega,by go_num,by rw[LS.out,HF.out];unfold aIo;rw[if_neg NA.out],World.ext_ext⟩
       case measure=>simp[intOf];omega
     ·have ax':(f.x==(j:Int)%W)=false:=by simpa using ax
      have na:¬aLa W j f:=fun h=>ax h.1
      have NA:=jj na;clear na ax af;refine jy ?_
      repeat (go_big_quiet_step ((fail)))
      refine jv fun X4=>?_
      go_wp2;go_roundw
      case rel=>exact ⟨k+1,_,by omega,by go_num,by rw[LS.out,HF.out];unfold aIo;rw[if_neg NA.out],World.ext_ext⟩
      case measure=>simp[intOf];omega
    ·obtain rfl:k=F.length:=by omega
     rw[List.take_length];go_wp2;go_roundw
     case rel=>exact ⟨j+1,_,HJ.out,by go_num,rfl⟩
     case measure=>have:=HJ.out;simp[intOf];omega
  ·obtain rfl:j=n:=by omega
   go_upto_region 19 with fail
   refine aE (F:=fun w6=>Row w6 w.heap.size #[.slice av S.length cap,s.factor,s.units,.bool s.ccw,s.cull,s.width,s.c0,s.c1,s.c2,s.c3,.int .u8 aW,.int .u8 aH,far] 50/\Row w6 Bm #[W,H,.slice (some ⟨g1,0,none⟩) j k1,.slice (some ⟨g2,0,none⟩) j k2] 54/\Recs frK w6 (.slice fa6 F.length fc6) F/\PolsR w6 (.slice av S.length cap) S l/\∃ X,w6=w.ext X) ⟨HRa.out.ext X,HRm.out.ext X,HF5.out.ext X,HP5.out.ext X,by obtain ⟨X0,hX0⟩:=HX.out;rw[hX0];exact ⟨_,World.ext_ext ..⟩⟩ ?_;clear ca fa la da cm fm lm HRa HRm HF5 HP5 HX HAC lg lgh;rintro w6 ⟨Ra,Rm,hf,hp,hX⟩;have HX:=jj hX;have HP6:=jj hp;have HF6:=jj hf;have ca:=Ra.cell;have fa:=Ra.frozen;have la:=Ra.lt;have da:=World.rowD_of Ra;have cm:=Rm.cell;have fm:=Rm.frozen;have lm:=Rm.lt;clear Ra Rm hf hp hX;refine aJ 12 [some ([],srV (.bool true)),none,none,none,none,none,none,none,some ([],srV (R4 0 0 W H)),some ([8],srR frK F),some ([9],srV (.bool true)),none] (by kernel_rfl) (by kernel_rfl) ?_;simp only[jx]
   (repeat (first|(refine aA ?_;intro K_ hK_;go_big_quiet_op;go_big_quiet_on)|simp only[jw]))
   refine aF rfl (fun w_ hw_ hk_ K_ hK_=>?_) (fun e0 f0=>?_)
   ·obtain ⟨X_,rfl⟩:=hw_;go_simp
    go_at_call 25
    with_reducible refine (AW.out _).mono ?_
    rintro _ _ ⟨rfl,hX⟩;exact hK_ _ _ rfl hX
   obtain rfl:=f0
   (repeat (first|(refine aA ?_;intro K_ hK_;go_big_quiet_op;go_big_quiet_on)|simp only[jw]))
   refine aF rfl (fun w_ hw_ hk_ K_ hK_=>?_) (fun e8 f8=>?_)
   ·obtain ⟨X_,rfl⟩:=hw_;go_simp
    go_at_call 37
    with_reducible refine (BX.out _ _ _).mono ?_
    rintro _ _ ⟨rfl,hX⟩;exact hK_ _ _ rfl hX
   obtain rfl:=f8
   (repeat (first|(refine aA ?_;intro K_ hK_;go_big_quiet_op;go_big_quiet_on)|simp only[jw]))
   refine aF rfl (fun w_ hw_ hk_ K_ hK_=>?_) (fun e9 f9=>?_)
   ·obtain ⟨X_,rfl⟩:=hw_;go_simp
    go_at_call 36
    with_reducible refine (HFG.out _ (HP6.out.ext _)).mono ?_
    rintro _ _ ⟨v,rfl,h1,h2⟩;exact hK_ _ _ h1 h2
   obtain ⟨fa9,fc9,rfl⟩:=f9
   (repeat (first|(refine aA ?_;intro K_ hK_;go_big_quiet_op;go_big_quiet_on)|simp only[jw]))
   refine aF rfl (fun w_ hw_ hk_ K_ hK_=>?_) (fun e10 f10=>?_)
   ·obtain ⟨X_,rfl⟩:=hw_;have h1:Recs frK _ (.slice fa9 F.length fc9) F:=(hk_ (9,_) (by repeat (first|exact List.mem_cons_self|refine jk ?_))) (by simp);go_simp
    go_at_call 14
    with_reducible refine (aJd (HF6.out.ext _) h1).mono ?_
    rintro _ _ ⟨rfl,hX⟩;exact hK_ _ _ rfl hX
   obtain rfl:=f10
   (repeat (first|(refine aA ?_;intro K_ hK_;go_big_quiet_op;go_big_quiet_on)|simp only[jw]))
   refine aT ?_;intro w_ hw_ kk;obtain ⟨X8,rfl⟩:=hw_;clear kk;go_wp2;go_ret;obtain ⟨X0,hX0⟩:=HX.out;subst hX0;exact Ret.of' (by simp) (by exact br_)
theorem HiddenLeast_holds:Rows.HiddenLeastSaid:=HiddenLeast_end fun aL f u c k wd c0 c1 c2 c3 aW aH far w h=>by
 obtain ⟨hL,hf,hu,hk,hwd,h0,h1,h2,h3,hW,hH,hF⟩:=h;rcases qZ aL ⟨f,u,c,k,wd,c0,c1,c2,c3⟩ aW aH far w hL with ⟨a,n,cap,rfl,hn,my⟩|⟨S,l,h12,hp,f0,f1,my⟩
 ·exact aCs a n cap ⟨f,u,c,k,wd,c0,c1,c2,c3⟩ aW aH far w my
 ·by_cases hh:iZ l ⟨f,u,c,k,wd,c0,c1,c2,c3⟩
  ·exact yP aL S l ⟨f,u,c,k,wd,c0,c1,c2,c3⟩ aW aH far w hp ⟨hf,hu,hk,hwd,h0,h1,h2,h3⟩ hh hW hH f0 f1 my
  ·exact yQ aL S l ⟨f,u,c,k,wd,c0,c1,c2,c3⟩ aW aH far w hp hh my
end Go.Proofs.YthcjfanigfgckaaGreat
