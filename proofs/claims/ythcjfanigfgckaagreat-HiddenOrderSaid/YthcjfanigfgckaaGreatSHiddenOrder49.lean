import Derived.Test.YthcjfanigfgckaaGreatSHiddenOrder48
set_option linter.unusedVariables false
set_option linter.unusedSimpArgs false
set_option maxRecDepth 100000
set_option maxHeartbeats 16000000
namespace Go.Proofs.YthcjfanigfgckaaGreat
open Go.RowKit
def fewP (s:PsP):Prop:=s.vn<=8/\s.en<=8
instance fewPDec (s : PsP) : Decidable (fewP s) := by unfold fewP; exact inferInstance
def fewS (S:List PsP):Prop:=S.length<=12/\∀ s∈S,fewP s
instance fewSDec (S : List PsP) : Decidable (fewS S) := by unfold fewS; exact inferInstance
theorem few_no {s:PsP} (h:¬fewP s):8<s.vn\/(¬8<s.vn/\8<s.en):=by unfold fewP at h;omega
theorem rhfew_big (av:Option Addr) (n cap:Nat) (w:World) (h:12<n) (hn:n<=maxLen):Calls Tryz.prog 64 #[.slice av n cap] w (Ret (.bool false) w):=by
 unfold maxLen at hn;have hi:(12:Int)<n:=by omega
 go_enter Tryz.func64,Tryz.ntmps64
 go_wp2;go_ret;exact Ret.of' rfl (by exact bl_)
theorem rhfew (v:Value) (S:List PsP) (w:World) (h:Recs psK w v S) (h12:S.length<=12):Calls Tryz.prog 64 #[v] w (Ret (.bool (decide (fewS S))) w):=by
 obtain ⟨-,av,cap,rfl,-,hcl⟩:=h;have h12i:¬(12:Int)<S.length:=by omega
 obtain ⟨Z,hZ⟩:∃ Z,decide (fewS S)=Z:=⟨_,rfl⟩;rw[hZ];have Z1:=jj (show (∀ s∈S,fewP s)->Z=true from fun q=>by rw[<-hZ];exact decide_eq_true ⟨h12,q⟩);have Z2:=jj (show ∀ s∈S,¬fewP s->Z=false from fun s hs q=>by rw[<-hZ];exact decide_eq_false fun k=>q (k.2 s hs));have HCL:=jj hcl;clear hZ hcl
 go_enter Tryz.func64,Tryz.ntmps64
 go_wp2;go_loopw [3] (fun i wr=>∃ (j:Nat),j<=S.length/\i=.int .i64 j/\Hid (∀ i f,i<j->S[i]?=some f->fewP f)/\∃ X,wr=w.ext X)
  (fun i _=>S.length-(intOf i).toNat)
 case atStart=>exact ⟨0,by omega,rfl,jj (fun i f hi=>by omega),_,(ext_none' _).symm⟩
 case round =>
  obtain ⟨j,hj,rfl,hF,X,rfl⟩:=hrel
  by_cases hlt:j<S.length
  ·have HJ:=jj (show j+1<=S.length from hlt);have hji:(j:Int)<S.length:=by omega
   obtain ⟨a,ha⟩:∃ f,S[j]?=some f:=⟨_,List.getElem?_eq_getElem hlt⟩;rcases HCL.out with e|⟨lb,lo,rfl,hlb,hcl⟩
   ·rw[e] at hlt;simp at hlt
   have pa0:w.cell? ⟨lb,lo+j*2,none⟩=some a.vs:=hcl j _ ha 0 _ rfl;have pa1:w.cell? ⟨lb,lo+j*2+1,none⟩=some a.es:=hcl j _ ha 1 _ rfl
   by_cases hf:fewP a
   ·have nxt:=jj (take_ok hF.out ha hf);have b1:¬(8:Int)<a.vn:=by have:=hf.1;omega
    have b2:¬(8:Int)<a.en:=by have:=hf.2;omega
    clear hcl hf hF ha;go_wp2;go_roundw
    case rel=>exact ⟨j+1,HJ.out,by go_num,nxt,jz (by exact br_)⟩
    case measure=>have:=HJ.out;simp[intOf];omega
   ·have e:=Z2.out a (List.mem_of_getElem? ha) hf;subst e;rcases few_no hf with t1|⟨t1,t2⟩
    ·have b1:(8:Int)<a.vn:=by omega
     clear hcl hf hF ha Z1 Z2;go_wp2;go_ret;exact Ret.of' rfl (by exact br_)
    ·have b1:¬(8:Int)<a.vn:=by omega
     have b2:(8:Int)<a.en:=by omega
     clear hcl hf hF ha Z1 Z2;go_wp2;go_ret;exact Ret.of' rfl (by exact br_)
  ·obtain rfl:j=S.length:=by omega
   have e:=Z1.out (all_ok hF.out);subst e;clear Z1 Z2 hF;go_wp2;go_ret;exact Ret.of' rfl (by exact br_)
abbrev artV (v:Value) (s:SkP) (W H far:Int):Value:=.agg #[v,.int .i64 s.factor,.int .i64 s.units,.bool s.ccw,.int .i64 s.cull,.int .i64 s.width,.int .i64 s.c0,.int .i64 s.c1,.int .i64 s.c2,.int .i64 s.c3,.int .u8 W,.int .u8 H,.int .i64 far]
theorem hmay27 (av:Option Addr) (n cap:Nat) (s:SkP) (W H far:Int) (b:Bool) (w:World) (FW:∀ X,Calls Tryz.prog 64 #[.slice av n cap] (w.ext X) (Ret (.bool b) (w.ext X))):Calls Tryz.prog 24 #[artV (.slice av n cap) s W H far] w (Ret (.bool (b&&(decide (0<=far)&&decide (far<=16777215)))) w):=by
 obtain ⟨B,hB⟩:∃ B,(b&&(decide (0<=far)&&decide (far<=16777215)))=B:=⟨_,rfl⟩;rw[hB];have HB:=jj hB;have FH:=jj FW;clear hB FW
 go_enter Tryz.func24,Tryz.ntmps24
 go_upto_region 1 with fail
 refine wp_abs (F:=fun w1=>Row w1 w.heap.size #[.slice av n cap,.int .i64 s.factor,.int .i64 s.units,.bool s.ccw,.int .i64 s.cull,.int .i64 s.width,.int .i64 s.c0,.int .i64 s.c1,.int .i64 s.c2,.int .i64 s.c3,.int .u8 W,.int .u8 H,.int .i64 far] 50/\∃ X,w1=w.ext X) ⟨by exact rx_,jz (by exact bx_)⟩ ?_;rintro w1 ⟨Ra,X1,hX1⟩;have FH1:=jj (fun X=>show Calls Tryz.prog 64 #[.slice av n cap] (w1.ext X) (Ret (.bool b) (w1.ext X)) by rw[hX1,World.ext_ext];exact FH.out _);have FH2:=jj (show Calls Tryz.prog 64 #[.slice av n cap] w1 (Ret (.bool b) w1) by rw[hX1];exact FH.out _);have HX:=jj (show ∃ X,w1=w.ext X from ⟨X1,hX1⟩);clear hX1 FH;have ca:=Ra.cell;have fa:=Ra.frozen;have la:=Ra.lt;clear Ra;cases b
 ·have e:=HB.out;simp only[Bool.false_and] at e;subst e;clear HB
  go_wp2_with (first|(go_at_call 64;(with_reducible refine (FH2.out).mono ?_);rintro _ _ ⟨rfl,X_,rfl⟩)|(go_at_call 64;(with_reducible refine (FH1.out _).mono ?_);rintro _ _ ⟨rfl,X_,rfl⟩))
  go_ret;obtain ⟨X0,hX0⟩:=HX.out;subst hX0;exact Ret.of' rfl (by exact br_)
 ·by_cases h0:0<=far
  ·by_cases h1:far<=16777215
   ·have e:=HB.out;simp only[h0,h1,decide_true,Bool.and_self] at e;subst e;clear HB
    go_wp2_with (first|(go_at_call 64;(with_reducible refine (FH2.out).mono ?_);rintro _ _ ⟨rfl,X_,rfl⟩)|(go_at_call 64;(with_reducible refine (FH1.out _).mono ?_);rintro _ _ ⟨rfl,X_,rfl⟩))
    go_ret;obtain ⟨X0,hX0⟩:=HX.out;subst hX0;exact Ret.of' (by simp[h0,h1]) (by exact br_)
   ·have e:=HB.out;simp only[h0,h1,decide_true,decide_false,Bool.and_false] at e;subst e;clear HB
    go_wp2_with (first|(go_at_call 64;(with_reducible refine (FH2.out).mono ?_);rintro _ _ ⟨rfl,X_,rfl⟩)|(go_at_call 64;(with_reducible refine (FH1.out _).mono ?_);rintro _ _ ⟨rfl,X_,rfl⟩))
    go_ret;obtain ⟨X0,hX0⟩:=HX.out;subst hX0;exact Ret.of' (by simp[h0];try omega) (by exact br_)
  ·have e:=HB.out;simp only[h0,decide_false,Bool.false_and,Bool.and_false] at e;subst e;clear HB
   go_wp2_with (first|(go_at_call 64;(with_reducible refine (FH2.out).mono ?_);rintro _ _ ⟨rfl,X_,rfl⟩)|(go_at_call 64;(with_reducible refine (FH1.out _).mono ?_);rintro _ _ ⟨rfl,X_,rfl⟩))
   go_ret;obtain ⟨X0,hX0⟩:=HX.out;subst hX0;exact Ret.of' (by simp;try omega) (by exact br_)
def clrZ (Z:List Int) (far:Int) (j:Nat):List Int:=List.replicate j far++Z.drop j
theorem clrZ_next {Z:List Int} {far:Int} {j:Nat} (h:j<Z.length):(clrZ Z far j).set j far=clrZ Z far (j+1):=by
 unfold clrZ;rw[List.set_append_right _ _ (by simp),List.length_replicate,Nat.sub_self,List.drop_eq_getElem_cons h,List.set_cons_zero,List.replicate_succ',List.append_assoc]
 rfl
theorem clrZ_len {Z:List Int} {far:Int} {j:Nat} (h:j<=Z.length):(clrZ Z far j).length=Z.length:=by
 unfold clrZ;rw[List.length_append,List.length_replicate,List.length_drop];omega
theorem rclear2 (W H:Int) (c z:Value) (C Z:List Int) (far:Int) (w:World) (hc:Rd w c C) (hz:Rd w z Z) (h:ImOk W H C Z) (f0:0<=far) (f1:far<=16777215):Calls Tryz.prog 70 #[Im W H c z,R4 0 0 W H,.int .i64 2,C4 0 0 0 0,.int .i64 far,M4 false false false false] w (Copies W H C (List.replicate C.length far) w):=by
 have CP:=jj (fun w hc hz=>rcopy_is W H c z C Z w hc hz h);have HC:=jj hc;have HZ:=jj hz;have OK:=jj h;clear hc hz h
 go_enter Tryz.func70,Tryz.ntmps70
 go_upto_region 1 with fail
 refine wp_abs (F:=fun w1=>Row w1 w.heap.size #[.int .i64 W,.int .i64 H,c,z] 54/\Row w1 (w.heap.size+1) #[.int .i64 0,.int .i64 0,.int .i64 W,.int .i64 H] 29/\(∃ d,Row w1 (w.heap.size+1+1+1+1) #[.int .i64 0,.int .i64 0,d,d] 54)/\∃ X,w1=w.ext X) ⟨by exact rx_,by exact rx_,⟨_,by exact rx_⟩,jz (by exact bx_)⟩ ?_;rintro w1 ⟨Ra,Rb,⟨d,Rc⟩,hX⟩;have HRa:=jj Ra;have HRb:=jj Rb;have HRc:=jj Rc;have HX:=jj hX;have ca:=Ra.cell;have fa:=Ra.frozen;have la:=Ra.lt;obtain ⟨X0,hX0⟩:=hX;have HC1:=jj (by rw[hX0];exact HC.out.ext X0:Rd w1 c C);have HZ1:=jj (by rw[hX0];exact HZ.out.ext X0:Rd w1 z Z);clear Ra Rb Rc hX0;go_upto_region 2 with (first|(go_at_call 30;(with_reducible refine (CP.out _ HC1.out HZ1.out).mono ?_);rintro _ _ ⟨g1,k1,g2,k2,rfl,⟨XC,rfl⟩,A1,A2,b1,b2,ne⟩))
 have CH:Chg (fun b=>b=w.heap.size) (w1.ext XC) (((((w1.setCell ⟨w.heap.size,0,none⟩ (.int .i64 W)).setCell ⟨w.heap.size,1,none⟩ (.int .i64 H)).setCell ⟨w.heap.size,2,none⟩ (sl g1 C.length k1)).setCell ⟨w.heap.size,3,none⟩ (sl g2 C.length k2)).ext XC):=Chg.both (((((Chg.one _ _ _ _).setCell (fun _=>rfl) _).setCell (fun _=>rfl) _).setCell (fun _=>rfl) _)) (by simp[World.setCell]) XC;have RI:=((((HRa.out.set 0 (.int .i64 W)).set 1 (.int .i64 H)).set 2 (sl g1 C.length k1)).set 3 (sl g2 C.length k2)).ext XC;have hg1:g1≠w.heap.size:=by omega
 have hg2:g2≠w.heap.size:=by omega
 have g1w:w.heap.size<=g1:=by omega
 have g2w:w.heap.size<=g2:=by omega
 have g1b:w.heap.size+1+1+1+1<g1:=by have:=HRc.out.lt;omega
 have g2b:w.heap.size+1+1+1+1<g2:=by have:=HRc.out.lt;omega
 refine wp_abs (F:=fun w2=>Img w2 w.heap.size g1 k1 g2 k2 W H C Z/\Row w2 (w.heap.size+1) #[.int .i64 0,.int .i64 0,.int .i64 W,.int .i64 H] 29/\Row w2 (w.heap.size+1+1+1+1) #[.int .i64 0,.int .i64 0,d,d] 54/\∃ X,w2=w.ext X) ⟨⟨OK.out,by simpa using RI,A1.chg CH hg1,A2.chg CH hg2,hg1,hg2,ne⟩,CH.row (HRb.out.ext XC) (by omega),CH.row (HRc.out.ext XC) (by omega),by obtain ⟨X0,hX0⟩:=HX.out;subst hX0;exact jz (by exact br_)⟩ ?_;clear CH RI A1 A2 b1 b2 HRa HRb HRc HX HC1 HZ1 ca fa la;rintro w2 ⟨hI,hb,hc2,hX⟩;have HI:=jj hI;have HB:=jj hb;have HC2:=jj hc2;have HX:=jj hX;clear hI hb hc2 hX;go_upto_region 3 with fail
 go_loopw [13] (fun i wr=>∃ (j:Nat),j<=C.length/\i=.int .i64 j/\Hid (Img wr w.heap.size g1 k1 g2 k2 W H C (clrZ Z far j))/\Hid (Row wr (w.heap.size+1) #[.int .i64 0,.int .i64 0,.int .i64 W,.int .i64 H] 29)/\Hid (Row wr (w.heap.size+1+1+1+1) #[.int .i64 0,.int .i64 0,d,d] 54)/\Hid (∃ X,wr=w.ext X))
  (fun i _=>C.length-(intOf i).toNat)
 case atStart=>exact ⟨0,by omega,rfl,jj (by simpa [clrZ] using HI.out),HB,HC2,HX⟩
 case round =>
  clear HI HB HC2 HX;obtain ⟨j,hj,rfl,hI,hB,hR,hX⟩:=hrel;have ci:=hI.out.row.cell;have fi:=hI.out.row.frozen;have li:=hI.out.row.lt;have cb:=hB.out.cell;have fb:=hB.out.frozen;have lb:=hB.out.lt;have hl20:C.length<=1048576:=OK.out.bd.2
  by_cases hlt:j<C.length
  ·have HJ:=jj (show j+1<=C.length from hlt);have hji:(j:Int)<C.length:=by omega
   obtain ⟨hin,-⟩:=kth OK.out hlt;have w0:1<=W:=OK.out.w0;have wnz:(W==0)=false:=by simp;omega
   have e1:(j:Int).tmod W=(j:Int)%W:=Int.tmod_eq_emod_of_nonneg (by omega);have e3:IntKind.i64.wrap ((j:Int)/W)=(j:Int)/W:=IntWalk.i64_in _ (by have:=hin;unfold inB at this;have:=OK.out.h1;omega);have e2:(j:Int).tdiv W=(j:Int)/W:=Int.tdiv_eq_ediv_of_nonneg (by omega);have hh:hasP 0 0 W H ((j:Int)%W) ((j:Int)/W):=by
    have h1:=OK.out.w1;have h2:=OK.out.h1;unfold inB at hin;unfold hasP rightP;omega
   have RH:=jj (fun (wx:World)=>decide_eq_true hh▸rrect_has 0 0 W H ((j:Int)%W) ((j:Int)/W) wx);clear hh;have zl:(clrZ Z far j).length=Z.length:=clrZ_len (by have:=OK.out.same;omega);have z0:=hI.out.z.cell (i:=j) (by rw[zl,OK.out.same];exact hlt);have fz:=hI.out.z.frozen;have lz:=hI.out.z.lt;clear hin zl;go_upto_region 5 with fail
   refine wp_region_ext (by kernel_rfl) (by kernel_rfl) ?_
   repeat (go_big_quiet_step ((first|(go_at_call 95;with_reducible exact Calls.quiet_ret (RH.out _)))))
   refine wpQuiet_nil ?_;intro _ hw_ext;obtain ⟨X,hw_ext⟩:=hw_ext;subst hw_ext;go_wp2;go_roundw
   case measure=>have:=HJ.out;simp[intOf];omega
   case rel =>
    have CH:=Chg.one wr g2 j (.int .i64 far);have q:=(hI.out.setZ (i:=j) (v:=far) (by rw[clrZ_len (by have:=OK.out.same;omega),OK.out.same];exact hlt) ⟨f0,f1⟩).ext X;rw[clrZ_next (by rw[OK.out.same];exact hlt)] at q;have r1:=(CH.row hB.out (show ¬w.heap.size+1=g2 by omega)).ext X;have r2:=(CH.row hR.out (show ¬w.heap.size+1+1+1+1=g2 by omega)).ext X;obtain ⟨X9,hX9⟩:=hX.out;subst hX9;exact ⟨j+1,HJ.out,by go_num,jj q,jj r1,jj r2,jj (jz (by exact br_))⟩
  ·obtain rfl:j=C.length:=by omega
   have cr:=hR.out.cell;have fr:=hR.out.frozen;have lr:=hR.out.lt;have ez:clrZ Z far C.length=List.replicate C.length far:=by
    unfold clrZ;rw[List.drop_eq_nil_of_le (by rw[OK.out.same];exact Nat.le_refl _),List.append_nil]
   have A1:=jj hI.out.c;have A2:=jj (ez▸hI.out.z);clear ez hl20;go_wp2;have CH:Chg (fun b=>b=w.heap.size+1+1+1+1) wr ((((wr.setCell ⟨w.heap.size+1+1+1+1,0,none⟩ (.int .i64 W)).setCell ⟨w.heap.size+1+1+1+1,1,none⟩ (.int .i64 H)).setCell ⟨w.heap.size+1+1+1+1,2,none⟩ (sl g1 C.length k1)).setCell ⟨w.heap.size+1+1+1+1,3,none⟩ (sl g2 C.length k2)):=(((Chg.one _ _ _ _).setCell (fun _=>rfl) _).setCell (fun _=>rfl) _).setCell (fun _=>rfl) _;have RF:Row ((((wr.setCell ⟨w.heap.size+1+1+1+1,0,none⟩ (.int .i64 W)).setCell ⟨w.heap.size+1+1+1+1,1,none⟩ (.int .i64 H)).setCell ⟨w.heap.size+1+1+1+1,2,none⟩ (sl g1 C.length k1)).setCell ⟨w.heap.size+1+1+1+1,3,none⟩ (sl g2 C.length k2)) (w.heap.size+1+1+1+1) #[.int .i64 W,.int .i64 H,sl g1 C.length k1,sl g2 C.length k2] 54:=by simpa using ((((hR.out.set 0 (.int .i64 W)).set 1 (.int .i64 H)).set 2 (sl g1 C.length k1)).set 3 (sl g2 C.length k2))
   have XF:∃ X,((((wr.setCell ⟨w.heap.size+1+1+1+1,0,none⟩ (.int .i64 W)).setCell ⟨w.heap.size+1+1+1+1,1,none⟩ (.int .i64 H)).setCell ⟨w.heap.size+1+1+1+1,2,none⟩ (sl g1 C.length k1)).setCell ⟨w.heap.size+1+1+1+1,3,none⟩ (sl g2 C.length k2))=w.ext X:=by
    obtain ⟨X9,hX9⟩:=hX.out;subst hX9;exact jz (by exact br_)
   generalize ((((wr.setCell ⟨w.heap.size+1+1+1+1,0,none⟩ (.int .i64 W)).setCell ⟨w.heap.size+1+1+1+1,1,none⟩ (.int .i64 H)).setCell ⟨w.heap.size+1+1+1+1,2,none⟩ (sl g1 C.length k1)).setCell ⟨w.heap.size+1+1+1+1,3,none⟩ (sl g2 C.length k2))=wf at CH RF XF ⊢;have q0:=RF.cell 0;have q1:=RF.cell 1;have q2:=RF.cell 2;have q3:=RF.cell 3;simp at q0 q1 q2 q3;exact bodyPost_ret (v:=Im W H (sl g1 C.length k1) (sl g2 C.length k2)) (by simp[results,Tryz.results70,go_sem,q0,q1,q2,q3]) rfl ⟨g1,k1,g2,k2,rfl,XF,A1.out.chg CH (by omega),by have:=A2.out.chg CH (show ¬g2=w.heap.size+1+1+1+1 by omega);simpa using this,g1w,g2w,ne⟩
end Go.Proofs.YthcjfanigfgckaaGreat
