import Derived.Test.YthcjfanigfgckaaGreatSHiddenOrder42
set_option linter.unusedVariables false
set_option linter.unusedSimpArgs false
set_option maxRecDepth 100000
set_option maxHeartbeats 16000000
namespace Go.Proofs.YthcjfanigfgckaaGreat
open Go.RowKit
theorem split8 (b0 b1 b2 b3 b4 b5 b6 b7:Bool):b0=false\/(b0=true/\b1=false)\/(b0=true/\b1=true/\b2=false)\/(b0=true/\b1=true/\b2=true/\b3=false)\/(b0=true/\b1=true/\b2=true/\b3=true/\b4=false)\/(b0=true/\b1=true/\b2=true/\b3=true/\b4=true/\b5=false)\/(b0=true/\b1=true/\b2=true/\b3=true/\b4=true/\b5=true/\b6=false)\/(b0=true/\b1=true/\b2=true/\b3=true/\b4=true/\b5=true/\b6=true/\b7=false)\/(b0=true/\b1=true/\b2=true/\b3=true/\b4=true/\b5=true/\b6=true/\b7=true):=by
 cases b0
 ·simp
 cases b1
 ·simp
 cases b2
 ·simp
 cases b3
 ·simp
 cases b4
 ·simp
 cases b5
 ·simp
 cases b6
 ·simp
 cases b7<;>simp
theorem hid_form {l:List PolP} {s:SkP} (h:l.length<=64) (hp:∀ p∈l,p.ok):decide (hidP l s)=(decide (amongP s.c0 0 255)&&(decide (amongP s.c1 0 255)&&(decide (amongP s.c2 0 255)&&(decide (amongP s.c3 0 255)&&(decide (amongP s.factor (-65536) 65536)&&(decide (amongP s.units (-16777216) 16777216)&&(decide (amongP s.cull 0 3)&&decide (amongP s.width 1 64)))))))):=by
 rw[Bool.eq_iff_iff];simp only[Bool.and_eq_true,decide_eq_true_eq];unfold hidP SkP.hue SkP.num
 constructor
 ·rintro ⟨-,-,⟨h1,h2,h3,h4⟩,h5,h6,h7,h8⟩;exact ⟨h1,h2,h3,h4,h5,h6,h7,h8⟩
 ·rintro ⟨h1,h2,h3,h4,h5,h6,h7,h8⟩;exact ⟨h,hp,⟨h1,h2,h3,h4⟩,h5,h6,h7,h8⟩
theorem rhright (v:Value) (S:List PsP) (l:List PolP) (s:SkP) (w:World) (h:PolsR w v S l):Calls Tryz.prog 34 #[v,s.v] w (Ret (.bool (decide (hidP l s))) w):=by
 have HP:=jj h;obtain ⟨hl,av,cap,rfl,hcap,-⟩:=h.r;have HN:=jj h.n
 by_cases h64:64<S.length
 case pos =>
  have h64i:(64:Int)<S.length:=by omega
  have hf:decide (hidP l s)=false:=decide_eq_false fun q=>by have:=q.1;have:=HN.out;omega
  rw[hf];clear hf h
  go_enter Tryz.func34,Tryz.ntmps34
  go_wp2;go_ret;exact Ret.of' rfl (by exact bl_)
 have h64i:¬(64:Int)<S.length:=by omega
 have HF0:=jj (hid_form (l:=l) (s:=s) (by have:=HN.out;omega));have HZF0:∀ p∈l,¬p.ok->decide (hidP l s)=false:=fun p hp q=>decide_eq_false fun k=>q (k.2.1 p hp)
 have A0:=fun w=>ramong27 s.c0 0 255 w
 have A1:=fun w=>ramong27 s.c1 0 255 w
 have A2:=fun w=>ramong27 s.c2 0 255 w
 have A3:=fun w=>ramong27 s.c3 0 255 w
 have A4:=fun w=>ramong27 s.factor (-65536) 65536 w
 have A5:=fun w=>ramong27 s.units (-16777216) 16777216 w
 have A6:=fun w=>ramong27 s.cull 0 3 w
 have A7:=fun w=>ramong27 s.width 1 64 w
 obtain ⟨b0,hb0⟩:∃ b,decide (amongP s.c0 0 255)=b:=⟨_,rfl⟩;obtain ⟨b1,hb1⟩:∃ b,decide (amongP s.c1 0 255)=b:=⟨_,rfl⟩;obtain ⟨b2,hb2⟩:∃ b,decide (amongP s.c2 0 255)=b:=⟨_,rfl⟩;obtain ⟨b3,hb3⟩:∃ b,decide (amongP s.c3 0 255)=b:=⟨_,rfl⟩;obtain ⟨b4,hb4⟩:∃ b,decide (amongP s.factor (-65536) 65536)=b:=⟨_,rfl⟩;obtain ⟨b5,hb5⟩:∃ b,decide (amongP s.units (-16777216) 16777216)=b:=⟨_,rfl⟩;obtain ⟨b6,hb6⟩:∃ b,decide (amongP s.cull 0 3)=b:=⟨_,rfl⟩;obtain ⟨b7,hb7⟩:∃ b,decide (amongP s.width 1 64)=b:=⟨_,rfl⟩;obtain ⟨Z,hZ⟩:∃ Z,decide (hidP l s)=Z:=⟨_,rfl⟩;rw[hZ,hb0,hb1,hb2,hb3,hb4,hb5,hb6,hb7] at HF0;rw[hb0] at A0;rw[hb1] at A1;rw[hb2] at A2;rw[hb3] at A3;rw[hb4] at A4;rw[hb5] at A5;rw[hb6] at A6;rw[hb7] at A7;rw[hZ] at HZF0 ⊢;have HZF:=jj HZF0;have G0:=jj A0;have G1:=jj A1;have G2:=jj A2;have G3:=jj A3;have G4:=jj A4;have G5:=jj A5;have G6:=jj A6;have G7:=jj A7;clear h HZF0 hZ hb0 hb1 hb2 hb3 hb4 hb5 hb6 hb7 A0 A1 A2 A3 A4 A5 A6 A7
 go_enter Tryz.func34,Tryz.ntmps34
 go_upto_region 1 with fail
 refine wp_abs (F:=fun w1=>Row w1 w.heap.size #[.int .i64 s.factor,.int .i64 s.units,.bool s.ccw,.int .i64 s.cull,.int .i64 s.width,.int .i64 s.c0,.int .i64 s.c1,.int .i64 s.c2,.int .i64 s.c3] 48/\PolsR w1 (.slice av S.length cap) S l/\∃ X,w1=w.ext X) ⟨by exact rx_,by repeat (first|with_reducible exact HP.out|with_reducible refine PolsR.ext ?_ _|with_reducible refine PolsR.alloc ?_ _|with_reducible refine PolsR.drew ?_),jz (by exact bx_)⟩ ?_;rintro w1 ⟨Ra,hv1,hX⟩;have ca:=Ra.cell;have fa:=Ra.frozen;have la:=Ra.lt;have HX:=jj hX;have HQ:=jj hv1;obtain ⟨-,av',cap',hq,-,hcl⟩:=hv1.r;obtain ⟨rfl,rfl⟩:av=av'/\cap=cap':=by simpa using hq
 clear hv1 hX hq HP hcap Ra;go_upto_region 4 with fail
 go_loopw [5] (fun i wr=>∃ (j:Nat),j<=S.length/\i=.int .i64 j/\Hid (∀ i f,i<j->l[i]?=some f->f.ok)/\∃ X,wr=w1.ext X)
  (fun i _=>S.length-(intOf i).toNat)
 case atStart=>exact ⟨0,by omega,rfl,jj (fun i f hi=>by omega),_,(ext_none' _).symm⟩
 case round =>
  obtain ⟨j,hj,rfl,hF,X,rfl⟩:=hrel
  by_cases hlt:j<S.length
  ·have HJ:=jj (show j+1<=S.length from hlt);have hji:(j:Int)<S.length:=by omega
   obtain ⟨a,ha⟩:∃ f,S[j]?=some f:=⟨_,List.getElem?_eq_getElem hlt⟩;obtain ⟨p,hp⟩:∃ f,l[j]?=some f:=⟨_,List.getElem?_eq_getElem (by rw[<-HN.out];exact hlt)⟩;rcases hcl with e|⟨lb,lo,rfl,hlb,hcl⟩
   ·rw[e] at hlt;simp at hlt
   have pa0:w1.cell? ⟨lb,lo+j*2,none⟩=some a.vs:=hcl j _ ha 0 _ rfl;have pa1:w1.cell? ⟨lb,lo+j*2+1,none⟩=some a.es:=hcl j _ ha 1 _ rfl;have HA:=jj hp;have HR:=jj (HQ.out.p j _ _ ha hp);clear hcl ha hp
   by_cases hf:p.ok
   ·have nxt:=jj (take_ok hF.out HA.out hf);have MY:=jj (fun w h=>(decide_eq_true hf)▸rhmay a p w h);clear hf hF HA
    go_wp2_with (first|(go_at_call 76;(with_reducible refine (MY.out _ (by repeat (first|with_reducible exact HR.out|with_reducible refine PolR.ext ?_ _|with_reducible refine PolR.alloc ?_ _|with_reducible refine PolR.drew ?_))).mono ?_);rintro _ _ ⟨rfl,X_,rfl⟩))
    go_roundw
    case rel=>exact ⟨j+1,HJ.out,by go_num,nxt,jz (by exact br_)⟩
    case measure=>have:=HJ.out;simp[intOf];omega
   ·have e:=HZF.out p (List.mem_of_getElem? HA.out) hf;subst e;have MY:=jj (fun w h=>(decide_eq_false hf)▸rhmay a p w h);clear hf hF HA HZF HF0
    go_wp2_with (first|(go_at_call 76;(with_reducible refine (MY.out _ (by repeat (first|with_reducible exact HR.out|with_reducible refine PolR.ext ?_ _|with_reducible refine PolR.alloc ?_ _|with_reducible refine PolR.drew ?_))).mono ?_);rintro _ _ ⟨rfl,X_,rfl⟩))
    go_ret;obtain ⟨X0,hX0⟩:=HX.out;subst hX0;exact Ret.of' rfl (by exact br_)
  ·obtain rfl:j=S.length:=by omega
   have e:=HF0.out (all_ok (fun i f hi h=>hF.out i f (by rw[HN.out];exact hi) h));clear HF0 HZF hF;rcases split8 b0 b1 b2 b3 b4 b5 b6 b7 with t0|⟨t0,t1⟩|⟨t0,t1,t2⟩|⟨t0,t1,t2,t3⟩|⟨t0,t1,t2,t3,t4⟩|⟨t0,t1,t2,t3,t4,t5⟩|⟨t0,t1,t2,t3,t4,t5,t6⟩|⟨t0,t1,t2,t3,t4,t5,t6,t7⟩|⟨t0,t1,t2,t3,t4,t5,t6,t7⟩
   all_goals
    subst t0
    try subst t1
    try subst t2
    try subst t3
    try subst t4
    try subst t5
    try subst t6
    try subst t7
    simp only[Bool.false_and,Bool.true_and] at e;subst e;go_wp2;refine wp_loop_rounds 5 ?_
    iterate 5 try any_goals (rw[rounds_succ];go_wp2_with (first|(go_at_call 77;(with_reducible refine (G0.out _).mono ?_);rintro _ _ ⟨rfl,X_,rfl⟩)|(go_at_call 77;(with_reducible refine (G1.out _).mono ?_);rintro _ _ ⟨rfl,X_,rfl⟩)|(go_at_call 77;(with_reducible refine (G2.out _).mono ?_);rintro _ _ ⟨rfl,X_,rfl⟩)|(go_at_call 77;(with_reducible refine (G3.out _).mono ?_);rintro _ _ ⟨rfl,X_,rfl⟩)|(go_at_call 77;(with_reducible refine (G4.out _).mono ?_);rintro _ _ ⟨rfl,X_,rfl⟩)|(go_at_call 77;(with_reducible refine (G5.out _).mono ?_);rintro _ _ ⟨rfl,X_,rfl⟩)|(go_at_call 77;(with_reducible refine (G6.out _).mono ?_);rintro _ _ ⟨rfl,X_,rfl⟩)|(go_at_call 77;(with_reducible refine (G7.out _).mono ?_);rintro _ _ ⟨rfl,X_,rfl⟩)))
    go_ret;obtain ⟨X0,hX0⟩:=HX.out;subst hX0;exact Ret.of' rfl (by exact br_)
end Go.Proofs.YthcjfanigfgckaaGreat
