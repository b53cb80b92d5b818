import Derived.Test.YthcjfanigfgckaaGreatSHiddenOrder41
set_option linter.unusedVariables false
set_option linter.unusedSimpArgs false
set_option maxRecDepth 100000
set_option maxHeartbeats 16000000
namespace Go.Proofs.YthcjfanigfgckaaGreat
open Go.RowKit
abbrev SkP.v (s:SkP):Value:=.agg #[.int .i64 s.factor,.int .i64 s.units,.bool s.ccw,.int .i64 s.cull,.int .i64 s.width,.int .i64 s.c0,.int .i64 s.c1,.int .i64 s.c2,.int .i64 s.c3]
abbrev passV (s:SkP) (m:Bool):Value:=.agg #[.int .i64 s.factor,.int .i64 s.units,.bool s.ccw,.int .i64 s.cull,.int .i64 s.width,.int .i64 s.c0,.int .i64 s.c1,.int .i64 s.c2,.int .i64 s.c3,.bool m]
structure SkP.wide (s:SkP):Prop where
 factor:w64 s.factor
 units:w64 s.units
 cull:w64 s.cull
 width:w64 s.width
 c0:w64 s.c0
 c1:w64 s.c1
 c2:w64 s.c2
 c3:w64 s.c3
theorem lookH_wide {s:SkP} (h:s.wide) (m:Bool):(lookH s m).wide:=by
 obtain ⟨h1,h2,h3,h4,-,-,-,-⟩:=h;have d:∀ z:Int,-9223372036854775808<=z->z<=9223372036854775807->w64 z:=fun z h0 h1=>⟨h0,h1⟩
 cases m
 ·exact ⟨h4,d 65535 (by decide) (by decide),d 1 (by decide) (by decide),d 0 (by decide) (by decide),d 1 (by decide) (by decide),d 0 (by decide) (by decide),d 0 (by decide) (by decide),d 0 (by decide) (by decide),h3,h1,h2⟩
 ·exact ⟨h4,d 65535 (by decide) (by decide),d 1 (by decide) (by decide),d 0 (by decide) (by decide),d 1 (by decide) (by decide),d 0 (by decide) (by decide),d 1 (by decide) (by decide),d 1 (by decide) (by decide),h3,h1,h2⟩
theorem lookH_ok (s:SkP) (m:Bool):(lookH s m).ok↔s.num:=by
 unfold LookP.ok SkP.num lookH amongP dashP;cases m<;>simp only[if_true,if_false,Bool.false_eq_true]<;>omega
theorem hlook (s:SkP) (m:Bool) (w:World):Calls Tryz.prog 105 #[passV s m] w (Ret (lookH s m).v w):=by
 cases m
 ·go_enter Tryz.func105,Tryz.ntmps105
  go_wp2;refine bodyPost_ret (v:=(lookH s false).v) (by simp[results,Tryz.results105,go_sem,lookH]) rfl (Ret.of (by exact bl_))
 ·go_enter Tryz.func105,Tryz.ntmps105
  go_wp2;refine bodyPost_ret (v:=(lookH s true).v) (by simp[results,Tryz.results105,go_sem,lookH]) rfl (Ret.of (by exact bl_))
theorem hops (s:SkP) (m:Bool) (w:World):Calls Tryz.prog 73 #[passV s m] w (Ret (opsH m).v w):=by
 cases m
 ·go_enter Tryz.func73,Tryz.ntmps73
  go_wp2;refine bodyPost_ret (v:=(opsH false).v) (by simp[results,Tryz.results73,go_sem,opsH]) rfl (Ret.of (by exact bl_))
 ·go_enter Tryz.func73,Tryz.ntmps73
  go_wp2;refine bodyPost_ret (v:=(opsH true).v) (by simp[results,Tryz.results73,go_sem,opsH]) rfl (Ret.of (by exact bl_))
theorem hue_yes {s:SkP} (hs:s.wide) (h:s.hue):¬255<IntKind.u64.wrap s.c0/\¬255<IntKind.u64.wrap s.c1/\¬255<IntKind.u64.wrap s.c2/\¬255<IntKind.u64.wrap s.c3:=by
 have u0:=u64_small hs.c0 255 (by omega) (by omega);have u1:=u64_small hs.c1 255 (by omega) (by omega);have u2:=u64_small hs.c2 255 (by omega) (by omega);have u3:=u64_small hs.c3 255 (by omega) (by omega);unfold SkP.hue amongP at h;omega
theorem hue_no {s:SkP} (hs:s.wide) (h:¬s.hue):255<IntKind.u64.wrap s.c0\/(¬255<IntKind.u64.wrap s.c0/\255<IntKind.u64.wrap s.c1)\/(¬255<IntKind.u64.wrap s.c0/\¬255<IntKind.u64.wrap s.c1/\255<IntKind.u64.wrap s.c2)\/(¬255<IntKind.u64.wrap s.c0/\¬255<IntKind.u64.wrap s.c1/\¬255<IntKind.u64.wrap s.c2/\255<IntKind.u64.wrap s.c3):=by
 have u0:=u64_small hs.c0 255 (by omega) (by omega);have u1:=u64_small hs.c1 255 (by omega) (by omega);have u2:=u64_small hs.c2 255 (by omega) (by omega);have u3:=u64_small hs.c3 255 (by omega) (by omega);unfold SkP.hue amongP at h;omega
theorem hright (v:Value) (S:List PsP) (l:List PolP) (s:SkP) (w:World) (h:PolsR w v S l) (hs:s.wide):Calls Tryz.prog 67 #[v,s.v] w (Ret (.bool (decide (hidP l s))) w):=by
 have LK:=jj (fun w=>hlook s false w);have FR0:=fun w=>look_right (lookH s false) (lookH_wide hs false) w
 have HP:=jj h;obtain ⟨hl,av,cap,rfl,hcap,-⟩:=h.r
 by_cases hh:s.hue
 case neg =>
  have hf:decide (hidP l s)=false:=decide_eq_false fun q=>hh q.2.2.1
  rw[hf];have hn:=hue_no hs hh;clear hf hh LK FR0 h;rcases hn with t1|⟨t1,t2⟩|⟨t1,t2,t3⟩|⟨t1,t2,t3,t4⟩
  all_goals
   go_enter Tryz.func67,Tryz.ntmps67
   go_wp2;refine wp_loop_rounds 5 ?_
   iterate 5 try any_goals (rw[rounds_succ];go_wp2)
   go_ret;exact Ret.of' rfl (by exact bl_)
 obtain ⟨t1,t2,t3,t4⟩:=hue_yes hs hh;have HN:=jj h.n
 by_cases h64:64<S.length
 case pos =>
  have h64i:(64:Int)<S.length:=by omega
  have hf:decide (hidP l s)=false:=decide_eq_false fun q=>by have:=q.1;have:=HN.out;omega
  rw[hf];clear hf LK FR0 h hh
  go_enter Tryz.func67,Tryz.ntmps67
  go_wp2;refine wp_loop_rounds 5 ?_
  iterate 5 try any_goals (rw[rounds_succ];go_wp2)
  go_ret;exact Ret.of' rfl (by exact bl_)
 have h64i:¬(64:Int)<S.length:=by omega
 by_cases hm:s.num
 case neg =>
  rw[decide_eq_false fun q=>hm ((lookH_ok s false).1 q)] at FR0;have FR:=jj FR0;have hf:decide (hidP l s)=false:=decide_eq_false fun q=>hm q.2.2.2
  rw[hf];clear hf FR0 h hh hm
  go_enter Tryz.func67,Tryz.ntmps67
  go_wp2;refine wp_loop_rounds 5 ?_
  iterate 5 try any_goals (rw[rounds_succ];go_wp2_with (first|(go_at_call 105;(with_reducible refine (LK.out _).mono ?_);rintro _ _ ⟨rfl,X_,rfl⟩)|(go_at_call 12;(with_reducible refine (FR.out _).mono ?_);rintro _ _ ⟨rfl,X_,rfl⟩)))
  go_ret;exact Ret.of' rfl (by exact bl_)
 simp only[decide_eq_true ((lookH_ok s false).2 hm)] at FR0;have FR:=jj FR0;obtain ⟨Z,hZ⟩:∃ Z,decide (hidP l s)=Z:=⟨_,rfl⟩;rw[hZ];have HZ:=jj (show (∀ p∈l,p.ok)->Z=true from fun q=>by rw[<-hZ];exact decide_eq_true ⟨by have:=HN.out;omega,q,hh,hm⟩);have HZF:=jj (show ∀ p∈l,¬p.ok->Z=false from fun p hp q=>by rw[<-hZ];exact decide_eq_false fun k=>q (k.2.1 p hp));clear hZ hh hm FR0 h
 go_enter Tryz.func67,Tryz.ntmps67
 go_wp2;refine wp_loop_rounds 5 ?_
 iterate 4 (rw[rounds_succ];go_wp2)
 rw[rounds_succ];go_upto_region 9 with (first|(go_at_call 105;(with_reducible refine (LK.out _).mono ?_);rintro _ _ ⟨rfl,X_,rfl⟩)|(go_at_call 12;(with_reducible refine (FR.out _).mono ?_);rintro _ _ ⟨rfl,X_,rfl⟩))
 refine wp_abs (F:=fun w1=>PolsR w1 (.slice av S.length cap) S l/\∃ X,w1=w.ext X) ⟨by repeat (first|with_reducible exact HP.out|with_reducible refine PolsR.ext ?_ _|with_reducible refine PolsR.alloc ?_ _|with_reducible refine PolsR.drew ?_),jz (by exact bx_)⟩ ?_;rintro w1 ⟨hv1,hX⟩;have HX:=jj hX;have HQ:=jj hv1;obtain ⟨-,av',cap',hq,-,hcl⟩:=hv1.r;obtain ⟨rfl,rfl⟩:av=av'/\cap=cap':=by simpa using hq
 clear hv1 hX hq HP LK FR t1 t2 t3 t4 hcap;go_wp2;go_loopw [30] (fun i wr=>∃ (j:Nat),j<=S.length/\i=.int .i64 j/\Hid (∀ i f,i<j->l[i]?=some f->f.ok)/\∃ X,wr=w1.ext X)
  (fun i _=>S.length-(intOf i).toNat)
 case atStart=>exact ⟨0,by omega,rfl,jj (fun i f hi=>by omega),_,(ext_none' _).symm⟩
 case round =>
  obtain ⟨j,hj,rfl,hF,X,rfl⟩:=hrel
  by_cases hlt:j<S.length
  ·have HJ:=jj (show j+1<=S.length from hlt);have hji:(j:Int)<S.length:=by omega
   obtain ⟨a,ha⟩:∃ f,S[j]?=some f:=⟨_,List.getElem?_eq_getElem hlt⟩;obtain ⟨p,hp⟩:∃ f,l[j]?=some f:=⟨_,List.getElem?_eq_getElem (by rw[<-HN.out];exact hlt)⟩;rcases hcl with e|⟨lb,lo,rfl,hlb,hcl⟩
   ·rw[e] at hlt;simp at hlt
   have pa0:w1.cell? ⟨lb,lo+j*2,none⟩=some a.vs:=hcl j _ ha 0 _ rfl;have pa1:w1.cell? ⟨lb,lo+j*2+1,none⟩=some a.es:=hcl j _ ha 1 _ rfl;have HA:=jj hp;have HR:=jj (HQ.out.p j _ _ ha hp);clear hcl ha hp
   by_cases hf:p.ok
   ·have nxt:=jj (take_ok hF.out HA.out hf);have MY:=jj (fun w h=>(decide_eq_true hf)▸hmay a p w h);clear hf hF HA
    go_wp2_with (first|(go_at_call 106;(with_reducible refine (MY.out _ (by repeat (first|with_reducible exact HR.out|with_reducible refine PolR.ext ?_ _|with_reducible refine PolR.alloc ?_ _|with_reducible refine PolR.drew ?_))).mono ?_);rintro _ _ ⟨rfl,X_,rfl⟩))
    go_roundw
    case rel=>exact ⟨j+1,HJ.out,by go_num,nxt,jz (by exact br_)⟩
    case measure=>have:=HJ.out;simp[intOf];omega
   ·have e:=HZF.out p (List.mem_of_getElem? HA.out) hf;subst e;have MY:=jj (fun w h=>(decide_eq_false hf)▸hmay a p w h);clear hf hF HA HZ HZF
    go_wp2_with (first|(go_at_call 106;(with_reducible refine (MY.out _ (by repeat (first|with_reducible exact HR.out|with_reducible refine PolR.ext ?_ _|with_reducible refine PolR.alloc ?_ _|with_reducible refine PolR.drew ?_))).mono ?_);rintro _ _ ⟨rfl,X_,rfl⟩))
    go_ret;obtain ⟨X0,hX0⟩:=HX.out;subst hX0;exact Ret.of' rfl (by exact br_)
  ·obtain rfl:j=S.length:=by omega
   have e:=HZ.out (all_ok (fun i f hi h=>hF.out i f (by rw[HN.out];exact hi) h));subst e;clear HZ HZF hF;go_wp2;go_ret;obtain ⟨X0,hX0⟩:=HX.out;subst hX0;exact Ret.of' rfl (by exact br_)
end Go.Proofs.YthcjfanigfgckaaGreat
