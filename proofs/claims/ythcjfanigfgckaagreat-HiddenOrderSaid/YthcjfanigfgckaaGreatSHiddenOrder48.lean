import Derived.Test.YthcjfanigfgckaaGreatSHiddenOrder47
set_option linter.unusedVariables false
set_option linter.unusedSimpArgs false
set_option maxRecDepth 100000
set_option maxHeartbeats 16000000
namespace Go.Proofs.YthcjfanigfgckaaGreat
open Go.RowKit
def twoA:PolP:=⟨[⟨0,0,100⟩,⟨2048,0,100⟩,⟨0,2048,100⟩],[true,true,true]⟩
def twoB:PolP:=⟨[⟨300,300,200⟩,⟨2300,300,200⟩,⟨300,900,200⟩],[true,true,true]⟩
def plainS:SkP:=⟨0,10,true,0,1,9,9,9,9⟩
theorem two_hid:decide (hidP [twoA,twoB] plainS)=true:=by decide +kernel
theorem two_no:decide (hidP [twoA,twoB] plainS/\shownP [twoA,twoB] plainS 2 1 16777215)=false:=by decide +kernel
theorem two_yes:decide (hidP [twoA,twoB] plainS/\shownP [twoA,twoB] plainS 8 1 16777215)=true:=by decide +kernel
theorem two_one:decide (hidP [twoB] plainS/\shownP [twoB] plainS 2 1 16777215)=true:=by decide +kernel
theorem plain_wide:plainS.wide:=by
 refine ⟨?_,?_,?_,?_,?_,?_,?_,?_⟩<;>unfold w64 plainS<;>simp
theorem recs_at {α:Type} {K:RecK α} {f:α} {w:World} {n o:Nat} {c:Array Value} {T:TypeId} (hr:Row w n c T) (h:∀ q u,(K.cells f)[q]?=some u->c[o+q]?=some u):Recs K w (.slice (some ⟨n,o,none⟩) 1 1) [f]:=by
 refine ⟨by simp,_,_,rfl,Nat.le_refl _,.inr ⟨n,o,rfl,hr.lt,fun i g hi q u hq=>?_⟩⟩;have hi0:i=0:=by
  have:=(List.getElem?_eq_some_iff.1 hi).1
  simpa using this
 subst hi0;simp only[List.getElem?_cons_zero,Option.some.injEq] at hi;subst hi;rw[hr.cell,Nat.zero_mul,Nat.add_zero];exact h q u hq
theorem v3_64 {p:PolP} (h:p.ok):∀ a∈p.v,w64 a.z:=fun a ha=>by
 have:=(h.2.2 a ha).2.2;unfold amongP at this;unfold w64;omega
theorem twoA_ok:twoA.ok:=of_decide_eq_true (by decide +kernel)
theorem twoB_ok:twoB.ok:=of_decide_eq_true (by decide +kernel)
theorem htwo (w:World):Calls Tryz.prog 65 #[] w (fun e w'=>∃ (b:Nat) (S1 S2:PsP),e=.returned (.slice (some ⟨b,0,none⟩) 2 2)/\PolsR w' (.slice (some ⟨b,0,none⟩) 2 2) [S1,S2] [twoA,twoB]/\PolsR w' (.slice (some ⟨b,2,none⟩) 1 1) [S2] [twoB]/\∃ X,w'=w.ext X):=by
 go_enter Tryz.func65,Tryz.ntmps65
 go_wp2;go_ret;have R3:Row ((((w.alloc (.cells #[.bool true,.bool true,.bool true] 4)).alloc (.cells #[.int .i64 0,.int .i64 0,.int .i64 100,.int .i64 2048,.int .i64 0,.int .i64 100,.int .i64 0,.int .i64 2048,.int .i64 100] 145)).alloc (.cells #[.int .i64 300,.int .i64 300,.int .i64 200,.int .i64 2300,.int .i64 300,.int .i64 200,.int .i64 300,.int .i64 900,.int .i64 200] 145)).alloc (.cells #[.slice (some ⟨w.heap.size+1,0,none⟩) 3 3,.slice (some ⟨w.heap.size,0,none⟩) 3 3,.slice (some ⟨w.heap.size+1+1,0,none⟩) 3 3,.slice (some ⟨w.heap.size,0,none⟩) 3 3] 68)) (w.heap.size+1+1+1) #[.slice (some ⟨w.heap.size+1,0,none⟩) 3 3,.slice (some ⟨w.heap.size,0,none⟩) 3 3,.slice (some ⟨w.heap.size+1+1,0,none⟩) 3 3,.slice (some ⟨w.heap.size,0,none⟩) 3 3] 68:=by exact rx_
 have hB:=(((recs_lit (K:=boK) (w:=w) rfl [true,true,true] #[.bool true,.bool true,.bool true] rfl 4 (by simp)).alloc (.cells #[.int .i64 0,.int .i64 0,.int .i64 100,.int .i64 2048,.int .i64 0,.int .i64 100,.int .i64 0,.int .i64 2048,.int .i64 100] 145)).alloc (.cells #[.int .i64 300,.int .i64 300,.int .i64 200,.int .i64 2300,.int .i64 300,.int .i64 200,.int .i64 300,.int .i64 900,.int .i64 200] 145)).alloc (.cells #[.slice (some ⟨w.heap.size+1,0,none⟩) 3 3,.slice (some ⟨w.heap.size,0,none⟩) 3 3,.slice (some ⟨w.heap.size+1+1,0,none⟩) 3 3,.slice (some ⟨w.heap.size,0,none⟩) 3 3] 68);have hV:=((recs_lit (K:=v3K) (w:=w.alloc (.cells #[.bool true,.bool true,.bool true] 4)) (n:=w.heap.size+1) (by simp only[World.size_alloc]) twoA.v #[.int .i64 0,.int .i64 0,.int .i64 100,.int .i64 2048,.int .i64 0,.int .i64 100,.int .i64 0,.int .i64 2048,.int .i64 100] rfl 145 (by unfold twoA;simp)).alloc (.cells #[.int .i64 300,.int .i64 300,.int .i64 200,.int .i64 2300,.int .i64 300,.int .i64 200,.int .i64 300,.int .i64 900,.int .i64 200] 145)).alloc (.cells #[.slice (some ⟨w.heap.size+1,0,none⟩) 3 3,.slice (some ⟨w.heap.size,0,none⟩) 3 3,.slice (some ⟨w.heap.size+1+1,0,none⟩) 3 3,.slice (some ⟨w.heap.size,0,none⟩) 3 3] 68);have hU:=(recs_lit (K:=v3K) (w:=(w.alloc (.cells #[.bool true,.bool true,.bool true] 4)).alloc (.cells #[.int .i64 0,.int .i64 0,.int .i64 100,.int .i64 2048,.int .i64 0,.int .i64 100,.int .i64 0,.int .i64 2048,.int .i64 100] 145)) (n:=w.heap.size+1+1) (by simp only[World.size_alloc]) twoB.v #[.int .i64 300,.int .i64 300,.int .i64 200,.int .i64 2300,.int .i64 300,.int .i64 200,.int .i64 300,.int .i64 900,.int .i64 200] rfl 145 (by unfold twoB;simp)).alloc (.cells #[.slice (some ⟨w.heap.size+1,0,none⟩) 3 3,.slice (some ⟨w.heap.size,0,none⟩) 3 3,.slice (some ⟨w.heap.size+1+1,0,none⟩) 3 3,.slice (some ⟨w.heap.size,0,none⟩) 3 3] 68);have hS:=recs_lit (K:=psK) (w:=((w.alloc (.cells #[.bool true,.bool true,.bool true] 4)).alloc (.cells #[.int .i64 0,.int .i64 0,.int .i64 100,.int .i64 2048,.int .i64 0,.int .i64 100,.int .i64 0,.int .i64 2048,.int .i64 100] 145)).alloc (.cells #[.int .i64 300,.int .i64 300,.int .i64 200,.int .i64 2300,.int .i64 300,.int .i64 200,.int .i64 300,.int .i64 900,.int .i64 200] 145)) (n:=w.heap.size+1+1+1) (by simp only[World.size_alloc]) [⟨some ⟨w.heap.size+1,0,none⟩,3,3,some ⟨w.heap.size,0,none⟩,3,3⟩,⟨some ⟨w.heap.size+1+1,0,none⟩,3,3,some ⟨w.heap.size,0,none⟩,3,3⟩] #[.slice (some ⟨w.heap.size+1,0,none⟩) 3 3,.slice (some ⟨w.heap.size,0,none⟩) 3 3,.slice (some ⟨w.heap.size+1+1,0,none⟩) 3 3,.slice (some ⟨w.heap.size,0,none⟩) 3 3] rfl 68 (by simp);refine ⟨w.heap.size+1+1+1,⟨some ⟨w.heap.size+1,0,none⟩,3,3,some ⟨w.heap.size,0,none⟩,3,3⟩,⟨some ⟨w.heap.size+1+1,0,none⟩,3,3,some ⟨w.heap.size,0,none⟩,3,3⟩,rfl,⟨hS,rfl,?_⟩,⟨recs_at R3 ?_,rfl,?_⟩,jz (by exact bx_)⟩
 ·intro i s p h1 h2;rcases i with _|_|i
  ·simp only[List.getElem?_cons_zero,Option.some.injEq] at h1 h2;subst h1;subst h2
   exact ⟨hV,hB,v3_64 twoA_ok⟩
  ·simp only[List.getElem?_cons_succ,List.getElem?_cons_zero,Option.some.injEq] at h1 h2;subst h1;subst h2
   exact ⟨hU,hB,v3_64 twoB_ok⟩
  ·simp at h1
 ·intro q u hq;rcases q with _|_|q
  ·simpa [psK] using hq
  ·simpa [psK] using hq
  ·simp[psK] at hq
 ·intro i s p h1 h2;rcases i with _|i
  ·simp only[List.getElem?_cons_zero,Option.some.injEq] at h1 h2;subst h1;subst h2
   exact ⟨hU,hB,v3_64 twoB_ok⟩
  ·simp at h1
theorem hplain0 (w:World):Calls Tryz.prog 66 #[] w (Ret (.agg #[.int .i64 0,.int .i64 10,.bool true,.int .i64 0,.int .i64 1,.int .i64 9,.int .i64 9,.int .i64 9,.int .i64 9]) w):=by
 go_enter Tryz.func66,Tryz.ntmps66
 go_wp2;refine bodyPost_ret (v:=.agg #[.int .i64 0,.int .i64 10,.bool true,.int .i64 0,.int .i64 1,.int .i64 9,.int .i64 9,.int .i64 9,.int .i64 9]) (results_big (k:=9) rfl rfl (by go_simp) rfl (by decide) (by kernel_rfl) (by kernel_rfl)) rfl (Ret.of (by exact bl_))
theorem hplain (w:World):Calls Tryz.prog 66 #[] w (Ret plainS.v w):=hplain0 w
theorem awake27 (w:World):Calls Tryz.prog 25 #[] w (Ret (.bool true) w):=by
 have RI:=jj (fun v S w h=>two_hid▸hright v S [twoA,twoB] plainS w h plain_wide);have DE:=jj (fun w=>(show lvl 65536=16777215 from by decide)▸hdepth 65536 (by decide) (by decide) w);have S1:=jj (fun v S w h=>two_no▸hshown v S [twoA,twoB] plainS 2 1 16777215 w h plain_wide (by decide) (by decide) (by decide) (by decide));have S2:=jj (fun v S w h=>two_yes▸hshown v S [twoA,twoB] plainS 8 1 16777215 w h plain_wide (by decide) (by decide) (by decide) (by decide));have S3:=jj (fun v S w h=>two_one▸hshown v S [twoB] plainS 2 1 16777215 w h plain_wide (by decide) (by decide) (by decide) (by decide));have PL:=jj (fun w=>hplain w);have TW:=jj (fun w=>htwo w);obtain ⟨s,hs⟩:∃ s,plainS=s:=⟨_,rfl⟩;obtain ⟨L2,h2⟩:∃ L,[twoA,twoB]=L:=⟨_,rfl⟩;obtain ⟨L1,h1⟩:∃ L,[twoB]=L:=⟨_,rfl⟩;rw[hs,h2] at RI S1 S2;rw[hs,h1] at S3;rw[hs] at PL;rw[h2,h1] at TW;clear hs h2 h1
 go_enter Tryz.func25,Tryz.ntmps25
 go_upto_region 2 with (first|(go_at_call 65;(with_reducible refine (TW.out _).mono ?_);rintro _ _ ⟨b,T1,T2,rfl,hA,hB,⟨XT,rfl⟩⟩;have HA:=jj hA;have HB:=jj hB;clear hA hB)|(go_at_call 66;(with_reducible refine (PL.out _).mono ?_);rintro _ _ ⟨rfl,X_,rfl⟩))
 obtain ⟨Bs,hBs⟩:∃ B,w.heap.size+XT.sz+X_.sz=B:=⟨_,rfl⟩;refine wp_abs (F:=fun w1=>Row w1 Bs #[.int .i64 s.factor,.int .i64 s.units,.bool s.ccw,.int .i64 s.cull,.int .i64 s.width,.int .i64 s.c0,.int .i64 s.c1,.int .i64 s.c2,.int .i64 s.c3] 48/\PolsR w1 (.slice (some ⟨b,0,none⟩) 2 2) [T1,T2] L2/\PolsR w1 (.slice (some ⟨b,2,none⟩) 1 1) [T2] L1/\∃ X,w1=w.ext X) ⟨by rw[<-hBs];exact rx_,by repeat (first|with_reducible exact HA.out|with_reducible refine PolsR.ext ?_ _|with_reducible refine PolsR.alloc ?_ _|with_reducible refine PolsR.drew ?_),by repeat (first|with_reducible exact HB.out|with_reducible refine PolsR.ext ?_ _|with_reducible refine PolsR.alloc ?_ _|with_reducible refine PolsR.drew ?_),jz (by exact bx_)⟩ ?_;rw[hBs];clear HA HB hBs;rintro w1 ⟨Ra,hA,hB,hX⟩;have HX:=jj hX;have Q0:=jj (fun X=>RI.out _ _ (w1.ext X) (hA.ext X));have Q1:=jj (fun X=>S1.out _ _ (w1.ext X) (hA.ext X));have Q2:=jj (fun X=>S2.out _ _ (w1.ext X) (hA.ext X));have Q3:=jj (fun X=>S3.out _ _ (w1.ext X) (hB.ext X));have ca:=Ra.cell;have fa:=Ra.frozen;have la:=Ra.lt;clear Ra hA hB hX RI S1 S2 S3 TW PL;refine wp_region_ext (by kernel_rfl) (by kernel_rfl) ?_
 repeat (go_big_quiet_step ((first|(go_at_call 67;with_reducible exact Calls.quiet_ret (Q0.out _))|(go_at_call 68;with_reducible exact Calls.quiet_ret (DE.out _))|(go_at_call 27;with_reducible exact Calls.quiet_ret (Q1.out _))|(go_at_call 27;with_reducible exact Calls.quiet_ret (Q2.out _))|(go_at_call 27;with_reducible exact Calls.quiet_ret (Q3.out _)))))
 refine wpQuiet_nil ?_;intro _ hw_ext;obtain ⟨X9,hw_ext⟩:=hw_ext;subst hw_ext;go_wp2;go_ret;obtain ⟨X0,hX0⟩:=HX.out;subst hX0;exact Ret.of' rfl (by exact br_)
end Go.Proofs.YthcjfanigfgckaaGreat
