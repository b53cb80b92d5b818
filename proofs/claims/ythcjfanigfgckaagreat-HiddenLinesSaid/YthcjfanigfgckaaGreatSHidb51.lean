import Derived.Test.YthcjfanigfgckaaGreatSHidb50
set_option linter.unusedVariables false
set_option linter.unusedSimpArgs false
set_option maxRecDepth 100000
set_option maxHeartbeats 16000000
namespace Go.Proofs.YthcjfanigfgckaaGreat
open Go.RowKit _root_.Go.Proofs.Tryz
instance jh50 : Coe Nat Value := ⟨fun n => .int .i64 n⟩
def twoA:PolP:=⟨[⟨0,0,100⟩,⟨2048,0,100⟩,⟨0,2048,100⟩],[true,true,true]⟩
def twoB:PolP:=⟨[⟨300,300,200⟩,⟨2300,300,200⟩,⟨300,900,200⟩],[true,true,true]⟩
def plainS:SkP:=⟨0,10,true,0,1,9,9,9,9⟩
theorem aMm:decide (iZ [twoA,twoB] plainS)=true:=by decide +kernel
theorem aOz:decide (iZ [twoA,twoB] plainS/\bK [twoA,twoB] plainS 2 1 16777215)=false:=by decide +kernel
theorem aMk:decide (iZ [twoA,twoB] plainS/\bK [twoA,twoB] plainS 8 1 16777215)=true:=by decide +kernel
theorem aMl:decide (iZ [twoB] plainS/\bK [twoB] plainS 2 1 16777215)=true:=by decide +kernel
theorem jU:plainS.wide:=by
 refine ⟨?_,?_,?_,?_,?_,?_,?_,?_⟩<;>unfold w64 plainS<;>simp
theorem aM7 {α:Type} {K:RecK α} {f:α} {w:World} {n o:Nat} {c:Array Value} {T:TypeId} (hr:Row w n c T) (h:∀ q u,(K.cells f)[q]?=some u->c[o+q]?=some u):Recs K w (.slice (some ⟨n,o,none⟩) 1 1) [f]:=by
 refine ⟨by simp,_,_,rfl,Nat.le_refl _,.inr ⟨n,o,rfl,hr.lt,fun i g hi q u hq=>?_⟩⟩;have hi0:i=0:=by
  have:=(List.getElem?_eq_some_iff.1 hi).1
  simpa using this
 subst hi0;simp only[List.getElem?_cons_zero,Option.some.injEq] at hi;subst hi;rw[hr.cell,Nat.zero_mul,Nat.add_zero];exact h q u hq
theorem aMi {p:PolP} (h:p.ok):∀ a∈p.v,w64 a.z:=fun a ha=>by
 have:=(h.2.2 a ha).2.2;unfold aI at this;unfold w64;omega
theorem aMn:twoA.ok:=of_decide_eq_true (by decide +kernel)
theorem aDv:twoB.ok:=of_decide_eq_true (by decide +kernel)
theorem aTm (w:World):Calls prog 65 #[] w (fun e w'=>∃ (b:Nat) (S1 S2:PsP),e=.returned (.slice (some ⟨b,0,none⟩) 2 2)/\PolsR w' (.slice (some ⟨b,0,none⟩) 2 2) [S1,S2] [twoA,twoB]/\PolsR w' (.slice (some ⟨b,2,none⟩) 1 1) [S2] [twoB]/\∃ X,w'=w.ext X):=by
 go_enter func65,ntmps65
 go_wp2;go_ret;have R3:Row ((((w.alloc (.cells #[.bool true,.bool true,.bool true] 4)).alloc (.cells #[.int .i64 0,.int .i64 0,.int .i64 100,.int .i64 2048,.int .i64 0,.int .i64 100,.int .i64 0,.int .i64 2048,.int .i64 100] 145)).alloc (.cells #[.int .i64 300,.int .i64 300,.int .i64 200,.int .i64 2300,.int .i64 300,.int .i64 200,.int .i64 300,.int .i64 900,.int .i64 200] 145)).alloc (.cells #[.slice (some ⟨w.heap.size+1,0,none⟩) 3 3,.slice (some ⟨w.heap.size,0,none⟩) 3 3,.slice (some ⟨w.heap.size+1+1,0,none⟩) 3 3,.slice (some ⟨w.heap.size,0,none⟩) 3 3] 68)) (w.heap.size+1+1+1) #[.slice (some ⟨w.heap.size+1,0,none⟩) 3 3,.slice (some ⟨w.heap.size,0,none⟩) 3 3,.slice (some ⟨w.heap.size+1+1,0,none⟩) 3 3,.slice (some ⟨w.heap.size,0,none⟩) 3 3] 68:=by exact rx_
 have hB:=(((oR (K:=boK) (w:=w) rfl [true,true,true] #[.bool true,.bool true,.bool true] rfl 4 (by simp)).alloc (.cells #[.int .i64 0,.int .i64 0,.int .i64 100,.int .i64 2048,.int .i64 0,.int .i64 100,.int .i64 0,.int .i64 2048,.int .i64 100] 145)).alloc (.cells #[.int .i64 300,.int .i64 300,.int .i64 200,.int .i64 2300,.int .i64 300,.int .i64 200,.int .i64 300,.int .i64 900,.int .i64 200] 145)).alloc (.cells #[.slice (some ⟨w.heap.size+1,0,none⟩) 3 3,.slice (some ⟨w.heap.size,0,none⟩) 3 3,.slice (some ⟨w.heap.size+1+1,0,none⟩) 3 3,.slice (some ⟨w.heap.size,0,none⟩) 3 3] 68);have hV:=((oR (K:=v3K) (w:=w.alloc (.cells #[.bool true,.bool true,.bool true] 4)) (n:=w.heap.size+1) (by simp only[World.size_alloc]) twoA.v #[.int .i64 0,.int .i64 0,.int .i64 100,.int .i64 2048,.int .i64 0,.int .i64 100,.int .i64 0,.int .i64 2048,.int .i64 100] rfl 145 (by unfold twoA;simp)).alloc (.cells #[.int .i64 300,.int .i64 300,.int .i64 200,.int .i64 2300,.int .i64 300,.int .i64 200,.int .i64 300,.int .i64 900,.int .i64 200] 145)).alloc (.cells #[.slice (some ⟨w.heap.size+1,0,none⟩) 3 3,.slice (some ⟨w.heap.size,0,none⟩) 3 3,.slice (some ⟨w.heap.size+1+1,0,none⟩) 3 3,.slice (some ⟨w.heap.size,0,none⟩) 3 3] 68);have hU:=(oR (K:=v3K) (w:=(w.alloc (.cells #[.bool true,.bool true,.bool true] 4)).alloc (.cells #[.int .i64 0,.int .i64 0,.int .i64 100,.int .i64 2048,.int .i64 0,.int .i64 100,.int .i64 0,.int .i64 2048,.int .i64 100] 145)) (n:=w.heap.size+1+1) (by simp only[World.size_alloc]) twoB.v #[.int .i64 300,.int .i64 300,.int .i64 200,.int .i64 2300,.int .i64 300,.int .i64 200,.int .i64 300,.int .i64 900,.int .i64 200] rfl 145 (by unfold twoB;simp)).alloc (.cells #[.slice (some ⟨w.heap.size+1,0,none⟩) 3 3,.slice (some ⟨w.heap.size,0,none⟩) 3 3,.slice (some ⟨w.heap.size+1+1,0,none⟩) 3 3,.slice (some ⟨w.heap.size,0,none⟩) 3 3] 68);have hS:=oR (K:=psK) (w:=((w.alloc (.cells #[.bool true,.bool true,.bool true] 4)).alloc (.cells #[.int .i64 0,.int .i64 0,.int .i64 100,.int .i64 2048,.int .i64 0,.int .i64 100,.int .i64 0,.int .i64 2048,.int .i64 100] 145)).alloc (.cells #[.int .i64 300,.int .i64 300,.int .i64 200,.int .i64 2300,.int .i64 300,.int .i64 200,.int .i64 300,.int .i64 900,.int .i64 200] 145)) (n:=w.heap.size+1+1+1) (by simp only[World.size_alloc]) [⟨some ⟨w.heap.size+1,0,none⟩,3,3,some ⟨w.heap.size,0,none⟩,3,3⟩,⟨some ⟨w.heap.size+1+1,0,none⟩,3,3,some ⟨w.heap.size,0,none⟩,3,3⟩] #[.slice (some ⟨w.heap.size+1,0,none⟩) 3 3,.slice (some ⟨w.heap.size,0,none⟩) 3 3,.slice (some ⟨w.heap.size+1+1,0,none⟩) 3 3,.slice (some ⟨w.heap.size,0,none⟩) 3 3] rfl 68 (by simp);refine ⟨w.heap.size+1+1+1,⟨some ⟨w.heap.size+1,0,none⟩,3,3,some ⟨w.heap.size,0,none⟩,3,3⟩,⟨some ⟨w.heap.size+1+1,0,none⟩,3,3,some ⟨w.heap.size,0,none⟩,3,3⟩,rfl,⟨hS,rfl,?_⟩,⟨aM7 R3 ?_,rfl,?_⟩,jz (by exact bx_)⟩
 ·intro i s p h1 h2;rcases i with _|_|i
  ·simp only[List.getElem?_cons_zero,Option.some.injEq] at h1 h2;subst h1;subst h2
   exact ⟨hV,hB,aMi aMn⟩
  ·simp only[List.getElem?_cons_succ,List.getElem?_cons_zero,Option.some.injEq] at h1 h2;subst h1;subst h2
   exact ⟨hU,hB,aMi aDv⟩
  ·simp at h1
 ·intro q u hq;rcases q with _|_|q
  ·simpa [psK] using hq
  ·simpa [psK] using hq
  ·simp[psK] at hq
 ·intro i s p h1 h2;rcases i with _|i
  ·simp only[List.getElem?_cons_zero,Option.some.injEq] at h1 h2;subst h1;subst h2
   exact ⟨hU,hB,aMi aDv⟩
  ·simp at h1
theorem aNw (w:World):Calls prog 66 #[] w (Ret (.agg #[.int .i64 0,.int .i64 10,.bool true,.int .i64 0,.int .i64 1,.int .i64 9,.int .i64 9,.int .i64 9,.int .i64 9]) w):=by
 go_enter func66,ntmps66
 go_wp2;refine bodyPost_ret (v:=.agg #[.int .i64 0,.int .i64 10,.bool true,.int .i64 0,.int .i64 1,.int .i64 9,.int .i64 9,.int .i64 9,.int .i64 9]) (iL (k:=9) rfl rfl (by go_simp) rfl (by decide) (by kernel_rfl) (by kernel_rfl)) rfl (Ret.of (by exact bl_))
theorem aP4 (w:World):Calls prog 66 #[] w (Ret plainS.v w):=aNw w
theorem jQ (w:World):Calls prog 25 #[] w (Ret (.bool true) w):=by
 have RI:=jj (fun v S w h=>aMm▸aGk v S [twoA,twoB] plainS w h jU);have DE:=jj (fun w=>(show lvl 65536=16777215 from by decide)▸aL3 65536 (by decide) (by decide) w);have S1:=jj (fun v S w h=>aOz▸vU v S [twoA,twoB] plainS 2 1 16777215 w h jU (by decide) (by decide) (by decide) (by decide));have S2:=jj (fun v S w h=>aMk▸vU v S [twoA,twoB] plainS 8 1 16777215 w h jU (by decide) (by decide) (by decide) (by decide));have S3:=jj (fun v S w h=>aMl▸vU v S [twoB] plainS 2 1 16777215 w h jU (by decide) (by decide) (by decide) (by decide));have PL:=jj (fun w=>aP4 w);have TW:=jj (fun w=>aTm w);obtain ⟨s,hs⟩:∃ s,plainS=s:=⟨_,rfl⟩;obtain ⟨L2,h2⟩:∃ L,[twoA,twoB]=L:=⟨_,rfl⟩;obtain ⟨L1,h1⟩:∃ L,[twoB]=L:=⟨_,rfl⟩;rw[hs,h2] at RI S1 S2;rw[hs,h1] at S3;rw[hs] at PL;rw[h2,h1] at TW;clear hs h2 h1
 go_enter func25,ntmps25
 go_upto_region 2 with (first|(go_at_call 65;(with_reducible refine (TW.out _).mono ?_);rintro _ _ ⟨b,T1,T2,rfl,hA,hB,⟨XT,rfl⟩⟩;have HA:=jj hA;have HB:=jj hB;clear hA hB)|(go_at_call 66;with_reducible refine jn (PL.out _) fun X_=>?_))
 obtain ⟨Bs,hBs⟩:∃ B,w.heap.size+XT.sz+X_.sz=B:=⟨_,rfl⟩;refine aE (F:=fun w1=>Row w1 Bs #[s.factor,s.units,.bool s.ccw,s.cull,s.width,s.c0,s.c1,s.c2,s.c3] 48/\PolsR w1 (.slice (some ⟨b,0,none⟩) 2 2) [T1,T2] L2/\PolsR w1 (.slice (some ⟨b,2,none⟩) 1 1) [T2] L1/\∃ X,w1=w.ext X) ⟨by rw[<-hBs];exact rx_,by exact jg HA.out,by exact jg HB.out,jz (by exact bx_)⟩ ?_;rw[hBs];clear HA HB hBs;rintro w1 ⟨Ra,hA,hB,hX⟩;have HX:=jj hX;have Q0:=jj (fun X=>RI.out _ _ (w1.ext X) (hA.ext X));have Q1:=jj (fun X=>S1.out _ _ (w1.ext X) (hA.ext X));have Q2:=jj (fun X=>S2.out _ _ (w1.ext X) (hA.ext X));have Q3:=jj (fun X=>S3.out _ _ (w1.ext X) (hB.ext X));have ca:=Ra.cell;have fa:=Ra.frozen;have la:=Ra.lt;clear Ra hA hB hX RI S1 S2 S3 TW PL;refine jy ?_
 repeat (go_big_quiet_step ((first|(go_at_call 67;with_reducible exact Calls.quiet_ret (Q0.out _))|(go_at_call 68;with_reducible exact Calls.quiet_ret (DE.out _))|(go_at_call 27;with_reducible exact Calls.quiet_ret (Q1.out _))|(go_at_call 27;with_reducible exact Calls.quiet_ret (Q2.out _))|(go_at_call 27;with_reducible exact Calls.quiet_ret (Q3.out _)))))
 refine jv fun X9=>?_
 go_wp2;go_ret;obtain ⟨X0,hX0⟩:=HX.out;subst hX0;exact Ret.of' rfl (by exact br_)
end Go.Proofs.YthcjfanigfgckaaGreat
