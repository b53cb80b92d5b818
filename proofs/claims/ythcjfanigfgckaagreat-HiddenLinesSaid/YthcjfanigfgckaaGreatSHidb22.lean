import Derived.Test.YthcjfanigfgckaaGreatSHidb18
import Derived.Test.YthcjfanigfgckaaGreatSHidb20
set_option linter.unusedVariables false
set_option linter.unusedSimpArgs false
set_option maxRecDepth 100000
set_option maxHeartbeats 16000000
namespace Go.Proofs.YthcjfanigfgckaaGreat
open Go.RowKit _root_.Go.Proofs.Tryz
instance jh21 : Coe Nat Value := ⟨fun n => .int .i64 n⟩
section
attribute [local go_sem ↓] Go.wp_at_zero Go.wp_at_succ
theorem aO {b:Code} {Q:Exit->Act->World->Prop} {n:Nat} {a:Act} {w:World} (F:World->Prop) (hF:F w) (h:∀ wx,F wx->Code.rounds prog b Q n a wx):Code.rounds prog b Q n a w:=h _ hF
theorem pY {w:World} {b n:Nat} {z:Int} {m m':Bool} {s':Value} {a:Option Addr} {l c:Nat} (hr:Row w b #[.bool m,s'] 101) (hs:isSl s') (h:RN w (.agg #[.bool m',.slice a l c]) z n) :
  Row ((w.setCell ⟨b,0,none⟩ (.bool m')).setCell ⟨b,1,none⟩ (.slice a l c)) b #[.bool m',.slice a l c] 101/\RN ((w.setCell ⟨b,0,none⟩ (.bool m')).setCell ⟨b,1,none⟩ (.slice a l c)) (.agg #[.bool m',.slice a l c]) z n:=by
 have C:Chg (fun j=>j=b) w ((w.setCell ⟨b,0,none⟩ (.bool m')).setCell ⟨b,1,none⟩ (.slice a l c)):=chg_two;refine ⟨?_,h.chgs C (fun p e=>by subst e;exact ⟨m,s',hr,hs⟩)⟩;have:=(hr.set 0 (.bool m')).set 1 (.slice a l c)
 simpa using this
def aLc (w:World) (u v t p q r z:Int) (n:Nat) (w1:World):Prop :=
 ∃ m a l c,Row w1 w.heap.size #[u,v,t] 145/\Row w1 (w.heap.size+1) #[p,q,r] 145/\Row w1 (w.heap.size+1+1) #[.bool m,.slice a l c] 101/\RN w1 (.agg #[.bool m,.slice a l c]) z n/\∃ X,w1=w.ext X
theorem qF {a:Option Addr} {l c:Nat}:isSl (.slice a l c):=⟨_,_,_,rfl⟩
theorem gR (u v t p q r d:Int) (hu:sml u) (hv:sml v) (ht:sml t) (hp:bU p) (hq:bU q) (hr:bU r) (d1:1<=d) (hd:sml d) (w:World) :
  Calls prog 138 #[A3 u v t,A3 p q r,d] w (Ret (.int .i64 (nX (wV u v t p q r/d))) w):=by
 have db:=tY hu hv ht hp hq hr;have M1:=jj (fun w=>jS u p hu (by unfold bU at hp;unfold sml;omega) w);have M2:=jj (fun w=>jS v q hv (by unfold bU at hq;unfold sml;omega) w);have M3:=jj (fun w=>jS t r ht (by unfold bU at hr;unfold sml;omega) w);have F1:=jj (fun w=>dI (u*p) (n9 hu (by unfold bU at hp;unfold sml;omega)) w);have F2:=jj (fun w=>dI (v*q) (n9 hv (by unfold bU at hq;unfold sml;omega)) w);have F3:=jj (fun w=>dI (t*r) (n9 ht (by unfold bU at hr;unfold sml;omega)) w);have O:=jj (fun w=>kS d hd w);have F4:=jj (fun w=>dI d (rY hd) w);unfold wV at db ⊢;generalize u*p=x1 at *;generalize v*q=x2 at *;generalize t*r=x3 at *;have ib:inR ((x1+x2+x3)/d):=aL8 (by unfold inR;omega) d1;have TO:=jj (fun v (k:Nat) w h=>aAe v ((x1+x2+x3)/d) k w h);rw[nL ib] at TO;have SM:=jj (fun w=>m7 ((x1+x2+x3)/d) ib w);have FL:=jj (fun v u (j k:Nat) w h1 h2 h3=>qL v u (x1+x2+x3) d j k w h1 h2 d1 h3);generalize (x1+x2+x3)/d=Z at *;clear db ib hu hv ht hp hq hr
 go_enter func138,ntmps138
 go_wp2;refine aE (F:=aLc w u v t p q r 0 0) ⟨_,_,_,_,by exact rx_,by exact rx_,by exact rx_,xM,jz (by exact bl_)⟩ ?_;refine fun w1 S1=>?_
 have HS:=jj S1;clear S1;refine wp_loop_rounds 4 ?_;obtain ⟨m0,a0,l0,c0,r1,r2,r3,hN,hX⟩:=HS.out;clear HS;have HR:=jj r3;have HR1:=jj r1;have HR2:=jj r2;have HX:=jj hX;have HN:=jj hN;have e1:=r1.cell;have f1:=r1.frozen;have k1:=r1.lt;have e2:=r2.cell;have f2:=r2.frozen;have k2:=r2.lt;have e3:=r3.cell;have f3:=r3.frozen;have k3:=r3.lt;clear r1 r2 r3 hX hN;rw[rounds_succ];go_wp2
 refine aJ 10 [none,none,none,none,none,none,none,some ([],srV (I2 x1)),some ([7],srN (x1) 129),some ([8],srN (0+x1) 130)] (by kernel_rfl) (by kernel_rfl) ?_;simp only[jx]
 (repeat (first|(refine aA ?_;intro K_ hK_;go_big_quiet_op;go_big_quiet_on)|simp only[jw]))
 refine aF rfl (fun w_ hw_ hk_ K_ hK_=>?_) (fun v7 f7=>?_)
 ·obtain ⟨X_,rfl⟩:=hw_;go_simp
  go_at_call 87
  refine (M1.out _).mono ?_;rintro _ _ ⟨rfl,hX⟩;exact hK_ _ _ rfl hX
 obtain rfl:=f7
 (repeat (first|(refine aA ?_;intro K_ hK_;go_big_quiet_op;go_big_quiet_on)|simp only[jw]))
 refine aF rfl (fun w_ hw_ hk_ K_ hK_=>?_) (fun v8 f8=>?_)
 ·obtain ⟨X_,rfl⟩:=hw_;go_simp
  go_at_call 60
  refine (F1.out _).mono ?_;rintro _ _ ⟨v,rfl,h1,h2⟩;exact hK_ _ _ h1 h2
 obtain ⟨m8,a8,l8,c8,rfl⟩:=f8
 (repeat (first|(refine aA ?_;intro K_ hK_;go_big_quiet_op;go_big_quiet_on)|simp only[jw]))
 refine aF rfl (fun w_ hw_ hk_ K_ hK_=>?_) (fun v9 f9=>?_)
 ·obtain ⟨X_,rfl⟩:=hw_;have h8:=(hk_ (8,_) (by repeat (first|exact List.mem_cons_self|refine jk ?_))) (by simp);go_simp
  go_at_call 59
  refine (iI _ _ (0) x1 0 129 _ (by first|exact HN.out.ext _|exact HN.out.drew.ext _) h8 (by decide) (by decide)).mono ?_;rintro _ _ ⟨v,rfl,h1,h2⟩;exact hK_ _ _ h1 h2
 obtain ⟨m9,a9,l9,c9,rfl⟩:=f9
 (repeat (first|(refine aA ?_;intro K_ hK_;go_big_quiet_op;go_big_quiet_on)|simp only[jw]))
 refine aT ?_;intro w_ hw_ kk;obtain ⟨X,rfl⟩:=hw_;have h9:=(kk (9,_) (by repeat (first|exact List.mem_cons_self|refine jk ?_)));have H9:=jj h9;clear h9 kk;go_wp2;refine aO (F:=aLc w u v t p q r (0+x1) 130) ?_ ?_
 ·have P:=pY (HR.out.ext X) qF H9.out;rw[World.setCell_ext k3,World.setCell_ext (by simpa [World.setCell] using k3)] at P;refine ⟨_,_,_,_,((HR1.out.other (by omega) 0 _).other (by omega) 1 _).ext X,((HR2.out.other (by omega) 0 _).other (by omega) 1 _).ext X,P.1,P.2,?_⟩;obtain ⟨X0,hX0⟩:=HX.out;subst hX0;exact jz (by exact br_)
 clear HR HR1 HR2 HX HN e1 f1 k1 e2 f2 k2 e3 f3 k3 H9;refine fun w1 S1=>?_
 have HS:=jj S1;clear S1;obtain ⟨m0,a0,l0,c0,r1,r2,r3,hN,hX⟩:=HS.out;clear HS;have HR:=jj r3;have HR1:=jj r1;have HR2:=jj r2;have HX:=jj hX;have HN:=jj hN;have e1:=r1.cell;have f1:=r1.frozen;have k1:=r1.lt;have e2:=r2.cell;have f2:=r2.frozen;have k2:=r2.lt;have e3:=r3.cell;have f3:=r3.frozen;have k3:=r3.lt;clear r1 r2 r3 hX hN;rw[rounds_succ];go_wp2
 refine aJ 10 [none,none,none,none,none,none,none,some ([],srV (I2 x2)),some ([7],srN (x2) 129),some ([8],srN (0+x1+x2) 131)] (by kernel_rfl) (by kernel_rfl) ?_;simp only[jx]
 (repeat (first|(refine aA ?_;intro K_ hK_;go_big_quiet_op;go_big_quiet_on)|simp only[jw]))
 refine aF rfl (fun w_ hw_ hk_ K_ hK_=>?_) (fun v7 f7=>?_)
 ·obtain ⟨X_,rfl⟩:=hw_;go_simp
  go_at_call 87
  refine (M2.out _).mono ?_;rintro _ _ ⟨rfl,hX⟩;exact hK_ _ _ rfl hX
 obtain rfl:=f7
 (repeat (first|(refine aA ?_;intro K_ hK_;go_big_quiet_op;go_big_quiet_on)|simp only[jw]))
 refine aF rfl (fun w_ hw_ hk_ K_ hK_=>?_) (fun v8 f8=>?_)
 ·obtain ⟨X_,rfl⟩:=hw_;go_simp
  go_at_call 60
  refine (F2.out _).mono ?_;rintro _ _ ⟨v,rfl,h1,h2⟩;exact hK_ _ _ h1 h2
 obtain ⟨m8,a8,l8,c8,rfl⟩:=f8
 (repeat (first|(refine aA ?_;intro K_ hK_;go_big_quiet_op;go_big_quiet_on)|simp only[jw]))
 refine aF rfl (fun w_ hw_ hk_ K_ hK_=>?_) (fun v9 f9=>?_)
 ·obtain ⟨X_,rfl⟩:=hw_;have h8:=(hk_ (8,_) (by repeat (first|exact List.mem_cons_self|refine jk ?_))) (by simp);go_simp
  go_at_call 59
  refine (iI _ _ (0+x1) x2 130 129 _ (by first|exact HN.out.ext _|exact HN.out.drew.ext _) h8 (by decide) (by decide)).mono ?_;rintro _ _ ⟨v,rfl,h1,h2⟩;exact hK_ _ _ h1 h2
 obtain ⟨m9,a9,l9,c9,rfl⟩:=f9
 (repeat (first|(refine aA ?_;intro K_ hK_;go_big_quiet_op;go_big_quiet_on)|simp only[jw]))
 refine aT ?_;intro w_ hw_ kk;obtain ⟨X,rfl⟩:=hw_;have h9:=(kk (9,_) (by repeat (first|exact List.mem_cons_self|refine jk ?_)));have H9:=jj h9;clear h9 kk;go_wp2;refine aO (F:=aLc w u v t p q r (0+x1+x2) 131) ?_ ?_
 ·have P:=pY (HR.out.ext X) qF H9.out;rw[World.setCell_ext k3,World.setCell_ext (by simpa [World.setCell] using k3)] at P;refine ⟨_,_,_,_,((HR1.out.other (by omega) 0 _).other (by omega) 1 _).ext X,((HR2.out.other (by omega) 0 _).other (by omega) 1 _).ext X,P.1,P.2,?_⟩;obtain ⟨X0,hX0⟩:=HX.out;subst hX0;exact jz (by exact br_)
 clear HR HR1 HR2 HX HN e1 f1 k1 e2 f2 k2 e3 f3 k3 H9;refine fun w1 S1=>?_
 have HS:=jj S1;clear S1;obtain ⟨m0,a0,l0,c0,r1,r2,r3,hN,hX⟩:=HS.out;clear HS;have HR:=jj r3;have HR1:=jj r1;have HR2:=jj r2;have HX:=jj hX;have HN:=jj hN;have e1:=r1.cell;have f1:=r1.frozen;have k1:=r1.lt;have e2:=r2.cell;have f2:=r2.frozen;have k2:=r2.lt;have e3:=r3.cell;have f3:=r3.frozen;have k3:=r3.lt;clear r1 r2 r3 hX hN;rw[rounds_succ];go_wp2
 refine aJ 10 [none,none,none,none,none,none,none,some ([],srV (I2 x3)),some ([7],srN (x3) 129),some ([8],srN (0+x1+x2+x3) 132)] (by kernel_rfl) (by kernel_rfl) ?_;simp only[jx]
 (repeat (first|(refine aA ?_;intro K_ hK_;go_big_quiet_op;go_big_quiet_on)|simp only[jw]))
 refine aF rfl (fun w_ hw_ hk_ K_ hK_=>?_) (fun v7 f7=>?_)
 ·obtain ⟨X_,rfl⟩:=hw_;go_simp
  go_at_call 87
  refine (M3.out _).mono ?_;rintro _ _ ⟨rfl,hX⟩;exact hK_ _ _ rfl hX
 obtain rfl:=f7
 (repeat (first|(refine aA ?_;intro K_ hK_;go_big_quiet_op;go_big_quiet_on)|simp only[jw]))
 refine aF rfl (fun w_ hw_ hk_ K_ hK_=>?_) (fun v8 f8=>?_)
 ·obtain ⟨X_,rfl⟩:=hw_;go_simp
  go_at_call 60
  refine (F3.out _).mono ?_;rintro _ _ ⟨v,rfl,h1,h2⟩;exact hK_ _ _ h1 h2
 obtain ⟨m8,a8,l8,c8,rfl⟩:=f8
 (repeat (first|(refine aA ?_;intro K_ hK_;go_big_quiet_op;go_big_quiet_on)|simp only[jw]))
 refine aF rfl (fun w_ hw_ hk_ K_ hK_=>?_) (fun v9 f9=>?_)
 ·obtain ⟨X_,rfl⟩:=hw_;have h8:=(hk_ (8,_) (by repeat (first|exact List.mem_cons_self|refine jk ?_))) (by simp);go_simp
  go_at_call 59
  refine (iI _ _ (0+x1+x2) x3 131 129 _ (by first|exact HN.out.ext _|exact HN.out.drew.ext _) h8 (by decide) (by decide)).mono ?_;rintro _ _ ⟨v,rfl,h1,h2⟩;exact hK_ _ _ h1 h2
 obtain ⟨m9,a9,l9,c9,rfl⟩:=f9
 (repeat (first|(refine aA ?_;intro K_ hK_;go_big_quiet_op;go_big_quiet_on)|simp only[jw]))
 refine aT ?_;intro w_ hw_ kk;obtain ⟨X,rfl⟩:=hw_;have h9:=(kk (9,_) (by repeat (first|exact List.mem_cons_self|refine jk ?_)));have H9:=jj h9;clear h9 kk;go_wp2;refine aO (F:=aLc w u v t p q r (0+x1+x2+x3) 132) ?_ ?_
 ·have P:=pY (HR.out.ext X) qF H9.out;rw[World.setCell_ext k3,World.setCell_ext (by simpa [World.setCell] using k3)] at P;refine ⟨_,_,_,_,((HR1.out.other (by omega) 0 _).other (by omega) 1 _).ext X,((HR2.out.other (by omega) 0 _).other (by omega) 1 _).ext X,P.1,P.2,?_⟩;obtain ⟨X0,hX0⟩:=HX.out;subst hX0;exact jz (by exact br_)
 clear HR HR1 HR2 HX HN e1 f1 k1 e2 f2 k2 e3 f3 k3 H9;refine fun w1 S1=>?_
 have HS:=jj S1;clear S1;obtain ⟨m0,a0,l0,c0,r1,r2,r3,hN,hX⟩:=HS.out;simp only[Int.zero_add] at hN;clear HS r1 r2;have HR:=jj r3;have HX:=jj hX;have HN:=jj hN;have e3:=r3.cell;have f3:=r3.frozen;have k3:=r3.lt;clear r3 hX hN;rw[rounds_succ];go_wp2
 refine aBy (.agg #[.bool m0,.slice a0 l0 c0]) d Z ((x1+x2+x3)%d) 134 133 (by kernel_rfl) (by kernel_rfl) (by kernel_rfl) (by kernel_rfl) ?_ ?_
 ·intro i o ho val dn a' w' F S hd hw hcl hlt';rcases i with _|_|_|_|_|_|_|_|_|_|_|_|i
  ·simp at ho;have hp:a'.eval (.tmp 7)=.pointer (some ⟨w.heap.size+1+1,0,none⟩):=F.evalo (by decide);obtain ⟨X0,hX0⟩:=S.ext;have hrow:Row w' (w.heap.size+1+1) #[.bool m0,.slice a0 l0 c0] 101:=by rw[hX0];exact HR.out.ext X0
   subst ho;refine wp_load_row 101 (.tmp 7) rfl (w.heap.size+1+1) hp 101 _ (0,0) _ hrow Tryz.underlying101 rfl (by kernel_rfl) ?_;exact ⟨_,F.put fO hlt' 0 (by decide) _,S.more 0 (by decide) _ hd (fun _=>rfl) (fun h=>nomatch h) (fun h=>nomatch h) (fun h=>nomatch h) (fun h=>nomatch h) (fun h=>nomatch h) (fun h=>nomatch h) (fun h=>nomatch h)⟩
  ·simp at ho;have hp:a'.eval (.tmp 2)=.int .i64 d:=F.evalo (by decide);have ex:(execOp a'.eval o).run prog w'=.ok (.value (.int .i64 d)) w':=by subst ho;simp only[execOp,hp];rfl
   have hdst:o.dst=some (sgS 1):=by subst ho;rfl
   unfold Oper.wp;rw[ex,Oper.upon_value,hdst];exact ⟨_,F.put fO hlt' 1 (by decide) _,S.more 1 (by decide) _ hd (fun h=>nomatch h) (fun _=>rfl) (fun h=>nomatch h) (fun h=>nomatch h) (fun h=>nomatch h) (fun h=>nomatch h) (fun h=>nomatch h) (fun h=>nomatch h)⟩
  ·simp at ho;have d1':dn 1=true:=hw { on:=1,ground:=.data } (by subst ho;simp) rfl;have hp:a'.eval (.tmp 32)=val 1:=F.eval (i:=1) (by decide) d1';rw[S.f1 d1'] at hp;have ex:(execOp a'.eval o).run prog w'=.ok (.enter 61 #[d]) w':=by
    subst ho;simp only[execOp,resolve,List.map_toArray,List.map_cons,List.map_nil,hp];kernel_rfl
   have hdst:o.dst=some (sgS 2):=by subst ho;rfl
   unfold Oper.wp;rw[ex,Oper.upon_enter];refine (O.out _).mono ?_;rintro _ _ ⟨rfl,X,rfl⟩;rw[hdst];exact ⟨_,F.put fO hlt' 2 (by decide) _,(S.grow X).more 2 (by decide) _ hd (fun h=>nomatch h) (fun h=>nomatch h) (fun _=>rfl) (fun h=>nomatch h) (fun h=>nomatch h) (fun h=>nomatch h) (fun h=>nomatch h) (fun h=>nomatch h)⟩
  ·simp at ho;have d2':dn 2=true:=hw { on:=2,ground:=.data } (by subst ho;simp) rfl;have hp:a'.eval (.tmp 33)=val 2:=F.eval (i:=2) (by decide) d2';rw[S.f2 d2'] at hp;have ex:(execOp a'.eval o).run prog w'=.ok (.enter 60 #[I2 d]) w':=by
    subst ho;simp only[execOp,resolve,List.map_toArray,List.map_cons,List.map_nil,hp];kernel_rfl
   have hdst:o.dst=some (sgS 3):=by subst ho;rfl
   unfold Oper.wp;rw[ex,Oper.upon_enter];refine (F4.out _).mono ?_;rintro _ _ ⟨v3,rfl,h3,X,rfl⟩;rw[hdst];exact ⟨_,F.put fO hlt' 3 (by decide) _,(S.grow X).more 3 (by decide) _ hd (fun h=>nomatch h) (fun h=>nomatch h) (fun h=>nomatch h) (fun _=>h3) (fun h=>nomatch h) (fun h=>nomatch h) (fun h=>nomatch h) (fun h=>nomatch h)⟩
  ·simp at ho;have d0':dn 0=true:=hw { on:=0,ground:=.data } (by subst ho;simp) rfl;have d3':dn 3=true:=hw { on:=3,ground:=.data } (by subst ho;simp) rfl;have hp:a'.eval (.tmp 31)=val 0:=F.eval (i:=0) (by decide) d0';have hq:a'.eval (.tmp 34)=val 3:=F.eval (i:=3) (by decide) d3';rw[S.f0 d0'] at hp;have n3:=S.f3 d3';obtain ⟨X0,hX0⟩:=S.ext;have n0:RN w' (.agg #[.bool m0,.slice a0 l0 c0]) (x1+x2+x3) 132:=by rw[hX0];exact HN.out.ext X0
   have ex:(execOp a'.eval o).run prog w'=.ok (.enter 86 #[.agg #[.bool m0,.slice a0 l0 c0],val 3]) w':=by
    subst ho;simp only[execOp,resolve,List.map_toArray,List.map_cons,List.map_nil,hp,hq];kernel_rfl
   have hdst:o.dst=some (sgS 4):=by subst ho;rfl
   have n5:dn 5=false:=by
    cases h5:dn 5 with
    |false=>rfl
    |true=>exact absurd (hcl 5 _ rfl h5 { on:=4,ground:=.data } (by simp) rfl) (by rw[hd];decide)
   have n6:dn 6=false:=by
    cases h5:dn 6 with
    |false=>rfl
    |true=>exact absurd (hcl 6 _ rfl h5 { on:=5,ground:=.data } (by simp) rfl) (by rw[n5];decide)
   have n7:dn 7=false:=by
    cases h5:dn 7 with
    |false=>rfl
    |true=>exact absurd (hcl 7 _ rfl h5 { on:=5,ground:=.data } (by simp) rfl) (by rw[n5];decide)
   unfold Oper.wp;rw[ex,Oper.upon_enter];refine (FL.out _ _ 132 129 _ n0 n3 (by decide)).mono ?_;rintro _ _ ⟨v4,rfl,⟨qv,rv,rfl,gq,gr⟩,X,rfl⟩;rw[hdst];exact ⟨_,F.put fO hlt' 4 (by decide) _,(S.grow X).more 4 (by decide) _ hd (fun h=>nomatch h) (fun h=>nomatch h) (fun h=>nomatch h) (fun h=>nomatch h) (fun _=>⟨⟨n5,n6,n7⟩,qv,rv,rfl,gq,gr⟩) (fun h=>nomatch h) (fun h=>nomatch h) (fun h=>nomatch h)⟩
  ·simp at ho;have d4':dn 4=true:=hw { on:=4,ground:=.data } (by subst ho;simp) rfl;have hp:a'.eval (.tmp 35)=val 4:=F.eval (i:=4) (by decide) d4';have ex:(execOp a'.eval o).run prog w'=.ok (.value (val 4)) w':=by subst ho;simp only[execOp,hp];rfl
   have hdst:o.dst=some (sgS 5):=by subst ho;rfl
   unfold Oper.wp;rw[ex,Oper.upon_value,hdst];exact ⟨_,F.put fO hlt' 5 (by decide) _,S.more 5 (by decide) _ hd (fun h=>nomatch h) (fun h=>nomatch h) (fun h=>nomatch h) (fun h=>nomatch h) (fun h=>nomatch h) (fun _=>⟨d4',rfl⟩) (fun h=>nomatch h) (fun h=>nomatch h)⟩
  ·simp at ho;have d5':dn 5=true:=hw { on:=5,ground:=.data } (by subst ho;simp) rfl;have hp:a'.eval (.tmp 30)=val 5:=F.eval (i:=5) (by decide) d5';obtain ⟨q4,r4,e4,-,-⟩:=S.f4 (S.c5 d5');rw[S.f5 d5',e4] at hp;have ex:(execOp a'.eval o).run prog w'=.ok (.value q4) w':=by subst ho;simp only[execOp,hp];rfl
   have hdst:o.dst=some (sgS 6):=by subst ho;rfl
   unfold Oper.wp;rw[ex,Oper.upon_value,hdst];exact ⟨_,F.put fO hlt' 6 (by decide) _,S.more 6 (by decide) _ hd (fun h=>nomatch h) (fun h=>nomatch h) (fun h=>nomatch h) (fun h=>nomatch h) (fun h=>nomatch h) (fun h=>nomatch h) (fun _=>⟨q4,r4,e4,rfl⟩) (fun h=>nomatch h)⟩
  ·simp at ho;have d5':dn 5=true:=hw { on:=5,ground:=.data } (by subst ho;simp) rfl;have hp:a'.eval (.tmp 30)=val 5:=F.eval (i:=5) (by decide) d5';obtain ⟨q4,r4,e4,-,-⟩:=S.f4 (S.c5 d5');rw[S.f5 d5',e4] at hp;have ex:(execOp a'.eval o).run prog w'=.ok (.value r4) w':=by subst ho;simp only[execOp,hp];rfl
   have hdst:o.dst=some (sgS 7):=by subst ho;rfl
   unfold Oper.wp;rw[ex,Oper.upon_value,hdst];exact ⟨_,F.put fO hlt' 7 (by decide) _,S.more 7 (by decide) _ hd (fun h=>nomatch h) (fun h=>nomatch h) (fun h=>nomatch h) (fun h=>nomatch h) (fun h=>nomatch h) (fun h=>nomatch h) (fun h=>nomatch h) (fun _=>⟨q4,r4,e4,rfl⟩)⟩
  ·simp at ho;have n10:dn 10=false:=by
    cases h5:dn 10 with
    |false=>rfl
    |true=>exact absurd (hcl 10 _ rfl h5 { on:=8,ground:=.data } (by simp) rfl) (by rw[hd];decide)
   have ex:(execOp a'.eval o).run prog w'=.ok (.value (.pointer (some ⟨w'.heap.size,0,none⟩))) (w'.alloc (.cells #[.bool false,.slice none 0 0] 101)):=by
    subst ho;simp[execOp,Instr.alloc,newVar,Tryz.zeroValue101,Sem.run_bind,Result.andThen,Value.cells,newRow,newObj,Sem.run]
   have hdst:o.dst=some (sgS 8):=by subst ho;rfl
   unfold Oper.wp;rw[ex,Oper.upon_value,hdst];exact ⟨_,F.put fO hlt' 8 (by decide) _,S.place 8 (by decide) hd n10⟩
  ·simp at ho;have n10:dn 10=false:=by
    cases h5:dn 10 with
    |false=>rfl
    |true=>exact absurd (hcl 10 _ rfl h5 { on:=9,ground:=.phase } (by simp) rfl) (by rw[hd];decide)
   have ex:(execOp a'.eval o).run prog w'=.ok (.value (.pointer (some ⟨w'.heap.size,0,none⟩))) (w'.alloc (.cells #[.bool false,.slice none 0 0] 101)):=by
    subst ho;simp[execOp,Instr.alloc,newVar,Tryz.zeroValue101,Sem.run_bind,Result.andThen,Value.cells,newRow,newObj,Sem.run]
   have hdst:o.dst=some (sgS 9):=by subst ho;rfl
   unfold Oper.wp;rw[ex,Oper.upon_value,hdst];exact ⟨_,F.put fO hlt' 9 (by decide) _,S.place 9 (by decide) hd n10⟩
  ·simp at ho;have d8':dn 8=true:=hw { on:=8,ground:=.data } (by subst ho;simp) rfl;have d6':dn 6=true:=hw { on:=6,ground:=.data } (by subst ho;simp) rfl;have d4':dn 4=true:=hw { on:=4,ground:=.chain } (by subst ho;simp) rfl;have d9':dn 9=true:=hw { on:=9,ground:=.phase } (by subst ho;simp) rfl;have hp:a'.eval (.tmp 9)=val 8:=F.eval (i:=8) (by decide) d8';have hq:a'.eval (.tmp 36)=val 6:=F.eval (i:=6) (by decide) d6';obtain ⟨p,e8,-,-,⟨mm,ss,hrow,hsl⟩,-⟩:=S.f8 d8';obtain ⟨q4,r4,e4,e6⟩:=S.f6 d6';obtain ⟨q5,r5,e5,g1,-⟩:=S.f4 d4';obtain ⟨rfl,rfl⟩:q4=q5/\r4=r5:=by
    rw[e4] at e5;injection e5 with e5;injection e5 with e5;simpa using e5
   obtain ⟨mq,aq,kq,cq,rfl⟩:=g1.form;rw[e8] at hp;rw[e6] at hq;have h1:=run_storeVar_row (P:=prog) w' p 101 101 #[.bool mm,ss] #[.bool mq,.slice aq kq cq] hrow (by kernel_rfl) rfl (by simp[Value.oneCell']);rw[sJ hrow] at h1;have ex:(execOp a'.eval o).run prog w'=.ok .skip ((w'.setCell ⟨p,0,none⟩ (.bool mq)).setCell ⟨p,1,none⟩ (.slice aq kq cq)):=by
    subst ho;simp only[execOp,hp,hq,Instr.storeAt,Instr.sureAddr,Sem.run_bind,Sem.run_pure,Result.andThen];rw[h1]
   have hdst:o.dst=none:=by subst ho;rfl
   unfold Oper.wp;rw[ex,Oper.upon_skip,hdst];exact ⟨_,F.skip (by decide),S.put1 d4' d8' d9' e8 e4⟩
  ·simp at ho;have d9':dn 9=true:=hw { on:=9,ground:=.data } (by subst ho;simp) rfl;have d7':dn 7=true:=hw { on:=7,ground:=.data } (by subst ho;simp) rfl;have d10':dn 10=true:=hw { on:=10,ground:=.chain } (by subst ho;simp) rfl;have d4':dn 4=true:=hw { on:=4,ground:=.phase } (by subst ho;simp) rfl;have d8':dn 8=true:=hw { on:=8,ground:=.phase } (by subst ho;simp) rfl;have hp:a'.eval (.tmp 10)=val 9:=F.eval (i:=9) (by decide) d9';have hq:a'.eval (.tmp 37)=val 7:=F.eval (i:=7) (by decide) d7';obtain ⟨p,e9,-,-,⟨mm,ss,hrow,hsl⟩⟩:=S.f9 d9';obtain ⟨q4,r4,e4,e7⟩:=S.f7 d7';obtain ⟨q5,r5,e5,-,g1⟩:=S.f4 d4';obtain ⟨rfl,rfl⟩:q4=q5/\r4=r5:=by
    rw[e4] at e5;injection e5 with e5;injection e5 with e5;simpa using e5
   obtain ⟨mq,aq,kq,cq,rfl⟩:=g1.form;rw[e9] at hp;rw[e7] at hq;have h1:=run_storeVar_row (P:=prog) w' p 101 101 #[.bool mm,ss] #[.bool mq,.slice aq kq cq] hrow (by kernel_rfl) rfl (by simp[Value.oneCell']);rw[sJ hrow] at h1;have ex:(execOp a'.eval o).run prog w'=.ok .skip ((w'.setCell ⟨p,0,none⟩ (.bool mq)).setCell ⟨p,1,none⟩ (.slice aq kq cq)):=by
    subst ho;simp only[execOp,hp,hq,Instr.storeAt,Instr.sureAddr,Sem.run_bind,Sem.run_pure,Result.andThen];rw[h1]
   have hdst:o.dst=none:=by subst ho;rfl
   unfold Oper.wp;rw[ex,Oper.upon_skip,hdst];exact ⟨_,F.skip (by decide),S.put2 d4' d8' d9' d10' e9 e4⟩
  ·simp at ho
 ·intro val dn w2 S hall;obtain ⟨p,e8,l1,l2,-,D⟩:=S.f8 (hall 8 (by decide));obtain ⟨mq,sq,hrow,hN2⟩:=D (hall 10 (by decide));obtain ⟨aq,kq,cq,rfl⟩:=hN2.sl;obtain ⟨X2,hX2⟩:=S.ext;simp only[gT,sgS,e8,jw];have HN3:=jj hN2;have c2:=hrow.cell;have f2:=hrow.frozen;have k2:=hrow.lt;have HX2:=jj hX2;clear hrow hN2 D S hX2 hall e8 l1 l2
  go_wp2_with (first
   |(go_at_call 88;with_reducible refine jn (TO.out _ 134 _ (by repeat (first|exact HN3.out|with_reducible refine RN.ext ?_ _|with_reducible refine RN.alloc ?_ _|with_reducible refine RN.drew ?_))) fun X_=>?_)
   |(go_at_call 89;with_reducible refine jn (SM.out _) fun X_=>?_))
  go_ret;refine Ret.of ?_;obtain ⟨X1,hX1⟩:=HX.out;rw[HX2.out,hX1];exact bl_
end
section
section
theorem mG (p q n d:Int):min p q<=mid p q n d/\mid p q n d<=max p q:=by
 have:=qA p q n d;omega
end
section
end
section
end
section
attribute [local go_sem ↓] Go.wp_at_zero Go.wp_at_succ
theorem aJi (p q n d:Int) (hp:tame p) (hq:tame q) (hn:sml n) (hd:sml d) (w:World):Calls prog 232 #[p,q,n,d] w (Ret (.int .i64 (mid p q n d)) w):=by
 obtain ⟨hp0,hp1⟩:=hp;obtain ⟨hq0,hq1⟩:=hq
 by_cases h:d<1
 ·rw[aJ8 (.inl h)]
  go_enter func232,ntmps232
  go_wp2;go_ret;exact Ret.of (by exact bl_)
 ·have hr:p+(q-p)*(max 0 (min n d))/d=mid p q n d:=by
   by_cases h1:n<=0
   ·rw[aJ8 (.inr h1),show max 0 (min n d)=0 by omega];simp
   ·by_cases h2:d<=n
    ·rw[aNl (by omega) h2,show max 0 (min n d)=d by omega,Int.mul_ediv_cancel _ (by omega)];omega
    ·rw[aJ9 (by omega) h2,show max 0 (min n d)=n by omega]
  have R:=jj (fun w=>aB9 p q (max 0 (min n d)) d ⟨hp0,hp1⟩ ⟨hq0,hq1⟩ (by omega) (by omega) (by omega) hd w);rw[hr] at R;clear hr
  go_enter func232,ntmps232
  go_wp2_with (first|(go_at_call 255;with_reducible refine jn (R.out _) fun X_=>?_))
  go_ret;exact Ret.of (by exact bl_)
theorem aEx (a b:WinP) (n d:Int) (ha:a.tame) (hb:b.tame) (hn:sml n) (hd:sml d) (w:World):Calls prog 199 #[a.v,b.v,n,d] w (Ret (mE a b n d) w):=by
 have M:=jj (fun p q hp hq w=>aJi p q n d hp hq hn hd w);obtain ⟨az,a0,a1,a2,a3⟩:=ha;obtain ⟨bz,b0,b1,b2,b3⟩:=hb
 go_enter func199,ntmps199
 go_wp2;refine wp_loop_rounds 5 ?_
 iterate 4
  rw[rounds_succ];go_wp2;refine jm 12 ?_;simp only[jx]
  repeat (go_big_quiet_step ((go_at_call 232;(with_reducible refine Calls.quiet_ret (M.out _ _ ?_ ?_ _));assumption;assumption)))
  refine jv fun X=>?_
  go_wp2_with fail
 rw[rounds_succ];go_wp2;refine jm 9 ?_;simp only[jx]
 repeat (go_big_quiet_step ((go_at_call 232;(with_reducible refine Calls.quiet_ret (M.out _ _ ?_ ?_ _));assumption;assumption)))
 refine jv fun X=>?_
 go_wp2;refine bodyPost_ret (v:=mE a b n d) ?_ rfl (Ret.of ?_)
 ·simp[results,results199,go_sem]
 ·exact bl_
theorem yC {a b:WinP} {n d n' d':Int} (h1:n=n') (h2:d=d'):mE a b n d=mE a b n' d':=by rw[h1,h2]
theorem sD (a b:WinP) (x y:Int) (ha:a.fits) (hb:b.fits) (hx:Near x y) (w:World):Calls prog 151 #[a.v,b.v,x,y] w (Ret (mE a b (alN a b x y) (alD a b)) w):=by
 obtain ⟨x0,x1,y0,y1⟩:=hx;have B:=jj (fun n d hn hd w=>aEx a b n d ha.t hb.t hn hd w);obtain ⟨ax0,ax1,ay0,ay1,-,-,-⟩:=ha;obtain ⟨bx0,bx1,by0,by1,-,-,-⟩:=hb
 go_enter func151,ntmps151
 go_wp2;refine jy ?_
 repeat (go_big_quiet_step ((fail)))
 refine jv fun X=>?_
 go_wp2_with (first|(go_at_call 199;(with_reducible refine (B.out _ _ ?_ ?_ _).mono ?_);(unfold sml;omega);(unfold sml;omega);rintro _ _ ⟨rfl,X_,rfl⟩))
 all_goals
  refine bodyPost_ret (v:=mE a b _ _) (by simp[results,results151,go_sem];exact ⟨rfl,rfl,rfl,rfl,rfl⟩) rfl (Ret.of' (yC ?_ ?_) (by exact bl_))
  ·unfold alN
   repeat' split
   all_goals omega
  ·unfold alD
   repeat' split
   all_goals omega
end
end
end Go.Proofs.YthcjfanigfgckaaGreat
