import Derived.Test.YthcjfanigfgckaaGreatSHidb22
set_option linter.unusedVariables false
set_option linter.unusedSimpArgs false
set_option maxRecDepth 100000
set_option maxHeartbeats 16000000
namespace Go.Proofs.YthcjfanigfgckaaGreat
open Go.RowKit _root_.Go.Proofs.Tryz
instance jh23 : Coe Nat Value := ⟨fun n => .int .i64 n⟩
section
attribute [local go_sem ↓] Go.wp_at_zero Go.wp_at_succ
theorem pS (n:Int) (h0:-9223372036854775807<=n) (h1:n<=9223372036854775807) (w:World):Calls prog 85 #[n] w (Ret (.int .i64 (dQ n)) w):=by
 rw[<-oX]
 go_enter func85,ntmps85
 go_wp2;go_ret;exact Ret.of' (by congr 1) (by exact bl_)
theorem aCl (x y:Int):cW x y=⟨256*x+128,256*y+128,0,0,0,0,0⟩:=by simp only[cW,Int.mul_comm]
theorem pM (p q:WinP) (x y:Int) (hp:p.fits) (hq:q.fits) (hx:Near x y) (w:World):Calls prog 137 #[p.v,q.v,x,y] w (Ret (.bool (decide (jH p q x y))) w):=by
 have A:=fun w=>eM p q (cW x y) (n8 hp hq hx) w
 have L:jH p q x y↔(0<ar p q (cW x y)\/(ar p q (cW x y)=0/\(q.y<p.y\/q.y=p.y/\q.x<p.x))):=Iff.rfl;obtain ⟨n,hn⟩:∃ n,ar p q (cW x y)=n:=⟨_,rfl⟩;simp only[hn] at A L;simp only[aCl] at A;have hL:=jj L;have AH:=jj A;obtain ⟨x0,x1,y0,y1⟩:=hx;clear A hp hq L hn
 go_enter func137,ntmps137
 go_wp2_with (first|(go_at_call 62;with_reducible refine jn (AH.out _) fun X_=>?_))
 all_goals go_ret
 all_goals refine Ret.of' ?_ (by exact bl_)
 all_goals first
  |(refine eQ (hL.out.2 ?_);omega)
  |(refine cX (fun h=>?_);have h':=hL.out.1 h;omega)
  |(refine eX (Iff.trans ?_ hL.out.symm);omega)
  |(refine eX (Iff.trans ?_ hL.out.symm);simp;omega)
theorem aCb (a b c:WinP) (x y:Int) (ha:a.fits) (hb:b.fits) (hc:c.fits) (hx:Near x y) (w:World):Calls prog 90 #[a.v,b.v,c.v,x,y] w (Ret (.bool (decide (cO a b c x y))) w):=by
 have A:=jj (fun w=>eM a b c (iV ha hb hc) w);have H:cO a b c x y↔(ar a b c≠0/\jH a (bE a b c) x y/\jH (bE a b c) (bO a b c) x y/\jH (bO a b c) a x y):=Iff.rfl;obtain ⟨fb,fc⟩:=gO (a:=a) hb hc;have L1:=jj (fun w=>pM a (bE a b c) x y ha fb hx w);have L2:=jj (fun w=>pM (bE a b c) (bO a b c) x y fb fc hx w);have L3:=jj (fun w=>pM (bO a b c) a x y fc ha hx w);have eB:bE a b c=if ar a b c<0 then c else b:=rfl
 have eC:bO a b c=if ar a b c<0 then b else c:=rfl
 obtain ⟨l1,e1⟩:∃ l,decide (jH a (bE a b c) x y)=l:=⟨_,rfl⟩;obtain ⟨l2,e2⟩:∃ l,decide (jH (bE a b c) (bO a b c) x y)=l:=⟨_,rfl⟩;obtain ⟨l3,e3⟩:∃ l,decide (jH (bO a b c) a x y)=l:=⟨_,rfl⟩;have H2:decide (cO a b c x y)=(decide (ar a b c≠0)&&(l1&&(l2&&l3))):=by
  rw[<-e1,<-e2,<-e3,<-Bool.decide_and,<-Bool.decide_and,<-Bool.decide_and];exact decide_eq_decide.2 H
 rw[H2];rw[e1] at L1;rw[e2] at L2;rw[e3] at L3;clear e1 e2 e3 H2 H fb fc hx;have ab:=(iV ha hb hc).ar;obtain ⟨n,hn⟩:∃ n,ar a b c=n:=⟨_,rfl⟩;rw[hn] at A eB eC ab ⊢;clear hn ha hb hc
 by_cases h0:n<0
 ·rw[if_pos h0] at eB eC;simp only[eB,eC] at L1 L2 L3;clear eB eC;have nz:(n==0)=false:=by simp;omega
  have nz2:(n != 0)=true:=by simp;omega
  rw[show decide (n≠0)=true by simp;omega];cases l1<;>cases l2<;>cases l3
  all_goals
   go_enter func90,ntmps90
   go_wp2_with (first|(go_at_call 62;with_reducible refine jn (A.out _) fun X_=>?_)|(go_at_call 137;with_reducible refine jn (L1.out _) fun X_=>?_)|(go_at_call 137;with_reducible refine jn (L2.out _) fun X_=>?_)|(go_at_call 137;with_reducible refine jn (L3.out _) fun X_=>?_))
   go_ret;exact Ret.of' (by simp) (by exact bl_)
 ·rw[if_neg h0] at eB eC;simp only[eB,eC] at L1 L2 L3;clear eB eC
  by_cases hz:n=0
  ·subst hz;rw[show decide ((0:Int)≠0)=false by simp]
   go_enter func90,ntmps90
   go_wp2_with (first|(go_at_call 62;with_reducible refine jn (A.out _) fun X_=>?_))
   go_ret;exact Ret.of' (by simp) (by exact bl_)
  ·have nz:(n==0)=false:=by simp;omega
   have nz2:(n != 0)=true:=by simp;omega
   rw[show decide (n≠0)=true by simp;omega];cases l1<;>cases l2<;>cases l3
   all_goals
    go_enter func90,ntmps90
    go_wp2_with (first|(go_at_call 62;with_reducible refine jn (A.out _) fun X_=>?_)|(go_at_call 137;with_reducible refine jn (L1.out _) fun X_=>?_)|(go_at_call 137;with_reducible refine jn (L2.out _) fun X_=>?_)|(go_at_call 137;with_reducible refine jn (L3.out _) fun X_=>?_))
    go_ret;exact Ret.of' (by simp) (by exact bl_)
end
end Go.Proofs.YthcjfanigfgckaaGreat
