import Derived.Test.YthcjfanigfgckaaGreatSHiddenOrder04
set_option linter.unusedVariables false
set_option linter.unusedSimpArgs false
set_option maxRecDepth 100000
set_option maxHeartbeats 16000000
namespace Go.Proofs.YthcjfanigfgckaaGreat
open Go.RowKit
def w64 (x:Int):Prop:=-9223372036854775808<=x/\x<=9223372036854775807
structure WinP.wide (a:WinP):Prop where
 x:w64 a.x
 y:w64 a.y
 z:w64 a.z
 c0:w64 a.c0
 c1:w64 a.c1
 c2:w64 a.c2
 c3:w64 a.c3
theorem u64_small {n:Int} (h:w64 n) (k:Int) (k0:0<=k) (k1:k<9223372036854775808):IntKind.u64.wrap n<=k↔(0<=n/\n<=k):=by
 unfold w64 at h;have e:IntKind.u64.wrap n=n%18446744073709551616:=rfl;rw[e];omega
theorem neg_wrap {n:Int} (h:w64 n):∃ v,IntKind.i64.wrap (-n)=v/\(v=-n\/(n=-9223372036854775808/\v=n)):=by
 unfold w64 at h
 by_cases e:n=-9223372036854775808
 ·subst e;exact ⟨_,rfl,.inr ⟨rfl,by decide⟩⟩
 ·exact ⟨-n,IntWalk.i64_in _ (by omega),.inl rfl⟩
theorem fits17_any (a:WinP) (h:a.wide) (w:World):Calls Tryz.prog 171 #[a.v] w (Ret (.bool (decide a.fitsP)) w):=by
 obtain ⟨hx,hy,hz,h0,h1,h2,h3⟩:=h;have z0:=jj (u64_small hz 16777215 (by decide) (by decide));have c0:=jj (u64_small h0 255 (by decide) (by decide));have c1:=jj (u64_small h1 255 (by decide) (by decide));have c2:=jj (u64_small h2 255 (by decide) (by decide));have c3:=jj (u64_small h3 255 (by decide) (by decide));obtain ⟨nx,ex,fx⟩:=neg_wrap hx;obtain ⟨ny,ey,fy⟩:=neg_wrap hy;have FX:=jj fx;have FY:=jj fy;clear fx fy
 go_enter Tryz.func171,Tryz.ntmps171
 go_wp2;refine wp_loop_rounds 5 ?_
 iterate 5 try any_goals (rw[rounds_succ];go_wp2)
 all_goals go_ret
 all_goals refine Ret.of' ?_ (by exact bl_)
 all_goals
  have z0:=z0.out;have c0:=c0.out;have c1:=c1.out;have c2:=c2.out;have c3:=c3.out;have fx:=FX.out;have fy:=FY.out
  first
  |(refine bool_t ?_;unfold WinP.fitsP;omega)
  |(refine bool_f ?_;unfold WinP.fitsP;omega)
  |(refine bool_d ?_;unfold WinP.fitsP;omega)
def dashP (p r n:Int):Prop:=(0<=p/\p<=65535)/\(1<=r/\r<=256)/\0<=n/\n<=1099511627776
instance (p r n : Int) : Decidable (dashP p r n) := by unfold dashP; exact inferInstance
abbrev D3 (p r n:Int):Value:=.agg #[.int .i64 p,.int .i64 r,.int .i64 n]
theorem u64_lt {n:Int} (h:w64 n):IntKind.u64.wrap n<65536↔(0<=n/\n<=65535):=by
 unfold w64 at h;have e:IntKind.u64.wrap n=n%18446744073709551616:=rfl;rw[e];omega
theorem dash_right (p r n:Int) (hp:w64 p) (hn:w64 n) (w:World):Calls Tryz.prog 42 #[D3 p r n] w (Ret (.bool (decide (dashP p r n))) w):=by
 have z0:=jj (u64_lt hp);have z1:=jj (u64_small hn 1099511627776 (by decide) (by decide))
 go_enter Tryz.func42,Tryz.ntmps42
 go_wp2
 all_goals go_ret
 all_goals refine Ret.of' ?_ (by exact bl_)
 all_goals
  have z0:=z0.out;have z1:=z1.out
  first
  |(refine bool_t ?_;unfold dashP;omega)
  |(refine bool_f ?_;unfold dashP;omega)
  |(refine bool_d ?_;unfold dashP;omega)
def widthP (n:Int):Prop:=1<=n/\n<=64
instance (n : Int) : Decidable (widthP n) := by unfold widthP; exact inferInstance
def lineP (a b:WinP) (n p r c:Int):Prop:=a.fitsP/\b.fitsP/\widthP n/\dashP p r c
instance (a b : WinP) (n p r c : Int) : Decidable (lineP a b n p r c) := by unfold lineP; exact inferInstance
theorem line_dec (a b:WinP) (n p r c:Int):decide (lineP a b n p r c)=(decide a.fitsP&&(decide b.fitsP&&(decide (widthP n)&&decide (dashP p r c)))):=by
 rw[<-Bool.decide_and,<-Bool.decide_and,<-Bool.decide_and];exact decide_eq_decide.2 Iff.rfl
theorem wide_right (a b:WinP) (n p r c:Int) (ha:a.wide) (hb:b.wide) (hp:w64 p) (hc:w64 c) (w:World):Calls Tryz.prog 112 #[a.v,b.v,.int .i64 n,D3 p r c] w (Ret (.bool (decide (lineP a b n p r c))) w):=by
 rw[line_dec];have M1:=jj (fun w=>fits17_any a ha w);have M2:=jj (fun w=>fits17_any b hb w);have M3:=jj (fun w=>dash_right p r c hp hc w);clear ha hb hp hc;obtain ⟨m1,e1⟩:∃ l,decide a.fitsP=l:=⟨_,rfl⟩;obtain ⟨m2,e2⟩:∃ l,decide b.fitsP=l:=⟨_,rfl⟩;obtain ⟨m3,e3⟩:∃ l,decide (dashP p r c)=l:=⟨_,rfl⟩;rw[e1] at M1 ⊢;rw[e2] at M2 ⊢;rw[e3] at M3 ⊢;clear e1 e2 e3;have W:widthP n↔1<=n/\n<=64:=Iff.rfl;have HW:=jj W;clear W
 by_cases hn:1<=n/\n<=64
 ·rw[show decide (widthP n)=true from decide_eq_true hn];obtain ⟨n0,n1⟩:=hn;cases m1<;>cases m2<;>cases m3
  all_goals
   go_enter Tryz.func112,Tryz.ntmps112
   go_wp2_with (first|(go_at_call 171;(with_reducible refine (M1.out _).mono ?_);rintro _ _ ⟨rfl,X_,rfl⟩)|(go_at_call 171;(with_reducible refine (M2.out _).mono ?_);rintro _ _ ⟨rfl,X_,rfl⟩)|(go_at_call 42;(with_reducible refine (M3.out _).mono ?_);rintro _ _ ⟨rfl,X_,rfl⟩))
   go_ret;exact Ret.of' rfl (by exact bl_)
 ·rw[show decide (widthP n)=false from decide_eq_false hn];cases m1<;>cases m2
  all_goals
   go_enter Tryz.func112,Tryz.ntmps112
   go_wp2_with (first|(go_at_call 171;(with_reducible refine (M1.out _).mono ?_);rintro _ _ ⟨rfl,X_,rfl⟩)|(go_at_call 171;(with_reducible refine (M2.out _).mono ?_);rintro _ _ ⟨rfl,X_,rfl⟩)|(go_at_call 42;(with_reducible refine (M3.out _).mono ?_);rintro _ _ ⟨rfl,X_,rfl⟩))
   all_goals first
    |(exfalso;omega)
    |(go_ret;exact Ret.of' rfl (by exact bl_))
def smoP (a b:WinP) (n:Int):Prop:=a.fitsP/\b.fitsP/\widthP n
instance (a b : WinP) (n : Int) : Decidable (smoP a b n) := by unfold smoP; exact inferInstance
end Go.Proofs.YthcjfanigfgckaaGreat
