import Derived.Test.YthcjfanigfgckaaGreatSHidb11
set_option linter.unusedVariables false
set_option linter.unusedSimpArgs false
set_option maxRecDepth 100000
set_option maxHeartbeats 16000000
namespace Go.Proofs.YthcjfanigfgckaaGreat
open Go.RowKit _root_.Go.Proofs.Tryz
instance jh15 : Coe Nat Value := ⟨fun n => .int .i64 n⟩
def w64 (x:Int):Prop:=-9223372036854775808<=x/\x<=9223372036854775807
structure WinP.wide (a:WinP):Prop where
 x:w64 a.x
 y:w64 a.y
 z:w64 a.z
 c0:w64 a.c0
 c1:w64 a.c1
 c2:w64 a.c2
 c3:w64 a.c3
theorem aU {n:Int} (h:w64 n) (k:Int) (k0:0<=k) (k1:k<9223372036854775808):IntKind.u64.wrap n<=k↔(0<=n/\n<=k):=by
 unfold w64 at h;have e:IntKind.u64.wrap n=n%18446744073709551616:=rfl;rw[e];omega
theorem aAr {n:Int} (h:w64 n):∃ v,IntKind.i64.wrap (-n)=v/\(v=-n\/(n=-9223372036854775808/\v=n)):=by
 unfold w64 at h
 by_cases e:n=-9223372036854775808
 ·subst e;exact ⟨_,rfl,.inr ⟨rfl,by decide⟩⟩
 ·exact ⟨-n,IntWalk.i64_in _ (by omega),.inl rfl⟩
theorem sP (a:WinP) (h:a.wide) (w:World):Calls prog 171 #[a.v] w (Ret (.bool (decide a.fitsP)) w):=by
 obtain ⟨hx,hy,hz,h0,h1,h2,h3⟩:=h;have z0:=jj (aU hz 16777215 (by decide) (by decide));have c0:=jj (aU h0 255 (by decide) (by decide));have c1:=jj (aU h1 255 (by decide) (by decide));have c2:=jj (aU h2 255 (by decide) (by decide));have c3:=jj (aU h3 255 (by decide) (by decide));obtain ⟨nx,ex,fx⟩:=aAr hx;obtain ⟨ny,ey,fy⟩:=aAr hy;have FX:=jj fx;have FY:=jj fy;clear fx fy
 go_enter func171,ntmps171
 go_wp2;refine wp_loop_rounds 5 ?_
 iterate 5 try any_goals (rw[rounds_succ];go_wp2)
 all_goals go_ret
 all_goals refine Ret.of' ?_ (by exact bl_)
 all_goals
  have z0:=z0.out;have c0:=c0.out;have c1:=c1.out;have c2:=c2.out;have c3:=c3.out;have fx:=FX.out;have fy:=FY.out
  first
  |(refine eQ ?_;unfold WinP.fitsP;omega)
  |(refine cX ?_;unfold WinP.fitsP;omega)
  |(refine eX ?_;unfold WinP.fitsP;omega)
def bW (p r n:Int):Prop:=(0<=p/\p<=65535)/\(1<=r/\r<=256)/\0<=n/\n<=1099511627776
instance (p r n : Int) : Decidable (bW p r n) := by unfold bW; exact inferInstance
abbrev D3 (p r n:Int):Value:=.agg #[p,r,n]
theorem aOy {n:Int} (h:w64 n):IntKind.u64.wrap n<65536↔(0<=n/\n<=65535):=by
 unfold w64 at h;have e:IntKind.u64.wrap n=n%18446744073709551616:=rfl;rw[e];omega
theorem sV (p r n:Int) (hp:w64 p) (hn:w64 n) (w:World):Calls prog 42 #[D3 p r n] w (Ret (.bool (decide (bW p r n))) w):=by
 have z0:=jj (aOy hp);have z1:=jj (aU hn 1099511627776 (by decide) (by decide))
 go_enter func42,ntmps42
 go_wp2
 all_goals go_ret
 all_goals refine Ret.of' ?_ (by exact bl_)
 all_goals
  have z0:=z0.out;have z1:=z1.out
  first
  |(refine eQ ?_;unfold bW;omega)
  |(refine cX ?_;unfold bW;omega)
  |(refine eX ?_;unfold bW;omega)
theorem pR (p r n:Int) (w:World):Calls prog 44 #[D3 p r n] w (Ret (.bool (decide (bW p r n))) w):=by
 go_enter func44,ntmps44
 go_wp2
 all_goals go_ret
 all_goals refine Ret.of' ?_ (by exact bl_)
 all_goals
  first
  |(refine eQ ?_;unfold bW;omega)
  |(refine cX ?_;unfold bW;omega)
  |(refine eX ?_;unfold bW;omega)
def cH (n:Int):Prop:=1<=n/\n<=64
instance (n : Int) : Decidable (cH n) := by unfold cH; exact inferInstance
def gM (a b:WinP) (n p r c:Int):Prop:=a.fitsP/\b.fitsP/\cH n/\bW p r c
instance (a b : WinP) (n p r c : Int) : Decidable (gM a b n p r c) := by unfold gM; exact inferInstance
theorem aAy (a b:WinP) (n p r c:Int):decide (gM a b n p r c)=(decide a.fitsP&&(decide b.fitsP&&(decide (cH n)&&decide (bW p r c)))):=by
 rw[<-Bool.decide_and,<-Bool.decide_and,<-Bool.decide_and];exact decide_eq_decide.2 Iff.rfl
theorem fH (a b:WinP) (n p r c:Int) (ha:a.wide) (hb:b.wide) (hp:w64 p) (hc:w64 c) (w:World):Calls prog 112 #[a.v,b.v,n,D3 p r c] w (Ret (.bool (decide (gM a b n p r c))) w):=by
 rw[aAy];have M1:=jj (fun w=>sP a ha w);have M2:=jj (fun w=>sP b hb w);have M3:=jj (fun w=>sV p r c hp hc w);clear ha hb hp hc;obtain ⟨m1,e1⟩:∃ l,decide a.fitsP=l:=⟨_,rfl⟩;obtain ⟨m2,e2⟩:∃ l,decide b.fitsP=l:=⟨_,rfl⟩;obtain ⟨m3,e3⟩:∃ l,decide (bW p r c)=l:=⟨_,rfl⟩;rw[e1] at M1 ⊢;rw[e2] at M2 ⊢;rw[e3] at M3 ⊢;clear e1 e2 e3;have W:cH n↔1<=n/\n<=64:=Iff.rfl;have HW:=jj W;clear W
 by_cases hn:1<=n/\n<=64
 ·rw[show decide (cH n)=true from decide_eq_true hn];obtain ⟨n0,n1⟩:=hn;cases m1<;>cases m2<;>cases m3
  all_goals
   go_enter func112,ntmps112
   go_wp2_with (first|(go_at_call 171;with_reducible refine jn (M1.out _) fun X_=>?_)|(go_at_call 171;with_reducible refine jn (M2.out _) fun X_=>?_)|(go_at_call 42;with_reducible refine jn (M3.out _) fun X_=>?_))
   go_ret;exact Ret.of' rfl (by exact bl_)
 ·rw[show decide (cH n)=false from decide_eq_false hn];cases m1<;>cases m2
  all_goals
   go_enter func112,ntmps112
   go_wp2_with (first|(go_at_call 171;with_reducible refine jn (M1.out _) fun X_=>?_)|(go_at_call 171;with_reducible refine jn (M2.out _) fun X_=>?_)|(go_at_call 42;with_reducible refine jn (M3.out _) fun X_=>?_))
   all_goals first
    |(exfalso;omega)
    |(go_ret;exact Ret.of' rfl (by exact bl_))
theorem fS (a b:WinP) (n p r c:Int) (w:World):Calls prog 144 #[a.v,b.v,n,D3 p r c] w (Ret (.bool (decide (gM a b n p r c))) w):=by
 rw[aAy];have M1:=jj (fun w=>nB a w);have M2:=jj (fun w=>nB b w);have M3:=jj (fun w=>pR p r c w);obtain ⟨m1,e1⟩:∃ l,decide a.fitsP=l:=⟨_,rfl⟩;obtain ⟨m2,e2⟩:∃ l,decide b.fitsP=l:=⟨_,rfl⟩;obtain ⟨m3,e3⟩:∃ l,decide (bW p r c)=l:=⟨_,rfl⟩;rw[e1] at M1 ⊢;rw[e2] at M2 ⊢;rw[e3] at M3 ⊢;clear e1 e2 e3
 by_cases hn:1<=n/\n<=64
 ·rw[show decide (cH n)=true from decide_eq_true hn];obtain ⟨n0,n1⟩:=hn;cases m1<;>cases m2<;>cases m3
  all_goals
   go_enter func144,ntmps144
   go_wp2_with (first|(go_at_call 54;with_reducible refine jn (M1.out _) fun X_=>?_)|(go_at_call 54;with_reducible refine jn (M2.out _) fun X_=>?_)|(go_at_call 44;with_reducible refine jn (M3.out _) fun X_=>?_))
   go_ret;exact Ret.of' rfl (by exact bl_)
 ·rw[show decide (cH n)=false from decide_eq_false hn];cases m1<;>cases m2
  all_goals
   go_enter func144,ntmps144
   go_wp2_with (first|(go_at_call 54;with_reducible refine jn (M1.out _) fun X_=>?_)|(go_at_call 54;with_reducible refine jn (M2.out _) fun X_=>?_)|(go_at_call 44;with_reducible refine jn (M3.out _) fun X_=>?_))
   all_goals first
    |(exfalso;omega)
    |(go_ret;exact Ret.of' rfl (by exact bl_))
def aSb (a b:WinP) (n:Int):Prop:=a.fitsP/\b.fitsP/\cH n
instance (a b : WinP) (n : Int) : Decidable (aSb a b n) := by unfold aSb; exact inferInstance
end Go.Proofs.YthcjfanigfgckaaGreat
