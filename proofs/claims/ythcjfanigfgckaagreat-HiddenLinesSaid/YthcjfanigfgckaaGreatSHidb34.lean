import Derived.Test.YthcjfanigfgckaaGreatSHidb16
import Derived.Test.YthcjfanigfgckaaGreatSHidb26
set_option linter.unusedVariables false
set_option linter.unusedSimpArgs false
set_option maxRecDepth 100000
set_option maxHeartbeats 16000000
namespace Go.Proofs.YthcjfanigfgckaaGreat
open Go.RowKit _root_.Go.Proofs.Tryz
instance jh33 : Coe Nat Value := ⟨fun n => .int .i64 n⟩
structure LookP where
 width:Int
 soft:Bool
 dashed:Bool
 p:Int
 r:Int
 c:Int
 size:Int
 kind:Int
 front:Int
 back:Int
 ccw:Bool
 cull:Int
 off:Bool
 factor:Int
 units:Int
abbrev LookP.v (k:LookP):Value:=.agg #[k.width,.bool k.soft,.bool k.dashed,k.p,k.r,k.c,k.size,k.kind,k.front,k.back,.bool k.ccw,k.cull,.bool k.off,k.factor,k.units]
structure LookP.wide (k:LookP):Prop where
 width:w64 k.width
 p:w64 k.p
 r:w64 k.r
 c:w64 k.c
 size:w64 k.size
 kind:w64 k.kind
 front:w64 k.front
 back:w64 k.back
 cull:w64 k.cull
 factor:w64 k.factor
 units:w64 k.units
def aI (n l h:Int):Prop:=l<=n/\n<=h
instance (n l h : Int) : Decidable (aI n l h) := by unfold aI; exact inferInstance
def LookP.ok (k:LookP):Prop:=aI k.width 1 64/\aI k.size 1 64/\aI k.kind 0 2/\aI k.front 0 2/\aI k.back 0 2/\aI k.cull 0 3/\aI k.factor (-65536) 65536/\aI k.units (-16777216) 16777216/\bW k.p k.r k.c
instance (k : LookP) : Decidable k.ok := by unfold LookP.ok; exact inferInstance
theorem aKc (k:LookP):decide k.ok=(decide (aI k.width 1 64)&&(decide (aI k.size 1 64)&&(decide (aI k.kind 0 2)&&(decide (aI k.front 0 2)&&(decide (aI k.back 0 2)&&(decide (aI k.cull 0 3)&&(decide (aI k.factor (-65536) 65536)&&(decide (aI k.units (-16777216) 16777216)&&decide (bW k.p k.r k.c))))))))):=by
 rw[<-Bool.decide_and,<-Bool.decide_and,<-Bool.decide_and,<-Bool.decide_and,<-Bool.decide_and,<-Bool.decide_and,<-Bool.decide_and,<-Bool.decide_and];exact decide_eq_decide.2 Iff.rfl
theorem aKo (b1 b2 b3 b4 b5 b6 b7 b8:Bool):b1=false\/(b1=true/\b2=false)\/(b1=true/\b2=true/\b3=false)\/(b1=true/\b2=true/\b3=true/\b4=false)\/(b1=true/\b2=true/\b3=true/\b4=true/\b5=false)\/(b1=true/\b2=true/\b3=true/\b4=true/\b5=true/\b6=false)\/(b1=true/\b2=true/\b3=true/\b4=true/\b5=true/\b6=true/\b7=false)\/(b1=true/\b2=true/\b3=true/\b4=true/\b5=true/\b6=true/\b7=true/\b8=false)\/(b1=true/\b2=true/\b3=true/\b4=true/\b5=true/\b6=true/\b7=true/\b8=true):=by
 cases b1<;>cases b2<;>cases b3<;>cases b4<;>cases b5<;>cases b6<;>cases b7<;>cases b8<;>simp
theorem cK (n l h:Int) (w:World):Calls prog 43 #[n,l,h] w (Ret (.bool (decide (aI n l h))) w):=by
 go_enter func43,ntmps43
 go_wp2
 all_goals go_ret
 all_goals refine Ret.of' ?_ (by exact bl_)
 all_goals first
  |(refine eQ ?_;unfold aI;omega)
  |(refine cX ?_;unfold aI;omega)
  |(refine eX ?_;unfold aI;omega)
theorem kT (k:LookP) (w:World):Calls prog 13 #[k.v] w (Ret (.bool (decide k.ok)) w):=by
 rw[aKc];have M1:=jj (fun w=>cK k.width 1 64 w);have M2:=jj (fun w=>cK k.size 1 64 w);have M3:=jj (fun w=>cK k.kind 0 2 w);have M4:=jj (fun w=>cK k.front 0 2 w);have M5:=jj (fun w=>cK k.back 0 2 w);have M6:=jj (fun w=>cK k.cull 0 3 w);have M7:=jj (fun w=>cK k.factor (-65536) 65536 w);have M8:=jj (fun w=>cK k.units (-16777216) 16777216 w);have M9:=jj (fun w=>pR k.p k.r k.c w);generalize decide (aI k.width 1 64)=b1 at *;generalize decide (aI k.size 1 64)=b2 at *;generalize decide (aI k.kind 0 2)=b3 at *;generalize decide (aI k.front 0 2)=b4 at *;generalize decide (aI k.back 0 2)=b5 at *;generalize decide (aI k.cull 0 3)=b6 at *;generalize decide (aI k.factor (-65536) 65536)=b7 at *;generalize decide (aI k.units (-16777216) 16777216)=b8 at *;generalize decide (bW k.p k.r k.c)=b9 at *;rcases aKo b1 b2 b3 b4 b5 b6 b7 b8 with rfl|⟨rfl,rfl⟩|⟨rfl,rfl,rfl⟩|⟨rfl,rfl,rfl,rfl⟩|⟨rfl,rfl,rfl,rfl,rfl⟩|⟨rfl,rfl,rfl,rfl,rfl,rfl⟩|⟨rfl,rfl,rfl,rfl,rfl,rfl,rfl⟩|⟨rfl,rfl,rfl,rfl,rfl,rfl,rfl,rfl⟩|⟨rfl,rfl,rfl,rfl,rfl,rfl,rfl,rfl⟩
 all_goals
  go_enter func13,ntmps13
  go_wp2_with (first|(go_at_call 43;with_reducible refine jn (M1.out _) fun X_=>?_)|(go_at_call 43;with_reducible refine jn (M2.out _) fun X_=>?_)|(go_at_call 43;with_reducible refine jn (M3.out _) fun X_=>?_)|(go_at_call 43;with_reducible refine jn (M4.out _) fun X_=>?_)|(go_at_call 43;with_reducible refine jn (M5.out _) fun X_=>?_)|(go_at_call 43;with_reducible refine jn (M6.out _) fun X_=>?_)|(go_at_call 43;with_reducible refine jn (M7.out _) fun X_=>?_)|(go_at_call 43;with_reducible refine jn (M8.out _) fun X_=>?_)|(go_at_call 44;with_reducible refine jn (M9.out _) fun X_=>?_))
  go_ret;exact Ret.of' (by simp) (by exact bl_)
theorem oP {n:Int} (h:w64 n) (k:Int) (k0:0<=k) (k1:k<9223372036854775808):k<IntKind.u64.wrap n↔¬(0<=n/\n<=k):=by
 have:=aU h k k0 k1;omega
theorem jZ (k:LookP) (h:k.wide) (w:World):Calls prog 12 #[k.v] w (Ret (.bool (decide k.ok)) w):=by
 obtain ⟨h0,h1,h2,h3,h4,h5,h6,h7,h8,h9,h10⟩:=h;have z1:=jj (oP h5 2 (by decide) (by decide));have z2:=jj (oP h6 2 (by decide) (by decide));have z3:=jj (oP h7 2 (by decide) (by decide));have z4:=jj (oP h8 3 (by decide) (by decide));have DR:=fun w=>sV k.p k.r k.c h1 h3 w
 have E:k.ok↔(1<=k.width/\k.width<=64)/\(1<=k.size/\k.size<=64)/\(0<=k.kind/\k.kind<=2)/\(0<=k.front/\k.front<=2)/\(0<=k.back/\k.back<=2)/\(0<=k.cull/\k.cull<=3)/\(-65536<=k.factor/\k.factor<=65536)/\(-16777216<=k.units/\k.units<=16777216)/\bW k.p k.r k.c:=Iff.rfl;have HE:=jj E;clear E h0 h1 h2 h3 h4 h5 h6 h7 h8 h9 h10
 by_cases hd:bW k.p k.r k.c
 ·simp only[hd,decide_true] at DR;have HD:=jj DR;have hd:=jj hd;clear DR
  go_enter func12,ntmps12
  go_wp2_with (first|(go_at_call 42;with_reducible refine jn (HD.out _) fun X_=>?_))
  all_goals go_ret
  all_goals refine Ret.of' ?_ (by exact bl_)
  all_goals
   have z1:=z1.out;have z2:=z2.out;have z3:=z3.out;have z4:=z4.out
   first
   |(refine eQ ?_;rw[HE.out];exact ⟨by omega,by omega,by omega,by omega,by omega,by omega,by omega,by omega,hd.out⟩)
   |(refine cX ?_;rw[HE.out];omega)
   |(refine eX ?_;rw[HE.out];simp only[hd.out,and_true];omega)
 ·simp only[hd,decide_false] at DR;have HD:=jj DR;have hf:decide k.ok=false:=decide_eq_false fun q=>hd (HE.out.1 q).2.2.2.2.2.2.2.2
  rw[hf];clear DR hd hf
  go_enter func12,ntmps12
  go_wp2_with (first|(go_at_call 42;with_reducible refine jn (HD.out _) fun X_=>?_))
  all_goals go_ret
  all_goals first
   |exact Ret.of' rfl (by exact bl_)
   |exact Ret.of' (by simp) (by exact bl_)
end Go.Proofs.YthcjfanigfgckaaGreat
