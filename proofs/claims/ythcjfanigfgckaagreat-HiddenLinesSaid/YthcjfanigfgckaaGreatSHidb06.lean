import Derived.Test.YthcjfanigfgckaaGreatSHidb01
set_option linter.unusedVariables false
set_option linter.unusedSimpArgs false
set_option maxRecDepth 100000
set_option maxHeartbeats 16000000
namespace Go.Proofs.YthcjfanigfgckaaGreat
open Go.RowKit _root_.Go.Proofs.Tryz
section
def aM (x0 y0 x1 y1:Int):Prop:=(-4194304<=x0/\x0<=4194304)/\(-4194304<=y0/\y0<=4194304)/\(-4194304<=x1/\x1<=4194304)/\(-4194304<=y1/\y1<=4194304)/\x0<x1/\y0<y1
instance (x0 y0 x1 y1 : Int) : Decidable (aM x0 y0 x1 y1) := by unfold aM; exact inferInstance
def nM (x0 y0 x1 y1 x y:Int):Prop:=aM x0 y0 x1 y1/\x0<=x/\x<x1/\y0<=y/\y<y1
instance (x0 y0 x1 y1 x y : Int) : Decidable (nM x0 y0 x1 y1 x y) := by unfold nM; exact inferInstance
abbrev R4 (x0 y0 x1 y1:Int):Value:=.agg #[x0,y0,x1,y1]
theorem bQ (x0 y0 x1 y1:Int) (w:World):Calls prog 38 #[R4 x0 y0 x1 y1] w (Ret (.bool (decide (aM x0 y0 x1 y1))) w):=by
 go_enter func38,ntmps38
 go_wp2;refine wp_loop_rounds 5 ?_
 iterate 5 try any_goals (rw[rounds_succ];go_wp2)
 all_goals go_ret
 all_goals refine Ret.of' ?_ (by exact bl_)
 all_goals first
  |(refine eQ ?_;unfold aM;omega)
  |(refine cX ?_;unfold aM;omega)
  |(refine eX ?_;unfold aM;omega)
theorem bM (x0 y0 x1 y1:Int) (w:World):Calls prog 46 #[R4 x0 y0 x1 y1] w (Ret (.bool (decide (aM x0 y0 x1 y1))) w):=by
 go_enter func46,ntmps46
 go_wp2;refine wp_loop_rounds 5 ?_
 iterate 5 try any_goals (rw[rounds_succ];go_wp2)
 all_goals go_ret
 all_goals refine Ret.of' ?_ (by exact bl_)
 all_goals first
  |(refine eQ ?_;unfold aM;omega)
  |(refine cX ?_;unfold aM;omega)
  |(refine eX ?_;unfold aM;omega)
theorem aEf (x0 y0 x1 y1 x y:Int) (w:World):Calls prog 95 #[R4 x0 y0 x1 y1,x,y] w (Ret (.bool (decide (nM x0 y0 x1 y1 x y))) w):=by
 have hR:=fun w=>bQ x0 y0 x1 y1 w
 by_cases hr:aM x0 y0 x1 y1
 ·simp only[hr,decide_true] at hR;have HR:=jj hR;have e:nM x0 y0 x1 y1 x y↔(x0<=x/\x<x1/\y0<=y/\y<y1):=by simp[nM,hr]
  have HE:=jj e;clear e hR hr
  go_enter func95,ntmps95
  go_wp2_with (first|(go_at_call 38;with_reducible refine jn (HR.out _) fun X_=>?_))
  all_goals go_ret
  all_goals refine Ret.of' ?_ (by exact bl_)
  all_goals first
   |(refine eQ (HE.out.2 ?_);omega)
   |(refine cX (fun h=>?_);have h':=HE.out.1 h;omega)
   |(refine eX (Iff.trans ?_ HE.out.symm);omega)
 ·simp only[hr,decide_false] at hR;have HR:=jj hR;clear hR
  go_enter func95,ntmps95
  go_wp2_with (first|(go_at_call 38;with_reducible refine jn (HR.out _) fun X_=>?_))
  go_ret;exact Ret.of' (by simp[nM,hr]) (by exact bl_)
theorem mA (x0 y0 x1 y1 x y:Int) (w:World):Calls prog 191 #[R4 x0 y0 x1 y1,x,y] w (Ret (.bool (decide (nM x0 y0 x1 y1 x y))) w):=by
 have hR:=fun w=>bM x0 y0 x1 y1 w
 by_cases hr:aM x0 y0 x1 y1
 ·simp only[hr,decide_true] at hR;have HR:=jj hR;have e:nM x0 y0 x1 y1 x y↔(x0<=x/\x<x1/\y0<=y/\y<y1):=by simp[nM,hr]
  have HE:=jj e;clear e hR hr
  go_enter func191,ntmps191
  go_wp2_with (first|(go_at_call 46;with_reducible refine jn (HR.out _) fun X_=>?_))
  all_goals go_ret
  all_goals refine Ret.of' ?_ (by exact bl_)
  all_goals first
   |(refine eQ (HE.out.2 ?_);omega)
   |(refine cX (fun h=>?_);have h':=HE.out.1 h;omega)
   |(refine eX (Iff.trans ?_ HE.out.symm);omega)
 ·simp only[hr,decide_false] at hR;have HR:=jj hR;clear hR
  go_enter func191,ntmps191
  go_wp2_with (first|(go_at_call 46;with_reducible refine jn (HR.out _) fun X_=>?_))
  go_ret;exact Ret.of' (by simp[nM,hr]) (by exact bl_)
def cJ (x0 y0 x1 y1:Int):Int:=if aM x0 y0 x1 y1 then (x1-x0)*(y1-y0) else 0
end
end Go.Proofs.YthcjfanigfgckaaGreat
