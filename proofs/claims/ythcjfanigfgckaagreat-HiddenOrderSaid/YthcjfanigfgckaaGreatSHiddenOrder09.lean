import Derived.Test.YthcjfanigfgckaaGreatSHiddenOrder01
set_option linter.unusedVariables false
set_option linter.unusedSimpArgs false
set_option maxRecDepth 100000
set_option maxHeartbeats 16000000
namespace Go.Proofs.YthcjfanigfgckaaGreat
open Go.RowKit
section
def rightP (x0 y0 x1 y1:Int):Prop:=(-4194304<=x0/\x0<=4194304)/\(-4194304<=y0/\y0<=4194304)/\(-4194304<=x1/\x1<=4194304)/\(-4194304<=y1/\y1<=4194304)/\x0<x1/\y0<y1
instance (x0 y0 x1 y1 : Int) : Decidable (rightP x0 y0 x1 y1) := by unfold rightP; exact inferInstance
def hasP (x0 y0 x1 y1 x y:Int):Prop:=rightP x0 y0 x1 y1/\x0<=x/\x<x1/\y0<=y/\y<y1
instance (x0 y0 x1 y1 x y : Int) : Decidable (hasP x0 y0 x1 y1 x y) := by unfold hasP; exact inferInstance
abbrev R4 (x0 y0 x1 y1:Int):Value:=.agg #[.int .i64 x0,.int .i64 y0,.int .i64 x1,.int .i64 y1]
theorem rrect_right (x0 y0 x1 y1:Int) (w:World):Calls Tryz.prog 38 #[R4 x0 y0 x1 y1] w (Ret (.bool (decide (rightP x0 y0 x1 y1))) w):=by
 go_enter Tryz.func38,Tryz.ntmps38
 go_wp2;refine wp_loop_rounds 5 ?_
 iterate 5 try any_goals (rw[rounds_succ];go_wp2)
 all_goals go_ret
 all_goals refine Ret.of' ?_ (by exact bl_)
 all_goals first
  |(refine bool_t ?_;unfold rightP;omega)
  |(refine bool_f ?_;unfold rightP;omega)
  |(refine bool_d ?_;unfold rightP;omega)
theorem rect_right (x0 y0 x1 y1:Int) (w:World):Calls Tryz.prog 46 #[R4 x0 y0 x1 y1] w (Ret (.bool (decide (rightP x0 y0 x1 y1))) w):=by
 go_enter Tryz.func46,Tryz.ntmps46
 go_wp2;refine wp_loop_rounds 5 ?_
 iterate 5 try any_goals (rw[rounds_succ];go_wp2)
 all_goals go_ret
 all_goals refine Ret.of' ?_ (by exact bl_)
 all_goals first
  |(refine bool_t ?_;unfold rightP;omega)
  |(refine bool_f ?_;unfold rightP;omega)
  |(refine bool_d ?_;unfold rightP;omega)
theorem rrect_has (x0 y0 x1 y1 x y:Int) (w:World):Calls Tryz.prog 95 #[R4 x0 y0 x1 y1,.int .i64 x,.int .i64 y] w (Ret (.bool (decide (hasP x0 y0 x1 y1 x y))) w):=by
 have hR:=fun w=>rrect_right x0 y0 x1 y1 w
 by_cases hr:rightP x0 y0 x1 y1
 ·simp only[hr,decide_true] at hR;have HR:=jj hR;have e:hasP x0 y0 x1 y1 x y↔(x0<=x/\x<x1/\y0<=y/\y<y1):=by simp[hasP,hr]
  have HE:=jj e;clear e hR hr
  go_enter Tryz.func95,Tryz.ntmps95
  go_wp2_with (first|(go_at_call 38;(with_reducible refine (HR.out _).mono ?_);rintro _ _ ⟨rfl,X_,rfl⟩))
  all_goals go_ret
  all_goals refine Ret.of' ?_ (by exact bl_)
  all_goals first
   |(refine bool_t (HE.out.2 ?_);omega)
   |(refine bool_f (fun h=>?_);have h':=HE.out.1 h;omega)
   |(refine bool_d (Iff.trans ?_ HE.out.symm);omega)
 ·simp only[hr,decide_false] at hR;have HR:=jj hR;clear hR
  go_enter Tryz.func95,Tryz.ntmps95
  go_wp2_with (first|(go_at_call 38;(with_reducible refine (HR.out _).mono ?_);rintro _ _ ⟨rfl,X_,rfl⟩))
  go_ret;exact Ret.of' (by simp[hasP,hr]) (by exact bl_)
theorem rect_has (x0 y0 x1 y1 x y:Int) (w:World):Calls Tryz.prog 191 #[R4 x0 y0 x1 y1,.int .i64 x,.int .i64 y] w (Ret (.bool (decide (hasP x0 y0 x1 y1 x y))) w):=by
 have hR:=fun w=>rect_right x0 y0 x1 y1 w
 by_cases hr:rightP x0 y0 x1 y1
 ·simp only[hr,decide_true] at hR;have HR:=jj hR;have e:hasP x0 y0 x1 y1 x y↔(x0<=x/\x<x1/\y0<=y/\y<y1):=by simp[hasP,hr]
  have HE:=jj e;clear e hR hr
  go_enter Tryz.func191,Tryz.ntmps191
  go_wp2_with (first|(go_at_call 46;(with_reducible refine (HR.out _).mono ?_);rintro _ _ ⟨rfl,X_,rfl⟩))
  all_goals go_ret
  all_goals refine Ret.of' ?_ (by exact bl_)
  all_goals first
   |(refine bool_t (HE.out.2 ?_);omega)
   |(refine bool_f (fun h=>?_);have h':=HE.out.1 h;omega)
   |(refine bool_d (Iff.trans ?_ HE.out.symm);omega)
 ·simp only[hr,decide_false] at hR;have HR:=jj hR;clear hR
  go_enter Tryz.func191,Tryz.ntmps191
  go_wp2_with (first|(go_at_call 46;(with_reducible refine (HR.out _).mono ?_);rintro _ _ ⟨rfl,X_,rfl⟩))
  go_ret;exact Ret.of' (by simp[hasP,hr]) (by exact bl_)
def areaP (x0 y0 x1 y1:Int):Int:=if rightP x0 y0 x1 y1 then (x1-x0)*(y1-y0) else 0
end
end Go.Proofs.YthcjfanigfgckaaGreat
