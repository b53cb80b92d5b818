import Derived.Test.YthcjfanigfgckaaGreatSHiddenOrder25
set_option linter.unusedVariables false
set_option linter.unusedSimpArgs false
set_option maxRecDepth 100000
set_option maxHeartbeats 16000000
namespace Go.Proofs.YthcjfanigfgckaaGreat
open Go.RowKit
structure LookP where
 width:Int
 soft:Bool
 dashed:Bool
 p:Int
 r:Int
 c:Int
 size:Int
 kind:Int
 front:Int
 back:Int
 ccw:Bool
 cull:Int
 off:Bool
 factor:Int
 units:Int
abbrev LookP.v (k:LookP):Value:=.agg #[.int .i64 k.width,.bool k.soft,.bool k.dashed,.int .i64 k.p,.int .i64 k.r,.int .i64 k.c,.int .i64 k.size,.int .i64 k.kind,.int .i64 k.front,.int .i64 k.back,.bool k.ccw,.int .i64 k.cull,.bool k.off,.int .i64 k.factor,.int .i64 k.units]
structure LookP.wide (k:LookP):Prop where
 width:w64 k.width
 p:w64 k.p
 r:w64 k.r
 c:w64 k.c
 size:w64 k.size
 kind:w64 k.kind
 front:w64 k.front
 back:w64 k.back
 cull:w64 k.cull
 factor:w64 k.factor
 units:w64 k.units
def amongP (n l h:Int):Prop:=l<=n/\n<=h
instance (n l h : Int) : Decidable (amongP n l h) := by unfold amongP; exact inferInstance
def LookP.ok (k:LookP):Prop:=amongP k.width 1 64/\amongP k.size 1 64/\amongP k.kind 0 2/\amongP k.front 0 2/\amongP k.back 0 2/\amongP k.cull 0 3/\amongP k.factor (-65536) 65536/\amongP k.units (-16777216) 16777216/\dashP k.p k.r k.c
instance (k : LookP) : Decidable k.ok := by unfold LookP.ok; exact inferInstance
theorem u64_more {n:Int} (h:w64 n) (k:Int) (k0:0<=k) (k1:k<9223372036854775808):k<IntKind.u64.wrap n↔¬(0<=n/\n<=k):=by
 have:=u64_small h k k0 k1;omega
theorem look_right (k:LookP) (h:k.wide) (w:World):Calls Tryz.prog 12 #[k.v] w (Ret (.bool (decide k.ok)) w):=by
 obtain ⟨h0,h1,h2,h3,h4,h5,h6,h7,h8,h9,h10⟩:=h;have z1:=jj (u64_more h5 2 (by decide) (by decide));have z2:=jj (u64_more h6 2 (by decide) (by decide));have z3:=jj (u64_more h7 2 (by decide) (by decide));have z4:=jj (u64_more h8 3 (by decide) (by decide));have DR:=fun w=>dash_right k.p k.r k.c h1 h3 w
 have E:k.ok↔(1<=k.width/\k.width<=64)/\(1<=k.size/\k.size<=64)/\(0<=k.kind/\k.kind<=2)/\(0<=k.front/\k.front<=2)/\(0<=k.back/\k.back<=2)/\(0<=k.cull/\k.cull<=3)/\(-65536<=k.factor/\k.factor<=65536)/\(-16777216<=k.units/\k.units<=16777216)/\dashP k.p k.r k.c:=Iff.rfl;have HE:=jj E;clear E h0 h1 h2 h3 h4 h5 h6 h7 h8 h9 h10
 by_cases hd:dashP k.p k.r k.c
 ·simp only[hd,decide_true] at DR;have HD:=jj DR;have hd:=jj hd;clear DR
  go_enter Tryz.func12,Tryz.ntmps12
  go_wp2_with (first|(go_at_call 42;(with_reducible refine (HD.out _).mono ?_);rintro _ _ ⟨rfl,X_,rfl⟩))
  all_goals go_ret
  all_goals refine Ret.of' ?_ (by exact bl_)
  all_goals
   have z1:=z1.out;have z2:=z2.out;have z3:=z3.out;have z4:=z4.out
   first
   |(refine bool_t ?_;rw[HE.out];exact ⟨by omega,by omega,by omega,by omega,by omega,by omega,by omega,by omega,hd.out⟩)
   |(refine bool_f ?_;rw[HE.out];omega)
   |(refine bool_d ?_;rw[HE.out];simp only[hd.out,and_true];omega)
 ·simp only[hd,decide_false] at DR;have HD:=jj DR;have hf:decide k.ok=false:=decide_eq_false fun q=>hd (HE.out.1 q).2.2.2.2.2.2.2.2
  rw[hf];clear DR hd hf
  go_enter Tryz.func12,Tryz.ntmps12
  go_wp2_with (first|(go_at_call 42;(with_reducible refine (HD.out _).mono ?_);rintro _ _ ⟨rfl,X_,rfl⟩))
  all_goals go_ret
  all_goals first
   |exact Ret.of' rfl (by exact bl_)
   |exact Ret.of' (by simp) (by exact bl_)
end Go.Proofs.YthcjfanigfgckaaGreat
