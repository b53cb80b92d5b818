import Derived.Test.YthcjfanigfgckaaGreatSHiddenOrder16
import Derived.Test.YthcjfanigfgckaaGreatSHiddenOrder18
set_option linter.unusedVariables false
set_option linter.unusedSimpArgs false
set_option maxRecDepth 100000
set_option maxHeartbeats 16000000
namespace Go.Proofs.YthcjfanigfgckaaGreat
open Go.RowKit
section
def facv (k si di s3:Int):Int:=if k=0 then 0 else if k=1 then 255 else if k=2 then si else if k=3 then 255-si else if k=4 then di else if k=5 then 255-di else if k=6 then s3 else 255-s3
theorem factor_any (k i:Int) (h0:0<=k) (h7:k<=7) (i0:0<=i) (i3:i<=3) (s0 s1 s2 s3 d0 d1 d2 d3:Int) (hs:May s0 s1 s2 s3) (hd:May d0 d1 d2 d3) (w:World) :
  Calls Tryz.prog 208 #[.int .i64 k,C4 s0 s1 s2 s3,C4 d0 d1 d2 d3,.int .i64 i] w (Ret (.int .i64 (facv k (get4 s0 s1 s2 s3 i) (get4 d0 d1 d2 d3 i) s3)) w):=by
 have fs:=at4 s0 s1 s2 s3 i0 i3;have fd:=at4 d0 d1 d2 d3 i0 i3;obtain ⟨p1,p2⟩:=hs.get i0 i3;obtain ⟨p3,p4⟩:=hd.get i0 i3;obtain ⟨-,-,-,-,-,-,e0,e1⟩:=hs;clear hd;rcases cases8 h0 h7 with rfl|rfl|rfl|rfl|rfl|rfl|rfl|rfl
 all_goals
  clear h0 h7
  go_enter Tryz.func208,Tryz.ntmps208
  go_wp2;go_ret;exact Ret.of' (by simp[facv]) (((Below.refl _ _).alloc (Nat.le_refl _) _).alloc (by simp) _)
theorem factor0 (k:Int) (h0:0<=k) (h7:k<=7) (s0 s1 s2 s3 d0 d1 d2 d3:Int) (hs:May s0 s1 s2 s3) (hd:May d0 d1 d2 d3) (w:World) :
  Calls Tryz.prog 208 #[.int .i64 k,C4 s0 s1 s2 s3,C4 d0 d1 d2 d3,.int .i64 0] w (Ret (.int .i64 (facv k s0 d0 s3)) w) :=
 factor_any k 0 h0 h7 (by decide) (by decide) s0 s1 s2 s3 d0 d1 d2 d3 hs hd w
theorem factor1 (k:Int) (h0:0<=k) (h7:k<=7) (s0 s1 s2 s3 d0 d1 d2 d3:Int) (hs:May s0 s1 s2 s3) (hd:May d0 d1 d2 d3) (w:World) :
  Calls Tryz.prog 208 #[.int .i64 k,C4 s0 s1 s2 s3,C4 d0 d1 d2 d3,.int .i64 1] w (Ret (.int .i64 (facv k s1 d1 s3)) w) :=
 factor_any k 1 h0 h7 (by decide) (by decide) s0 s1 s2 s3 d0 d1 d2 d3 hs hd w
theorem factor2 (k:Int) (h0:0<=k) (h7:k<=7) (s0 s1 s2 s3 d0 d1 d2 d3:Int) (hs:May s0 s1 s2 s3) (hd:May d0 d1 d2 d3) (w:World) :
  Calls Tryz.prog 208 #[.int .i64 k,C4 s0 s1 s2 s3,C4 d0 d1 d2 d3,.int .i64 2] w (Ret (.int .i64 (facv k s2 d2 s3)) w) :=
 factor_any k 2 h0 h7 (by decide) (by decide) s0 s1 s2 s3 d0 d1 d2 d3 hs hd w
theorem factor3 (k:Int) (h0:0<=k) (h7:k<=7) (s0 s1 s2 s3 d0 d1 d2 d3:Int) (hs:May s0 s1 s2 s3) (hd:May d0 d1 d2 d3) (w:World) :
  Calls Tryz.prog 208 #[.int .i64 k,C4 s0 s1 s2 s3,C4 d0 d1 d2 d3,.int .i64 3] w (Ret (.int .i64 (facv k s3 d3 s3)) w) :=
 factor_any k 3 h0 h7 (by decide) (by decide) s0 s1 s2 s3 d0 d1 d2 d3 hs hd w
theorem facv_01 {k s d a:Int} (h0:0<=k) (h7:k<=7) (hs:0<=s/\s<=255) (hd:0<=d/\d<=255) (ha:0<=a/\a<=255):0<=facv k s d a/\facv k s d a<=255:=by
 rcases cases8 h0 h7 with rfl|rfl|rfl|rfl|rfl|rfl|rfl|rfl<;>simp[facv]<;>omega
theorem mul_01 {x y:Int} (hx:0<=x/\x<=255) (hy:0<=y/\y<=255):0<=x*y/\x*y<=65025 :=
 ⟨Int.mul_nonneg hx.1 hy.1,Int.le_trans (Int.mul_le_mul hx.2 hy.2 hy.1 (by omega)) (by decide)⟩
def blv (k j s d s3:Int):Int:=min ((s*facv k s d s3+d*facv j s d s3)/255) 255
theorem blv_01 {k j s d a:Int} (h0:0<=k) (h7:k<=7) (j0:0<=j) (j7:j<=7) (hs:0<=s/\s<=255) (hd:0<=d/\d<=255) (ha:0<=a/\a<=255):0<=blv k j s d a/\blv k j s d a<=255:=by
 have h1:=mul_01 hs (facv_01 h0 h7 hs hd ha);have h2:=mul_01 hd (facv_01 j0 j7 hs hd ha);unfold blv;omega
theorem bl_01 {k j s d a:Int} (h0:0<=k) (h7:k<=7) (j0:0<=j) (j7:j<=7) (hs:0<=s/\s<=255) (hd:0<=d/\d<=255) (ha:0<=a/\a<=255) :
  0<=s*facv k s d a/\s*facv k s d a<=65025/\0<=d*facv j s d a/\d*facv j s d a<=65025 :=
 have h1:=mul_01 hs (facv_01 h0 h7 hs hd ha);have h2:=mul_01 hd (facv_01 j0 j7 hs hd ha)
 ⟨h1.1,h1.2,h2.1,h2.2⟩
theorem blend_any (k j:Int) (h0:0<=k) (h7:k<=7) (j0:0<=j) (j7:j<=7) (s0 s1 s2 s3 d0 d1 d2 d3:Int) (hs:May s0 s1 s2 s3) (hd:May d0 d1 d2 d3) (w:World) :
  Calls Tryz.prog 161 #[C4 s0 s1 s2 s3,C4 d0 d1 d2 d3,.int .i64 k,.int .i64 j] w (Ret (C4 (blv k j s0 d0 s3) (blv k j s1 d1 s3) (blv k j s2 d2 s3) (blv k j s3 d3 s3)) w):=by
 obtain ⟨p1,p2,p3,p4⟩:=bl_01 h0 h7 j0 j7 hs.at0 hd.at0 hs.at3;obtain ⟨q1,q2,q3,q4⟩:=bl_01 h0 h7 j0 j7 hs.at1 hd.at1 hs.at3;obtain ⟨r1,r2,r3,r4⟩:=bl_01 h0 h7 j0 j7 hs.at2 hd.at2 hs.at3;obtain ⟨t1,t2,t3,t4⟩:=bl_01 h0 h7 j0 j7 hs.at3 hd.at3 hs.at3
 go_enter Tryz.func161,Tryz.ntmps161
 go_wp2;refine wp_loop_rounds 5 ?_;rw[rounds_succ];go_wp2;refine wp_region_ext (by kernel_rfl) (by kernel_rfl) ?_
 repeat (go_big_quiet_step (((go_at_call 208;first|with_reducible exact Calls.quiet_ret (factor0 _ h0 h7 _ _ _ _ _ _ _ _ hs hd _)|with_reducible exact Calls.quiet_ret (factor0 _ j0 j7 _ _ _ _ _ _ _ _ hs hd _)))))
 refine wpQuiet_nil ?_;intro _ hw_ext;obtain ⟨X0,hw_ext⟩:=hw_ext;subst hw_ext;go_wp2;rw[rounds_succ];go_wp2;refine wp_region_ext (by kernel_rfl) (by kernel_rfl) ?_
 repeat (go_big_quiet_step (((go_at_call 208;first|with_reducible exact Calls.quiet_ret (factor1 _ h0 h7 _ _ _ _ _ _ _ _ hs hd _)|with_reducible exact Calls.quiet_ret (factor1 _ j0 j7 _ _ _ _ _ _ _ _ hs hd _)))))
 refine wpQuiet_nil ?_;intro _ hw_ext;obtain ⟨X1,hw_ext⟩:=hw_ext;subst hw_ext;go_wp2;rw[rounds_succ];go_wp2;refine wp_region_ext (by kernel_rfl) (by kernel_rfl) ?_
 repeat (go_big_quiet_step (((go_at_call 208;first|with_reducible exact Calls.quiet_ret (factor2 _ h0 h7 _ _ _ _ _ _ _ _ hs hd _)|with_reducible exact Calls.quiet_ret (factor2 _ j0 j7 _ _ _ _ _ _ _ _ hs hd _)))))
 refine wpQuiet_nil ?_;intro _ hw_ext;obtain ⟨X2,hw_ext⟩:=hw_ext;subst hw_ext;go_wp2;rw[rounds_succ];go_wp2;refine wp_region_ext (by kernel_rfl) (by kernel_rfl) ?_
 repeat (go_big_quiet_step (((go_at_call 208;first|with_reducible exact Calls.quiet_ret (factor3 _ h0 h7 _ _ _ _ _ _ _ _ hs hd _)|with_reducible exact Calls.quiet_ret (factor3 _ j0 j7 _ _ _ _ _ _ _ _ hs hd _)))))
 refine wpQuiet_nil ?_;intro _ hw_ext;obtain ⟨X3,hw_ext⟩:=hw_ext;subst hw_ext;go_wp2;rw[rounds_succ];go_wp2;exact bodyPost_ret (v:=C4 (blv k j s0 d0 s3) (blv k j s1 d1 s3) (blv k j s2 d2 s3) (blv k j s3 d3 s3)) (by simp[results,Tryz.results161,go_sem,blv]) rfl (Ret.of (by exact bl_))
def cov (d n:Int):Int:=d*n/64
theorem cov_mul {d n:Int} (hd:0<=d/\d<=255) (h0:0<=n) (h1:n<=64):0<=d*n/\d*n<=16320 :=
 ⟨Int.mul_nonneg hd.1 h0,Int.le_trans (Int.mul_le_mul hd.2 h1 h0 (by omega)) (by decide)⟩
theorem cov_01 {d n:Int} (hd:0<=d/\d<=255) (h0:0<=n) (h1:n<=64):0<=cov d n/\cov d n<=d:=by
 have h2:=cov_mul hd h0 h1;have h3:d*n<=d*64:=Int.mul_le_mul_of_nonneg_left h1 hd.1;unfold cov;omega
theorem cover_any (a b c d n:Int) (hd:0<=d/\d<=255) (h0:0<=n) (h1:n<=64) (w:World) :
  Calls Tryz.prog 159 #[C4 a b c d,.int .i64 n] w (Ret (C4 a b c (cov d n)) w):=by
 obtain ⟨p1,p2⟩:=cov_mul hd h0 h1;obtain ⟨q1,q2⟩:=hd
 go_enter Tryz.func159,Tryz.ntmps159
 go_wp2;exact bodyPost_ret (v:=C4 a b c (cov d n)) (by simp[results,Tryz.results159,go_sem,cov]) rfl (Ret.of (by exact bl_))
end
section
def I64 (x:Int):Prop:=-9223372036854775808<=x/\x<=9223372036854775807
structure OpsP where
 cut:Bool
 x0:Int
 y0:Int
 x1:Int
 y1:Int
 deep:Bool
 fn:Int
 keep:Bool
 mix:Bool
 sf:Int
 df:Int
 m0:Bool
 m1:Bool
 m2:Bool
 m3:Bool
abbrev OpsP.v (o:OpsP):Value:=.agg #[.bool o.cut,.int .i64 o.x0,.int .i64 o.y0,.int .i64 o.x1,.int .i64 o.y1,.bool o.deep,.int .i64 o.fn,.bool o.keep,.bool o.mix,.int .i64 o.sf,.int .i64 o.df,.bool o.m0,.bool o.m1,.bool o.m2,.bool o.m3]
def OpsP.right (o:OpsP):Prop:=(0<=o.fn/\o.fn<=7)/\(0<=o.sf/\o.sf<=7)/\0<=o.df/\o.df<=7
instance (o : OpsP) : Decidable o.right := by unfold OpsP.right; exact inferInstance
def FrP.fits (f:FrP):Prop:=(0<=f.c0/\f.c0<=255)/\(0<=f.c1/\f.c1<=255)/\(0<=f.c2/\f.c2<=255)/\(0<=f.c3/\f.c3<=255)/\(0<=f.z/\f.z<=16777215)/\1<=f.cov/\f.cov<=64
instance (f : FrP) : Decidable f.fits := by unfold FrP.fits; exact inferInstance
structure OpsP.ok (o:OpsP):Prop where
 x0:I64 o.x0
 y0:I64 o.y0
 x1:I64 o.x1
 y1:I64 o.y1
 fn:I64 o.fn
 sf:I64 o.sf
 df:I64 o.df
structure FrP.ok (f:FrP):Prop where
 x:I64 f.x
 y:I64 f.y
 z:I64 f.z
 c0:I64 f.c0
 c1:I64 f.c1
 c2:I64 f.c2
 c3:I64 f.c3
 cov:I64 f.cov
theorem unsig {x b:Int} (h0:-9223372036854775808<=x) (h1:x<0) (hb:b<=16777216):decide (IntKind.u64.wrap x<b)=false/\decide (b<IntKind.u64.wrap x)=true/\decide (IntKind.u64.wrap x<=b)=false:=by
 rw[decide_eq_false_iff_not,decide_eq_true_eq,decide_eq_false_iff_not,IntKind.wrap_u64];omega
theorem ops_right (o:OpsP) (ho:o.ok) (w:World):Calls Tryz.prog 156 #[o.v] w (Ret (.bool (decide o.right)) w):=by
 obtain ⟨-,-,-,-,⟨f0,f1⟩,⟨s0,s1⟩,⟨d0,d1⟩⟩:=ho
 by_cases a:0<=o.fn
 case neg =>
  have n:=(unsig (b:=8) f0 (by omega) (by decide)).1;have no:¬o.right:=by unfold OpsP.right;omega
  rw[show decide o.right=false from by simp[no]];clear a no
  go_enter Tryz.func156,Tryz.ntmps156
  go_wp2;go_ret;exact Ret.of (by exact bl_)
 by_cases b:0<=o.sf
 case neg =>
  have n:=(unsig (b:=8) s0 (by omega) (by decide)).1;have no:¬o.right:=by unfold OpsP.right;omega
  rw[show decide o.right=false from by simp[no]];clear b no
  go_enter Tryz.func156,Tryz.ntmps156
  go_wp2
  all_goals go_ret
  all_goals exact Ret.of' (by simp) (by exact bl_)
 by_cases c:0<=o.df
 case neg =>
  have n:=(unsig (b:=8) d0 (by omega) (by decide)).1;have no:¬o.right:=by unfold OpsP.right;omega
  rw[show decide o.right=false from by simp[no]];clear c no
  go_enter Tryz.func156,Tryz.ntmps156
  go_wp2
  all_goals go_ret
  all_goals exact Ret.of' (by simp) (by exact bl_)
 go_enter Tryz.func156,Tryz.ntmps156
 go_wp2
 all_goals go_ret
 all_goals refine Ret.of' ?_ (by exact bl_)
 all_goals first
  |(refine bool_t ?_;unfold OpsP.right;omega)
  |(refine bool_f ?_;unfold OpsP.right;omega)
  |(refine bool_d ?_;unfold OpsP.right;omega)
theorem fr_fits (f:FrP) (hf:f.ok) (w:World):Calls Tryz.prog 157 #[f.v] w (Ret (.bool (decide f.fits)) w):=by
 obtain ⟨-,-,⟨z0,z1⟩,⟨a0,a1⟩,⟨b0,b1⟩,⟨d0,d1⟩,⟨e0,e1⟩,⟨k0,k1⟩⟩:=hf
 by_cases p:0<=f.c0
 case neg =>
  obtain ⟨n1,n2,n3⟩:=unsig (b:=255) a0 (by omega) (by decide);have no:¬f.fits:=by unfold FrP.fits;omega
  rw[show decide f.fits=false from by simp[no]];clear p no n1
  go_enter Tryz.func157,Tryz.ntmps157
  go_wp2;refine wp_loop_rounds 5 ?_
  iterate 5 try any_goals (rw[rounds_succ];go_wp2)
  all_goals go_ret
  all_goals exact Ret.of' (by simp) (by exact bl_)
 by_cases q:0<=f.c1
 case neg =>
  obtain ⟨n1,n2,n3⟩:=unsig (b:=255) b0 (by omega) (by decide);have no:¬f.fits:=by unfold FrP.fits;omega
  rw[show decide f.fits=false from by simp[no]];clear q no n1
  go_enter Tryz.func157,Tryz.ntmps157
  go_wp2;refine wp_loop_rounds 5 ?_
  iterate 5 try any_goals (rw[rounds_succ];go_wp2)
  all_goals go_ret
  all_goals exact Ret.of' (by simp) (by exact bl_)
 by_cases r:0<=f.c2
 case neg =>
  obtain ⟨n1,n2,n3⟩:=unsig (b:=255) d0 (by omega) (by decide);have no:¬f.fits:=by unfold FrP.fits;omega
  rw[show decide f.fits=false from by simp[no]];clear r no n1
  go_enter Tryz.func157,Tryz.ntmps157
  go_wp2;refine wp_loop_rounds 5 ?_
  iterate 5 try any_goals (rw[rounds_succ];go_wp2)
  all_goals go_ret
  all_goals exact Ret.of' (by simp) (by exact bl_)
 by_cases s:0<=f.c3
 case neg =>
  obtain ⟨n1,n2,n3⟩:=unsig (b:=255) e0 (by omega) (by decide);have no:¬f.fits:=by unfold FrP.fits;omega
  rw[show decide f.fits=false from by simp[no]];clear s no n1
  go_enter Tryz.func157,Tryz.ntmps157
  go_wp2;refine wp_loop_rounds 5 ?_
  iterate 5 try any_goals (rw[rounds_succ];go_wp2)
  all_goals go_ret
  all_goals exact Ret.of' (by simp) (by exact bl_)
 by_cases t:0<=f.z
 case neg =>
  obtain ⟨n1,n2,n3⟩:=unsig (b:=16777215) z0 (by omega) (by decide);have no:¬f.fits:=by unfold FrP.fits;omega
  rw[show decide f.fits=false from by simp[no]];clear t no n1
  go_enter Tryz.func157,Tryz.ntmps157
  go_wp2;refine wp_loop_rounds 5 ?_
  iterate 5 try any_goals (rw[rounds_succ];go_wp2)
  all_goals go_ret
  all_goals exact Ret.of' (by simp) (by exact bl_)
 go_enter Tryz.func157,Tryz.ntmps157
 go_wp2;refine wp_loop_rounds 5 ?_
 iterate 5 try any_goals (rw[rounds_succ];go_wp2)
 all_goals go_ret
 all_goals refine Ret.of' ?_ (by exact bl_)
 all_goals first
  |(refine bool_t ?_;unfold FrP.fits;omega)
  |(refine bool_f ?_;unfold FrP.fits;omega)
  |(refine bool_d ?_;unfold FrP.fits;omega)
def passP (by' z old:Int):Prop:=by'=1/\z<old\/by'=2/\z=old\/by'=3/\z<=old\/by'=4/\z>old\/by'=5/\z≠old\/by'=6/\z>=old\/by'=7
instance (by' z old : Int) : Decidable (passP by' z old) := by unfold passP; exact inferInstance
end
section
theorem pair_never (z old:Int) (w:World):Calls Tryz.prog 237 #[.agg #[.int .i64 z,.int .i64 old]] w (Ret (.bool (decide (False))) w):=by
 go_enter Tryz.func237,Tryz.ntmps237
 go_wp2;go_ret;exact Ret.of' (bool_b (by simp)) (by exact bl_)
theorem pair_less (z old:Int) (w:World):Calls Tryz.prog 238 #[.agg #[.int .i64 z,.int .i64 old]] w (Ret (.bool (decide (z<old))) w):=by
 go_enter Tryz.func238,Tryz.ntmps238
 go_wp2;go_ret;exact Ret.of' (bool_b (by simp)) (by exact bl_)
theorem pair_same (z old:Int) (w:World):Calls Tryz.prog 239 #[.agg #[.int .i64 z,.int .i64 old]] w (Ret (.bool (decide (z=old))) w):=by
 go_enter Tryz.func239,Tryz.ntmps239
 go_wp2;go_ret;exact Ret.of' (bool_b (by simp)) (by exact bl_)
theorem pair_most (z old:Int) (w:World):Calls Tryz.prog 240 #[.agg #[.int .i64 z,.int .i64 old]] w (Ret (.bool (decide (z<=old))) w):=by
 go_enter Tryz.func240,Tryz.ntmps240
 go_wp2;go_ret;exact Ret.of' (bool_b (by simp)) (by exact bl_)
theorem pair_greater (z old:Int) (w:World):Calls Tryz.prog 241 #[.agg #[.int .i64 z,.int .i64 old]] w (Ret (.bool (decide (z>old))) w):=by
 go_enter Tryz.func241,Tryz.ntmps241
 go_wp2;go_ret;exact Ret.of' (bool_b (by simp)) (by exact bl_)
theorem pair_other (z old:Int) (w:World):Calls Tryz.prog 242 #[.agg #[.int .i64 z,.int .i64 old]] w (Ret (.bool (decide (z≠old))) w):=by
 go_enter Tryz.func242,Tryz.ntmps242
 go_wp2;go_ret;exact Ret.of' (bool_b (by simp)) (by exact bl_)
theorem pair_least (z old:Int) (w:World):Calls Tryz.prog 243 #[.agg #[.int .i64 z,.int .i64 old]] w (Ret (.bool (decide (z>=old))) w):=by
 go_enter Tryz.func243,Tryz.ntmps243
 go_wp2;go_ret;exact Ret.of' (bool_b (by simp)) (by exact bl_)
theorem pair_always (z old:Int) (w:World):Calls Tryz.prog 244 #[.agg #[.int .i64 z,.int .i64 old]] w (Ret (.bool (decide (True))) w):=by
 go_enter Tryz.func244,Tryz.ntmps244
 go_wp2;go_ret;exact Ret.of' (bool_b (by simp)) (by exact bl_)
@[go_sem] theorem index8_0 (p0 p1 p2 p3 p4 p5 p6 p7:Value) (w:World):(Instr.index 264 (.agg #[(.func (Fn.func 237) #[p0] #[]),(.func (Fn.func 238) #[p1] #[]),(.func (Fn.func 239) #[p2] #[]),(.func (Fn.func 240) #[p3] #[]),(.func (Fn.func 241) #[p4] #[]),(.func (Fn.func 242) #[p5] #[]),(.func (Fn.func 243) #[p6] #[]),(.func (Fn.func 244) #[p7] #[])]) (.int .i64 0)).run Tryz.prog w=.ok (.func (Fn.func 237) #[p0] #[]) w:=by kernel_rfl
@[go_sem] theorem index8_1 (p0 p1 p2 p3 p4 p5 p6 p7:Value) (w:World):(Instr.index 264 (.agg #[(.func (Fn.func 237) #[p0] #[]),(.func (Fn.func 238) #[p1] #[]),(.func (Fn.func 239) #[p2] #[]),(.func (Fn.func 240) #[p3] #[]),(.func (Fn.func 241) #[p4] #[]),(.func (Fn.func 242) #[p5] #[]),(.func (Fn.func 243) #[p6] #[]),(.func (Fn.func 244) #[p7] #[])]) (.int .i64 1)).run Tryz.prog w=.ok (.func (Fn.func 238) #[p1] #[]) w:=by kernel_rfl
@[go_sem] theorem index8_2 (p0 p1 p2 p3 p4 p5 p6 p7:Value) (w:World):(Instr.index 264 (.agg #[(.func (Fn.func 237) #[p0] #[]),(.func (Fn.func 238) #[p1] #[]),(.func (Fn.func 239) #[p2] #[]),(.func (Fn.func 240) #[p3] #[]),(.func (Fn.func 241) #[p4] #[]),(.func (Fn.func 242) #[p5] #[]),(.func (Fn.func 243) #[p6] #[]),(.func (Fn.func 244) #[p7] #[])]) (.int .i64 2)).run Tryz.prog w=.ok (.func (Fn.func 239) #[p2] #[]) w:=by kernel_rfl
@[go_sem] theorem index8_3 (p0 p1 p2 p3 p4 p5 p6 p7:Value) (w:World):(Instr.index 264 (.agg #[(.func (Fn.func 237) #[p0] #[]),(.func (Fn.func 238) #[p1] #[]),(.func (Fn.func 239) #[p2] #[]),(.func (Fn.func 240) #[p3] #[]),(.func (Fn.func 241) #[p4] #[]),(.func (Fn.func 242) #[p5] #[]),(.func (Fn.func 243) #[p6] #[]),(.func (Fn.func 244) #[p7] #[])]) (.int .i64 3)).run Tryz.prog w=.ok (.func (Fn.func 240) #[p3] #[]) w:=by kernel_rfl
@[go_sem] theorem index8_4 (p0 p1 p2 p3 p4 p5 p6 p7:Value) (w:World):(Instr.index 264 (.agg #[(.func (Fn.func 237) #[p0] #[]),(.func (Fn.func 238) #[p1] #[]),(.func (Fn.func 239) #[p2] #[]),(.func (Fn.func 240) #[p3] #[]),(.func (Fn.func 241) #[p4] #[]),(.func (Fn.func 242) #[p5] #[]),(.func (Fn.func 243) #[p6] #[]),(.func (Fn.func 244) #[p7] #[])]) (.int .i64 4)).run Tryz.prog w=.ok (.func (Fn.func 241) #[p4] #[]) w:=by kernel_rfl
@[go_sem] theorem index8_5 (p0 p1 p2 p3 p4 p5 p6 p7:Value) (w:World):(Instr.index 264 (.agg #[(.func (Fn.func 237) #[p0] #[]),(.func (Fn.func 238) #[p1] #[]),(.func (Fn.func 239) #[p2] #[]),(.func (Fn.func 240) #[p3] #[]),(.func (Fn.func 241) #[p4] #[]),(.func (Fn.func 242) #[p5] #[]),(.func (Fn.func 243) #[p6] #[]),(.func (Fn.func 244) #[p7] #[])]) (.int .i64 5)).run Tryz.prog w=.ok (.func (Fn.func 242) #[p5] #[]) w:=by kernel_rfl
@[go_sem] theorem index8_6 (p0 p1 p2 p3 p4 p5 p6 p7:Value) (w:World):(Instr.index 264 (.agg #[(.func (Fn.func 237) #[p0] #[]),(.func (Fn.func 238) #[p1] #[]),(.func (Fn.func 239) #[p2] #[]),(.func (Fn.func 240) #[p3] #[]),(.func (Fn.func 241) #[p4] #[]),(.func (Fn.func 242) #[p5] #[]),(.func (Fn.func 243) #[p6] #[]),(.func (Fn.func 244) #[p7] #[])]) (.int .i64 6)).run Tryz.prog w=.ok (.func (Fn.func 243) #[p6] #[]) w:=by kernel_rfl
@[go_sem] theorem index8_7 (p0 p1 p2 p3 p4 p5 p6 p7:Value) (w:World):(Instr.index 264 (.agg #[(.func (Fn.func 237) #[p0] #[]),(.func (Fn.func 238) #[p1] #[]),(.func (Fn.func 239) #[p2] #[]),(.func (Fn.func 240) #[p3] #[]),(.func (Fn.func 241) #[p4] #[]),(.func (Fn.func 242) #[p5] #[]),(.func (Fn.func 243) #[p6] #[]),(.func (Fn.func 244) #[p7] #[])]) (.int .i64 7)).run Tryz.prog w=.ok (.func (Fn.func 244) #[p7] #[]) w:=by kernel_rfl
theorem pass_any (b z old:Int) (b0:-9223372036854775808<=b) (b1:b<=9223372036854775807) (w:World):Calls Tryz.prog 205 #[.int .i64 b,.int .i64 z,.int .i64 old] w (Ret (.bool (decide (passP b z old))) w):=by
 by_cases h0:0<=b
 case neg =>
  obtain ⟨n1,n2,n3⟩:=unsig (b:=7) b0 (by omega) (by decide);have no:¬passP b z old:=by unfold passP;omega
  rw[show decide (passP b z old)=false from by simp[no]];clear h0 no n1
  go_enter Tryz.func205,Tryz.ntmps205
  go_wp2;go_ret;exact Ret.of (by exact bl_)
 by_cases h7:b<=7
 case neg =>
  have no:¬passP b z old:=by unfold passP;omega
  rw[show decide (passP b z old)=false from by simp[no]];clear no
  go_enter Tryz.func205,Tryz.ntmps205
  go_wp2;go_ret;exact Ret.of (by exact bl_)
 rcases cases8 h0 h7 with rfl|rfl|rfl|rfl|rfl|rfl|rfl|rfl
 ·go_enter Tryz.func205,Tryz.ntmps205
  go_wp2_with (first|(go_at_call 237;(with_reducible refine (pair_never _ _ _).mono ?_);rintro _ _ ⟨rfl,X_,rfl⟩))
  go_ret;refine Ret.of' (bool_b ?_) (by exact bl_);simp[passP]<;>omega
 ·go_enter Tryz.func205,Tryz.ntmps205
  go_wp2_with (first|(go_at_call 238;(with_reducible refine (pair_less _ _ _).mono ?_);rintro _ _ ⟨rfl,X_,rfl⟩))
  go_ret;refine Ret.of' (bool_b ?_) (by exact bl_);simp[passP]<;>omega
 ·go_enter Tryz.func205,Tryz.ntmps205
  go_wp2_with (first|(go_at_call 239;(with_reducible refine (pair_same _ _ _).mono ?_);rintro _ _ ⟨rfl,X_,rfl⟩))
  go_ret;refine Ret.of' (bool_b ?_) (by exact bl_);simp[passP]<;>omega
 ·go_enter Tryz.func205,Tryz.ntmps205
  go_wp2_with (first|(go_at_call 240;(with_reducible refine (pair_most _ _ _).mono ?_);rintro _ _ ⟨rfl,X_,rfl⟩))
  go_ret;refine Ret.of' (bool_b ?_) (by exact bl_);simp[passP]<;>omega
 ·go_enter Tryz.func205,Tryz.ntmps205
  go_wp2_with (first|(go_at_call 241;(with_reducible refine (pair_greater _ _ _).mono ?_);rintro _ _ ⟨rfl,X_,rfl⟩))
  go_ret;refine Ret.of' (bool_b ?_) (by exact bl_);simp[passP]<;>omega
 ·go_enter Tryz.func205,Tryz.ntmps205
  go_wp2_with (first|(go_at_call 242;(with_reducible refine (pair_other _ _ _).mono ?_);rintro _ _ ⟨rfl,X_,rfl⟩))
  go_ret;refine Ret.of' (bool_b ?_) (by exact bl_);simp[passP]<;>omega
 ·go_enter Tryz.func205,Tryz.ntmps205
  go_wp2_with (first|(go_at_call 243;(with_reducible refine (pair_least _ _ _).mono ?_);rintro _ _ ⟨rfl,X_,rfl⟩))
  go_ret;refine Ret.of' (bool_b ?_) (by exact bl_);simp[passP]<;>omega
 ·go_enter Tryz.func205,Tryz.ntmps205
  go_wp2_with (first|(go_at_call 244;(with_reducible refine (pair_always _ _ _).mono ?_);rintro _ _ ⟨rfl,X_,rfl⟩))
  go_ret;refine Ret.of' (bool_b ?_) (by exact bl_);simp[passP]<;>omega
end
section
def refB (cut hb ib deep pb:Bool):Bool:=(cut&&!hb) || !ib || (deep&&!pb)
abbrev OpsP.has (o:OpsP) (f:FrP):Bool:=decide (hasP o.x0 o.y0 o.x1 o.y1 f.x f.y)
abbrev OpsP.pass (o:OpsP) (f:FrP) (W H:Int) (Z:List Int):Bool:=decide (passP o.fn f.z (gotC id W H Z f.x f.y))
theorem refused_any {w:World} {bm g1 k1 g2 k2:Nat} {W H:Int} {C Z:List Int} (h:Img w bm g1 k1 g2 k2 W H C Z) (o:OpsP) (f:FrP) (ho:o.ok) (hf:f.ok) :
  Calls Tryz.prog 158 #[.pointer (some ⟨bm,0,none⟩),o.v,f.v] w (Ret (.bool (refB o.cut (o.has f) (decide (inB W H f.x f.y)) o.deep (o.pass f W H Z))) w):=by
 obtain ⟨x0,x1⟩:=hf.x;obtain ⟨y0,y1⟩:=hf.y;obtain ⟨n0,n1⟩:=ho.fn;have HA:=jj (fun w=>rect_has o.x0 o.y0 o.x1 o.y1 f.x f.y w);have PA:=jj (fun w=>pass_any o.fn f.z (gotC id W H Z f.x f.y) n0 n1 w);have GA:=jj (fun (w':World) (h1:Rd w' (sl g1 C.length k1) C) (h2:Rd w' (sl g2 C.length k2) Z)=>get_is W H _ _ C Z f.x f.y w' h1 h2 h.ok x0 x1 y0 y1);unfold OpsP.has OpsP.pass;generalize (decide (hasP o.x0 o.y0 o.x1 o.y1 f.x f.y))=hb at HA ⊢;generalize (decide (passP o.fn f.z (gotC id W H Z f.x f.y)))=pb at PA ⊢;unfold gotV at GA;generalize (decide (inB W H f.x f.y))=ib at GA ⊢;obtain ⟨RC,RZ⟩:=h.rds;have lm:=h.row.lt;have lm':bm<=w.heap.size:=by omega
 have c0:=h.row.cell 0;have c1:=h.row.cell 1;have c2:=h.row.cell 2;have c3:=h.row.cell 3;simp at c0 c1 c2 c3
 by_cases hgo:o.cut=true/\hb=false
 ·obtain ⟨hcut,rfl⟩:=hgo
  go_enter Tryz.func158,Tryz.ntmps158
  go_wp2_with (first|(go_at_call 191;(with_reducible refine (HA.out _).mono ?_);rintro _ _ ⟨rfl,X_,rfl⟩))
  go_ret;exact Ret.of' (by simp[refB,hcut]) (by exact bl_)
 ·have hgo':(o.cut=false/\refB o.cut hb ib o.deep pb=(!ib || (o.deep&&!pb)))\/(o.cut=true/\hb=true/\refB o.cut hb ib o.deep pb=(!ib || (o.deep&&!pb))):=by
   cases h1:o.cut<;>cases h2:hb<;>simp_all [refB]
  clear hgo;rcases hgo' with ⟨hcut,hre⟩|⟨hcut,rfl,hre⟩
  all_goals
   rw[hre];clear hre
   go_enter Tryz.func158,Tryz.ntmps158
   go_wp2_with (first|(go_at_call 191;(with_reducible refine (HA.out _).mono ?_);rintro _ _ ⟨rfl,X_,rfl⟩))
   refine wp_region_mix (by kernel_rfl) ?_
   repeat (first|(refine mix_skip rfl ?_;simp only[List.nil_append,List.cons_append])|(refine mix_ncheck rfl rfl rfl ?_;simp only[Act.put,List.setIfInBounds_toArray,List.set_cons_zero,List.set_cons_succ,List.nil_append,List.cons_append])|(refine mix_calm rfl rfl ?_;intro K_ hK_;go_big_quiet_op;go_big_quiet_on;simp only[List.nil_append,List.cons_append])|(apply mix_call rfl;(intro X_;go_simp;go_at_call 160;with_reducible refine Calls.calm_ret (GA.out _ ?_ ?_);(repeat (first|assumption|with_reducible refine Rd.ext ?_ _|with_reducible refine Rd.alloc ?_ _|with_reducible refine Rd.drew ?_));(repeat (first|assumption|with_reducible refine Rd.ext ?_ _|with_reducible refine Rd.alloc ?_ _|with_reducible refine Rd.drew ?_)));simp only[Act.put,List.setIfInBounds_toArray,List.set_cons_zero,List.set_cons_succ,List.nil_append,List.cons_append])|(refine mix_alloc rfl rfl Tryz.zeroValue43 ?_;simp only[List.nil_append,List.cons_append])|(refine mix_fill 12 rfl rfl rfl rfl (by simp[Value.oneCell']) (by kernel_rfl) (by simp) rfl rfl rfl rfl ?_;simp only[List.nil_append,List.cons_append]))
   refine mix_nil (mix_end1 12 13 ⟨by kernel_rfl,by kernel_rfl⟩ rfl rfl rfl rfl rfl (by kernel_rfl) ?_);intro X p q;have c_q:=q.cell;have f_q:=q.frozen;have g_q:=q.gap;have b_q:=jj q.block;simp only[World.size_ext,World.size_alloc,World.size_drew,World.size_setCell] at g_q;clear q;simp only[Act.put,List.setIfInBounds_toArray,List.set_cons_zero,List.set_cons_succ,ptr];cases hdeep:o.deep
   all_goals
    go_wp2_with (first|(go_at_call 205;(with_reducible refine (PA.out _).mono ?_);rintro _ _ ⟨rfl,X_,rfl⟩))
    all_goals go_ret
    all_goals refine Ret.of' ?_ (by exact bl_)
    all_goals simp_all
end
section
def kol (o:OpsP) (W H:Int) (C:List Int) (x y s a:Int) (f:Int->Int):Int:=if o.mix then blv o.sf o.df s (gotC f W H C x y) a else s
def ref? (o:OpsP) (f:FrP) (W H:Int) (Z:List Int):Bool:=refB o.cut (o.has f) (decide (inB W H f.x f.y)) o.deep (o.pass f W H Z)
def oneB (o:OpsP) (f:FrP) (W H:Int) (Z:List Int):Bool:=decide o.right&&decide f.fits&&!(ref? o f W H Z)
def FrP.a (f:FrP):Int:=Go.Proofs.YthcjfanigfgckaaGreat.cov f.c3 f.cov
def oneC (o:OpsP) (f:FrP) (W H:Int) (C Z:List Int):List Int :=
 if oneB o f W H Z then putC W H C f.x f.y (kol o W H C f.x f.y f.c0 f.a up0) (kol o W H C f.x f.y f.c1 f.a up1) (kol o W H C f.x f.y f.c2 f.a up2) (kol o W H C f.x f.y f.a f.a up3) o.m0 o.m1 o.m2 o.m3 else C
def oneZ (o:OpsP) (f:FrP) (W H:Int) (Z:List Int):List Int:=if oneB o f W H Z&&(o.deep&&o.keep) then putZ W H Z f.x f.y f.z else Z
theorem FrP.fits.may {f:FrP} (h:f.fits):May f.c0 f.c1 f.c2 f.a:=by
 obtain ⟨⟨a0,a1⟩,⟨b0,b1⟩,⟨c0,c1⟩,d,e,k0,k1⟩:=h;have:=cov_01 d (by omega:0<=f.cov) k1;exact ⟨a0,a1,b0,b1,c0,c1,this.1,by show Go.Proofs.YthcjfanigfgckaaGreat.cov f.c3 f.cov<=255;omega⟩
theorem got_may (W H:Int) (C:List Int) (x y:Int):May (gotC up0 W H C x y) (gotC up1 W H C x y) (gotC up2 W H C x y) (gotC up3 W H C x y):=by
 unfold gotC
 split
 ·exact up_may _
 ·exact ⟨by decide,by decide,by decide,by decide,by decide,by decide,by decide,by decide⟩
theorem kol_01 {o:OpsP} (h:o.right) {s d a:Int} (hs:0<=s/\s<=255) (ha:0<=a/\a<=255) (hd:0<=d/\d<=255):0<=(if o.mix then blv o.sf o.df s d a else s)/\(if o.mix then blv o.sf o.df s d a else s)<=255:=by
 split
 ·exact blv_01 h.2.1.1 h.2.1.2 h.2.2.1 h.2.2.2 hs hd ha
 ·exact hs
theorem kol_may {o:OpsP} {f:FrP} (h:o.right) (hf:f.fits) (W H:Int) (C:List Int):May (kol o W H C f.x f.y f.c0 f.a up0) (kol o W H C f.x f.y f.c1 f.a up1) (kol o W H C f.x f.y f.c2 f.a up2) (kol o W H C f.x f.y f.a f.a up3):=by
 have m:=hf.may;have g:=got_may W H C f.x f.y;have q0:=kol_01 h m.at0 m.at3 g.at0;have q1:=kol_01 h m.at1 m.at3 g.at1;have q2:=kol_01 h m.at2 m.at3 g.at2;have q3:=kol_01 h m.at3 m.at3 g.at3;exact ⟨q0.1,q0.2,q1.1,q1.2,q2.1,q2.2,q3.1,q3.2⟩
abbrev PutsB (bm g1 k1 g2 k2:Nat) (W H:Int) (C Z:List Int) (v:Value) (w:World) (e:Ending) (w':World):Prop:=Puts bm g1 k1 g2 k2 W H C Z (fun k=>k=g1\/k=g2) v w e w'
theorem puts_same {bm g1 k1 g2 k2:Nat} {W H:Int} {C Z:List Int} {b:Bool} {v:Value} {w w':World} (hv:v=.bool b) (hI:Img w bm g1 k1 g2 k2 W H C Z) (hc:Chg (fun _=>False) w w'):PutsB bm g1 k1 g2 k2 W H C Z (.bool b) w (.returned v) w' :=
 ⟨by rw[hv],hI.chg hc id id id,hc.mono fun _ _ h=>h.elim⟩
structure Hue (w wx:World) (bm g1 k1 g2 k2:Nat) (W H:Int) (C Z:List Int) (o:OpsP) (f:FrP) (pc:Nat) (a b c d:Int):Prop where
 im:Img wx bm g1 k1 g2 k2 W H C Z
 o:Row wx w.heap.size #[.bool o.cut,.int .i64 o.x0,.int .i64 o.y0,.int .i64 o.x1,.int .i64 o.y1,.bool o.deep,.int .i64 o.fn,.bool o.keep,.bool o.mix,.int .i64 o.sf,.int .i64 o.df,.bool o.m0,.bool o.m1,.bool o.m2,.bool o.m3] 119
 f:Row wx (w.heap.size+1) #[.int .i64 f.x,.int .i64 f.y,.int .i64 f.z,.int .i64 f.c0,.int .i64 f.c1,.int .i64 f.c2,.int .i64 f.c3,.int .i64 f.cov] 73
 c:Row wx pc #[.int .i64 a,.int .i64 b,.int .i64 c,.int .i64 d] 43
 lt:bm<w.heap.size/\g1<w.heap.size/\g2<w.heap.size/\w.heap.size+1<pc
 chg:Chg (fun _=>False) w wx
theorem one_any {w:World} {bm g1 k1 g2 k2:Nat} {W H:Int} {C Z:List Int} (hI:Img w bm g1 k1 g2 k2 W H C Z) (o:OpsP) (f:FrP) (ho:o.ok) (hf:f.ok) :
  Calls Tryz.prog 109 #[.pointer (some ⟨bm,0,none⟩),o.v,f.v] w (PutsB bm g1 k1 g2 k2 W H (oneC o f W H C Z) (oneZ o f W H Z) (.bool (oneB o f W H Z)) w):=by
 have R1:=jj (fun w=>ops_right o ho w);have F1:=jj (fun w=>fr_fits f hf w)
 by_cases hr:o.right
 case neg =>
  have e:oneB o f W H Z=false:=by simp[oneB,hr]
  unfold oneC oneZ;rw[e];simp only[hr,decide_false] at R1;clear e hr
  go_enter Tryz.func109,Tryz.ntmps109
  go_wp2_with (first|(go_at_call 156;(with_reducible refine (R1.out _).mono ?_);rintro _ _ ⟨rfl,X_,rfl⟩))
  go_ret;exact puts_same rfl hI (by (repeat (first|exact Chg.refl|with_reducible refine Chg.drew ?_|with_reducible refine Chg.ext ?_ _|with_reducible refine Chg.alloc ?_ _|(with_reducible refine Chg.setCell ?_ (fun hlt_=>absurd hlt_ (by first|omega|(simp;omega))) _))))
 by_cases hq:f.fits
 case neg =>
  have e:oneB o f W H Z=false:=by simp[oneB,hq]
  unfold oneC oneZ;rw[e];simp only[hr,decide_true] at R1;simp only[hq,decide_false] at F1;clear e hr hq
  go_enter Tryz.func109,Tryz.ntmps109
  go_wp2_with (first|(go_at_call 156;(with_reducible refine (R1.out _).mono ?_);rintro _ _ ⟨rfl,X_,rfl⟩)|(go_at_call 157;(with_reducible refine (F1.out _).mono ?_);rintro _ _ ⟨rfl,X_,rfl⟩))
  go_ret;exact puts_same rfl hI (by (repeat (first|exact Chg.refl|with_reducible refine Chg.drew ?_|with_reducible refine Chg.ext ?_ _|with_reducible refine Chg.alloc ?_ _|(with_reducible refine Chg.setCell ?_ (fun hlt_=>absurd hlt_ (by first|omega|(simp;omega))) _))))
 simp only[hr,decide_true] at R1;simp only[hq,decide_true] at F1;have HR:=jj hr;have HQ:=jj hq;have RF:=jj (fun (w':World) (h:Img w' bm g1 k1 g2 k2 W H C Z)=>refused_any h o f ho hf);have e0:oneB o f W H Z=!(ref? o f W H Z):=by simp[oneB,hr,hq]
 change Hid (∀ w' (h:Img w' bm g1 k1 g2 k2 W H C Z),Calls Tryz.prog 158 _ _ (Ret (.bool (ref? o f W H Z)) w')) at RF;unfold oneC oneZ;rw[e0];clear e0 hr hq;cases hb:ref? o f W H Z
 case true =>
  rw[hb] at RF;clear hb
  go_enter Tryz.func109,Tryz.ntmps109
  go_wp2_with (first
   |(go_at_call 156;(with_reducible refine (R1.out _).mono ?_);rintro _ _ ⟨rfl,X_,rfl⟩)
   |(go_at_call 157;(with_reducible refine (F1.out _).mono ?_);rintro _ _ ⟨rfl,X_,rfl⟩)
   |(go_at_call 158;(with_reducible refine (RF.out _ ?_).mono ?_);(repeat (first|assumption|with_reducible refine Img.ext ?_ _|with_reducible refine Img.alloc ?_ _|with_reducible refine Img.drew ?_));rintro _ _ ⟨rfl,X_,rfl⟩))
  go_ret;exact puts_same rfl hI (by (repeat (first|exact Chg.refl|with_reducible refine Chg.drew ?_|with_reducible refine Chg.ext ?_ _|with_reducible refine Chg.alloc ?_ _|(with_reducible refine Chg.setCell ?_ (fun hlt_=>absurd hlt_ (by first|omega|(simp;omega))) _))))
 case false =>
  rw[hb] at RF;clear hb;simp only[Bool.not_false,if_true,Bool.true_and];obtain ⟨ZZ,hZZ⟩:∃ ZZ,ZZ=(if (o.deep&&o.keep)=true then putZ W H Z f.x f.y f.z else Z):=⟨_,rfl⟩;have HZZ:=jj hZZ;rw[<-hZZ];clear hZZ;obtain ⟨x0,x1⟩:=hf.x;obtain ⟨y0,y1⟩:=hf.y;have GA:=jj (fun (w':World) (h1:Rd w' (sl g1 C.length k1) C) (h2:Rd w' (sl g2 C.length k2) Z)=>get_is W H _ _ C Z f.x f.y w' h1 h2 hI.ok x0 x1 y0 y1);have CA:=jj (show ∀ w',Calls Tryz.prog 159 #[C4 f.c0 f.c1 f.c2 f.c3,.int .i64 f.cov] w' (Ret (C4 f.c0 f.c1 f.c2 f.a) w') from fun w'=>cover_any f.c0 f.c1 f.c2 f.c3 f.cov HQ.out.2.2.2.1 (by have:=HQ.out.2.2.2.2.2.1;omega) HQ.out.2.2.2.2.2.2 w');have BA:=jj (fun w'=>blend_any o.sf o.df HR.out.2.1.1 HR.out.2.1.2 HR.out.2.2.1 HR.out.2.2.2 f.c0 f.c1 f.c2 f.a _ _ _ _ HQ.out.may (got_may W H C f.x f.y) w');obtain ⟨RC,RZ⟩:=hI.rds;have lm:=hI.row.lt;have l1:=hI.c.lt;have l2:=hI.z.lt;have lm':bm<=w.heap.size:=by omega
  have c0:=hI.row.cell 0;have c1:=hI.row.cell 1;have c2:=hI.row.cell 2;have c3:=hI.row.cell 3;simp at c0 c1 c2 c3
  go_enter Tryz.func109,Tryz.ntmps109
  go_upto_if 31 with (first
   |(go_at_call 156;(with_reducible refine (R1.out _).mono ?_);rintro _ _ ⟨rfl,X_,rfl⟩)
   |(go_at_call 157;(with_reducible refine (F1.out _).mono ?_);rintro _ _ ⟨rfl,X_,rfl⟩)
   |(go_at_call 158;(with_reducible refine (RF.out _ ?_).mono ?_);(repeat (first|assumption|with_reducible refine Img.ext ?_ _|with_reducible refine Img.alloc ?_ _|with_reducible refine Img.drew ?_));rintro _ _ ⟨rfl,X_,rfl⟩)
   |(go_at_call 159;(with_reducible refine (CA.out _).mono ?_);rintro _ _ ⟨rfl,X_,rfl⟩))
  go_cut [7] (fun t7 wx=>∃ pc,t7=.pointer (some ⟨pc,0,none⟩)/\Hue w wx bm g1 k1 g2 k2 W H C Z o f pc (kol o W H C f.x f.y f.c0 f.a up0) (kol o W H C f.x f.y f.c1 f.a up1) (kol o W H C f.x f.y f.c2 f.a up2) (kol o W H C f.x f.y f.a f.a up3))
  case first =>
   cases hmix:o.mix
   ·go_wp2;go_meet;refine ⟨_,rfl,?_⟩;simp only[kol,hmix,Bool.false_eq_true,if_false];exact ⟨by (repeat (first|assumption|with_reducible refine Img.ext ?_ _|with_reducible refine Img.alloc ?_ _|with_reducible refine Img.drew ?_)),by rw[hmix];exact rx_,by exact rx_,by exact rx_,by omega,by (repeat (first|exact Chg.refl|with_reducible refine Chg.drew ?_|with_reducible refine Chg.ext ?_ _|with_reducible refine Chg.alloc ?_ _|(with_reducible refine Chg.setCell ?_ (fun hlt_=>absurd hlt_ (by first|omega|(simp;omega))) _)))⟩
   ·go_wp2;refine wp_region_mix (by kernel_rfl) ?_
    repeat (first|(refine mix_skip rfl ?_;simp only[List.nil_append,List.cons_append])|(refine mix_ncheck rfl rfl rfl ?_;simp only[Act.put,List.setIfInBounds_toArray,List.set_cons_zero,List.set_cons_succ,List.nil_append,List.cons_append])|(refine mix_calm rfl rfl ?_;intro K_ hK_;go_big_quiet_op;go_big_quiet_on;simp only[List.nil_append,List.cons_append])|(apply mix_call rfl;(intro X_;go_simp;go_at_call 160;with_reducible refine Calls.calm_ret (GA.out _ ?_ ?_);(repeat (first|assumption|with_reducible refine Rd.ext ?_ _|with_reducible refine Rd.alloc ?_ _|with_reducible refine Rd.drew ?_));(repeat (first|assumption|with_reducible refine Rd.ext ?_ _|with_reducible refine Rd.alloc ?_ _|with_reducible refine Rd.drew ?_)));simp only[Act.put,List.setIfInBounds_toArray,List.set_cons_zero,List.set_cons_succ,List.nil_append,List.cons_append])|(refine mix_alloc rfl rfl Tryz.zeroValue43 ?_;simp only[List.nil_append,List.cons_append])|(refine mix_fill 12 rfl rfl rfl rfl (by simp[Value.oneCell']) (by kernel_rfl) (by simp) rfl rfl rfl rfl ?_;simp only[List.nil_append,List.cons_append]))
    refine mix_nil (mix_end1 12 13 ⟨by kernel_rfl,by kernel_rfl⟩ rfl rfl rfl rfl rfl (by kernel_rfl) ?_);intro X p q;have c_q:=q.cell;have f_q:=q.frozen;have g_q:=q.gap;have b_q:=jj q.block;simp only[World.size_ext,World.size_alloc,World.size_drew,World.size_setCell] at g_q;clear q;simp only[Act.put,List.setIfInBounds_toArray,List.set_cons_zero,List.set_cons_succ,ptr]
    go_wp2_with (first|(go_at_call 161;(with_reducible refine (BA.out _).mono ?_);rintro _ _ ⟨rfl,X_,rfl⟩))
    go_meet;refine ⟨_,rfl,?_⟩;simp only[kol,hmix,if_true];exact ⟨by (repeat (first|assumption|with_reducible refine Img.ext ?_ _|with_reducible refine Img.alloc ?_ _|with_reducible refine Img.drew ?_)),by rw[hmix];exact rx_,by exact rx_,by exact rx_,by omega,by (repeat (first|exact Chg.refl|with_reducible refine Chg.drew ?_|with_reducible refine Chg.ext ?_ _|with_reducible refine Chg.alloc ?_ _|(with_reducible refine Chg.setCell ?_ (fun hlt_=>absurd hlt_ (by first|omega|(simp;omega))) _)))⟩
  case rest =>
   obtain ⟨pc,rfl,HU⟩:=hcut;have lt:=HU.lt;have zc:=HU.chg.size;have zl:=HU.c.lt;have q0:=HU.o.cell 0;have q1:=HU.o.cell 1;have q2:=HU.o.cell 2;have q3:=HU.o.cell 3;have q4:=HU.o.cell 4;have q5:=HU.o.cell 5;have q6:=HU.o.cell 6;have q7:=HU.o.cell 7;have q8:=HU.o.cell 8;have q9:=HU.o.cell 9;have q10:=HU.o.cell 10;have q11:=HU.o.cell 11;have q12:=HU.o.cell 12;have q13:=HU.o.cell 13;have q14:=HU.o.cell 14;have r0:=HU.f.cell 0;have r1:=HU.f.cell 1;have r2:=HU.f.cell 2;have r3:=HU.f.cell 3;have r4:=HU.f.cell 4;have r5:=HU.f.cell 5;have r6:=HU.f.cell 6;have r7:=HU.f.cell 7;have s0:=HU.c.cell 0;have s1:=HU.c.cell 1;have s2:=HU.c.cell 2;have s3:=HU.c.cell 3;simp at q0 q1 q2 q3 q4 q5 q6 q7 q8 q9 q10 q11 q12 q13 q14 r0 r1 r2 r3 r4 r5 r6 r7 s0 s1 s2 s3;have KM:=kol_may HR.out HQ.out W H C;obtain ⟨wo,rfl⟩:∃ wo,wo=wc:=⟨_,rfl⟩;go_upto_region 8 with (first
    |(go_at_call 162;(with_reducible refine (put_img HU.im f.x f.y _ _ _ _ o.m0 o.m1 o.m2 o.m3 x0 x1 y0 y1 KM).mono ?_);rintro _ w1 ⟨rfl,I1,C1⟩))
   have O1:=C1.row HU.o (by omega);have P1:=C1.row HU.f (by omega);have qq5:=O1.cell 5;have qq7:=O1.cell 7;have rr0:=P1.cell 0;have rr1:=P1.cell 1;have rr2:=P1.cell 2;simp at qq5 qq7 rr0 rr1 rr2;have CC:Chg (fun k=>k=g1\/k=g2) w w1:=(HU.chg.mono fun _ _ h=>h.elim).trans (C1.mono fun _ _ h=>.inl h);have zq:0<=f.z/\f.z<=16777215:=HQ.out.2.2.2.2.1;cases hd:o.deep
   ·have e:ZZ=Z:=by rw[HZZ.out,hd];rfl
    rw[hd] at qq5;subst e;go_wp2;go_ret;exact ⟨rfl,I1,CC⟩
   ·rw[hd] at qq5;cases hk:o.keep
    ·have e:ZZ=Z:=by rw[HZZ.out,hd,hk];rfl
     rw[hk] at qq7;subst e;go_wp2;go_ret;exact ⟨rfl,I1,CC⟩
    ·have e:ZZ=putZ W H Z f.x f.y f.z:=by rw[HZZ.out,hd,hk];rfl
     rw[hk] at qq7;subst e
     go_wp2_with (first
      |(go_at_call 163;(with_reducible refine (deep_img I1 f.x f.y f.z x0 x1 y0 y1 zq).mono ?_);rintro _ w2 ⟨rfl,I2,C2⟩))
     go_ret;exact ⟨rfl,I2,CC.trans (C2.mono fun _ _ h=>.inr h)⟩
end
end Go.Proofs.YthcjfanigfgckaaGreat
