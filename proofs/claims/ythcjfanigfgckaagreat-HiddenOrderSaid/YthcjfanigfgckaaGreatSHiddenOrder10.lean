import Derived.Test.YthcjfanigfgckaaGreatSHiddenOrder02
import Derived.Test.YthcjfanigfgckaaGreatSHiddenOrder06
import Derived.Test.YthcjfanigfgckaaGreatSHiddenOrder09
set_option linter.unusedVariables false
set_option linter.unusedSimpArgs false
set_option maxRecDepth 100000
set_option maxHeartbeats 16000000
namespace Go.Proofs.YthcjfanigfgckaaGreat
open Go.RowKit
section
section
def sgn3 (a b c:Int):Int:=if a<0 then -1 else if 0<a then 1 else if b<0 then -1 else if 0<b then 1 else if c<0 then -1 else if 0<c then 1 else 0
theorem mul_bd2 {u v U V:Int} (hU:0<=U) (hV:0<=V) (u0:-U<=u) (u1:u<=U) (v0:-V<=v) (v1:v<=V):-(U*V)<=u*v/\u*v<=U*V:=by
 have h1:=Int.mul_nonneg (show 0<=U-u by omega) (show 0<=V-v by omega);have h2:=Int.mul_nonneg (show 0<=U+u by omega) (show 0<=V+v by omega);have h3:=Int.mul_nonneg (show 0<=U-u by omega) (show 0<=V+v by omega);have h4:=Int.mul_nonneg (show 0<=U+u by omega) (show 0<=V-v by omega);have e1:(U-u)*(V-v)=U*V-U*v-u*V+u*v:=by grind
 have e2:(U+u)*(V+v)=U*V+U*v+u*V+u*v:=by grind
 have e3:(U-u)*(V+v)=U*V+U*v-u*V-u*v:=by grind
 have e4:(U+u)*(V-v)=U*V-U*v+u*V-u*v:=by grind
 constructor<;>omega
abbrev P2 (x y:Int):Value:=.agg #[.int .i64 x,.int .i64 y]
structure MayP (x y:Int):Prop where
 x0:-536870912<=x
 x1:x<=536870912
 y0:-536870912<=y
 y1:y<=536870912
structure FarP (x y:Int):Prop where
 x0:-8388608<=x
 x1:x<=8388608
 y0:-8388608<=y
 y1:y<=8388608
def insP (u v:Int):Prop:=-128<u+v/\u+v<=128/\-128<u-v/\u-v<=128
instance (u v : Int) : Decidable (insP u v) := by unfold insP; exact inferInstance
end
section
def mtP (px py qx qy:Int):Prop:=min (px+py) (qx+qy)<=128/\-128<max (px+py) (qx+qy)/\min (px-py) (qx-qy)<=128/\-128<max (px-py) (qx-qy) /\
 ((px=qx/\py=qy)\/(sgn3 ((qx-px)*py-(qy-py)*px-128*max (max (qx-px) (-(qx-px))) (max (qy-py) (-(qy-py)))) (qy-py) (-(qx-px))<0/\0<sgn3 ((qx-px)*py-(qy-py)*px+128*max (max (qx-px) (-(qx-px))) (max (qy-py) (-(qy-py)))) (qy-py) (-(qx-px))))
instance (px py qx qy : Int) : Decidable (mtP px py qx qy) := by unfold mtP; exact inferInstance
end
section
structure Way where
 au:Int
 av:Int
 bu:Int
 bv:Int
 turned:Bool
 back:Int
 first:Int
 last:Int
 extra:Bool
 opn:Bool
 u:Int
 v:Int
abbrev Way.cells (W:Way):Array Value:=#[.int .i64 W.au,.int .i64 W.av,.int .i64 W.bu,.int .i64 W.bv,.bool W.turned,.int .i64 W.back,.int .i64 W.first,.int .i64 W.last,.bool W.extra,.bool W.opn,.int .i64 W.u,.int .i64 W.v]
abbrev WayAt (w:World) (p:Nat) (W:Way):Prop:=Row w p W.cells 253
structure Way.Ok (W:Way):Prop where
 au0:-536870912<=W.au
 au1:W.au<=536870912
 av0:-536870912<=W.av
 av1:W.av<=536870912
 bu0:-536870912<=W.bu
 bu1:W.bu<=536870912
 bv0:-536870912<=W.bv
 bv1:W.bv<=536870912
 k0:0<=W.back
 k1:W.back<=1
 f0:-2097153<=W.first
 f1:W.first<=2097153
 l0:-2097153<=W.last
 l1:W.last<=2097153
def Way.size (W:Way):Int:=max (W.last-W.first) (W.first-W.last)
def Way.step (W:Way):Int:=if W.last<W.first then -1 else 1
def Way.du (W:Way):Int:=if W.bu-W.au<0 then -(W.bu-W.au) else W.bu-W.au
def Way.dv (W:Way):Int:=if W.bu-W.au<0 then -(W.bv-W.av) else W.bv-W.av
def Way.num (W:Way) (u:Int):Int:=W.av*W.du+W.dv*(256*u+128-W.au)-W.back
def Way.den (W:Way):Int:=256*W.du
def Way.across (W:Way) (u:Int):Int:=W.num u/W.den
def Way.px (W:Way) (u v:Int):Int:=if W.turned then v else u
def Way.py (W:Way) (u v:Int):Int:=if W.turned then u else v
def Way.count (W:Way):Int:=(W.size-if W.opn then 1 else 0)+if W.extra then 1 else 0
section
variable {W:Way} {w:World} {p:Nat}
theorem way_size (ok:W.Ok) (h:WayAt w p W):Calls Tryz.prog 227 #[ptr p] w (Ret (.int .i64 W.size) w):=by
 obtain ⟨_,_,_,_,_,_,_,_,_,_,f0,f1,l0,l1⟩:=ok;have hc:=h.cell;simp only[Way.cells] at hc;have hf:=h.frozen;have hl:=h.lt;unfold Way.size;clear h;simp only[ptr]
 go_enter Tryz.func227,Tryz.ntmps227
 go_wp2;refine wp_region_ext (by kernel_rfl) (by kernel_rfl) ?_
 repeat (go_big_quiet_step ((fail)))
 refine wpQuiet_nil ?_;intro _ hw_ext;obtain ⟨X,hw_ext⟩:=hw_ext;subst hw_ext;go_wp2;go_ret;exact Ret.of' (by simp) (by exact bl_)
theorem way_step (h:WayAt w p W) (ok:W.Ok):Calls Tryz.prog 228 #[ptr p] w (Ret (.int .i64 W.step) w):=by
 obtain ⟨_,_,_,_,_,_,_,_,_,_,f0,f1,l0,l1⟩:=ok;have hc:=h.cell;simp only[Way.cells] at hc;have hf:=h.frozen;have hl:=h.lt;clear h;simp only[ptr]
 go_enter Tryz.func228,Tryz.ntmps228
 go_wp2;refine wp_region_ext (by kernel_rfl) (by kernel_rfl) ?_
 repeat (go_big_quiet_step ((fail)))
 refine wpQuiet_nil ?_;intro _ hw_ext;obtain ⟨X,hw_ext⟩:=hw_ext;subst hw_ext;go_wp2
 all_goals go_ret
 all_goals refine Ret.of' ?_ (by exact bl_)
 all_goals (unfold Way.step;first|(rw[if_pos (by omega)];rfl)|(rw[if_neg (by omega)];rfl))
theorem way_pixel (h:WayAt w p W) (u v:Int):Calls Tryz.prog 226 #[ptr p,.int .i64 u,.int .i64 v] w (Ret (.tuple #[.int .i64 (W.px u v),.int .i64 (W.py u v)]) w):=by
 have hc:=h.cell;simp only[Way.cells] at hc;have hf:=h.frozen;have hl:=h.lt;clear h;simp only[ptr];cases ht:W.turned
 all_goals
  simp only[ht] at hc
  go_enter Tryz.func226,Tryz.ntmps226
  go_wp2
  go_ret2
  exact Ret.of' (by unfold Way.px Way.py;rw[ht];rfl) (by exact bl_)
theorem way_count (ok:W.Ok) (h:WayAt w p W):Calls Tryz.prog 225 #[ptr p] w (Ret (.int .i64 W.count) w):=by
 have hS:∀ X,Calls Tryz.prog 227 #[.pointer (some ⟨p,0,none⟩)] (w.ext X) (Ret (.int .i64 W.size) (w.ext X)):=fun X=>way_size ok (h.ext X)
 have hb:0<=W.size/\W.size<=8388608:=by
  obtain ⟨_,_,_,_,_,_,_,_,_,_,f0,f1,l0,l1⟩:=ok;unfold Way.size;omega
 obtain ⟨s,hs⟩:∃ s,W.size=s:=⟨_,rfl⟩;have hS0:Calls Tryz.prog 227 #[.pointer (some ⟨p,0,none⟩)] w (Ret (.int .i64 W.size) w):=way_size ok h;rw[hs] at hS0 hb;obtain ⟨b0,b1⟩:=hb;have hc:=h.cell;simp only[Way.cells] at hc;have hf:=h.frozen;have hl:=h.lt;unfold Way.count;rw[hs];clear h hs hS;simp only[ptr];have HS:=jj hS0;clear hS0;cases ho:W.opn
 all_goals cases he:W.extra
 all_goals
  simp only[ho,he] at hc
  go_enter Tryz.func225,Tryz.ntmps225
  go_wp2_with (first|(go_at_call 227;(with_reducible refine (HS.out).mono ?_);rintro _ _ ⟨rfl,X_,rfl⟩))
  go_ret;exact Ret.of' (by simp) (by exact bl_)
theorem tdiv_floor (n d:Int) (hd:0<d):(n.tmod d<0->n.tdiv d-1=n/d)/\(¬n.tmod d<0->n.tdiv d=n/d):=by
 have h1:=Int.tdiv_mul_add_tmod n d;have h2:=Int.ediv_mul_add_emod n d;have h3:=Int.emod_nonneg n (by omega:d≠0);have h4:=Int.emod_lt_of_pos n hd;have h5:-d<n.tmod d:=by
  have:=Int.tmod_lt_of_pos (-n) hd;rw[Int.neg_tmod] at this;omega
 have h6:n.tmod d<d:=Int.tmod_lt_of_pos n hd;have key:∀ q r:Int,q*d+r=n->0<=r->r<d->q=n/d:=fun q r e r0 r1=>by
  have e2:(q-n/d)*d=n%d-r:=by rw[Int.sub_mul];omega
  have a1:(q-n/d)*d<1*d:=by omega
  have a2:(-1)*d<(q-n/d)*d:=by omega
  have b1:=Int.lt_of_mul_lt_mul_right a1 (by omega);have b2:=Int.lt_of_mul_lt_mul_right a2 (by omega);omega
 constructor
 ·intro h;exact key _ (n.tmod d+d) (by rw[Int.sub_mul];omega) (by omega) (by omega)
 ·intro h;exact key _ (n.tmod d) h1 (by omega) (by omega)
end
end
section
def inOk (x y:Int):Bool:=decide ((x%256=0/\y%256=128)\/max (x%256-128) (128-x%256)+max (y%256-128) (128-y%256)<128\/(max (x%256-128) (128-x%256)+max (y%256-128) (128-y%256)=128/\128<x%256))
def inX (x y:Int):Int:=if inOk x y then (if x%256=0/\y%256=128 then x/256-1 else x/256) else 0
def inY (x y:Int):Int:=if inOk x y then y/256 else 0
abbrev In3 (x y:Int):Value:=.tuple #[.int .i64 (inX x y),.int .i64 (inY x y),.bool (inOk x y)]
theorem shr8 (x:Int):x >>> 8=x/256:=by rw[Int.shiftRight_eq_div_pow];rfl
theorem bits_and_255s (x:Int):bits .and .i64 x 255=x%256:=by
 show IntKind.i64.wrap (((BitVec.ofInt 64 x &&& BitVec.ofInt 64 255).toNat:Nat):Int)=_
 rw[BitVec.toNat_and,show (BitVec.ofInt 64 255).toNat=2^8-1 from by decide,Nat.and_two_pow_sub_one_eq_mod,wrap_nat _ (by omega),BitVec.toNat_ofInt];omega
theorem in_a {x y:Int} (h:x%256-128=-128) (k:y%256-128=0):Value.tuple #[.int .i64 (x/256-1),.int .i64 (y/256),.bool true]=In3 x y:=by
 have e:inOk x y=true:=by unfold inOk;rw[decide_eq_true_iff];left;omega
 unfold In3 inX inY;rw[e];simp only[if_true];rw[if_pos (by omega)]
theorem in_b {x y:Int} (h:¬(x%256-128=-128/\y%256-128=0)) (k:max (x%256-128) (-(x%256-128))+max (y%256-128) (-(y%256-128))<128\/(max (x%256-128) (-(x%256-128))+max (y%256-128) (-(y%256-128))=128/\0<x%256-128)):Value.tuple #[.int .i64 (x/256),.int .i64 (y/256),.bool true]=In3 x y:=by
 have e:inOk x y=true:=by unfold inOk;rw[decide_eq_true_iff];right;omega
 unfold In3 inX inY;rw[e];simp only[if_true];rw[if_neg (by omega)]
theorem in_c {x y:Int} (h:¬(x%256-128=-128/\y%256-128=0)) (k:¬(max (x%256-128) (-(x%256-128))+max (y%256-128) (-(y%256-128))<128\/(max (x%256-128) (-(x%256-128))+max (y%256-128) (-(y%256-128))=128/\0<x%256-128))):Value.tuple #[.int .i64 0,.int .i64 0,.bool false]=In3 x y:=by
 have e:inOk x y=false:=by unfold inOk;rw[decide_eq_false_iff_not];omega
 unfold In3 inX inY;rw[e];rfl
theorem diamond_in (x y:Int) (h:MayP x y) (w:World):Calls Tryz.prog 259 #[P2 x y] w (Ret (In3 x y) w):=by
 obtain ⟨x0,x1,y0,y1⟩:=h;have g1:=bits_and_255s x;have g2:=bits_and_255s y;obtain ⟨r,hr⟩:∃ r,In3 x y=r:=⟨_,rfl⟩;rw[hr]
 go_enter Tryz.func259,Tryz.ntmps259
 go_wp2;refine wp_region_ext (by kernel_rfl) (by kernel_rfl) ?_
 repeat (go_big_quiet_step ((fail)))
 refine wpQuiet_nil ?_;intro _ hw_ext;obtain ⟨X1,hw_ext⟩:=hw_ext;subst hw_ext;go_upto_region 2 with fail
 refine wp_region_ext (by kernel_rfl) (by kernel_rfl) ?_
 repeat (go_big_quiet_step ((fail)))
 refine wpQuiet_nil ?_;intro _ hw_ext;obtain ⟨X2,hw_ext⟩:=hw_ext;subst hw_ext;go_wp2
 all_goals go_ret3
 all_goals refine Ret.of' (Eq.trans ?_ hr) (by exact bl_)
 all_goals (try simp only[beq_iff_eq,beq_eq_false_iff_ne,ne_eq] at *)
 all_goals first
  |exact in_a (by omega) (by omega)
  |exact in_b (by omega) (by omega)
  |exact in_c (by omega) (by omega)
theorem way_under {W:Way} {w:World} {p:Nat} (ok:W.Ok) (h:WayAt w p W) (u:Int) (u0:-8388608<=u) (u1:u<=8388608):Calls Tryz.prog 252 #[ptr p,.int .i64 u] w (Ret (.tuple #[.int .i64 (W.num u),.int .i64 W.den]) w):=by
 obtain ⟨a0,a1,a2,a3,b0,b1,b2,b3,k0,k1,f0,f1,l0,l1⟩:=ok;have hc:=h.cell;simp only[Way.cells] at hc;have hf:=h.frozen;have hl:=h.lt;clear h f0 f1 l0 l1;obtain ⟨n,hn⟩:∃ n,W.num u=n:=⟨_,rfl⟩;obtain ⟨d,hd⟩:∃ d,W.den=d:=⟨_,rfl⟩;rw[hn,hd];simp only[ptr];obtain ⟨M,hM⟩:∃ M,256*u+128-W.au=M:=⟨_,rfl⟩;have M0:-4294967296<=M/\M<=4294967296:=by omega
 obtain ⟨M0,M1⟩:=M0
 by_cases hs:W.bu-W.au<0
 ·have dn:W.av * -(W.bu-W.au)+-(W.bv-W.av)*M-W.back=n:=by
   rw[<-hn,<-hM];unfold Way.num Way.du Way.dv;rw[if_pos hs,if_pos hs]
  have dd:256 * -(W.bu-W.au)=d:=by rw[<-hd];unfold Way.den Way.du;rw[if_pos hs]
  have m1:=mul_bd2 (u:=W.av) (v:=-(W.bu-W.au)) (U:=536870912) (V:=1073741824) (by omega) (by omega) (by omega) (by omega) (by omega) (by omega);have m2:=mul_bd2 (u:=-(W.bv-W.av)) (v:=M) (U:=1073741824) (V:=4294967296) (by omega) (by omega) (by omega) (by omega) (by omega) (by omega);obtain ⟨s,hsum⟩:∃ s,W.av * -(W.bu-W.au)=s:=⟨_,rfl⟩;obtain ⟨t,ht⟩:∃ t,-(W.bv-W.av)*M=t:=⟨_,rfl⟩;have e1:IntKind.i64.wrap (W.av * -(W.bu-W.au))=s:=by rw[<-hsum];exact IntWalk.i64_in _ (by omega)
  have e2:IntKind.i64.wrap (-(W.bv-W.av)*(256*u+128-W.au))=t:=by rw[hM,<-ht];exact IntWalk.i64_in _ (by omega)
  rw[hsum,ht] at dn;rw[hsum] at m1;rw[ht] at m2;clear hn hd hsum ht hM
  go_enter Tryz.func252,Tryz.ntmps252
  go_wp2;refine wp_region_ext (by kernel_rfl) (by kernel_rfl) ?_
  repeat (go_big_quiet_step ((fail)))
  refine wpQuiet_nil ?_;intro _ hw_ext;obtain ⟨X1,hw_ext⟩:=hw_ext;subst hw_ext;go_upto_region 4 with fail
  refine wp_region_ext (by kernel_rfl) (by kernel_rfl) ?_
  repeat (go_big_quiet_step ((fail)))
  refine wpQuiet_nil ?_;intro _ hw_ext;obtain ⟨X2,hw_ext⟩:=hw_ext;subst hw_ext;go_wp2
  go_ret2
  exact Ret.of' (by simp only[<-dn,<-dd];rfl) (by exact bl_)
 ·have dn:W.av*(W.bu-W.au)+(W.bv-W.av)*M-W.back=n:=by
   rw[<-hn,<-hM];unfold Way.num Way.du Way.dv;rw[if_neg hs,if_neg hs]
  have dd:256*(W.bu-W.au)=d:=by rw[<-hd];unfold Way.den Way.du;rw[if_neg hs]
  have m1:=mul_bd2 (u:=W.av) (v:=W.bu-W.au) (U:=536870912) (V:=1073741824) (by omega) (by omega) (by omega) (by omega) (by omega) (by omega);have m2:=mul_bd2 (u:=W.bv-W.av) (v:=M) (U:=1073741824) (V:=4294967296) (by omega) (by omega) (by omega) (by omega) (by omega) (by omega);obtain ⟨s,hsum⟩:∃ s,W.av*(W.bu-W.au)=s:=⟨_,rfl⟩;obtain ⟨t,ht⟩:∃ t,(W.bv-W.av)*M=t:=⟨_,rfl⟩;have e1:IntKind.i64.wrap (W.av*(W.bu-W.au))=s:=by rw[<-hsum];exact IntWalk.i64_in _ (by omega)
  have e2:IntKind.i64.wrap ((W.bv-W.av)*(256*u+128-W.au))=t:=by rw[hM,<-ht];exact IntWalk.i64_in _ (by omega)
  rw[hsum,ht] at dn;rw[hsum] at m1;rw[ht] at m2;clear hn hd hsum ht hM
  go_enter Tryz.func252,Tryz.ntmps252
  go_wp2;refine wp_region_ext (by kernel_rfl) (by kernel_rfl) ?_
  repeat (go_big_quiet_step ((fail)))
  refine wpQuiet_nil ?_;intro _ hw_ext;obtain ⟨X1,hw_ext⟩:=hw_ext;subst hw_ext;go_upto_region 4 with fail
  refine wp_region_ext (by kernel_rfl) (by kernel_rfl) ?_
  repeat (go_big_quiet_step ((fail)))
  refine wpQuiet_nil ?_;intro _ hw_ext;obtain ⟨X2,hw_ext⟩:=hw_ext;subst hw_ext;go_wp2
  go_ret2
  exact Ret.of' (by simp only[<-dn,<-dd];rfl) (by exact bl_)
theorem way_across {W:Way} {w:World} {p:Nat} (ok:W.Ok) (h:WayAt w p W) (u:Int) (u0:-8388608<=u) (u1:u<=8388608) (hd:0<W.du):Calls Tryz.prog 253 #[ptr p,.int .i64 u] w (Ret (.int .i64 (W.across u)) w):=by
 have HU:=jj (show Calls Tryz.prog 252 #[.pointer (some ⟨p,0,none⟩),.int .i64 u] w _ from way_under ok h u u0 u1);have nb:-9223372036854775807<=W.num u/\W.num u<=9223372036854775807:=by
  obtain ⟨a0,a1,a2,a3,b0,b1,b2,b3,k0,k1,f0,f1,l0,l1⟩:=ok;have d0:-1073741824<=W.du/\W.du<=1073741824:=by unfold Way.du;split<;>omega
  have d1:-1073741824<=W.dv/\W.dv<=1073741824:=by unfold Way.dv;split<;>omega
  have m1:=mul_bd2 (u:=W.av) (v:=W.du) (U:=536870912) (V:=1073741824) (by omega) (by omega) (by omega) (by omega) (by omega) (by omega);have m2:=mul_bd2 (u:=W.dv) (v:=256*u+128-W.au) (U:=1073741824) (V:=4294967296) (by omega) (by omega) (by omega) (by omega) (by omega) (by omega);unfold Way.num;omega
 have db:0<W.den/\W.den<=274877906944:=by
  obtain ⟨a0,a1,a2,a3,b0,b1,b2,b3,k0,k1,f0,f1,l0,l1⟩:=ok;have d0:-1073741824<=W.du/\W.du<=1073741824:=by unfold Way.du;split<;>omega
  unfold Way.den;omega
 unfold Way.across;obtain ⟨n,hn⟩:∃ n,W.num u=n:=⟨_,rfl⟩;obtain ⟨d,hdd⟩:∃ d,W.den=d:=⟨_,rfl⟩;rw[hn] at nb;rw[hdd] at db;have HU2:=HU.out;rw[hn,hdd] at HU2;have HU3:=jj HU2;rw[hn,hdd];have F:=jj (tdiv_floor n d db.1);obtain ⟨n0,n1⟩:=nb;obtain ⟨d0,d1⟩:=db;have dne:d≠0:=by omega
 have qb:-9223372036854775807<=n.tdiv d/\n.tdiv d<=9223372036854775807:=by
  have:=Int.natAbs_tdiv_le_natAbs n d;omega
 obtain ⟨q0,q1⟩:=qb;clear HU HU2 hn hdd hd;simp only[ptr]
 go_enter Tryz.func253,Tryz.ntmps253
 go_wp2_with (first|(go_at_call 252;(with_reducible refine (HU3.out).mono ?_);rintro _ _ ⟨rfl,X_,rfl⟩))
 all_goals go_ret
 ·exact Ret.of' (congrArg (Value.int .i64) (F.out.1 (by assumption))) (by exact bl_)
 ·exact Ret.of' (congrArg (Value.int .i64) (F.out.2 (by assumption))) (by exact bl_)
end
section
theorem way_in {W:Way} {w:World} {p:Nat} (h:WayAt w p W) (x y:Int) (hm:MayP x y):Calls Tryz.prog 258 #[ptr p,P2 x y] w (Ret (.tuple #[.int .i64 (W.px (inX x y) (inY x y)),.int .i64 (W.py (inX x y) (inY x y)),.bool (inOk x y)]) w):=by
 have hc:=h.cell;simp only[Way.cells] at hc;have hf:=h.frozen;have hl:=h.lt;have HI:=jj (fun w=>diamond_in x y hm w);obtain ⟨i,hi⟩:∃ i,inX x y=i:=⟨_,rfl⟩;obtain ⟨k,hk⟩:∃ k,inY x y=k:=⟨_,rfl⟩;obtain ⟨o,ho⟩:∃ o,inOk x y=o:=⟨_,rfl⟩;simp only[In3,hi,hk,ho] at HI ⊢;clear h hi hk ho;simp only[ptr];cases ht:W.turned
 all_goals
  simp only[ht] at hc
  go_enter Tryz.func258,Tryz.ntmps258
  go_wp2_with (first|(go_at_call 259;(with_reducible refine (HI.out _).mono ?_);rintro _ _ ⟨rfl,X_,rfl⟩))
  go_ret3
  exact Ret.of' (by unfold Way.px Way.py;rw[ht];rfl) (by exact bl_)
def Way.endA (W:Way) (ax ay bx y2:Int):Prop:=inOk ax ay=true/\(W.size=0\/W.px (inX ax ay) (inY ax ay)≠W.first)/\¬(inOk bx y2=true/\W.px (inX ax ay) (inY ax ay)=W.px (inX bx y2) (inY bx y2)/\W.py (inX ax ay) (inY ax ay)=W.py (inX bx y2) (inY bx y2))
def Way.endB (W:Way) (bx y2:Int):Prop:=0<W.size/\inOk bx y2=true/\W.px (inX bx y2) (inY bx y2)=W.last-W.step
instance (W : Way) (ax ay bx y2 : Int) : Decidable (W.endA ax ay bx y2) := by unfold Way.endA; exact inferInstance
instance (W : Way) (bx y2 : Int) : Decidable (W.endB bx y2) := by unfold Way.endB; exact inferInstance
def Way.ended1 (W:Way) (ax ay bx y2:Int):Way:=if W.endA ax ay bx y2 then { W with extra:=true,u:=W.px (inX ax ay) (inY ax ay),v:=W.py (inX ax ay) (inY ax ay) } else W
def Way.ended2 (W V:Way) (bx y2:Int):Way:=if W.endB bx y2 then { V with opn:=decide (W.across (W.px (inX bx y2) (inY bx y2))=W.py (inX bx y2) (inY bx y2)) } else V
def Way.ended (W:Way) (ax ay bx y2:Int):Way:=W.ended2 (W.ended1 ax ay bx y2) bx y2
def Turns (w:World) (p:Nat) (V:Way) (e:Ending) (w':World):Prop:=e=.returned (.tuple #[])/\WayAt w' p V/\Chg (fun k=>k=p) w w'
theorem way_ends {W:Way} {w:World} {p:Nat} (ok:W.Ok) (h:WayAt w p W) (ax ay bx y2:Int) (ha:MayP ax ay) (hb:MayP bx y2) (hd:0<W.du) :
  Calls Tryz.prog 250 #[ptr p,P2 ax ay,P2 bx y2] w (Turns w p (W.ended ax ay bx y2)):=by
 obtain ⟨V,hV⟩:∃ V,W.ended ax ay bx y2=V:=⟨_,rfl⟩;rw[hV];have HV:=jj hV;clear hV;obtain ⟨bA,hA⟩:∃ b,decide (W.endA ax ay bx y2)=b:=⟨_,rfl⟩;obtain ⟨bB,hB⟩:∃ b,decide (W.endB bx y2)=b:=⟨_,rfl⟩;have EA:=jj hA;have EB:=jj hB;unfold Way.endA at hA;unfold Way.endB at hB;obtain ⟨n,hn⟩:∃ n,W.size=n:=⟨_,rfl⟩;obtain ⟨s,hs⟩:∃ s,W.step=s:=⟨_,rfl⟩;have HS:=jj (fun (w:World) (h:WayAt w p W)=>by have:=way_size ok h;rw[hn] at this;exact this);have HA:=jj (fun (w:World) (h:WayAt w p W)=>way_in h ax ay ha);have HB:=jj (fun (w:World) (h:WayAt w p W)=>way_in h bx y2 hb);obtain ⟨oa,hoa⟩:∃ o,inOk ax ay=o:=⟨_,rfl⟩;obtain ⟨ob,hob⟩:∃ o,inOk bx y2=o:=⟨_,rfl⟩;obtain ⟨u,hu⟩:∃ o,W.px (inX ax ay) (inY ax ay)=o:=⟨_,rfl⟩;obtain ⟨v,hv⟩:∃ o,W.py (inX ax ay) (inY ax ay)=o:=⟨_,rfl⟩;obtain ⟨i,hi⟩:∃ o,W.px (inX bx y2) (inY bx y2)=o:=⟨_,rfl⟩;obtain ⟨k,hk⟩:∃ o,W.py (inX bx y2) (inY bx y2)=o:=⟨_,rfl⟩;simp only[hn,hs,hoa,hob,hu,hv,hi,hk] at hA hB HA HB;have HW:=jj h;have hc:=h.cell;simp only[Way.cells] at hc;have hf:=h.frozen;have hl:=h.lt;have sb:0<=n/\n<=8388608/\(s=1\/s=-1):=by
  have f0:=ok.f0;have f1:=ok.f1;have l0:=ok.l0;have l1:=ok.l1
  refine ⟨?_,?_,?_⟩
  ·rw[<-hn];unfold Way.size;omega
  ·rw[<-hn];unfold Way.size;omega
  ·rw[<-hs];unfold Way.step;split<;>simp
 obtain ⟨n0,n1,s01⟩:=sb;have i8:-8388608<=i/\i<=8388608:=by
  obtain ⟨b0,b1,b2,b3⟩:=hb;rw[<-hi];unfold Way.px inX inY;constructor<;>(repeat' split)<;>omega
 have CA:=jj hA;have CB:=jj hB;have Hn:=jj hn;have Hs:=jj hs;have Hu:=jj hu;have Hv:=jj hv;have Hi:=jj hi;have Hk:=jj hk;have OK:=jj ok;have hl0:=ok.l0;have hl1:=ok.l1;clear hA hB hn hs hoa hob hu hv hi hk ok;simp only[ptr] at HS HA HB ⊢
 go_enter Tryz.func250,Tryz.ntmps250
 go_upto_region 4 with (first|(go_at_call 227;(with_reducible refine (HS.out _ ?_).mono ?_);exact rx_;rintro _ _ ⟨rfl,X_,rfl⟩)|(go_at_call 258;(with_reducible refine (HA.out _ ?_).mono ?_);exact rx_;rintro _ _ ⟨rfl,X_,rfl⟩)|(go_at_call 258;(with_reducible refine (HB.out _ ?_).mono ?_);exact rx_;rintro _ _ ⟨rfl,X_,rfl⟩))
 refine wp_abs (F:=fun w1=>WayAt w1 p W/\∃ X,w1=w.ext X) ⟨by exact rx_,jz (by exact bl_)⟩ ?_;rintro w1 ⟨h1,hw1⟩;have HW1:=jj h1;have HX1:=jj hw1;clear hc hf h HW hw1;have hc:=h1.cell;simp only[Way.cells] at hc;have hf:=h1.frozen;have hl:=h1.lt;clear h1;obtain ⟨z1,hz1⟩:∃ z,(n==0)=z:=⟨_,rfl⟩;obtain ⟨z2,hz2⟩:∃ z,(u==W.first)=z:=⟨_,rfl⟩;have hz2':(u != W.first)=!z2:=by rw[<-hz2];rfl
 obtain ⟨z3,hz3⟩:∃ z,(u==i)=z:=⟨_,rfl⟩;obtain ⟨z4,hz4⟩:∃ z,(v==k)=z:=⟨_,rfl⟩;have HbA:=jj (show bA=(oa&&(z1 || !z2)&&!(ob&&(z3&&z4))) by
  rw[<-CA.out,<-hz1,<-hz2,<-hz3,<-hz4,Bool.eq_iff_iff];simp[and_assoc];try omega)
 go_cut [55] (fun t55 wx=>t55=.bool bA/\wx=w1)
 case first =>
  cases oa
  all_goals cases ob
  all_goals go_wp2
  all_goals go_meet
  all_goals refine ⟨congrArg Value.bool ?_,rfl⟩
  all_goals (rw[HbA.out];clear hz1 hz2 hz2' hz3 hz4;cases z1<;>cases z2<;>cases z3<;>cases z4<;>first|rfl|contradiction)
 case rest =>
  obtain ⟨rfl,rfl⟩:=hcut;obtain ⟨w1,rfl⟩:∃ w1,w1=wc:=⟨_,rfl⟩;clear hz1 hz2 hz2' hz3 hz4;obtain ⟨V1,hV1⟩:∃ V1,W.ended1 ax ay bx y2=V1:=⟨_,rfl⟩;have v0:V1.last=W.last/\V1.first=W.first/\V1.Ok/\V1.du=W.du/\V1.across i=W.across i/\V1.step=s:=by
   have ok:=OK.out;rw[<-hV1];unfold Way.ended1
   split
   ·exact ⟨rfl,rfl,⟨ok.1,ok.2,ok.3,ok.4,ok.5,ok.6,ok.7,ok.8,ok.9,ok.10,ok.11,ok.12,ok.13,ok.14⟩,rfl,rfl,Hs.out⟩
   ·exact ⟨rfl,rfl,ok,rfl,rfl,Hs.out⟩
  have hw1:WayAt w1 p W->∀ (hA:bA=true),WayAt (((w1.setCell ⟨p,8,none⟩ (.bool true)).setCell ⟨p,10,none⟩ (.int .i64 u)).setCell ⟨p,11,none⟩ (.int .i64 v)) p V1:=fun h1 hA=>by
   have e:W.endA ax ay bx y2:=by rw[<-decide_eq_true_iff (p:=W.endA ax ay bx y2),EA.out,hA]
   rw[<-hV1];unfold Way.ended1;rw[if_pos e,Hu.out,Hv.out]
   have:=((h1.set 8 (.bool true)).set 10 (.int .i64 u)).set 11 (.int .i64 v)
   simpa using this
  have hw2:bA=false->V1=W:=fun hA=>by
   have e:¬W.endA ax ay bx y2:=by rw[<-decide_eq_false_iff_not,EA.out,hA]
   rw[<-hV1];unfold Way.ended1;rw[if_neg e]
  have HW3:=jj hw1;have HW4:=jj hw2;have V0:=jj v0;have HV1:=jj hV1;clear hV1 v0 hw1 hw2;cases bA
  ·go_upto_region 6 with fail
   refine wp_abs (F:=fun w2=>WayAt w2 p V1/\Chg (fun k=>k=p) w w2) (by
    obtain ⟨X,hX⟩:=HX1.out;have e:=HW4.out rfl;rw[e];exact ⟨HW1.out,hX▸Chg.refl.ext X⟩) ?_
   rintro w2 ⟨h2,k2⟩;have HW2:=jj h2;have HK2:=jj k2;clear hc hf hl k2;have hc:=h2.cell;simp only[Way.cells] at hc;have hf:=h2.frozen;have hl:=h2.lt;clear h2;have HS2:=jj (fun (w:World) (h:WayAt w p V1)=>by have:=way_step h V0.out.2.2.1;rw[V0.out.2.2.2.2.2] at this;exact this);have HC2:=jj (fun (w:World) (h:WayAt w p V1)=>by have:=way_across V0.out.2.2.1 h i i8.1 i8.2 (by rw[V0.out.2.2.2.1];exact hd);rw[show V1.across i=W.across i from V0.out.2.2.2.2.1] at this;exact this);obtain ⟨c,hcc⟩:∃ c,W.across i=c:=⟨_,rfl⟩;rw[hcc] at HC2;have Hcc:=jj hcc;clear hcc;simp only[ptr] at HS2 HC2;obtain ⟨m,hm⟩:∃ m,V1.last=m:=⟨_,rfl⟩;have m0:-2097153<=m/\m<=2097153:=by rw[<-hm,V0.out.1];exact ⟨hl0,hl1⟩
   obtain ⟨m0,m1⟩:=m0;rw[hm] at hc;obtain ⟨z6,hz6⟩:∃ z,decide (0<n)=z:=⟨_,rfl⟩;obtain ⟨z5,hz5⟩:∃ z,(i==m-s)=z:=⟨_,rfl⟩;have HbB:=jj (show bB=(z6&&(ob&&z5)) by
    rw[<-CB.out,<-hz6,<-hz5,<-hm,V0.out.1,Bool.eq_iff_iff];simp)
   have Hm:=jj hm;clear hm
   go_cut [82] (fun t82 wx=>t82=.bool bB/\∃ X,wx=w2.ext X)
   case first =>
    have h2:=HW2.out;cases z6
    all_goals cases ob
    all_goals refine wp_region_ext (by kernel_rfl) (by kernel_rfl) ?_
    all_goals repeat (go_big_quiet_step (first|(go_at_call 228;with_reducible refine Calls.quiet_ret (HS2.out _ ?_);exact rx_)))
    all_goals refine wpQuiet_nil ?_
    all_goals intro _ hw_ext
    all_goals obtain ⟨X3,hw_ext⟩:=hw_ext
    all_goals subst hw_ext
    all_goals go_wp2
    all_goals go_meet
    all_goals refine ⟨congrArg Value.bool ?_,_,rfl⟩
    all_goals (rw[HbB.out];clear hz5 hz6;cases z5<;>first|rfl|contradiction)
   case rest =>
    obtain ⟨rfl,X3,rfl⟩:=hcut;clear hz5 hz6;have hV2:∀ w:World,WayAt w p V1->(bB=false->WayAt w p V)/\(bB=true->WayAt (w.setCell ⟨p,9,none⟩ (.bool (c==k))) p V):=fun w h=>by
     have e:W.ended2 V1 bx y2=V:=by rw[<-HV.out,<-HV1.out];rfl
     refine ⟨fun hB=>?_,fun hB=>?_⟩
     ·have:¬W.endB bx y2:=by rw[<-decide_eq_false_iff_not,EB.out,hB]
      rw[<-e];unfold Way.ended2;rw[if_neg this];exact h
     ·have:W.endB bx y2:=by rw[<-decide_eq_true_iff (p:=W.endB bx y2),EB.out,hB]
      rw[<-e];unfold Way.ended2;rw[if_pos this,Hi.out,Hk.out,Hcc.out]
      have:=h.set 9 (.bool (decide (c=k)));have e9:(c==k)=decide (c=k):=rfl;rw[e9]
      simpa using this
    have HV2:=jj hV2;clear hV2;cases bB
    ·go_wp2
     go_end0
     exact ⟨rfl,(HV2.out _ (HW2.out.ext _)).1 (by simp),HK2.out.ext _⟩
    ·have h2:=HW2.out
     go_wp2_with (first|(go_at_call 253;(with_reducible refine (HC2.out _ ?_).mono ?_);exact rx_;rintro _ _ ⟨rfl,X_,rfl⟩))
     go_end0
     exact ⟨rfl,(((HV2.out _ HW2.out).2 (by simp)).ext _).ext _,((HK2.out.setCell (fun _=>rfl) _).ext _).ext _⟩
  ·go_upto_region 6 with fail
   refine wp_abs (F:=fun w2=>WayAt w2 p V1/\Chg (fun k=>k=p) w w2) (by
    obtain ⟨X,hX⟩:=HX1.out;have k1:Chg (fun k=>k=p) w w1:=hX▸Chg.refl.ext X
    exact ⟨HW3.out HW1.out rfl,((k1.setCell (fun _=>rfl) _).setCell (fun _=>rfl) _).setCell (fun _=>rfl) _⟩) ?_
   rintro w2 ⟨h2,k2⟩;have HW2:=jj h2;have HK2:=jj k2;clear hc hf hl k2;have hc:=h2.cell;simp only[Way.cells] at hc;have hf:=h2.frozen;have hl:=h2.lt;clear h2;have HS2:=jj (fun (w:World) (h:WayAt w p V1)=>by have:=way_step h V0.out.2.2.1;rw[V0.out.2.2.2.2.2] at this;exact this);have HC2:=jj (fun (w:World) (h:WayAt w p V1)=>by have:=way_across V0.out.2.2.1 h i i8.1 i8.2 (by rw[V0.out.2.2.2.1];exact hd);rw[show V1.across i=W.across i from V0.out.2.2.2.2.1] at this;exact this);obtain ⟨c,hcc⟩:∃ c,W.across i=c:=⟨_,rfl⟩;rw[hcc] at HC2;have Hcc:=jj hcc;clear hcc;simp only[ptr] at HS2 HC2;obtain ⟨m,hm⟩:∃ m,V1.last=m:=⟨_,rfl⟩;have m0:-2097153<=m/\m<=2097153:=by rw[<-hm,V0.out.1];exact ⟨hl0,hl1⟩
   obtain ⟨m0,m1⟩:=m0;rw[hm] at hc;obtain ⟨z6,hz6⟩:∃ z,decide (0<n)=z:=⟨_,rfl⟩;obtain ⟨z5,hz5⟩:∃ z,(i==m-s)=z:=⟨_,rfl⟩;have HbB:=jj (show bB=(z6&&(ob&&z5)) by
    rw[<-CB.out,<-hz6,<-hz5,<-hm,V0.out.1,Bool.eq_iff_iff];simp)
   have Hm:=jj hm;clear hm
   go_cut [82] (fun t82 wx=>t82=.bool bB/\∃ X,wx=w2.ext X)
   case first =>
    have h2:=HW2.out;cases z6
    all_goals cases ob
    all_goals refine wp_region_ext (by kernel_rfl) (by kernel_rfl) ?_
    all_goals repeat (go_big_quiet_step (first|(go_at_call 228;with_reducible refine Calls.quiet_ret (HS2.out _ ?_);exact rx_)))
    all_goals refine wpQuiet_nil ?_
    all_goals intro _ hw_ext
    all_goals obtain ⟨X3,hw_ext⟩:=hw_ext
    all_goals subst hw_ext
    all_goals go_wp2
    all_goals go_meet
    all_goals refine ⟨congrArg Value.bool ?_,_,rfl⟩
    all_goals (rw[HbB.out];clear hz5 hz6;cases z5<;>first|rfl|contradiction)
   case rest =>
    obtain ⟨rfl,X3,rfl⟩:=hcut;clear hz5 hz6;have hV2:∀ w:World,WayAt w p V1->(bB=false->WayAt w p V)/\(bB=true->WayAt (w.setCell ⟨p,9,none⟩ (.bool (c==k))) p V):=fun w h=>by
     have e:W.ended2 V1 bx y2=V:=by rw[<-HV.out,<-HV1.out];rfl
     refine ⟨fun hB=>?_,fun hB=>?_⟩
     ·have:¬W.endB bx y2:=by rw[<-decide_eq_false_iff_not,EB.out,hB]
      rw[<-e];unfold Way.ended2;rw[if_neg this];exact h
     ·have:W.endB bx y2:=by rw[<-decide_eq_true_iff (p:=W.endB bx y2),EB.out,hB]
      rw[<-e];unfold Way.ended2;rw[if_pos this,Hi.out,Hk.out,Hcc.out]
      have:=h.set 9 (.bool (decide (c=k)));have e9:(c==k)=decide (c=k):=rfl;rw[e9]
      simpa using this
    have HV2:=jj hV2;clear hV2;cases bB
    ·go_wp2
     go_end0
     exact ⟨rfl,(HV2.out _ (HW2.out.ext _)).1 (by simp),HK2.out.ext _⟩
    ·have h2:=HW2.out
     go_wp2_with (first|(go_at_call 253;(with_reducible refine (HC2.out _ ?_).mono ?_);exact rx_;rintro _ _ ⟨rfl,X_,rfl⟩))
     go_end0
     exact ⟨rfl,(((HV2.out _ HW2.out).2 (by simp)).ext _).ext _,((HK2.out.setCell (fun _=>rfl) _).ext _).ext _⟩
end
end
end Go.Proofs.YthcjfanigfgckaaGreat
