import Derived.Deep.RegionLawGrows
import Derived.Test.YthcjfanigfgckaaGreatSHiddenOrder18
set_option linter.unusedVariables false
set_option linter.unusedSimpArgs false
set_option maxRecDepth 100000
set_option maxHeartbeats 16000000
namespace Go.Proofs.YthcjfanigfgckaaGreat
open Go.RowKit
section
theorem bits_and_15 (x:Int) (hx0:0<=x) (hx1:x<9223372036854775808):bits .and .i64 x 15=x%16:=by
 rw[bits_and_nat x 15 hx0 hx1 (by decide) (by decide)];have:x.toNat &&& 15=x.toNat%16:=Nat.and_two_pow_sub_one_eq_mod x.toNat 4;rw[show (15:Int).toNat=15 from rfl,this];omega
theorem bits_and_1 (x:Int) (hx0:0<=x) (hx1:x<9223372036854775808):bits .and .i64 x 1=x%2:=by
 rw[bits_and_nat x 1 hx0 hx1 (by decide) (by decide)];have:x.toNat &&& 1=x.toNat%2:=Nat.and_two_pow_sub_one_eq_mod x.toNat 1;rw[show (1:Int).toNat=1 from rfl,this];omega
theorem shr_in {p:Int} (p0:0<=p) (p1:p<=65535) (k:Nat):0<=p/2^k/\p/2^k<=65535:=by
 have h:(0:Int)<2^k:=Int.pow_pos (by decide);refine ⟨Int.ediv_nonneg p0 (by omega),Int.le_trans (Int.ediv_le_self _ p0) p1⟩
theorem dbit_any (p n:Int) (p0:0<=p) (p1:p<=65535) (n0:0<=n) (n1:n<=4611686018427387904) (w:World):Calls Tryz.prog 230 #[.int .i64 p,.int .i64 n] w (Ret (.bool (decide (p/2^(n%16).toNat%2=1))) w):=by
 have e0:=bits_and_15 n n0 (by omega);obtain ⟨q0,q1⟩:=shr_in p0 p1 (n%16).toNat;have e1:=bits_and_1 (p/2^(n%16).toNat) q0 (by omega);obtain ⟨q,hq⟩:∃ q,p/2^(n%16).toNat=q:=⟨_,rfl⟩;rw[hq] at q0 q1 e1 ⊢;have m0:0<=n%16:=by omega
 have m1:n%16<16:=by omega
 go_enter Tryz.func230,Tryz.ntmps230
 go_wp2;go_ret;exact Ret.of' (by first|rfl|(simp;rfl)) (by exact bl_)
theorem dlit_any (p r c k:Int) (h:dashP p r c) (k0:0<=k) (k1:k<=1099511627776) (w:World):Calls Tryz.prog 194 #[D3 p r c,.int .i64 k] w (Ret (.bool (decide (litP p r c k))) w):=by
 obtain ⟨⟨p0,p1⟩,⟨r0,r1⟩,c0,c1⟩:=h;have q0:0<=(c+k)/r:=Int.ediv_nonneg (by omega) (by omega);have q1:(c+k)/r<=c+k:=Int.ediv_le_self _ (by omega);have B:=jj (fun w=>dbit_any p ((c+k)/r) p0 p1 q0 (by omega) w);unfold litP;generalize decide (p/2^((c+k)/r%16).toNat%2=1)=b at *
 go_enter Tryz.func194,Tryz.ntmps194
 go_wp2;refine wp_region_ext (by kernel_rfl) (by kernel_rfl) ?_
 repeat (go_big_quiet_step ((first|(go_at_call 230;with_reducible exact Calls.quiet_ret (B.out _)))))
 refine wpQuiet_nil ?_;intro _ hw_ext;obtain ⟨X,hw_ext⟩:=hw_ext;subst hw_ext;go_wp2;go_ret;exact Ret.of' rfl (by exact bl_)
theorem dnext_any (p r c k:Int) (h:dashP p r c) (k0:0<=k) (k1:k<=1099511627776) (w:World):Calls Tryz.prog 188 #[D3 p r c,.int .i64 k] w (Ret (D3 p r ((c+k)%(r*16))) w):=by
 obtain ⟨⟨p0,p1⟩,⟨r0,r1⟩,c0,c1⟩:=h;have m0:0<=(c+k)%(r*16):=Int.emod_nonneg _ (by omega);have m1:(c+k)%(r*16)<r*16:=Int.emod_lt_of_pos _ (by omega)
 go_enter Tryz.func188,Tryz.ntmps188
 go_wp2;refine bodyPost_ret (v:=D3 p r ((c+k)%(r*16))) (by simp[results,Tryz.results188,go_sem];try rfl) rfl ?_;exact Ret.of' rfl (by exact bl_)
end
section
abbrev coreV (a b:WinP) (n:Int):Value:=.agg #[.int .i64 (corX a b n a.x),.int .i64 (corY a b n a.y),.int .i64 (corX a b n b.x),.int .i64 (corY a b n b.y),.bool (!decide (turnP a.x a.y b.x b.y))]
theorem coreOf_any (a b:WinP) (n:Int) (ha:a.fits) (hb:b.fits) (hn:widthP n) (w:World):Calls Tryz.prog 187 #[a.v,b.v,.int .i64 n] w (Ret (coreV a b n) w):=by
 obtain ⟨a0,a1,a2,a3,-,-,-⟩:=ha;obtain ⟨b0,b1,b2,b3,-,-,-⟩:=hb;obtain ⟨n0,n1⟩:=hn;unfold coreV corX corY
 by_cases t:turnP a.x a.y b.x b.y
 ·have t1:decide (max (b.y-a.y) (-(b.y-a.y))<=max (b.x-a.x) (-(b.x-a.x)))=false:=by unfold turnP at t;simp;omega
  simp only[t,decide_true,if_true,Bool.not_true];clear t
  go_enter Tryz.func187,Tryz.ntmps187
  go_upto_region 1 with fail
  refine wp_region_ext (by kernel_rfl) (by kernel_rfl) ?_
  repeat (go_big_quiet_step ((fail)))
  refine wpQuiet_nil ?_;intro _ hw_ext;obtain ⟨X,hw_ext⟩:=hw_ext;subst hw_ext;go_wp2;refine bodyPost_ret (v:=.agg #[.int .i64 (a.x-(n-1)*128),.int .i64 a.y,.int .i64 (b.x-(n-1)*128),.int .i64 b.y,.bool false]) (by simp[results,Tryz.results187,go_sem];try rfl) rfl ?_;exact Ret.of' rfl (by exact bl_)
 ·have t1:decide (max (b.y-a.y) (-(b.y-a.y))<=max (b.x-a.x) (-(b.x-a.x)))=true:=by unfold turnP at t;simp;omega
  simp only[t,decide_false,if_false,Bool.not_false];clear t
  go_enter Tryz.func187,Tryz.ntmps187
  go_upto_region 1 with fail
  refine wp_region_ext (by kernel_rfl) (by kernel_rfl) ?_
  repeat (go_big_quiet_step ((fail)))
  refine wpQuiet_nil ?_;intro _ hw_ext;obtain ⟨X,hw_ext⟩:=hw_ext;subst hw_ext;go_wp2;refine bodyPost_ret (v:=.agg #[.int .i64 a.x,.int .i64 (a.y-(n-1)*128),.int .i64 b.x,.int .i64 (b.y-(n-1)*128),.bool true]) (by simp[results,Tryz.results187,go_sem];try rfl) rfl ?_;exact Ret.of' rfl (by exact bl_)
theorem reach_any (a b:WinP) (n x0 y0 x1 y1:Int) (hn:widthP n) (hr:rightP x0 y0 x1 y1) (w:World):Calls Tryz.prog 193 #[coreV a b n,R4 x0 y0 x1 y1,.int .i64 n] w (Ret (R4 (rchX a b n x0) (rchY a b n y0) x1 y1) w):=by
 obtain ⟨n0,n1⟩:=hn;unfold rightP at hr;unfold rchX rchY coreV;generalize corX a b n a.x=c0;generalize corX a b n b.x=c1;generalize corY a b n a.y=c2;generalize corY a b n b.y=c3
 by_cases t:turnP a.x a.y b.x b.y
 ·simp only[t,decide_true,if_true,Bool.not_true];clear t
  go_enter Tryz.func193,Tryz.ntmps193
  go_wp2;refine bodyPost_ret (v:=R4 (max (x0-n+1) (-4194304)) y0 x1 y1) (by simp[results,Tryz.results193,go_sem];try rfl) rfl ?_;exact Ret.of' rfl (by exact bl_)
 ·simp only[t,decide_false,if_false,Bool.not_false];clear t
  go_enter Tryz.func193,Tryz.ntmps193
  go_wp2;refine bodyPost_ret (v:=R4 x0 (max (y0-n+1) (-4194304)) x1 y1) (by simp[results,Tryz.results193,go_sem];try rfl) rfl ?_;exact Ret.of' rfl (by exact bl_)
end
end Go.Proofs.YthcjfanigfgckaaGreat
