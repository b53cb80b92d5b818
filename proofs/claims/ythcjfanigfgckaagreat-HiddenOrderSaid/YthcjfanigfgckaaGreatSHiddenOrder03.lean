import Derived.Lib.Strings
import Derived.Lib.Slices
import Derived.Lib.Small
import Derived.Lib.Walk
import Derived.Lib.BitFns
import Derived.Lib.Tables
import Derived.Deep.DeepCutAuto
import Derived.Deep.CutBlock
import Derived.Deep.CutRange
import Derived.Outline
import Derived.Test.YthcjfanigfgckaaGreatSHiddenOrder02
set_option linter.unusedVariables false
set_option linter.unusedSimpArgs false
set_option maxRecDepth 100000
set_option maxHeartbeats 16000000
namespace Go.Proofs.YthcjfanigfgckaaGreat
open Go.RowKit
section
theorem tab (y:Int) (h:y.toNat<Lib.len8tab.size):((Lib.len8tab[y.toNat]'h).toNat:Int)=Lib.bitLen y.toNat:=by
 have hs:=Lib.len8tab_size;have e:=Lib.len8_eq ⟨y.toNat,by omega⟩;simp only[Lib.len8,Int.toNat_natCast] at e;rw[<-e,ByteArray.getElem?_lt' _ _ h,Option.getD_some]
theorem le8 (n:Nat) (h:n<256):Lib.bitLen n<=8:=Lib.bitLen_le8 ⟨n,h⟩
theorem bit_spec : ∀ (k x : Nat), x < 2 ^ k → k ≤ 64 → Lib.bitLen x ≤ k ∧ x < 2 ^ Lib.bitLen x ∧ (x ≠ 0 → 2 ^ (Lib.bitLen x - 1) ≤ x ∧ 1 ≤ Lib.bitLen x)
  | 0, x, h, _ => by
    obtain rfl : x = 0 := by omega
    exact ⟨by decide, by decide, fun h => absurd rfl h⟩
  | k + 1, x, h, hk => by
    by_cases h0 : x = 0
    · subst h0; exact ⟨by have : Lib.bitLen 0 = 0 := by decide
                          omega, by decide, fun h => absurd rfl h⟩
    · have h2 : x / 2 < 2 ^ k := by rw [Nat.pow_succ] at h; omega
      obtain ⟨a, b, c⟩ := bit_spec k (x / 2) h2 (by omega)
      have hp : (2 : Nat) ^ (k + 1) ≤ 2 ^ 64 := Nat.pow_le_pow_right (by decide) hk
      have e := Lib.bitLen_half x h0 (by omega)
      rw [e]
      refine ⟨by omega, ?_, fun _ => ⟨?_, by omega⟩⟩
      · rw [Nat.add_comm, Nat.pow_succ]; omega
      · by_cases h1 : x / 2 = 0
        · rw [h1]; have : Lib.bitLen 0 = 0 := by decide
          rw [this]; simp; omega
        · obtain ⟨c1, c2⟩ := c h1
          rw [show 1 + Lib.bitLen (x / 2) - 1 = (Lib.bitLen (x / 2) - 1) + 1 by omega, Nat.pow_succ]; omega
theorem wrap_add8 (k n m:Nat) (hk:k<=56) (l:n<=8) (s:m=k+n):wrap64 ((k:Int)+wrap64 (n:Int))=(m:Int):=by unfold wrap64;omega
theorem wrap_wrap8 (n:Nat) (l:n<=8):wrap64 (wrap64 (n:Int))=(n:Int):=by unfold wrap64;omega
theorem len64_any (x : Int) (w : World) (h0 : 0 ≤ x) (h1 : x ≤ 18446744073709551615) :
    Calls Tryz.prog 245 #[.int .u64 x] w fun e w' => e = .returned (.int .i64 (Lib.bitLen x.toNat)) ∧ w' = w := by
  have u9 := Tryz.underlying9
  go_enter Tryz.func245, Tryz.ntmps245
  go_wp2
  all_goals first
    | (go_ret; refine ⟨congrArg Ending.returned (congrArg (Value.int IntKind.i64) ?_), rfl⟩)
    | (exfalso; have hs := Lib.len8tab_size; omega)
  all_goals have hs := Lib.len8tab_size
  all_goals first
    | (rw [tab (x / 4294967296 / 65536 / 256) _]
       have e : (x / 4294967296 / 65536 / 256).toNat = x.toNat / 72057594037927936 := by omega
       have l := le8 (x / 4294967296 / 65536 / 256).toNat (by omega)
       have s := Lib.bitLen_shift56 x.toNat (by omega) (by omega)
       rw [e] at l ⊢
       exact wrap_add8 56 _ _ (by decide) l s)
    | (rw [tab (x / 4294967296 / 65536) _]
       have e : (x / 4294967296 / 65536).toNat = x.toNat / 281474976710656 := by omega
       have l := le8 (x / 4294967296 / 65536).toNat (by omega)
       have s := Lib.bitLen_shift48 x.toNat (by omega) (by omega)
       rw [e] at l ⊢
       exact wrap_add8 48 _ _ (by decide) l s)
    | (rw [tab (x / 4294967296 / 256) _]
       have e : (x / 4294967296 / 256).toNat = x.toNat / 1099511627776 := by omega
       have l := le8 (x / 4294967296 / 256).toNat (by omega)
       have s := Lib.bitLen_shift40 x.toNat (by omega) (by omega)
       rw [e] at l ⊢
       exact wrap_add8 40 _ _ (by decide) l s)
    | (rw [tab (x / 4294967296) _]
       have e : (x / 4294967296).toNat = x.toNat / 4294967296 := by omega
       have l := le8 (x / 4294967296).toNat (by omega)
       have s := Lib.bitLen_shift32 x.toNat (by omega) (by omega)
       rw [e] at l ⊢
       exact wrap_add8 32 _ _ (by decide) l s)
    | (rw [tab (x / 65536 / 256) _]
       have e : (x / 65536 / 256).toNat = x.toNat / 16777216 := by omega
       have l := le8 (x / 65536 / 256).toNat (by omega)
       have s := Lib.bitLen_shift24 x.toNat (by omega) (by omega)
       rw [e] at l ⊢
       exact wrap_add8 24 _ _ (by decide) l s)
    | (rw [tab (x / 65536) _]
       have e : (x / 65536).toNat = x.toNat / 65536 := by omega
       have l := le8 (x / 65536).toNat (by omega)
       have s := Lib.bitLen_shift16 x.toNat (by omega) (by omega)
       rw [e] at l ⊢
       exact wrap_add8 16 _ _ (by decide) l s)
    | (rw [tab (x / 256) _]
       have e : (x / 256).toNat = x.toNat / 256 := by omega
       have l := le8 (x / 256).toNat (by omega)
       have s := Lib.bitLen_shift8 x.toNat (by omega) (by omega)
       rw [e] at l ⊢
       exact wrap_add8 8 _ _ (by decide) l s)
    | (rw [tab x _]
       have l := le8 x.toNat (by omega)
       exact wrap_wrap8 _ l)
theorem zeros_any (x:Int) (w:World) (h0:0<=x) (h1:x<=18446744073709551615) :
  Calls Tryz.prog 213 #[.int .u64 x] w fun e w'=>e=.returned (.int .i64 (64-(Lib.bitLen x.toNat:Int)))/\w'=w:=by
 have hl:(Lib.bitLen x.toNat:Int)<=64:=by
  have s:=bit_spec 64 x.toNat (by omega) (by omega);omega
 go_enter Tryz.func213,Tryz.ntmps213
 go_wp2_with (go_at_call 245;refine (len64_any x _ h0 h1).mono ?_;rintro _ _ ⟨rfl,rfl⟩)
 go_ret;exact ⟨rfl,rfl⟩
end
section
theorem div64_zero (lo y:Int) (l0:0<=lo) (l1:lo<18446744073709551616) (y0:0<y) (y1:y<18446744073709551616) (w:World) :
  Calls Tryz.prog 173 #[.int .u64 0,.int .u64 lo,.int .u64 y] w (Ret (.tuple #[.int .u64 (lo/y),.int .u64 (lo%y)]) w):=by
 have t1:lo.tdiv y=lo/y:=Int.tdiv_eq_ediv_of_nonneg l0;have t2:lo.tmod y=lo%y:=Int.tmod_eq_emod_of_nonneg l0;have q1:=Int.ediv_nonneg l0 (show 0<=y by omega);have q2:=Int.ediv_le_self y l0;have q3:IntKind.u64.wrap (lo/y)=lo/y:=by rw[IntKind.wrap_u64];exact Int.emod_eq_of_lt q1 (by omega)
 have d1:(y==0)=false:=by simp;omega
 go_enter Tryz.func173,Tryz.ntmps173
 go_wp2;refine wp_region_ext (by kernel_rfl) (by kernel_rfl) ?_
 repeat (go_big_quiet_step ((fail)))
 refine wpQuiet_nil ?_;intro _ hw_ext;obtain ⟨X,hw_ext⟩:=hw_ext;subst hw_ext;go_wp2;refine bodyPost_ret (v:=.tuple #[.int .u64 (lo/y),.int .u64 (lo%y)]) ?_ rfl (Ret.of ?_)
 ·simp[results,Tryz.results173,go_sem,t1,t2,q3]
 ·exact bl_
structure Shift (hi lo y:Int) (s:Nat) (Y U N:Int):Prop where
 wy:IntKind.u64.wrap (y*2^s)=Y
 y0:9223372036854775808<=Y
 y1:Y<18446744073709551616
 wu:bits .or .u64 (IntKind.u64.wrap (hi*2^s)) (lo/2^(64-s))=U
 wn:IntKind.u64.wrap (lo*2^s)=N
 u0:0<=U
 u1:U<Y
 n0:0<=N
 n1:N<18446744073709551616
 t0:(0:Int)<2^s
 ey:Y=y*2^s
 e:U*18446744073709551616+N=(hi*18446744073709551616+lo)*2^s
theorem or_add (a b s:Nat) (ha:a*2^s<18446744073709551616) (hb:b<2^s) (h1:b<18446744073709551616):bits .or .u64 ((a*2^s:Nat):Int) (b:Int)=((a*2^s+b:Nat):Int):=by
 rw[bits_or_u64_nat _ _ ha h1]
 congr 1
 have:=Nat.shiftLeft_add_eq_or_of_lt hb a;rw[Nat.shiftLeft_eq] at this;exact this.symm
theorem shift_of {hi lo y:Int} {s:Nat} (h0:0<hi) (h1:hi<y) (l0:0<=lo) (l1:lo<18446744073709551616) (y1:y<18446744073709551616) (s1:s<=63)
  (b2:y*2^s<18446744073709551616) (b3:9223372036854775808<=y*2^s):Shift hi lo y s (y*2^s) (hi*2^s+lo/2^(64-s)) (lo*2^s%18446744073709551616):=by
 have p0:(0:Int)<2^s:=Int.pow_pos (by decide);have p1:(0:Int)<2^(64-s):=Int.pow_pos (by decide);have pp:(2:Int)^(64-s)*2^s=18446744073709551616:=by rw[<-Int.pow_add,show 64-s+s=64 by omega];rfl
 have hh:hi*2^s<=y*2^s:=Int.mul_le_mul_of_nonneg_right (by omega) (by omega);have h00:0<=hi*2^s:=Int.mul_nonneg (by omega) (by omega);have k0:0<=lo/2^(64-s):=Int.ediv_nonneg l0 (by omega);have k1:lo/2^(64-s)<2^s:=Int.ediv_lt_of_lt_mul p1 (by rw[Int.mul_comm,pp];exact l1);have kd:lo*2^s/18446744073709551616=lo/2^(64-s):=by rw[<-pp];exact Int.mul_ediv_mul_of_pos_left _ _ p0
 have em:=Int.emod_add_mul_ediv (lo*2^s) 18446744073709551616;have e:(hi*2^s+lo/2^(64-s))*18446744073709551616+lo*2^s%18446744073709551616=(hi*18446744073709551616+lo)*2^s:=by
  rw[kd] at em;have:(hi*18446744073709551616+lo)*2^s=hi*2^s*18446744073709551616+lo*2^s:=by grind
  omega
 refine ⟨?_,b3,b2,?_,by rw[IntKind.wrap_u64],by omega,?_,Int.emod_nonneg _ (by decide),Int.emod_lt_of_pos _ (by decide),p0,rfl,e⟩
 ·rw[IntKind.wrap_u64];exact Int.emod_eq_of_lt (by omega) b2
 ·rw[IntKind.wrap_u64,Int.emod_eq_of_lt h00 (by omega)];obtain ⟨a,ha⟩:=Int.eq_ofNat_of_zero_le (show 0<=hi by omega);obtain ⟨b,hb⟩:=Int.eq_ofNat_of_zero_le k0;rw[hb] at k1 ⊢;subst ha;have c1:(b:Int)<((2^s:Nat):Int):=by rw[Int.natCast_pow];exact k1
  have c2:((a*2^s:Nat):Int)<18446744073709551616:=by rw[Int.natCast_mul,Int.natCast_pow];exact Int.lt_of_le_of_lt hh b2
  have c3:(b:Int)<=lo:=by rw[<-hb];exact Int.ediv_le_self _ l0
  have:=or_add a b s (by omega) (by omega) (by omega);rw[Int.natCast_add,Int.natCast_mul,Int.natCast_pow] at this;exact this
 ·have c1:hi*18446744073709551616+lo<y*18446744073709551616:=by omega
  have c2:(hi*18446744073709551616+lo)*2^s<y*18446744073709551616*2^s:=Int.mul_lt_mul_of_pos_right c1 p0;have c3:y*18446744073709551616*2^s=y*2^s*18446744073709551616:=by grind
  have:=Int.emod_nonneg (lo*2^s) (show (18446744073709551616:Int)≠0 by decide);omega
theorem mask_int {z:Int} (h0:0<=z) (h1:z<18446744073709551616):bits .and .u64 z 4294967295=z%4294967296:=by
 obtain ⟨a,rfl⟩:=Int.eq_ofNat_of_zero_le h0;rw[maskN a (by omega)];omega
theorem norm_bounds {y:Int} {s:Nat} (y0:0<y) (hs:s+Lib.bitLen y.toNat=64) (b1:1<=Lib.bitLen y.toNat) (b2:y.toNat<2^Lib.bitLen y.toNat) (b3:2^(Lib.bitLen y.toNat-1)<=y.toNat):y*2^s<18446744073709551616/\9223372036854775808<=y*2^s:=by
 obtain ⟨n,rfl⟩:=Int.eq_ofNat_of_zero_le (show 0<=y by omega);rw[Int.toNat_natCast] at *;generalize Lib.bitLen n=b at *;have p0:0<2^s:=Nat.pow_pos (by decide);have a1:n*2^s<2^b*2^s:=Nat.mul_lt_mul_of_pos_right b2 p0;have a2:2^(b-1)*2^s<=n*2^s:=Nat.mul_le_mul_right _ b3;rw[<-Nat.pow_add,show b+s=64 by omega] at a1;rw[<-Nat.pow_add,show b-1+s=63 by omega] at a2;have e:((n*2^s:Nat):Int)=(n:Int)*2^s:=by rw[Int.natCast_mul,Int.natCast_pow];rfl
 rw[<-e];omega
theorem digit_rest {A N1 Y q:Int} (y0:0<Y) (y1:Y<18446744073709551616) (hq:q=(A*4294967296+N1)/Y):IntKind.u64.wrap (IntKind.u64.wrap (IntKind.u64.wrap (A*4294967296)+N1)-IntKind.u64.wrap (q*Y))=(A*4294967296+N1)%Y/\0<=(A*4294967296+N1)%Y/\(A*4294967296+N1)%Y<Y:=by
 have e:=Int.emod_add_mul_ediv (A*4294967296+N1) Y;have m0:=Int.emod_nonneg (A*4294967296+N1) (show Y≠0 by omega);have m1:=Int.emod_lt_of_pos (A*4294967296+N1) y0;rw[<-hq,Int.mul_comm Y q] at e;refine ⟨?_,m0,m1⟩;simp only[IntKind.wrap_u64];generalize (A*4294967296+N1)%Y=r at *;generalize q*Y=p at *;omega
theorem div_end {U N Y y hi lo t N1 N0 Y1 Y0 V Q1 Q0:Int} (t0:0<t) (hY:0<Y) (f0:0<=N0) (n0:0<=N1) (u0:0<=U) (e:U*18446744073709551616+N=(hi*18446744073709551616+lo)*t) (ey:Y=y*t) (en:N=N1*4294967296+N0) (eyy:Y=Y1*4294967296+Y0)
  (hv:V=(U*4294967296+N1)%Y) (h1:Q1=(U*4294967296+N1)/(Y1*4294967296+Y0)) (h0:Q0=(V*4294967296+N0)/(Y1*4294967296+Y0)) :
  Q1*4294967296+Q0=(hi*18446744073709551616+lo)/y/\(V*4294967296+N0)%Y/t=(hi*18446744073709551616+lo)%y:=by
 obtain ⟨a,b⟩:=two_digits (U:=U) (Y:=Y) (N1:=N1) (N0:=N0) hY f0 n0 u0;rw[<-eyy] at h1 h0;rw[<-hv] at a b;rw[<-h1,<-h0] at a;rw[<-en,e] at a b;obtain ⟨c,d⟩:=div_shift (V:=hi*18446744073709551616+lo) (y:=y) t0;rw[<-ey] at c d;rw[<-a,<-b];exact ⟨c,d⟩
theorem div64_pos (hi lo y:Int) (h0:0<hi) (h1:hi<y) (l0:0<=lo) (l1:lo<18446744073709551616) (y1:y<18446744073709551616) (w:World) :
  Calls Tryz.prog 173 #[.int .u64 hi,.int .u64 lo,.int .u64 y] w (Ret (.tuple #[.int .u64 ((hi*18446744073709551616+lo)/y),.int .u64 ((hi*18446744073709551616+lo)%y)]) w):=by
 obtain ⟨b1,b2,b3⟩:=bit_spec 64 y.toNat (by omega) (by omega);have Z:=jj (fun w=>zeros_any y w (by omega) (by omega));obtain ⟨b3,b4⟩:=b3 (by omega);obtain ⟨s,hs⟩:∃ s:Nat,s+Lib.bitLen y.toNat=64:=⟨64-Lib.bitLen y.toNat,by omega⟩;have e:(64-(Lib.bitLen y.toNat:Int))=(s:Int):=by omega
 rw[e] at Z;have d1:(y==0)=false:=by simp;omega
 have d2:(hi==0)=false:=by simp;omega
 have d3:decide (y<=hi)=false:=by simp;omega
 have s0:s<=63:=by omega
 obtain ⟨c1,c2⟩:=norm_bounds (by omega) hs b4 b2 b3;have SH:=shift_of h0 h1 l0 l1 y1 s0 c1 c2;generalize y*2^s=Y at SH;generalize hi*2^s+lo/2^(64-s)=U at SH;generalize lo*2^s%18446744073709551616=N at SH;clear c1 c2 b1 b2 b3 b4 e;obtain ⟨wy,y0,y1',wu,wn,u0,u1,n0,n1,t0,ey,e⟩:=SH;have D1:Digit U (Y/4294967296) (Y%4294967296) (N/4294967296):=⟨by omega,by omega,by omega,by omega,u0,by omega,by omega,by omega⟩;have mY:=mask_int (z:=Y) (by omega) y1';have mN:=mask_int n0 n1;have eY:Y=Y/4294967296*4294967296+Y%4294967296:=by omega
 have eN:N=N/4294967296*4294967296+N%4294967296:=by omega
 obtain ⟨Y1,hY1⟩:∃ Y1,Y1=Y/4294967296:=⟨_,rfl⟩;obtain ⟨Y0,hY0⟩:∃ Y0,Y0=Y%4294967296:=⟨_,rfl⟩;obtain ⟨N1,hN1⟩:∃ N1,N1=N/4294967296:=⟨_,rfl⟩;obtain ⟨N0,hN0⟩:∃ N0,N0=N%4294967296:=⟨_,rfl⟩;have fN:0<=N0/\N0<4294967296:=by omega
 rw[<-hY1,<-hY0] at eY;rw[<-hN1,<-hN0] at eN;rw[<-hY1,<-hY0,<-hN1] at D1;rw[<-hY0] at mY;rw[<-hN0] at mN;have t1:U.tdiv Y1=U/Y1:=Int.tdiv_eq_ediv_of_nonneg u0;have G0:=D1.start;have a0:=D1.a0;have a1:=D1.a1;have b0:=D1.b0;have b1':=D1.b1;have dY:(Y1==0)=false:=by simp;omega
 obtain ⟨g1,g2,g3,g4⟩:=G0.small D1;have g5:=G0.q0 D1;have g6:=G0.q1;have g7:=G0.r0;have g8:=G0.r1;have EE:=jj e;have EY:=jj ey;have EN:=jj eN;have EYY:=jj eY;have HH:=jj (show Y/4294967296=Y1/\N/4294967296=N1 from ⟨hY1.symm,hN1.symm⟩);have WW:=jj (show _/\_/\_/\_/\_ from ⟨wy,wu,wn,mY,mN⟩);clear e ey eN eY hY0 hN0 hY1 hN1 wy wu wn mY mN hs
 go_enter Tryz.func173,Tryz.ntmps173
 go_upto_region 15 with (go_at_call 213;refine (Z.out _).mono ?_;rintro _ _ ⟨rfl,hw_⟩;rw[hw_];clear hw_)
 rw[WW.out.1,WW.out.2.1,WW.out.2.2.1,WW.out.2.2.2.1,WW.out.2.2.2.2,HH.out.1,HH.out.2]
 go_upto_block 0 with fail
 go_cut [15,16] from 67 to 85 (fun t15 t16 wx=>t15=.int .u64 ((U*4294967296+N1)/(Y1*4294967296+Y0))/\(∃ r,t16=.int .u64 r)/\wx=w)
 case first =>
  go_wp2_with fail
  go_loopw [15,16] (fun tq tr wr=>∃ q r,tq=.int .u64 q/\tr=.int .u64 r/\Guess U Y1 Y0 N1 q r/\wr=w) (fun tq _ _=>(intOf tq).toNat)
  case atStart=>exact ⟨_,_,rfl,rfl,G0,rfl⟩
  case round =>
   obtain ⟨q,r,rfl,rfl,G,rfl⟩:=hrel;obtain ⟨f1,f2,f3,f4⟩:=G.small D1;have f5:=G.q0 D1;have f6:=G.q1;have f7:=G.r0;have f8:=G.r1;have NX:=fun t=>G.next D1 t
   have ST:=fun t=>G.stop D1 t
   have LW:=fun t=>G.low D1 t
   have HG:=fun t=>G.high D1 t
   have qt:=D1.quot;have HNX:=jj NX;have HST:=jj ST;have HLW:=jj LW;clear NX ST LW;obtain ⟨-,-,-,-,-,-,m0,m1⟩:=D1
   by_cases t:4294967296<=q\/4294967296*r+N1<q*Y0
   ·have hg:=HG t;have q1:1<=q:=by omega
    clear HG hg
    by_cases hr:r+Y1<4294967296
    ·have nx:=jj (HNX.out t hr)
     by_cases t1:4294967296<=q
     ·clear t
      go_wp2_with fail
      go_roundw
      case rel=>exact ⟨q-1,r+Y1,rfl,rfl,nx.out,trivial⟩
      case measure=>simp[intOf];omega
     ·have t2:4294967296*r+N1<q*Y0:=by omega
      clear t
      go_wp2_with fail
      go_roundw
      case rel=>exact ⟨q-1,r+Y1,rfl,rfl,nx.out,trivial⟩
      case measure=>simp[intOf];omega
    ·have st:=jj (HST.out t (by omega))
     by_cases t1:4294967296<=q
     ·clear t
      go_wp2_with fail
      go_meet;exact ⟨by rw[st.out],⟨_,rfl⟩,rfl⟩
     ·have t2:4294967296*r+N1<q*Y0:=by omega
      clear t
      go_wp2_with fail
      go_meet;exact ⟨by rw[st.out],⟨_,rfl⟩,rfl⟩
   ·have lw:=jj (HLW.out (by omega));clear HG;have t1:q<4294967296:=by omega
    have t2:q*Y0<=4294967296*r+N1:=by omega
    clear t
    go_wp2_with fail
    go_meet;exact ⟨by rw[lw.out],⟨_,rfl⟩,rfl⟩
 case rest =>
 obtain ⟨rfl,⟨r,rfl⟩,rfl⟩:=hcut;obtain ⟨w,rfl⟩:∃ w,w=wc:=⟨_,rfl⟩;obtain ⟨Q1,hQ1⟩:∃ Q1,Q1=(U*4294967296+N1)/(Y1*4294967296+Y0):=⟨_,rfl⟩;obtain ⟨v1,v2,v3⟩:=digit_rest (A:=U) (N1:=N1) (Y:=Y) (q:=Q1) (by omega) y1' (by rw[EYY.out];exact hQ1);have qt:=D1.quot;rw[<-hQ1] at qt ⊢;obtain ⟨V,hV⟩:∃ V,V=(U*4294967296+N1)%Y:=⟨_,rfl⟩;rw[<-hV] at v1 v2 v3;have V1:=jj v1;have HV:=jj hV;have HQ1:=jj hQ1;have D2:Digit V Y1 Y0 N0:=⟨a0,a1,b0,b1',v2,by rw[<-EYY.out];exact v3,fN.1,fN.2⟩;have D1':=D1;have t1':V.tdiv Y1=V/Y1:=Int.tdiv_eq_ediv_of_nonneg v2;clear v1 hV hQ1 D1 G0 g1 g2 g3 g4 g5 g6 g7 g8 t1;have G0:=D2.start;obtain ⟨g1,g2,g3,g4⟩:=G0.small D2;have g5:=G0.q0 D2;have g6:=G0.q1;have g7:=G0.r0;have g8:=G0.r1;go_upto_region 22 with fail
 rw[V1.out]
 go_upto_block 2 with fail
 go_cut [16,18] from 102 to 120 (fun t16 t18 wx=>t18=.int .u64 ((V*4294967296+N0)/(Y1*4294967296+Y0))/\(∃ r,t16=.int .u64 r)/\wx=w)
 case first =>
  go_wp2_with fail
  go_loopw [16,18] (fun tr tq wr=>∃ q r,tq=.int .u64 q/\tr=.int .u64 r/\Guess V Y1 Y0 N0 q r/\wr=w) (fun _ tq _=>(intOf tq).toNat)
  case atStart=>exact ⟨_,_,rfl,rfl,G0,rfl⟩
  case round =>
   obtain ⟨q,r,rfl,rfl,G,rfl⟩:=hrel;obtain ⟨f1,f2,f3,f4⟩:=G.small D2;have f5:=G.q0 D2;have f6:=G.q1;have f7:=G.r0;have f8:=G.r1;have NX:=fun t=>G.next D2 t
   have ST:=fun t=>G.stop D2 t
   have LW:=fun t=>G.low D2 t
   have HG:=fun t=>G.high D2 t
   have qt:=D2.quot;have HNX:=jj NX;have HST:=jj ST;have HLW:=jj LW;clear NX ST LW;obtain ⟨-,-,-,-,-,-,m0,m1⟩:=D2
   by_cases t:4294967296<=q\/4294967296*r+N0<q*Y0
   ·have hg:=HG t;have q1:1<=q:=by omega
    clear HG hg
    by_cases hr:r+Y1<4294967296
    ·have nx:=jj (HNX.out t hr)
     by_cases t1:4294967296<=q
     ·clear t
      go_wp2_with fail
      go_roundw
      case rel=>exact ⟨q-1,r+Y1,rfl,rfl,nx.out,trivial⟩
      case measure=>simp[intOf];omega
     ·have t2:4294967296*r+N0<q*Y0:=by omega
      clear t
      go_wp2_with fail
      go_roundw
      case rel=>exact ⟨q-1,r+Y1,rfl,rfl,nx.out,trivial⟩
      case measure=>simp[intOf];omega
    ·have st:=jj (HST.out t (by omega))
     by_cases t1:4294967296<=q
     ·clear t
      go_wp2_with fail
      go_meet;exact ⟨by rw[st.out],⟨_,rfl⟩,rfl⟩
     ·have t2:4294967296*r+N0<q*Y0:=by omega
      clear t
      go_wp2_with fail
      go_meet;exact ⟨by rw[st.out],⟨_,rfl⟩,rfl⟩
   ·have lw:=jj (HLW.out (by omega));clear HG;have t1:q<4294967296:=by omega
    have t2:q*Y0<=4294967296*r+N0:=by omega
    clear t
    go_wp2_with fail
    go_meet;exact ⟨by rw[lw.out],⟨_,rfl⟩,rfl⟩
 case rest =>
 obtain ⟨rfl,⟨r,rfl⟩,rfl⟩:=hcut;obtain ⟨Q0,hQ0⟩:∃ Q0,Q0=(V*4294967296+N0)/(Y1*4294967296+Y0):=⟨_,rfl⟩;obtain ⟨x1,x2,x3⟩:=digit_rest (A:=V) (N1:=N0) (Y:=Y) (q:=Q0) (by omega) y1' (by rw[EYY.out];exact hQ0);have qt0:=D2.quot;rw[<-hQ0] at qt0 ⊢;have X1:=jj x1;have HQ0:=jj hQ0;clear x1 hQ0 g1 g2 g3 g4 g5 g6 g7 g8 t1' G0 D2
 go_wp2_with fail
 obtain ⟨r1,r2⟩:=div_end t0 (by omega) fN.1 D1'.n0 u0 EE.out EY.out EN.out EYY.out HV.out HQ1.out HQ0.out;refine bodyPost_ret (v:=.tuple #[.int .u64 ((hi*18446744073709551616+lo)/y),.int .u64 ((hi*18446744073709551616+lo)%y)]) ?_ rfl (Ret.of ?_)
 ·simp[results,Tryz.results173,go_sem,X1.out,r1,r2]
 ·exact bl_
end
section
theorem div64_any (hi lo y:Int) (h0:0<=hi) (h1:hi<y) (l0:0<=lo) (l1:lo<18446744073709551616) (y1:y<18446744073709551616) (w:World) :
  Calls Tryz.prog 173 #[.int .u64 hi,.int .u64 lo,.int .u64 y] w (Ret (.tuple #[.int .u64 ((hi*18446744073709551616+lo)/y),.int .u64 ((hi*18446744073709551616+lo)%y)]) w):=by
 by_cases h:0<hi
 ·exact div64_pos hi lo y h h1 l0 l1 y1 w
 ·obtain rfl:hi=0:=by omega
  have:=div64_zero lo y l0 l1 (by omega) y1 w
  simpa using this
theorem halves {A H L m:Int} (e:H*18446744073709551616+L=A) (h0:0<=H) (l0:0<=L) (l1:L<18446744073709551616) (hm:0<m) :
  A/m=H/m*18446744073709551616+(H%m*18446744073709551616+L)/m/\A%m=(H%m*18446744073709551616+L)%m/\0<=(H%m*18446744073709551616+L)/m/\(H%m*18446744073709551616+L)/m<18446744073709551616/\0<=H/m/\H/m<=H/\0<=H%m/\H%m<m:=by
 have em:=Int.emod_add_mul_ediv H m;have m0:=Int.emod_nonneg H (show m≠0 by omega);have m1:=Int.emod_lt_of_pos H hm;have q0:=Int.ediv_nonneg h0 (show 0<=m by omega);have q1:=Int.ediv_le_self m h0;have e2:A=(H%m*18446744073709551616+L)+m*(H/m*18446744073709551616):=by
  have:m*(H/m*18446744073709551616)=m*(H/m)*18446744073709551616:=by grind
  omega
 refine ⟨?_,?_,Int.ediv_nonneg (by omega) (by omega),Int.ediv_lt_of_lt_mul hm (by omega),q0,q1,m0,m1⟩
 ·rw[e2,Int.add_mul_ediv_left _ _ (by omega)];omega
 ·rw[e2,Int.add_mul_emod_self_left]
theorem div_plus (a d:Int) (ha:inR a) (h0:0<=a) (d1:1<=d) (hd:sml d) (w:World):Calls Tryz.prog 116 #[I2 a,.int .i64 d] w (Ret (.tuple #[I2 (a/d),.int .i64 (a%d),.bool true]) w):=by
 obtain ⟨e,l0,l1⟩:=hilo a;obtain ⟨-,u1⟩:=hiR ha;have u0:0<=hiN a:=by omega
 have d2:d<=9223372036854775807:=hd.2;obtain ⟨q1,q2,q3,q4,q5,q6,q7,q8⟩:=halves e u0 l0 l1 (show 0<d by omega);have r0:=Int.emod_nonneg a (show d≠0 by omega);have r1:=Int.emod_lt_of_pos a (show 0<d by omega);have D:=jj (fun w=>div64_any (hiN a%d) (loN a) d q7 q8 l0 l1 (by omega) w);rw[<-q2] at D;have t1:(hiN a).tdiv d=hiN a/d:=Int.tdiv_eq_ediv_of_nonneg u0;have t2:(hiN a).tmod d=hiN a%d:=Int.tmod_eq_emod_of_nonneg u0;obtain ⟨v1,v2⟩:=i2_of q1.symm q3 q4;have V:=jj (show _/\_ from ⟨v1,v2⟩);have dz:(d==0)=false:=by simp;omega
 clear q1 q2 v1 v2 e hd ha
 go_enter Tryz.func116,Tryz.ntmps116
 go_wp2;refine wp_region_ext (by kernel_rfl) (by kernel_rfl) ?_
 repeat (go_big_quiet_step ((first|(go_at_call 173;with_reducible exact Calls.quiet_ret (D.out _)))))
 refine wpQuiet_nil ?_;intro _ hw_ext;obtain ⟨X,hw_ext⟩:=hw_ext;subst hw_ext;go_wp2;refine bodyPost_ret (v:=.tuple #[I2 (a/d),.int .i64 (a%d),.bool true]) ?_ rfl (Ret.of ?_)
 ·simp[results,Tryz.results116,go_sem,V.out]
 ·exact bl_
theorem neg_div {A d:Int} (hd:0<d):(A%d=0->-A/d=-(A/d)/\-A%d=0)/\(A%d≠0->-A/d=-(A/d)-1/\-A%d=d-A%d):=by
 have em:=Int.emod_add_mul_ediv A d;have m0:=Int.emod_nonneg A (show d≠0 by omega);have m1:=Int.emod_lt_of_pos A hd;refine ⟨fun h=>?_,fun h=>?_⟩
 ·have e:-A=0+d*(-(A/d)):=by rw[Int.mul_neg];omega
  constructor
  ·rw[e,Int.add_mul_ediv_left _ _ (by omega)];simp
  ·rw[e,Int.add_mul_emod_self_left];simp
 ·have e:-A=(d-A%d)+d*(-(A/d)-1):=by
   have:d*(-(A/d)-1)=-(d*(A/d))-d:=by grind
   omega
  constructor
  ·rw[e,Int.add_mul_ediv_left _ _ (by omega),Int.ediv_eq_zero_of_lt (by omega) (by omega)];omega
  ·rw[e,Int.add_mul_emod_self_left,Int.emod_eq_of_lt (by omega) (by omega)]
def qs (Q:Int):Int:=if Q<170141183460469231731687303715884105728 then Q else -170141183460469231731687303715884105728
theorem qs_of {Q:Int} (q0:0<=Q) (q1:Q<=170141183460469231731687303715884105728):inR (qs Q)/\trn (qs Q)=-Q:=by
 unfold qs inR trn
 split
 ·rw[if_neg (by omega)];omega
 ·rw[if_pos rfl];omega
theorem qs_hilo {Q h l:Int} (e:Q=h*18446744073709551616+l) (q0:0<=Q) (q1:Q<=170141183460469231731687303715884105728) (l0:0<=l) (l1:l<18446744073709551616):wrap64 h=hiN (qs Q)/\l=loN (qs Q):=by
 unfold qs hiN loN wrap64;split<;>omega
theorem sub_one (Q:Int) (q0:0<=Q) (q1:Q<170141183460469231731687303715884105728) (w:World):Calls Tryz.prog 174 #[I2 (-Q),.agg #[.int .i64 0,.int .u64 1]] w (Ret (.tuple #[I2 (-Q-1),.bool true]) w):=by
 have h:=sub_any (-Q) 1 (by unfold inR;omega) (by decide) w;have hin:inR (-Q-1):=by unfold inR;omega
 rw[show I2b (-Q-1)=.tuple #[I2 (-Q-1),.bool true] by rw[I2b,lim_yes hin];simp[hin]] at h;exact h
theorem div_minus (a d:Int) (ha:inR a) (h0:a<0) (d1:1<=d) (hd:sml d) (w:World):Calls Tryz.prog 116 #[I2 a,.int .i64 d] w (Ret (.tuple #[I2 (a/d),.int .i64 (a%d),.bool true]) w):=by
 have e:=trn_abs ha h0;obtain ⟨-,l0,l1⟩:=hilo (trn a);have TA:=jj (fun w=>turned_any a ha w);have hn:hiN a<0:=by obtain ⟨e,l0,l1⟩:=hilo a;omega
 have d2:d<=9223372036854775807:=hd.2;have u0:0<=IntKind.u64.wrap (hiN (trn a))/\IntKind.u64.wrap (hiN (trn a))<18446744073709551616:=by rw[IntKind.wrap_u64];omega
 obtain ⟨H,hH⟩:∃ H,H=IntKind.u64.wrap (hiN (trn a)):=⟨_,rfl⟩;rw[<-hH] at e u0;obtain ⟨q1,q2,q3,q4,q5,q6,q7,q8⟩:=halves e u0.1 l0 l1 (show 0<d by omega);obtain ⟨A,hA⟩:∃ A,A=-a:=⟨_,rfl⟩;rw[<-hA] at q1 q2;have A0:0<=A:=by omega
 have A1:A<=170141183460469231731687303715884105728:=by unfold inR at ha;omega
 have Q0:=Int.ediv_nonneg A0 (show 0<=d by omega);have Q1:=Int.ediv_le_self d A0;have r0:=Int.emod_nonneg A (show d≠0 by omega);have r1:=Int.emod_lt_of_pos A (show 0<d by omega);have em:=Int.emod_add_mul_ediv A d;have D:=jj (fun w=>div64_any (H%d) (loN (trn a)) d q7 q8 l0 l1 (by omega) w);rw[<-q2] at D;have t1:H.tdiv d=H/d:=Int.tdiv_eq_ediv_of_nonneg u0.1;have t2:H.tmod d=H%d:=Int.tmod_eq_emod_of_nonneg u0.1;obtain ⟨v1,v2⟩:=qs_hilo q1 Q0 (by omega) q3 q4;obtain ⟨w1,w2⟩:=qs_of Q0 (show A/d<=170141183460469231731687303715884105728 by omega);have TQ:=jj (fun w=>turned_any (qs (A/d)) w1 w);rw[w2] at TQ;have dz:(d==0)=false:=by simp;omega
 obtain ⟨n1,n2⟩:=neg_div (A:=A) (d:=d) (by omega);rw[show -A=a by omega] at n1 n2;have hh:=hH.symm;have QL:A%d≠0->A/d<170141183460469231731687303715884105728:=fun h=>by
  by_cases hd1:d=1
  ·subst hd1;omega
  ·have:A/d*2<=d*(A/d):=by rw[Int.mul_comm];exact Int.mul_le_mul_of_nonneg_right (by omega) Q0
   omega
 by_cases z:A%d=0
 ·obtain ⟨n3,n4⟩:=n1 z;rw[n3,n4];have dzz:(A%d==0)=true:=by simp[z]
  clear n1 n2 n3 n4 QL q1 q2 e hd ha hA hH w2 z em
  go_enter Tryz.func116,Tryz.ntmps116
  go_wp2_with (first|(go_at_call 172;(with_reducible refine (TA.out _).mono ?_);rintro _ _ ⟨rfl,X_,rfl⟩))
  refine wp_region_ext (by kernel_rfl) (by kernel_rfl) ?_
  repeat (go_big_quiet_step ((first|(go_at_call 173;with_reducible exact Calls.quiet_ret (D.out _)))))
  refine wpQuiet_nil ?_;intro _ hw_ext;obtain ⟨X,hw_ext⟩:=hw_ext;subst hw_ext
  go_wp2_with (first|(go_at_call 172;(with_reducible refine (TQ.out _).mono ?_);rintro _ _ ⟨rfl,X_,rfl⟩))
  refine bodyPost_ret (v:=.tuple #[I2 (-(A/d)),.int .i64 0,.bool true]) ?_ rfl (Ret.of ?_)
  ·simp[results,Tryz.results116,go_sem]
  ·exact bl_
 ·obtain ⟨n3,n4⟩:=n2 z;rw[n3,n4];have dzz:(A%d==0)=false:=by simp[z]
  have SO:=jj (fun w=>sub_one (A/d) Q0 (QL z) w);clear n1 n2 n3 n4 QL q1 q2 e hd ha hA hH w2 z em
  go_enter Tryz.func116,Tryz.ntmps116
  go_wp2_with (first|(go_at_call 172;(with_reducible refine (TA.out _).mono ?_);rintro _ _ ⟨rfl,X_,rfl⟩))
  refine wp_region_ext (by kernel_rfl) (by kernel_rfl) ?_
  repeat (go_big_quiet_step ((first|(go_at_call 173;with_reducible exact Calls.quiet_ret (D.out _)))))
  refine wpQuiet_nil ?_;intro _ hw_ext;obtain ⟨X,hw_ext⟩:=hw_ext;subst hw_ext
  go_wp2_with (first|(go_at_call 172;(with_reducible refine (TQ.out _).mono ?_);rintro _ _ ⟨rfl,X_,rfl⟩)|(go_at_call 174;(with_reducible refine (SO.out _).mono ?_);rintro _ _ ⟨rfl,X_,rfl⟩))
  refine bodyPost_ret (v:=.tuple #[I2 (-(A/d)-1),.int .i64 (d-A%d),.bool true]) ?_ rfl (Ret.of ?_)
  ·simp[results,Tryz.results116,go_sem]
  ·exact bl_
theorem div_any (a d:Int) (ha:inR a) (d1:1<=d) (hd:sml d) (w:World):Calls Tryz.prog 116 #[I2 a,.int .i64 d] w (Ret (.tuple #[I2 (a/d),.int .i64 (a%d),.bool true]) w):=by
 by_cases h:0<=a
 ·exact div_plus a d ha h d1 hd w
 ·exact div_minus a d ha (by omega) d1 hd w
theorem div_in {a d:Int} (ha:inR a) (d1:1<=d):inR (a/d):=by
 unfold inR at *
 by_cases h:0<=a
 ·have:=Int.ediv_nonneg h (show 0<=d by omega);have:=Int.ediv_le_self d h;omega
 ·have h2:=Int.ediv_nonneg (show 0<=-a by omega) (show 0<=d by omega);have h3:(-1-a)/d<=-1-a:=Int.ediv_le_self d (by omega);have h4:=Int.ediv_nonneg (show 0<=-1-a by omega) (show 0<=d by omega);have h1:a/d=-1-(-1-a)/d:=by
   have em:=Int.emod_add_mul_ediv (-1-a) d;have m0:=Int.emod_nonneg (-1-a) (show d≠0 by omega);have m1:=Int.emod_lt_of_pos (-1-a) (show 0<d by omega);have e:a=(d-1-(-1-a)%d)+d*(-1-(-1-a)/d):=by
    have:d*(-1-(-1-a)/d)=-d-d*((-1-a)/d):=by grind
    omega
   have e2:a/d=((d-1-(-1-a)%d)+d*(-1-(-1-a)/d))/d:=by rw[<-e]
   rw[e2,Int.add_mul_ediv_left _ _ (by omega),Int.ediv_eq_zero_of_lt (by omega) (by omega)];omega
  omega
end
section
theorem ext_none' (w:World):w.ext ⟨#[],w.drawn⟩=w:=by simp[World.ext]
end
section
end
end Go.Proofs.YthcjfanigfgckaaGreat
