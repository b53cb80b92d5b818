import Derived.Laws.Externs
import Derived.Shelf.Spec.BitsCarry
import Derived.Lib.Mul64
import Derived.Laws.Bits64b
import Derived.Test.YthcjfanigfgckaaGreatSHiddenOrder01
set_option linter.unusedVariables false
set_option linter.unusedSimpArgs false
set_option maxRecDepth 100000
set_option maxHeartbeats 16000000
namespace Go.Proofs.YthcjfanigfgckaaGreat
open Go.RowKit
section
section
def hiN (z:Int):Int:=z/18446744073709551616
def loN (z:Int):Int:=z%18446744073709551616
theorem hilo (z:Int):hiN z*18446744073709551616+loN z=z/\0<=loN z/\loN z<18446744073709551616:=by unfold hiN loN;omega
abbrev I2 (z:Int):Value:=.agg #[.int .i64 (hiN z),.int .u64 (loN z)]
def inR (z:Int):Prop:=-170141183460469231731687303715884105728<=z/\z<170141183460469231731687303715884105728
instance (z : Int) : Decidable (inR z) := by unfold inR; exact inferInstance
theorem hiR {z:Int} (h:inR z):-9223372036854775808<=hiN z/\hiN z<=9223372036854775807:=by unfold inR at h;unfold hiN;omega
def lim (z:Int):Int:=if inR z then z else 0
theorem lim_yes {z:Int} (h:inR z):lim z=z:=if_pos h
theorem lim_no {z:Int} (h:¬inR z):lim z=0:=if_neg h
abbrev I2b (z:Int):Value:=.tuple #[I2 (lim z),.bool (decide (inR z))]
theorem i2_of {z h l:Int} (e:h*18446744073709551616+l=z) (l0:0<=l) (l1:l<18446744073709551616):h=hiN z/\l=loN z:=by unfold hiN loN;omega
def bor (x y:Int):Int:=if x<y then 1 else 0
theorem bor_01 (x y:Int):0<=bor x y/\bor x y<=1/\(x<y->bor x y=1)/\(y<=x->bor x y=0):=by unfold bor;split<;>omega
theorem add64 (x y c:Int) (hx:0<=x) (hy:0<=y) (hc0:0<=c) (hc:c<=1) (w:World):(callFunc 99 #[.int .u64 x,.int .u64 y,.int .u64 c]).run Tryz.prog w =
  .ok (.value (.tuple #[.int .u64 ((x+y+c)%18446744073709551616),.int .u64 ((x+y+c)/18446744073709551616)])) w:=by
 rw[run_callFunc_extern Tryz.func99 (by kernel_rfl) (by kernel_rfl) (by kernel_rfl) (e:=add64Entry) (by kernel_rfl),run_add64 x y c hx hy hc0 hc]
 rfl
theorem sub64 (x y b:Int) (hx:0<=x) (hy:0<=y) (hy':y<18446744073709551616) (hb0:0<=b) (hb:b<=1) (w:World):(callFunc 212 #[.int .u64 x,.int .u64 y,.int .u64 b]).run Tryz.prog w =
  .ok (.value (.tuple #[.int .u64 ((x-y-b)%18446744073709551616),.int .u64 (bor x (y+b))])) w:=by
 rw[run_callFunc_extern Tryz.func212 (by kernel_rfl) (by kernel_rfl) (by kernel_rfl) (e:=sub64Entry) (by kernel_rfl)];obtain ⟨x,rfl⟩:=Int.eq_ofNat_of_zero_le hx;obtain ⟨y,rfl⟩:=Int.eq_ofNat_of_zero_le hy;obtain ⟨b,rfl⟩:=Int.eq_ofNat_of_zero_le hb0;rw[run_sub64 x y b (by omega)];have e1:(((x+18446744073709551616-y-b)%18446744073709551616:Nat):Int)=((x:Int)-y-b)%18446744073709551616:=by omega
 have e2:((if x<y+b then 1 else 0:Nat):Int)=bor (x:Int) ((y:Int)+b):=by unfold bor;split<;>split<;>omega
 rw[e1,e2];rfl
theorem add64_0 (x y:Int) (hx:0<=x) (hy:0<=y) (w:World):(callFunc 99 #[.int .u64 x,.int .u64 y,.int .u64 0]).run Tryz.prog w =
  .ok (.value (.tuple #[.int .u64 ((x+y)%18446744073709551616),.int .u64 ((x+y)/18446744073709551616)])) w:=by
 simpa using add64 x y 0 hx hy (Int.le_refl 0) (by decide) w
theorem sub64_0 (x y:Int) (hx:0<=x) (hy:0<=y) (hy':y<18446744073709551616) (w:World):(callFunc 212 #[.int .u64 x,.int .u64 y,.int .u64 0]).run Tryz.prog w =
  .ok (.value (.tuple #[.int .u64 ((x-y)%18446744073709551616),.int .u64 (bor x y)])) w:=by
 simpa using sub64 x y 0 hx hy hy' (Int.le_refl 0) (by decide) w
def sml (z:Int):Prop:=-9223372036854775808<=z/\z<=9223372036854775807
instance (z : Int) : Decidable (sml z) := by unfold sml; exact inferInstance
def smlV (z:Int):Int:=if sml z then z else 0
theorem smlV_yes {z:Int} (h:sml z):smlV z=z:=if_pos h
theorem smlV_no {z:Int} (h:¬sml z):smlV z=0:=if_neg h
theorem sml_in {z:Int} (h:sml z):inR z:=by unfold sml at h;unfold inR;omega
theorem of_any (n:Int) (hn:sml n) (w:World):Calls Tryz.prog 56 #[.int .i64 n] w (Ret (I2 n) w):=by
 unfold sml at hn
 go_enter Tryz.func56,Tryz.ntmps56
 go_wp2;refine bodyPost_ret (v:=I2 n) (by simp[results,Tryz.results56,go_sem,hiN,loN,IntKind.wrap_u64];omega) rfl (Ret.of (by exact bl_))
theorem small_any (z:Int) (hz:inR z) (w:World):Calls Tryz.prog 120 #[I2 z] w (Ret (.tuple #[.int .i64 (smlV z),.bool (decide (sml z))]) w):=by
 obtain ⟨e,l0,l1⟩:=hilo z;obtain ⟨h0,h1⟩:=hiR hz
 by_cases hs:sml z
 ·have t:(wrap64 (loN z)/9223372036854775808 != hiN z)=false:=by unfold sml at hs;rw[bne_eq_false_iff_eq];unfold wrap64;omega
  have t2:wrap64 (loN z)=z:=by unfold sml at hs;unfold wrap64;omega
  rw[smlV_yes hs,show decide (sml z)=true by simp[hs]];clear hs
  go_enter Tryz.func120,Tryz.ntmps120
  go_wp2;exact bodyPost_ret (v:=.tuple #[.int .i64 z,.bool true]) (by simp[results,Tryz.results120,go_sem,t2]) rfl (Ret.of (by exact bl_))
 ·have t:(wrap64 (loN z)/9223372036854775808 != hiN z)=true:=by unfold sml at hs;rw[bne_iff_ne];unfold wrap64;omega
  rw[smlV_no hs,show decide (sml z)=false by simp[hs]];clear hs
  go_enter Tryz.func120,Tryz.ntmps120
  go_wp2;exact bodyPost_ret (v:=.tuple #[.int .i64 0,.bool false]) (by simp[results,Tryz.results120,go_sem]) rfl (Ret.of (by exact bl_))
def sgn (z:Int):Int:=if z<0 then -1 else if 0<z then 1 else 0
theorem sgn_01 (z:Int):sgn z=-1/\z<0\/sgn z=0/\z=0\/sgn z=1/\0<z:=by unfold sgn;split<;>(try split)<;>omega
theorem sign_any (z:Int) (hz:inR z) (w:World):Calls Tryz.prog 58 #[I2 z] w (Ret (.int .i64 (sgn z)) w):=by
 obtain ⟨e,l0,l1⟩:=hilo z;have hs:=sgn_01 z
 go_enter Tryz.func58,Tryz.ntmps58
 go_wp2
 all_goals go_ret
 all_goals refine Ret.of' (congrArg (Value.int .i64) ?_) (by exact bl_)
 all_goals omega
def trn (z:Int):Int:=if z=-170141183460469231731687303715884105728 then z else -z
theorem trn_in {z:Int} (h:inR z):inR (trn z):=by unfold inR at *;unfold trn;split<;>omega
theorem trn_abs {z:Int} (h:inR z) (hn:z<0):IntKind.u64.wrap (hiN (trn z))*18446744073709551616+loN (trn z)=-z:=by
 rw[IntKind.wrap_u64];unfold trn
 split
 ·subst z;decide
 ·obtain ⟨e,l0,l1⟩:=hilo (-z);unfold inR at h;rw[Int.emod_eq_of_lt (by omega) (by omega)];omega
theorem turned_any (z:Int) (hz:inR z) (w:World):Calls Tryz.prog 172 #[I2 z] w (Ret (I2 (trn z)) w):=by
 obtain ⟨e,l0,l1⟩:=hilo z;obtain ⟨h0,h1⟩:=hiR hz;obtain ⟨b0,b1,b2,b3⟩:=bor_01 0 (loN z);have u0:0<=IntKind.u64.wrap (hiN z)/\IntKind.u64.wrap (hiN z)<18446744073709551616:=by rw[IntKind.wrap_u64];omega
 have t1:-loN z%18446744073709551616=loN (trn z):=by
  unfold trn;split
  ·subst z;decide
  ·unfold loN;omega
 have t2:wrap64 ((-IntKind.u64.wrap (hiN z)-bor 0 (loN z))%18446744073709551616)=hiN (trn z):=by
  rw[IntKind.wrap_u64];unfold wrap64
  obtain ⟨e',l0',l1'⟩:=hilo (trn z);unfold trn at *;split at *
  ·subst z;decide
  ·unfold inR at hz;generalize hiN z=h at *;generalize loN z=l at *;generalize hiN (-z)=h' at *;generalize loN (-z)=l' at *
   by_cases hl:0<l
   ·rw[b2 hl];omega
   ·rw[b3 (by omega)];omega
 have T1:=jj t1;have T2:=jj t2;clear t1 t2
 go_enter Tryz.func172,Tryz.ntmps172
 go_wp2_with (first|simp only[sub64_0 0 _ (by omega) l0 l1]|simp only[sub64 0 _ _ (by omega) u0.1 u0.2 b0 b1])
 refine bodyPost_ret (v:=I2 (trn z)) (by simp[results,Tryz.results172,go_sem];exact ⟨T2.out,T1.out⟩) rfl (Ret.of (by exact bl_))
end
section
theorem cmp_any (a b:Int) (ha:inR a) (hb:inR b) (w:World):Calls Tryz.prog 119 #[I2 a,I2 b] w (Ret (.int .i64 (sgn (a-b))) w):=by
 obtain ⟨e,l0,l1⟩:=hilo a;obtain ⟨e',l0',l1'⟩:=hilo b;have hs:=sgn_01 (a-b)
 go_enter Tryz.func119,Tryz.ntmps119
 go_wp2
 all_goals go_ret
 all_goals refine Ret.of' (congrArg (Value.int .i64) ?_) (by exact bl_)
 all_goals omega
end
section
theorem inR_hi {z:Int}:inR z↔-9223372036854775808<=hiN z/\hiN z<=9223372036854775807:=by
 obtain ⟨e,l0,l1⟩:=hilo z;unfold inR;constructor<;>intro h<;>omega
theorem add_hi {ah al bh bl zh zl c:Int} (l0:0<=al) (l1:al<18446744073709551616) (m0:0<=bl) (m1:bl<18446744073709551616) (z0:0<=zl) (z1:zl<18446744073709551616) (e:zh*18446744073709551616+zl=(ah+bh)*18446744073709551616+(al+bl)) (hc:c=(al+bl)/18446744073709551616):zh=ah+bh+c/\zl=(al+bl)%18446744073709551616:=by omega
theorem add_any (a b : Int) (ha : inR a) (hb : inR b) (w : World) : Calls Tryz.prog 55 #[I2 a, I2 b] w (Ret (I2b (a + b)) w) := by
  obtain ⟨e, l0, l1⟩ := hilo a
  obtain ⟨h0, h1⟩ := hiR ha
  obtain ⟨e', l0', l1'⟩ := hilo b
  obtain ⟨h0', h1'⟩ := hiR hb
  obtain ⟨e2, l2, l2'⟩ := hilo (a + b)
  have u0 : 0 ≤ IntKind.u64.wrap (hiN a) ∧ IntKind.u64.wrap (hiN a) < 18446744073709551616 := by rw [IntKind.wrap_u64]; omega
  have u1 : 0 ≤ IntKind.u64.wrap (hiN b) ∧ IntKind.u64.wrap (hiN b) < 18446744073709551616 := by rw [IntKind.wrap_u64]; omega
  have k0 : 0 ≤ (loN a + loN b) / 18446744073709551616 ∧ (loN a + loN b) / 18446744073709551616 ≤ 1 := by omega
  obtain ⟨eh, el⟩ := add_hi (ah := hiN a) (bh := hiN b) (zh := hiN (a + b)) (zl := loN (a + b)) (c := (loN a + loN b) / 18446744073709551616) l0 l1 l0' l1' l2 l2' (by omega) rfl
  obtain ⟨c, hc⟩ : ∃ c, c = (IntKind.u64.wrap (hiN a) + IntKind.u64.wrap (hiN b) + (loN a + loN b) / 18446744073709551616) % 18446744073709551616 := ⟨_, rfl⟩
  have hw : wrap64 c = wrap64 (hiN (a + b)) := by
    rw [hc, eh, IntKind.wrap_u64, IntKind.wrap_u64]; unfold wrap64; generalize (loN a + loN b) / 18446744073709551616 = k at *; omega
  have A1 := jj (fun w => add64 (IntKind.u64.wrap (hiN a)) (IntKind.u64.wrap (hiN b)) _ u0.1 u1.1 k0.1 k0.2 w)
  rw [← hc] at A1
  clear hc u0 u1
  have R := inR_hi (z := a + b)
  have hx : -9223372036854775808 ≤ hiN a + hiN b + 1 + 9223372036854775808 := by omega
  have HW : wrap64 c < 0 ↔ (-9223372036854775808 ≤ hiN (a + b) ∧ hiN (a + b) < 0 ∨ 9223372036854775807 < hiN (a + b)) := by rw [hw]; unfold wrap64; omega
  have HV : inR (a + b) → wrap64 c = hiN (a + b) := fun h => by have := R.1 h; rw [hw]; unfold wrap64; omega
  have EL := jj el
  clear hw el
  have Y : inR (a + b) → I2b (a + b) = .tuple #[I2 (a + b), .bool true] := fun hn => by rw [I2b, lim_yes hn]; simp [hn]
  have N : ¬ inR (a + b) → I2b (a + b) = .tuple #[I2 0, .bool false] := fun hn => by rw [I2b, lim_no hn]; simp [hn]
  obtain ⟨v, hv⟩ : ∃ v, v = I2b (a + b) := ⟨_, rfl⟩
  rw [← hv]
  have HVB := jj hv
  have LY := jj Y
  have LN := jj N
  have LW := jj HW
  have LV := jj HV
  have LR := jj R
  have EH := jj eh
  clear hv Y N HW HV R e e' e2 eh hx
  go_enter Tryz.func55, Tryz.ntmps55
  go_wp2_with (first | simp only [add64_0 _ _ l0 l0'] | simp only [A1.out])
  all_goals rename_i hq
  all_goals have h2 := LW.out
  all_goals have h4 := EH.out
  all_goals (rcases Classical.em (hiN a < 0) with sa | sa <;> rcases Classical.em (hiN b < 0) with sb | sb <;> rcases Classical.em (wrap64 c < 0) with sx | sx <;> rcases Classical.em (inR (a + b)) with hn | hn)
  all_goals first
    | have h5 := LR.out.1 hn
    | have h5 : ¬ (-9223372036854775808 ≤ hiN (a + b) ∧ hiN (a + b) ≤ 9223372036854775807) := fun h => hn (LR.out.2 h)
  all_goals first
    | (exfalso; omega)
    | (exfalso; simp [sa, sb, sx] at hq; done)
    | (rw [HVB.out, LY.out hn]
       refine bodyPost_ret (v := .tuple #[I2 (a + b), .bool true]) ?_ rfl (Ret.of ?_)
       · simp [results, Tryz.results55, go_sem, LV.out hn, EL.out]
       · exact bl_)
    | (rw [HVB.out, LN.out hn]
       refine bodyPost_ret (v := .tuple #[I2 0, .bool false]) ?_ rfl (Ret.of ?_)
       · simp [results, Tryz.results55, go_sem, hiN, loN]
       · exact bl_)
end
section
theorem sub_hi {ah al bh bl zh zl c:Int} (l0:0<=al) (l1:al<18446744073709551616) (m0:0<=bl) (m1:bl<18446744073709551616) (z0:0<=zl) (z1:zl<18446744073709551616) (e:zh*18446744073709551616+zl=(ah-bh)*18446744073709551616+(al-bl)) (hc:0<=c/\c<=1/\(al<bl->c=1)/\(bl<=al->c=0)):zh=ah-bh-c/\zl=(al-bl)%18446744073709551616:=by
 by_cases h:al<bl
 ·have:=hc.2.2.1 h;omega
 ·have:=hc.2.2.2 (by omega);omega
theorem sub_any (a b : Int) (ha : inR a) (hb : inR b) (w : World) : Calls Tryz.prog 174 #[I2 a, I2 b] w (Ret (I2b (a - b)) w) := by
  obtain ⟨e, l0, l1⟩ := hilo a
  obtain ⟨h0, h1⟩ := hiR ha
  obtain ⟨e', l0', l1'⟩ := hilo b
  obtain ⟨h0', h1'⟩ := hiR hb
  obtain ⟨e2, l2, l2'⟩ := hilo (a - b)
  have u0 : 0 ≤ IntKind.u64.wrap (hiN a) ∧ IntKind.u64.wrap (hiN a) < 18446744073709551616 := by rw [IntKind.wrap_u64]; omega
  have u1 : 0 ≤ IntKind.u64.wrap (hiN b) ∧ IntKind.u64.wrap (hiN b) < 18446744073709551616 := by rw [IntKind.wrap_u64]; omega
  have k0 := bor_01 (loN a) (loN b)
  obtain ⟨eh, el⟩ := sub_hi (ah := hiN a) (bh := hiN b) (zh := hiN (a - b)) (zl := loN (a - b)) (c := bor (loN a) (loN b)) l0 l1 l0' l1' l2 l2' (by omega) k0
  obtain ⟨c, hc⟩ : ∃ c, c = (IntKind.u64.wrap (hiN a) - IntKind.u64.wrap (hiN b) - bor (loN a) (loN b)) % 18446744073709551616 := ⟨_, rfl⟩
  have hw : wrap64 c = wrap64 (hiN (a - b)) := by
    rw [hc, eh, IntKind.wrap_u64, IntKind.wrap_u64]; unfold wrap64; generalize bor (loN a) (loN b) = k at *; omega
  have A1 := jj (fun w => sub64 (IntKind.u64.wrap (hiN a)) (IntKind.u64.wrap (hiN b)) _ u0.1 u1.1 u1.2 k0.1 k0.2.1 w)
  rw [← hc] at A1
  obtain ⟨K0, K1⟩ : 0 ≤ bor (loN a) (loN b) ∧ bor (loN a) (loN b) ≤ 1 := ⟨k0.1, k0.2.1⟩
  clear k0
  clear hc u0 u1
  have R := inR_hi (z := a - b)
  have HW : wrap64 c < 0 ↔ (-9223372036854775808 ≤ hiN (a - b) ∧ hiN (a - b) < 0 ∨ 9223372036854775807 < hiN (a - b)) := by rw [hw]; unfold wrap64; omega
  have HV : inR (a - b) → wrap64 c = hiN (a - b) := fun h => by have := R.1 h; rw [hw]; unfold wrap64; omega
  have EL := jj el
  clear hw el
  have Y : inR (a - b) → I2b (a - b) = .tuple #[I2 (a - b), .bool true] := fun hn => by rw [I2b, lim_yes hn]; simp [hn]
  have N : ¬ inR (a - b) → I2b (a - b) = .tuple #[I2 0, .bool false] := fun hn => by rw [I2b, lim_no hn]; simp [hn]
  obtain ⟨v, hv⟩ : ∃ v, v = I2b (a - b) := ⟨_, rfl⟩
  rw [← hv]
  have HVB := jj hv
  have LY := jj Y
  have LN := jj N
  have LW := jj HW
  have LV := jj HV
  have LR := jj R
  have EH := jj eh
  clear hv Y N HW HV R e e' e2 eh
  go_enter Tryz.func174, Tryz.ntmps174
  go_wp2_with (first | simp only [sub64_0 _ _ l0 l0' l1'] | simp only [A1.out])
  all_goals rename_i hq
  all_goals have h2 := LW.out
  all_goals have h4 := EH.out
  all_goals (rcases Classical.em (hiN a < 0) with sa | sa <;> rcases Classical.em (hiN b < 0) with sb | sb <;> rcases Classical.em (wrap64 c < 0) with sx | sx <;> rcases Classical.em (inR (a - b)) with hn | hn)
  all_goals first
    | have h5 := LR.out.1 hn
    | have h5 : ¬ (-9223372036854775808 ≤ hiN (a - b) ∧ hiN (a - b) ≤ 9223372036854775807) := fun h => hn (LR.out.2 h)
  all_goals first
    | (exfalso; omega)
    | (exfalso; simp [sa, sb, sx] at hq; done)
    | (rw [HVB.out, LY.out hn]
       refine bodyPost_ret (v := .tuple #[I2 (a - b), .bool true]) ?_ rfl (Ret.of ?_)
       · simp [results, Tryz.results174, go_sem, LV.out hn, EL.out]
       · exact bl_)
    | (rw [HVB.out, LN.out hn]
       refine bodyPost_ret (v := .tuple #[I2 0, .bool false]) ?_ rfl (Ret.of ?_)
       · simp [results, Tryz.results174, go_sem, hiN, loN]
       · exact bl_)
end
section
open Go.RowKit Go.Lib
theorem maskN (a:Nat) (ha:a<18446744073709551616):bits .and .u64 (a:Int) 4294967295=((a%4294967296:Nat):Int):=by
 have h:=bits_and_u64_nat a 4294967295 ha (by omega);have e:a &&& 4294967295=a%4294967296:=Nat.and_two_pow_sub_one_eq_mod a 32;rw[e] at h;exact h
theorem divN (a:Nat):(a:Int)/4294967296=((a/4294967296:Nat):Int):=by omega
theorem mulN (a b:Nat):(a:Int)*(b:Int)=((a*b:Nat):Int):=(Int.natCast_mul a b).symm
theorem addN (a b:Nat):(a:Int)+(b:Int)=((a+b:Nat):Int):=(Int.natCast_add a b).symm
theorem wrapN (a:Nat) (ha:a<18446744073709551616):IntKind.u64.wrap (a:Int)=(a:Int):=by rw[IntKind.wrap_u64];omega
theorem wrapM (a:Nat):IntKind.u64.wrap (a:Int)=((a%18446744073709551616:Nat):Int):=by rw[IntKind.wrap_u64];omega
theorem mul64_nat (x y:Nat) (hx:x<18446744073709551616) (hy:y<18446744073709551616) (w:World) :
  Calls Tryz.prog 175 #[.int .u64 x,.int .u64 y] w fun e w'=>e=.returned (.tuple #[.int .u64 ((x*y/18446744073709551616:Nat):Int),.int .u64 ((x*y%18446744073709551616:Nat):Int)])/\w'=w:=by
 obtain ⟨bd,bt,bw,hhi⟩:=Lib.mul64_hi x y hx hy;have ba:=Lib.half_mul_le (a:=x/4294967296) (b:=y/4294967296) (by omega) (by omega);have bb:=Lib.half_mul_le (a:=x/4294967296) (b:=y%4294967296) (by omega) (by omega);have bc:=Lib.half_mul_le (a:=x%4294967296) (b:=y/4294967296) (by omega) (by omega);have ba':x/4294967296*(y/4294967296)<18446744073709551616:=by omega
 have bb':x/4294967296*(y%4294967296)<18446744073709551616:=by omega
 have bc':x%4294967296*(y/4294967296)<18446744073709551616:=by omega
 have bh1:x/4294967296*(y/4294967296)+(x/4294967296*(y%4294967296)+x%4294967296*(y%4294967296)/4294967296)/4294967296<18446744073709551616:=by omega
 have bh:x/4294967296*(y/4294967296)+(x/4294967296*(y%4294967296)+x%4294967296*(y%4294967296)/4294967296)/4294967296+((x/4294967296*(y%4294967296)+x%4294967296*(y%4294967296)/4294967296)%4294967296+x%4294967296*(y/4294967296))/4294967296<18446744073709551616:=by omega
 go_enter Tryz.func175,Tryz.ntmps175
 go_wp2;simp only[maskN x hx,maskN y hy,divN,mulN,addN,wrapN _ bd,wrapN _ bb',wrapN _ bt,maskN _ bt,wrapN _ bc',wrapN _ bw,wrapN _ ba',wrapN _ bh1,wrapN _ bh,wrapM (x*y)];rw[hhi];exact bodyPost_ret (v:=.tuple #[.int .u64 ((x*y/18446744073709551616:Nat):Int),.int .u64 ((x*y%18446744073709551616:Nat):Int)]) (by simp[results,Tryz.results175,go_sem]) rfl ⟨rfl,rfl⟩
theorem mul64_any (x y:Int) (hx:0<=x) (hx1:x<18446744073709551616) (hy:0<=y) (hy1:y<18446744073709551616) (w:World) :
  Calls Tryz.prog 175 #[.int .u64 x,.int .u64 y] w fun e w'=>e=.returned (.tuple #[.int .u64 (hiN (x*y)),.int .u64 (loN (x*y))])/\w'=w:=by
 obtain ⟨x,rfl⟩:=Int.eq_ofNat_of_zero_le hx;obtain ⟨y,rfl⟩:=Int.eq_ofNat_of_zero_le hy;have h:=mul64_nat x y (by omega) (by omega) w;have e1:((x*y/18446744073709551616:Nat):Int)=hiN ((x:Int)*(y:Int)):=by unfold hiN;rw[<-Int.natCast_mul];omega
 have e2:((x*y%18446744073709551616:Nat):Int)=loN ((x:Int)*(y:Int)):=by unfold loN;rw[<-Int.natCast_mul];omega
 rwa [e1,e2] at h
def abv (n:Int):Int:=if n<0 then -n else n
theorem abv_01 {n:Int} (h:sml n):0<=abv n/\abv n<=9223372036854775808:=by unfold sml at h;unfold abv;split<;>omega
theorem bare_any (n:Int) (hn:sml n) (w:World):Calls Tryz.prog 176 #[.int .i64 n] w (Ret (.int .u64 (abv n)) w):=by
 unfold sml at hn
 go_enter Tryz.func176,Tryz.ntmps176
 go_wp2
 all_goals go_ret
 all_goals refine Ret.of' (congrArg (Value.int .u64) ?_) (by exact bl_)
 all_goals (unfold abv;try simp only[IntKind.wrap_u64])
 all_goals (split<;>omega)
end
section
theorem signed_plus (s h:Int) (hs:inR s) (hw:wrap64 h=hiN s) (w:World):Calls Tryz.prog 177 #[.int .u64 h,.int .u64 (loN s),.bool false] w (Ret (.tuple #[I2 s,.bool (decide (0<=hiN s))]) w):=by
 go_enter Tryz.func177,Tryz.ntmps177
 go_wp2_with (first|simp only[hw])
 go_region
 go_wp2;refine bodyPost_ret (v:=.tuple #[I2 s,.bool (decide (0<=hiN s))]) ?_ rfl (Ret.of ?_)
 ·simp[results,Tryz.results177,go_sem]
 ·exact bl_
theorem signed_minus (s h:Int) (b:Bool) (hs:inR s) (hw:wrap64 h=hiN s) (hb:b=decide (trn s<=0)) (w:World):Calls Tryz.prog 177 #[.int .u64 h,.int .u64 (loN s),.bool true] w (Ret (.tuple #[I2 (trn s),.bool b]) w):=by
 obtain ⟨e,l0,l1⟩:=hilo (trn s)
 by_cases c1:hiN (trn s)<0
 ·have d1:decide (hiN (trn s)<0)=true:=decide_eq_true c1;obtain rfl:b=true:=by rw[hb];simp;omega
  clear c1 hb
  go_enter Tryz.func177,Tryz.ntmps177
  go_wp2_with (first|simp only[hw]|(go_at_call 172;(with_reducible refine (turned_any s hs _).mono ?_);rintro _ _ ⟨rfl,X_,rfl⟩))
  go_region
  go_wp2;refine bodyPost_ret (v:=.tuple #[I2 (trn s),.bool true]) ?_ rfl (Ret.of ?_)
  ·simp[results,Tryz.results177,go_sem]
  ·exact bl_
 ·have d1:decide (hiN (trn s)<0)=false:=decide_eq_false c1
  by_cases c2:hiN (trn s)=0
  ·by_cases c3:loN (trn s)=0
   ·have d2:(hiN (trn s)==0)=true:=by simp[c2]
    have d3:(loN (trn s)==0)=true:=by simp[c3]
    obtain rfl:b=true:=by rw[hb];simp;omega
    clear c1 c2 c3 hb e
    go_enter Tryz.func177,Tryz.ntmps177
    go_wp2_with (first|simp only[hw]|(go_at_call 172;(with_reducible refine (turned_any s hs _).mono ?_);rintro _ _ ⟨rfl,X_,rfl⟩))
    go_region
    go_wp2;refine bodyPost_ret (v:=.tuple #[I2 (trn s),.bool true]) ?_ rfl (Ret.of ?_)
    ·simp[results,Tryz.results177,go_sem]
    ·exact bl_
   ·have d2:(hiN (trn s)==0)=true:=by simp[c2]
    have d3:(loN (trn s)==0)=false:=by simp[c3]
    obtain rfl:b=false:=by rw[hb];simp;omega
    clear c1 c2 c3 hb e
    go_enter Tryz.func177,Tryz.ntmps177
    go_wp2_with (first|simp only[hw]|(go_at_call 172;(with_reducible refine (turned_any s hs _).mono ?_);rintro _ _ ⟨rfl,X_,rfl⟩))
    go_region
    go_wp2;refine bodyPost_ret (v:=.tuple #[I2 (trn s),.bool false]) ?_ rfl (Ret.of ?_)
    ·simp[results,Tryz.results177,go_sem]
    ·exact bl_
  ·have d2:(hiN (trn s)==0)=false:=by simp[c2]
   obtain rfl:b=false:=by rw[hb];simp;omega
   clear c1 c2 hb e
   go_enter Tryz.func177,Tryz.ntmps177
   go_wp2_with (first|simp only[hw]|(go_at_call 172;(with_reducible refine (turned_any s hs _).mono ?_);rintro _ _ ⟨rfl,X_,rfl⟩))
   go_region
   go_wp2;refine bodyPost_ret (v:=.tuple #[I2 (trn s),.bool false]) ?_ rfl (Ret.of ?_)
   ·simp[results,Tryz.results177,go_sem]
   ·exact bl_
def sgd (U:Int) (m:Bool):Int:=if m then trn (if U<170141183460469231731687303715884105728 then U else U-340282366920938463463374607431768211456) else (if U<170141183460469231731687303715884105728 then U else U-340282366920938463463374607431768211456)
def pmv (U:Int) (m:Bool):Int:=if m then -U else U
theorem sgd_in {U:Int} {m:Bool} (h0:0<=U) (h1:U<340282366920938463463374607431768211456) (h:inR (pmv U m)):sgd U m=pmv U m:=by
 unfold inR at h;unfold sgd trn;unfold pmv at *;cases m<;>simp at *<;>(repeat (split<;>try omega))<;>omega
theorem signed_any (U:Int) (m:Bool) (h0:0<=U) (h1:U<340282366920938463463374607431768211456) (w:World):Calls Tryz.prog 177 #[.int .u64 (hiN U),.int .u64 (loN U),.bool m] w (Ret (.tuple #[I2 (sgd U m),.bool (decide (inR (pmv U m)))]) w):=by
 obtain ⟨s,hs⟩:∃ s,s=if U<170141183460469231731687303715884105728 then U else U-340282366920938463463374607431768211456:=⟨_,rfl⟩
 have hin:inR s:=by unfold inR;rw[hs];split<;>omega
 obtain ⟨e,l0,l1⟩:=hilo U;obtain ⟨e',l0',l1'⟩:=hilo s;have hl:loN U=loN s:=by rw[hs] at *;split at *<;>omega
 have hh:wrap64 (hiN U)=hiN s:=by unfold wrap64;rw[hs] at *;split at *<;>omega
 rw[hl];cases m
 ·have:=signed_plus s (hiN U) hin hh w;rw[show decide (0<=hiN s)=decide (inR (pmv U false)) from decide_eq_decide.2 (by unfold pmv inR;simp;rw[hs] at *;split at *<;>omega)] at this;rw[show sgd U false=s by unfold sgd;rw[<-hs];rfl];exact this
 ·rw[show sgd U true=trn s by unfold sgd;rw[<-hs];rfl];refine signed_minus s (hiN U) _ hin hh ?_ w;refine decide_eq_decide.2 ?_;unfold pmv trn inR;simp;rw[hs] at *;split at *<;>split<;>omega
end
section
def unl (m:Bool) (a b:Int):Prop:=m=true↔(a<0/\0<=b\/0<=a/\b<0)
theorem pmv_mul {a b:Int} {m:Bool} (h:unl m a b):pmv (abv a*abv b) m=a*b:=by
 unfold unl at h;unfold pmv abv
 cases m<;>simp at h ⊢<;>by_cases a0:a<0<;>by_cases b0:b<0<;>simp[a0,b0]<;>(first|(exfalso;omega)|grind)
theorem abv_mul {a b:Int} (ha:sml a) (hb:sml b):0<=abv a*abv b/\abv a*abv b<=85070591730234615865843651857942052864:=by
 have ua:=abv_01 ha;have ub:=abv_01 hb;exact ⟨Int.mul_nonneg ua.1 ub.1,Int.le_trans (Int.mul_le_mul ua.2 ub.2 ub.1 (by decide)) (by decide)⟩
theorem mul_in {a b:Int} (ha:sml a) (hb:sml b):inR (a*b):=by
 have h:=abv_mul ha hb;have:abv a*abv b=a*b\/abv a*abv b=-(a*b):=by unfold abv;split<;>split<;>grind
 unfold inR;omega
theorem sgd_mul {a b:Int} {m:Bool} (ha:sml a) (hb:sml b) (h:unl m a b):sgd (abv a*abv b) m=a*b:=by
 have hu:=abv_mul ha hb;have hp:=pmv_mul h;rw[sgd_in hu.1 (by omega) (by rw[hp];exact mul_in ha hb),hp]
theorem unl_dec (a b:Int):unl (!decide (a<0)==decide (b<0)) a b:=by
 unfold unl
 by_cases a0:a<0<;>by_cases b0:b<0<;>simp[a0,b0]<;>omega
theorem hi_neg (a:Int):decide (hiN a<0)=decide (a<0):=decide_eq_decide.2 (by obtain ⟨e,l0,l1⟩:=hilo a;omega)
theorem mul_any (a b:Int) (ha:sml a) (hb:sml b) (w:World):Calls Tryz.prog 117 #[.int .i64 a,.int .i64 b] w (Ret (I2 (a*b)) w):=by
 have ua:=abv_01 ha;have ub:=abv_01 hb;have hu:=abv_mul ha hb;have M:=jj (fun w=>mul64_any (abv a) (abv b) ua.1 (by omega) ub.1 (by omega) w);have S:=jj (fun m w=>signed_any (abv a*abv b) m hu.1 (by omega) w);have HS:=jj (fun m h=>sgd_mul (a:=a) (b:=b) (m:=m) ha hb h);generalize abv a*abv b=U at *
 go_enter Tryz.func117,Tryz.ntmps117
 go_wp2_with (first
  |(go_at_call 176;(with_reducible refine (bare_any a ha _).mono ?_);rintro _ _ ⟨rfl,X_,rfl⟩)
  |(go_at_call 176;(with_reducible refine (bare_any b hb _).mono ?_);rintro _ _ ⟨rfl,X_,rfl⟩)
  |(go_at_call 175;refine (M.out _).mono ?_;rintro _ _ ⟨rfl,rfl⟩)
  |(go_at_call 177;(with_reducible refine (S.out _ _).mono ?_);rintro _ _ ⟨rfl,X_,rfl⟩))
 refine bodyPost_ret (v:=I2 (a*b)) ?_ rfl (Ret.of ?_)
 ·simp[results,Tryz.results117,go_sem,HS.out _ (unl_dec a b)]
 ·exact bl_
end
section
theorem times_any (a n:Int) (ha:inR a) (hn:sml n) (w:World):Calls Tryz.prog 181 #[I2 a,.int .i64 n] w (Ret (I2b (a*n)) w):=by
 have un:=abv_01 hn;have hnn:=hn;have hpm:=fun m h=>pmv_mul (a:=a) (b:=n) (m:=m) h
 have hT0:0<=abv a*abv n:=Int.mul_nonneg (by unfold abv;split<;>omega) un.1;have hTn:abv a*abv n=a*n\/abv a*abv n=-(a*n):=by unfold abv;split<;>split<;>grind
 obtain ⟨T,hT⟩:∃ T,T=abv a*abv n:=⟨_,rfl⟩;rw[<-hT] at hpm hT0 hTn;have HPM:=jj hpm;clear hpm;have hd:=hi_neg a
 by_cases c:a<0
 ·have c2:hiN a<0:=by obtain ⟨e,l0,l1⟩:=hilo a;omega
  have dA:=decide_eq_true c2;have HI:=trn_in ha;have ax:IntKind.u64.wrap (hiN (trn a))*18446744073709551616+loN (trn a)=abv a:=by rw[trn_abs ha c];unfold abv;rw[if_pos c]
  have AX:=jj ax;have HX:=jj (hiR HI);have u0:0<=IntKind.u64.wrap (hiN (trn a))/\IntKind.u64.wrap (hiN (trn a))<18446744073709551616:=by rw[IntKind.wrap_u64];omega
  obtain ⟨-,l0,l1⟩:=hilo (trn a);have M1:=jj (fun w=>mul64_any (IntKind.u64.wrap (hiN (trn a))) (abv n) u0.1 u0.2 un.1 (by omega) w);have M2:=jj (fun w=>mul64_any (loN (trn a)) (abv n) l0 l1 un.1 (by omega) w);obtain ⟨e1,k0,k1⟩:=hilo (IntKind.u64.wrap (hiN (trn a))*abv n);obtain ⟨e2,k2,k3⟩:=hilo (loN (trn a)*abv n);have o0:0<=hiN (IntKind.u64.wrap (hiN (trn a))*abv n):=by have:=Int.mul_nonneg u0.1 un.1;omega
  have o1:0<=hiN (loN (trn a)*abv n):=by have:=Int.mul_nonneg l0 un.1;omega
  have o2:hiN (IntKind.u64.wrap (hiN (trn a))*abv n)<18446744073709551615:=by
   have:=Int.mul_le_mul (show IntKind.u64.wrap (hiN (trn a))<=18446744073709551615 by omega) un.2 un.1 (by decide);omega
  have o3:hiN (loN (trn a)*abv n)<18446744073709551615:=by
   have:=Int.mul_le_mul (show loN (trn a)<=18446744073709551615 by omega) un.2 un.1 (by decide);omega
  have eT:T=(hiN (IntKind.u64.wrap (hiN (trn a))*abv n)*18446744073709551616+loN (IntKind.u64.wrap (hiN (trn a))*abv n))*18446744073709551616+(hiN (loN (trn a)*abv n)*18446744073709551616+loN (loN (trn a)*abv n)):=by
   rw[e1,e2,hT,<-ax];grind
  generalize hiN (IntKind.u64.wrap (hiN (trn a))*abv n)=ov at *;generalize loN (IntKind.u64.wrap (hiN (trn a))*abv n)=hi at *;generalize hiN (loN (trn a)*abv n)=up at *;generalize loN (loN (trn a)*abv n)=lo at *;have q1:T<340282366920938463463374607431768211456->ov=0/\(hi+up)/18446744073709551616=0/\(hi+up)%18446744073709551616=hiN T/\lo=loN T:=fun h=>by
   obtain ⟨e3,l3,l4⟩:=hilo T;omega
  have q2:¬T<340282366920938463463374607431768211456->0<ov+(hi+up)/18446744073709551616:=fun h=>by omega
  have Q1:=jj q1;have Q2:=jj q2;have o4:0<=(hi+up)/18446744073709551616/\(hi+up)/18446744073709551616<=1:=by omega
  clear q1 q2 e1 e2 eT HI ax
  by_cases hb:T<340282366920938463463374607431768211456
  ·obtain ⟨v1,v2,v3,v4⟩:=Q1.out hb;have S0:=fun (m:Bool) (h:unl m a n) w=>signed_any T m hT0 hb w
   have SG:=fun (m:Bool) (h:unl m a n) (hy:inR (a*n))=>(sgd_in hT0 hb (by rw[HPM.out m h];exact hy)).trans (HPM.out m h)
   subst v1 v4;have V2:=jj v2;have V3:=jj v3;clear hb Q1 Q2 hT hTn v2 v3 AX u0 HX
   by_cases hy:inR (a*n)
   ·rw[show I2b (a*n)=.tuple #[I2 (a*n),.bool true] by rw[I2b,lim_yes hy];simp[hy]];have S:=jj (fun (m:Bool) (h:unl m a n) (w:World)=>(by have e:=S0 m h w;rw[SG m h hy,HPM.out m h,show decide (inR (a*n))=true by simp[hy]] at e;exact e:Calls Tryz.prog 177 #[.int .u64 (hiN T),.int .u64 (loN T),.bool m] w (Ret (.tuple #[I2 (a*n),.bool true]) w)));clear SG S0 hy hd
    go_enter Tryz.func181,Tryz.ntmps181
    go_wp2_with (first
     |(go_at_call 172;(with_reducible refine (turned_any a ha _).mono ?_);rintro _ _ ⟨rfl,X_,rfl⟩)
     |(go_at_call 176;(with_reducible refine (bare_any n hnn _).mono ?_);rintro _ _ ⟨rfl,X_,rfl⟩)
     |(go_at_call 175;(with_reducible refine (M1.out _).mono ?_);rintro _ _ ⟨rfl,rfl⟩)
     |(go_at_call 175;(with_reducible refine (M2.out _).mono ?_);rintro _ _ ⟨rfl,rfl⟩)
     |simp only[add64_0 _ _ k0 o1,V2.out,V3.out]
     |(go_at_call 177;(with_reducible refine (S.out _ ?_ _).mono ?_);(unfold unl;simp[c,c2];omega);rintro _ _ ⟨rfl,X_,rfl⟩))
    refine bodyPost_ret (v:=.tuple #[I2 (a*n),.bool true]) ?_ rfl (Ret.of ?_)
    ·simp[results,Tryz.results181,go_sem]
    ·exact bl_
   ·rw[show I2b (a*n)=.tuple #[I2 0,.bool false] by rw[I2b,lim_no hy];simp[hy]];have S:=jj (fun (m:Bool) (h:unl m a n) (w:World)=>(by have e:=S0 m h w;rw[HPM.out m h,show decide (inR (a*n))=false by simp[hy]] at e;exact e:Calls Tryz.prog 177 #[.int .u64 (hiN T),.int .u64 (loN T),.bool m] w (Ret (.tuple #[I2 (sgd T m),.bool false]) w)));clear SG S0 hy hd
    go_enter Tryz.func181,Tryz.ntmps181
    go_wp2_with (first
     |(go_at_call 172;(with_reducible refine (turned_any a ha _).mono ?_);rintro _ _ ⟨rfl,X_,rfl⟩)
     |(go_at_call 176;(with_reducible refine (bare_any n hnn _).mono ?_);rintro _ _ ⟨rfl,X_,rfl⟩)
     |(go_at_call 175;(with_reducible refine (M1.out _).mono ?_);rintro _ _ ⟨rfl,rfl⟩)
     |(go_at_call 175;(with_reducible refine (M2.out _).mono ?_);rintro _ _ ⟨rfl,rfl⟩)
     |simp only[add64_0 _ _ k0 o1,V2.out,V3.out]
     |(go_at_call 177;(with_reducible refine (S.out _ ?_ _).mono ?_);(unfold unl;simp[c,c2];omega);rintro _ _ ⟨rfl,X_,rfl⟩))
    refine bodyPost_ret (v:=.tuple #[I2 0,.bool false]) ?_ rfl (Ret.of ?_)
    ·simp[results,Tryz.results181,go_sem,hiN,loN]
    ·exact bl_
  ·have hy:¬inR (a*n):=by unfold inR;omega
   rw[show I2b (a*n)=.tuple #[I2 0,.bool false] by rw[I2b,lim_no hy];simp[hy]];have d:=decide_eq_true (Q2.out hb);clear hy hb Q1 Q2 hT hTn AX u0 HX
   go_enter Tryz.func181,Tryz.ntmps181
   go_wp2_with (first
    |(go_at_call 172;(with_reducible refine (turned_any a ha _).mono ?_);rintro _ _ ⟨rfl,X_,rfl⟩)
    |(go_at_call 176;(with_reducible refine (bare_any n hnn _).mono ?_);rintro _ _ ⟨rfl,X_,rfl⟩)
    |(go_at_call 175;(with_reducible refine (M1.out _).mono ?_);rintro _ _ ⟨rfl,rfl⟩)
    |(go_at_call 175;(with_reducible refine (M2.out _).mono ?_);rintro _ _ ⟨rfl,rfl⟩)
    |simp only[add64_0 _ _ k0 o1])
   refine bodyPost_ret (v:=.tuple #[I2 0,.bool false]) ?_ rfl (Ret.of ?_)
   ·simp[results,Tryz.results181,go_sem,hiN,loN]
   ·exact bl_
 ·have c2:¬hiN a<0:=by obtain ⟨e,l0,l1⟩:=hilo a;omega
  have dA:=decide_eq_false c2;have HI:=ha;have ax:IntKind.u64.wrap (hiN a)*18446744073709551616+loN a=abv a:=by
   obtain ⟨e,l0,l1⟩:=hilo a;have:=hiR ha;rw[IntKind.wrap_u64,Int.emod_eq_of_lt (by omega) (by omega)];unfold abv;rw[if_neg c];exact e
  have AX:=jj ax;have HX:=jj (hiR HI);have u0:0<=IntKind.u64.wrap (hiN a)/\IntKind.u64.wrap (hiN a)<18446744073709551616:=by rw[IntKind.wrap_u64];omega
  obtain ⟨-,l0,l1⟩:=hilo a;have M1:=jj (fun w=>mul64_any (IntKind.u64.wrap (hiN a)) (abv n) u0.1 u0.2 un.1 (by omega) w);have M2:=jj (fun w=>mul64_any (loN a) (abv n) l0 l1 un.1 (by omega) w);obtain ⟨e1,k0,k1⟩:=hilo (IntKind.u64.wrap (hiN a)*abv n);obtain ⟨e2,k2,k3⟩:=hilo (loN a*abv n);have o0:0<=hiN (IntKind.u64.wrap (hiN a)*abv n):=by have:=Int.mul_nonneg u0.1 un.1;omega
  have o1:0<=hiN (loN a*abv n):=by have:=Int.mul_nonneg l0 un.1;omega
  have o2:hiN (IntKind.u64.wrap (hiN a)*abv n)<18446744073709551615:=by
   have:=Int.mul_le_mul (show IntKind.u64.wrap (hiN a)<=18446744073709551615 by omega) un.2 un.1 (by decide);omega
  have o3:hiN (loN a*abv n)<18446744073709551615:=by
   have:=Int.mul_le_mul (show loN a<=18446744073709551615 by omega) un.2 un.1 (by decide);omega
  have eT:T=(hiN (IntKind.u64.wrap (hiN a)*abv n)*18446744073709551616+loN (IntKind.u64.wrap (hiN a)*abv n))*18446744073709551616+(hiN (loN a*abv n)*18446744073709551616+loN (loN a*abv n)):=by
   rw[e1,e2,hT,<-ax];grind
  generalize hiN (IntKind.u64.wrap (hiN a)*abv n)=ov at *;generalize loN (IntKind.u64.wrap (hiN a)*abv n)=hi at *;generalize hiN (loN a*abv n)=up at *;generalize loN (loN a*abv n)=lo at *;have q1:T<340282366920938463463374607431768211456->ov=0/\(hi+up)/18446744073709551616=0/\(hi+up)%18446744073709551616=hiN T/\lo=loN T:=fun h=>by
   obtain ⟨e3,l3,l4⟩:=hilo T;omega
  have q2:¬T<340282366920938463463374607431768211456->0<ov+(hi+up)/18446744073709551616:=fun h=>by omega
  have Q1:=jj q1;have Q2:=jj q2;have o4:0<=(hi+up)/18446744073709551616/\(hi+up)/18446744073709551616<=1:=by omega
  clear q1 q2 e1 e2 eT HI ax
  by_cases hb:T<340282366920938463463374607431768211456
  ·obtain ⟨v1,v2,v3,v4⟩:=Q1.out hb;have S0:=fun (m:Bool) (h:unl m a n) w=>signed_any T m hT0 hb w
   have SG:=fun (m:Bool) (h:unl m a n) (hy:inR (a*n))=>(sgd_in hT0 hb (by rw[HPM.out m h];exact hy)).trans (HPM.out m h)
   subst v1 v4;have V2:=jj v2;have V3:=jj v3;clear hb Q1 Q2 hT hTn v2 v3 AX u0 HX
   by_cases hy:inR (a*n)
   ·rw[show I2b (a*n)=.tuple #[I2 (a*n),.bool true] by rw[I2b,lim_yes hy];simp[hy]];have S:=jj (fun (m:Bool) (h:unl m a n) (w:World)=>(by have e:=S0 m h w;rw[SG m h hy,HPM.out m h,show decide (inR (a*n))=true by simp[hy]] at e;exact e:Calls Tryz.prog 177 #[.int .u64 (hiN T),.int .u64 (loN T),.bool m] w (Ret (.tuple #[I2 (a*n),.bool true]) w)));clear SG S0 hy hd
    go_enter Tryz.func181,Tryz.ntmps181
    go_wp2_with (first
     |(go_at_call 176;(with_reducible refine (bare_any n hnn _).mono ?_);rintro _ _ ⟨rfl,X_,rfl⟩)
     |(go_at_call 175;(with_reducible refine (M1.out _).mono ?_);rintro _ _ ⟨rfl,rfl⟩)
     |(go_at_call 175;(with_reducible refine (M2.out _).mono ?_);rintro _ _ ⟨rfl,rfl⟩)
     |simp only[add64_0 _ _ k0 o1,V2.out,V3.out]
     |(go_at_call 177;(with_reducible refine (S.out _ ?_ _).mono ?_);(unfold unl;simp[c,c2];omega);rintro _ _ ⟨rfl,X_,rfl⟩))
    refine bodyPost_ret (v:=.tuple #[I2 (a*n),.bool true]) ?_ rfl (Ret.of ?_)
    ·simp[results,Tryz.results181,go_sem]
    ·exact bl_
   ·rw[show I2b (a*n)=.tuple #[I2 0,.bool false] by rw[I2b,lim_no hy];simp[hy]];have S:=jj (fun (m:Bool) (h:unl m a n) (w:World)=>(by have e:=S0 m h w;rw[HPM.out m h,show decide (inR (a*n))=false by simp[hy]] at e;exact e:Calls Tryz.prog 177 #[.int .u64 (hiN T),.int .u64 (loN T),.bool m] w (Ret (.tuple #[I2 (sgd T m),.bool false]) w)));clear SG S0 hy hd
    go_enter Tryz.func181,Tryz.ntmps181
    go_wp2_with (first
     |(go_at_call 176;(with_reducible refine (bare_any n hnn _).mono ?_);rintro _ _ ⟨rfl,X_,rfl⟩)
     |(go_at_call 175;(with_reducible refine (M1.out _).mono ?_);rintro _ _ ⟨rfl,rfl⟩)
     |(go_at_call 175;(with_reducible refine (M2.out _).mono ?_);rintro _ _ ⟨rfl,rfl⟩)
     |simp only[add64_0 _ _ k0 o1,V2.out,V3.out]
     |(go_at_call 177;(with_reducible refine (S.out _ ?_ _).mono ?_);(unfold unl;simp[c,c2];omega);rintro _ _ ⟨rfl,X_,rfl⟩))
    refine bodyPost_ret (v:=.tuple #[I2 0,.bool false]) ?_ rfl (Ret.of ?_)
    ·simp[results,Tryz.results181,go_sem,hiN,loN]
    ·exact bl_
  ·have hy:¬inR (a*n):=by unfold inR;omega
   rw[show I2b (a*n)=.tuple #[I2 0,.bool false] by rw[I2b,lim_no hy];simp[hy]];have d:=decide_eq_true (Q2.out hb);clear hy hb Q1 Q2 hT hTn AX u0 HX
   go_enter Tryz.func181,Tryz.ntmps181
   go_wp2_with (first
    |(go_at_call 176;(with_reducible refine (bare_any n hnn _).mono ?_);rintro _ _ ⟨rfl,X_,rfl⟩)
    |(go_at_call 175;(with_reducible refine (M1.out _).mono ?_);rintro _ _ ⟨rfl,rfl⟩)
    |(go_at_call 175;(with_reducible refine (M2.out _).mono ?_);rintro _ _ ⟨rfl,rfl⟩)
    |simp only[add64_0 _ _ k0 o1])
   refine bodyPost_ret (v:=.tuple #[I2 0,.bool false]) ?_ rfl (Ret.of ?_)
   ·simp[results,Tryz.results181,go_sem,hiN,loN]
   ·exact bl_
end
end
end Go.Proofs.YthcjfanigfgckaaGreat
