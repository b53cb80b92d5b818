import Derived.Deep.DrawnRows
import Derived.Test.YthcjfanigfgckaaGreatSHiddenOrder03
set_option linter.unusedVariables false
set_option linter.unusedSimpArgs false
set_option maxRecDepth 100000
set_option maxHeartbeats 16000000
namespace Go.Proofs.YthcjfanigfgckaaGreat
open Go.RowKit
section
section
def mid (p q n d:Int):Int:=if d<1\/n<=0 then p else if d<=n then q else p+(q-p)*n/d
theorem mid_p {p q n d:Int} (h:d<1\/n<=0):mid p q n d=p:=if_pos h
theorem mid_q {p q n d:Int} (h:¬(d<1\/n<=0)) (h2:d<=n):mid p q n d=q:=by unfold mid;rw[if_neg h,if_pos h2]
theorem mid_m {p q n d:Int} (h:¬(d<1\/n<=0)) (h2:¬d<=n):mid p q n d=p+(q-p)*n/d:=by unfold mid;rw[if_neg h,if_neg h2]
theorem part_in {x n d:Int} (n0:0<n) (nd:n<d):(0<=x->0<=x*n/d/\x*n/d<=x)/\(x<=0->x<=x*n/d/\x*n/d<=0):=by
 have dp:0<d:=by omega
 refine ⟨fun h=>⟨?_,?_⟩,fun h=>⟨?_,?_⟩⟩
 ·exact Int.ediv_nonneg (Int.mul_nonneg h (by omega)) (by omega)
 ·have:=Int.mul_le_mul_of_nonneg_left (show n<=d by omega) h;exact Int.le_trans (Int.ediv_le_ediv dp this) (by rw[Int.mul_ediv_cancel _ (by omega)];exact Int.le_refl _)
 ·have:x*d<=x*n:=Int.mul_le_mul_of_nonpos_left h (show n<=d by omega);exact (Int.le_ediv_iff_mul_le dp).2 this
 ·have:x*n<=0:=Int.mul_nonpos_of_nonpos_of_nonneg h (by omega);have:=Int.ediv_le_ediv dp this
  simpa using this
theorem mid_between (p q n d:Int):(p<=q->p<=mid p q n d/\mid p q n d<=q)/\(q<=p->q<=mid p q n d/\mid p q n d<=p):=by
 by_cases h:d<1\/n<=0
 ·rw[mid_p h];omega
 ·by_cases h2:d<=n
  ·rw[mid_q h h2];omega
  ·rw[mid_m h h2];have:=part_in (x:=q-p) (n:=n) (d:=d) (by omega) (by omega);omega
def tame (p:Int):Prop:=-4611686018427387904<=p/\p<=4611686018427387903
theorem mid_any (p q n d:Int) (hp:tame p) (hq:tame q) (hn:sml n) (hd:sml d) (w:World):Calls Tryz.prog 248 #[.int .i64 p,.int .i64 q,.int .i64 n,.int .i64 d] w (Ret (.int .i64 (mid p q n d)) w):=by
 obtain ⟨hd0,hd1⟩:=hd;obtain ⟨hn0,hn1⟩:=hn;obtain ⟨hp0,hp1⟩:=hp;obtain ⟨hq0,hq1⟩:=hq
 by_cases h:d<1\/n<=0
 ·rw[mid_p h]
  go_enter Tryz.func248,Tryz.ntmps248
  go_wp2
  all_goals first
   |(exfalso;omega)
   |(go_ret;exact Ret.of (by exact bl_))
 ·by_cases h2:d<=n
  ·rw[mid_q h h2];have n0:0<n:=by omega
   have d0:1<=d:=by omega
   clear h
   go_enter Tryz.func248,Tryz.ntmps248
   go_wp2;go_ret;exact Ret.of (by exact bl_)
  ·rw[mid_m h h2];have n0:0<n:=by omega
   have d0:1<=d:=by omega
   have nd:n<d:=by omega
   have hs:sml (q-p):=by unfold sml;omega
   have M:=jj (fun w=>mul_any (q-p) n hs ⟨hn0,hn1⟩ w);have D:=jj (fun w=>div_any ((q-p)*n) d (mul_in hs ⟨hn0,hn1⟩) d0 ⟨hd0,hd1⟩ w);have pi:=part_in (x:=q-p) n0 nd;have hy:sml ((q-p)*n/d):=by unfold sml;omega
   have S:=jj (fun w=>small_any ((q-p)*n/d) (sml_in hy) w);rw[smlV_yes hy,show decide (sml ((q-p)*n/d))=true by simp[hy]] at S;have b0:-9223372036854775808<=p+(q-p)*n/d/\p+(q-p)*n/d<=9223372036854775807:=by omega
   obtain ⟨b0,b1⟩:=b0;generalize (q-p)*n/d=Y at *;clear h h2 pi hs hy
   go_enter Tryz.func248,Tryz.ntmps248
   go_wp2_with (first|(go_at_call 117;(with_reducible refine (M.out _).mono ?_);rintro _ _ ⟨rfl,X_,rfl⟩)|(go_at_call 116;(with_reducible refine (D.out _).mono ?_);rintro _ _ ⟨rfl,X_,rfl⟩)|(go_at_call 120;(with_reducible refine (S.out _).mono ?_);rintro _ _ ⟨rfl,X_,rfl⟩))
   go_ret;exact Ret.of (by exact bl_)
theorem mixfn_any (p q n d:Int) (hp:tame p) (hq:tame q) (hn:sml n) (hd:sml d) (bn bd:Nat) (w:World) (h1:Row w bn #[.int .i64 n] 3) (h2:Row w bd #[.int .i64 d] 3) :
  Calls Tryz.prog 247 #[.int .i64 p,.int .i64 q,.pointer (some ⟨bn,0,none⟩),.pointer (some ⟨bd,0,none⟩)] w (Ret (.int .i64 (mid p q n d)) w):=by
 have c1:w.cell? ⟨bn,0,none⟩=some (.int .i64 n):=h1.cell 0;have c2:w.cell? ⟨bd,0,none⟩=some (.int .i64 d):=h2.cell 0;have M:=jj (fun w=>mid_any p q n d hp hq hn hd w)
 go_enter Tryz.func247,Tryz.ntmps247
 go_wp2_with (first|(go_at_call 248;(with_reducible refine (M.out _).mono ?_);rintro _ _ ⟨rfl,X_,rfl⟩))
 go_ret;exact Ret.of (by exact bl_)
abbrev mixV (bn bd:Nat):Value:=.func (.func 247) #[] #[.pointer (some ⟨bn,0,none⟩),.pointer (some ⟨bd,0,none⟩)]
theorem mixer_any (n d:Int) (w:World):Calls Tryz.prog 223 #[.int .i64 n,.int .i64 d] w (fun e w'=>e=.returned (mixV w.heap.size (w.heap.size+1))/\w'=(w.alloc (.cells #[.int .i64 n] 3)).alloc (.cells #[.int .i64 d] 3)):=by
 go_enter Tryz.func223,Tryz.ntmps223
 go_wp2
 trace_state
 go_ret;exact ⟨rfl,rfl⟩
end
section
structure WinP where
 x:Int
 y:Int
 z:Int
 c0:Int
 c1:Int
 c2:Int
 c3:Int
abbrev WinP.v (a:WinP):Value:=.agg #[.int .i64 a.x,.int .i64 a.y,.int .i64 a.z,.int .i64 a.c0,.int .i64 a.c1,.int .i64 a.c2,.int .i64 a.c3]
structure WinP.tame (a:WinP):Prop where
 z:YthcjfanigfgckaaGreat.tame a.z
 c0:YthcjfanigfgckaaGreat.tame a.c0
 c1:YthcjfanigfgckaaGreat.tame a.c1
 c2:YthcjfanigfgckaaGreat.tame a.c2
 c3:YthcjfanigfgckaaGreat.tame a.c3
abbrev mixed (a b:WinP) (n d:Int):Value:=.tuple #[.int .i64 (mid a.z b.z n d),C4 (mid a.c0 b.c0 n d) (mid a.c1 b.c1 n d) (mid a.c2 b.c2 n d) (mid a.c3 b.c3 n d)]
theorem both_any (a b:WinP) (n d:Int) (ha:a.tame) (hb:b.tame) (hn:sml n) (hd:sml d) (bn bd:Nat) (w:World) (h1:Row w bn #[.int .i64 n] 3) (h2:Row w bd #[.int .i64 d] 3) :
  Calls Tryz.prog 222 #[a.v,b.v,mixV bn bd] w (Ret (mixed a b n d) w):=by
 have M:=jj (fun p q hp hq w h1 h2=>mixfn_any p q n d hp hq hn hd bn bd w h1 h2);obtain ⟨az,a0,a1,a2,a3⟩:=ha;obtain ⟨bz,b0,b1,b2,b3⟩:=hb;have H1:=jj h1;have H2:=jj h2;clear h1 h2
 go_enter Tryz.func222,Tryz.ntmps222
 go_wp2;refine wp_loop_rounds 5 ?_
 iterate 4
  rw[rounds_succ];go_wp2;refine wp_region_ext_tail 12 (by kernel_rfl) (by kernel_rfl) ?_;simp only[jx]
  repeat (go_big_quiet_step ((go_at_call 247;(with_reducible refine Calls.quiet_ret (M.out _ _ ?_ ?_ _ ?_ ?_));assumption;assumption;((repeat (first|with_reducible refine Row.ext ?_ _|with_reducible refine Row.alloc ?_ _));exact H1.out);((repeat (first|with_reducible refine Row.ext ?_ _|with_reducible refine Row.alloc ?_ _));exact H2.out))))
  refine wpQuiet_nil ?_;intro _ hw_ext;obtain ⟨X,hw_ext⟩:=hw_ext;subst hw_ext
  go_wp2_with fail
 rw[rounds_succ];go_wp2;refine wp_region_ext_tail 8 (by kernel_rfl) (by kernel_rfl) ?_;simp only[jx]
 repeat (go_big_quiet_step ((go_at_call 247;(with_reducible refine Calls.quiet_ret (M.out _ _ ?_ ?_ _ ?_ ?_));assumption;assumption;((repeat (first|with_reducible refine Row.ext ?_ _|with_reducible refine Row.alloc ?_ _));exact H1.out);((repeat (first|with_reducible refine Row.ext ?_ _|with_reducible refine Row.alloc ?_ _));exact H2.out))))
 refine wpQuiet_nil ?_;intro _ hw_ext;obtain ⟨X,hw_ext⟩:=hw_ext;subst hw_ext;go_wp2;refine bodyPost_ret (v:=mixed a b n d) ?_ rfl (Ret.of ?_)
 ·simp[results,Tryz.results222,go_sem]
 ·exact bl_
end
section
attribute [local go_sem ↓] Go.wp_at_zero Go.wp_at_succ
structure WinP.fits (a:WinP):Prop where
 x0:-268435456<=a.x
 x1:a.x<=268435456
 y0:-268435456<=a.y
 y1:a.y<=268435456
 z0:0<=a.z
 z1:a.z<=16777215
 m:May a.c0 a.c1 a.c2 a.c3
structure Near (x y:Int):Prop where
 x0:-4194304<=x
 x1:x<=4194304
 y0:-4194304<=y
 y1:y<=4194304
theorem WinP.fits.t {a:WinP} (h:a.fits):a.tame:=by
 obtain ⟨-,-,-,-,z0,z1,a0,a1,b0,b1,c0,c1,d0,d1⟩:=h
 constructor<;>unfold YthcjfanigfgckaaGreat.tame<;>omega
def alN (a b:WinP) (x y:Int):Int:=if max (b.x-a.x) (-(b.x-a.x))<max (b.y-a.y) (-(b.y-a.y)) then (if b.y-a.y<0 then -(y*256+128-a.y) else y*256+128-a.y) else (if b.x-a.x<0 then -(x*256+128-a.x) else x*256+128-a.x)
def alD (a b:WinP):Int:=if max (b.x-a.x) (-(b.x-a.x))<max (b.y-a.y) (-(b.y-a.y)) then (if b.y-a.y<0 then -(b.y-a.y) else b.y-a.y) else (if b.x-a.x<0 then -(b.x-a.x) else b.x-a.x)
def acN (a b:WinP) (x y:Int):Int:=(x*256+128-a.x)*(b.x-a.x)+(y*256+128-a.y)*(b.y-a.y)
def acD (a b:WinP):Int:=(b.x-a.x)*(b.x-a.x)+(b.y-a.y)*(b.y-a.y)
theorem along_any (a b:WinP) (x y:Int) (ha:a.fits) (hb:b.fits) (hx:Near x y) (w:World):Calls Tryz.prog 195 #[a.v,b.v,.int .i64 x,.int .i64 y] w (Ret (mixed a b (alN a b x y) (alD a b)) w):=by
 obtain ⟨x0,x1,y0,y1⟩:=hx;have B:=jj (fun n d hn hd bn bd w h1 h2=>both_any a b n d ha.t hb.t hn hd bn bd w h1 h2);obtain ⟨ax0,ax1,ay0,ay1,-,-,-⟩:=ha;obtain ⟨bx0,bx1,by0,by1,-,-,-⟩:=hb;have hN:alN a b x y=if max (b.x-a.x) (-(b.x-a.x))<max (b.y-a.y) (-(b.y-a.y)) then (if b.y-a.y<0 then -(y*256+128-a.y) else y*256+128-a.y) else (if b.x-a.x<0 then -(x*256+128-a.x) else x*256+128-a.x):=rfl
 have hD:alD a b=if max (b.x-a.x) (-(b.x-a.x))<max (b.y-a.y) (-(b.y-a.y)) then (if b.y-a.y<0 then -(b.y-a.y) else b.y-a.y) else (if b.x-a.x<0 then -(b.x-a.x) else b.x-a.x):=rfl
 generalize alN a b x y=n at *;generalize alD a b=d at *;have HN:=jj hN;have HD:=jj hD;have sn:sml n:=by unfold sml;rw[hN];repeat (split<;>try omega)
 have sd:sml d:=by unfold sml;rw[hD];repeat (split<;>try omega)
 clear hN hD
 go_enter Tryz.func195,Tryz.ntmps195
 go_wp2;refine wp_region_ext (by kernel_rfl) (by kernel_rfl) ?_
 repeat (go_big_quiet_step ((fail)))
 refine wpQuiet_nil ?_;intro _ hw_ext;obtain ⟨X,hw_ext⟩:=hw_ext;subst hw_ext;go_wp2
 all_goals
  have e1:=HN.out;have e2:=HD.out
  repeat (first|rw[if_pos (by assumption)] at e1|rw[if_neg (by omega)] at e1)
  repeat (first|rw[if_pos (by assumption)] at e2|rw[if_neg (by omega)] at e2)
  subst e1 e2;clear HN HD
  go_region_held3 (fun w'=>w'.cell? ⟨w.heap.size,0,none⟩=some (.int .i64 a.x)/\w'.cell? ⟨w.heap.size,1,none⟩=some (.int .i64 a.y)/\w'.cell? ⟨w.heap.size,2,none⟩=some (.int .i64 a.z)/\w'.cell? ⟨w.heap.size,3,none⟩=some (.int .i64 a.c0)/\w'.cell? ⟨w.heap.size,4,none⟩=some (.int .i64 a.c1)/\w'.cell? ⟨w.heap.size,5,none⟩=some (.int .i64 a.c2)/\w'.cell? ⟨w.heap.size,6,none⟩=some (.int .i64 a.c3)/\w'.cell? ⟨w.heap.size+1,0,none⟩=some (.int .i64 b.x)/\w'.cell? ⟨w.heap.size+1,1,none⟩=some (.int .i64 b.y)/\w'.cell? ⟨w.heap.size+1,2,none⟩=some (.int .i64 b.z)/\w'.cell? ⟨w.heap.size+1,3,none⟩=some (.int .i64 b.c0)/\w'.cell? ⟨w.heap.size+1,4,none⟩=some (.int .i64 b.c1)/\w'.cell? ⟨w.heap.size+1,5,none⟩=some (.int .i64 b.c2)/\w'.cell? ⟨w.heap.size+1,6,none⟩=some (.int .i64 b.c3)) (go_simp)
   (first
    |(go_at_call 223;(with_reducible refine (mixer_any _ _ _).mono ?_);rintro _ _ ⟨rfl,rfl⟩)
    |(go_at_call 222;(with_reducible refine (B.out _ _ sn sd _ _ _ ?_ ?_).mono ?_);(refine Row.alloc (row_last ?_) _;simp);(refine row_last ?_;simp);rintro _ _ ⟨rfl,X_,rfl⟩))
  go_wp2;refine bodyPost_ret (v:=mixed a b _ _) (by simp[results,Tryz.results195,go_sem]) rfl (Ret.of (by exact bl_))
theorem mul_bds {u v U V:Int} (hU:0<=U) (hV:0<=V) (u0:-U<=u) (u1:u<=U) (v0:-V<=v) (v1:v<=V):-(U*V)<=u*v/\u*v<=U*V:=by
 have h1:=Int.mul_nonneg (show 0<=U-u by omega) (show 0<=V-v by omega);have h2:=Int.mul_nonneg (show 0<=U+u by omega) (show 0<=V+v by omega);have h3:=Int.mul_nonneg (show 0<=U-u by omega) (show 0<=V+v by omega);have h4:=Int.mul_nonneg (show 0<=U+u by omega) (show 0<=V-v by omega);have e1:(U-u)*(V-v)=U*V-U*v-u*V+u*v:=by grind
 have e2:(U+u)*(V+v)=U*V+U*v+u*V+u*v:=by grind
 have e3:(U-u)*(V+v)=U*V+U*v-u*V-u*v:=by grind
 have e4:(U+u)*(V-v)=U*V-U*v+u*V-u*v:=by grind
 constructor<;>omega
end
section
def WinP.fitsP (a:WinP):Prop:=(0<=a.c0/\a.c0<=255)/\(0<=a.c1/\a.c1<=255)/\(0<=a.c2/\a.c2<=255)/\(0<=a.c3/\a.c3<=255)/\(-268435456<=a.x/\a.x<=268435456)/\(-268435456<=a.y/\a.y<=268435456)/\0<=a.z/\a.z<=16777215
instance (a : WinP) : Decidable a.fitsP := by unfold WinP.fitsP; exact inferInstance
theorem WinP.fitsP.f {a:WinP} (h:a.fitsP):a.fits:=by
 obtain ⟨⟨a0,a1⟩,⟨b0,b1⟩,⟨c0,c1⟩,⟨d0,d1⟩,⟨x0,x1⟩,⟨y0,y1⟩,z0,z1⟩:=h;exact ⟨x0,x1,y0,y1,z0,z1,⟨a0,a1,b0,b1,c0,c1,d0,d1⟩⟩
def nearP (x y:Int):Prop:=(-4194304<=x/\x<=4194304)/\-4194304<=y/\y<=4194304
instance (x y : Int) : Decidable (nearP x y) := by unfold nearP; exact inferInstance
theorem nearP.f {x y:Int} (h:nearP x y):Near x y:=⟨h.1.1,h.1.2,h.2.1,h.2.2⟩
end
end
end Go.Proofs.YthcjfanigfgckaaGreat
