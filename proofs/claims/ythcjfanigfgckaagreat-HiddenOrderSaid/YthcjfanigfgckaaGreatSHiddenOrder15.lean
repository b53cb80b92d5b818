import Derived.Deep.RegionLaw
import Derived.Deep.RegionLawGrows
import Derived.Test.YthcjfanigfgckaaGreatSHiddenOrder06
set_option linter.unusedVariables false
set_option linter.unusedSimpArgs false
set_option maxRecDepth 100000
set_option maxHeartbeats 16000000
namespace Go.Proofs.YthcjfanigfgckaaGreat
open Go.RowKit
section
end
section
end
section
abbrev M4 (a b c d:Bool):Value:=.agg #[.bool a,.bool b,.bool c,.bool d]
@[go_sem] theorem indexM_0 (a b c d:Bool) (w:World):(Instr.index 112 (M4 a b c d) (.int .i64 0)).run Tryz.prog w=.ok (.bool a) w:=by kernel_rfl
@[go_sem] theorem indexM_1 (a b c d:Bool) (w:World):(Instr.index 112 (M4 a b c d) (.int .i64 1)).run Tryz.prog w=.ok (.bool b) w:=by kernel_rfl
@[go_sem] theorem indexM_2 (a b c d:Bool) (w:World):(Instr.index 112 (M4 a b c d) (.int .i64 2)).run Tryz.prog w=.ok (.bool c) w:=by kernel_rfl
@[go_sem] theorem indexM_3 (a b c d:Bool) (w:World):(Instr.index 112 (M4 a b c d) (.int .i64 3)).run Tryz.prog w=.ok (.bool d) w:=by kernel_rfl
theorem bits_any (m0 m1 m2 m3:Bool) (w:World):Calls Tryz.prog 209 #[M4 m0 m1 m2 m3] w (Ret (.int .i64 (mk m0 m1 m2 m3)) w):=by
 cases m0<;>cases m1<;>cases m2<;>cases m3
 all_goals
  go_enter Tryz.func209,Tryz.ntmps209
  go_wp2;refine wp_loop_rounds 5 ?_;rw[rounds_succ];go_wp2;rw[rounds_succ];go_wp2;rw[rounds_succ];go_wp2;rw[rounds_succ];go_wp2;rw[rounds_succ];go_wp2;go_ret;exact Ret.of' (by kernel_rfl) (by exact bl_)
end
section
theorem in_no (W H x y:Int) (b:Nat) (w:World) (w0:1<=W) (w1:W<=1024) (h0:1<=H) (h1:H<=1024) (bx0:-9223372036854775808<=x) (bx1:x<=9223372036854775807) (by0:-9223372036854775808<=y) (by1:y<=9223372036854775807)
  (hi:¬inB W H x y) (cw:w.cell? ⟨b,0,none⟩=some (.int .i64 W)) (ch:w.cell? ⟨b,1,none⟩=some (.int .i64 H)) :
  Calls Tryz.prog 206 #[.pointer (some ⟨b,0,none⟩),.int .i64 x,.int .i64 y] w (Still (.bool false) w):=by
 by_cases x0:0<=x
 ·by_cases x1:x<W
  ·by_cases y0:0<=y
   ·have y1:¬y<H:=fun y1=>hi ⟨x0,x1,y0,y1⟩
    clear hi
    go_enter Tryz.func206,Tryz.ntmps206
    go_wp2;go_ret;exact ⟨by simp,rfl⟩
   ·have y1:decide (IntKind.u64.wrap y<H)=false:=by rw[decide_eq_false_iff_not,IntKind.wrap_u64];omega
    clear hi y0
    go_enter Tryz.func206,Tryz.ntmps206
    go_wp2;go_ret;exact ⟨rfl,rfl⟩
  ·clear hi
   go_enter Tryz.func206,Tryz.ntmps206
   go_wp2;go_ret;exact ⟨rfl,rfl⟩
 ·have x1:decide (IntKind.u64.wrap x<W)=false:=by rw[decide_eq_false_iff_not,IntKind.wrap_u64];omega
  clear hi x0
  go_enter Tryz.func206,Tryz.ntmps206
  go_wp2;go_ret;exact ⟨rfl,rfl⟩
def mixN (v x y z t:Int) (m0 m1 m2 m3:Bool):Int:=pk (if m0 then x else up0 v) (if m1 then y else up1 v) (if m2 then z else up2 v) (if m3 then t else up3 v)
theorem mix_may (v x y z t:Int) (m0 m1 m2 m3:Bool) (k:May x y z t):May (if m0 then x else up0 v) (if m1 then y else up1 v) (if m2 then z else up2 v) (if m3 then t else up3 v):=by
 obtain ⟨a0,a1,b0,b1,c0,c1,d0,d1⟩:=up_may v;obtain ⟨x0,x1,y0,y1,z0,z1,t0,t1⟩:=k
 constructor<;>split<;>assumption
structure Wr (w:World) (bm pc pz oc oz cc cz n:Nat) (W H:Int) (x y:Int):Prop where
 w0:1<=W
 w1:W<=1024
 h0:1<=H
 h1:H<=1024
 c0:w.cell? ⟨bm,0,none⟩=some (.int .i64 W)
 c1:w.cell? ⟨bm,1,none⟩=some (.int .i64 H)
 c2:w.cell? ⟨bm,2,none⟩=some (.slice (some ⟨pc,oc,none⟩) n cc)
 c3:w.cell? ⟨bm,3,none⟩=some (.slice (some ⟨pz,oz,none⟩) n cz)
 n0:(n:Int)=W*H
 bm:bm<w.heap.size
 pc:pc<w.heap.size
 pz:pz<w.heap.size
theorem put_in (bm pc pz oc oz cc cz n:Nat) (W H x y:Int) (a b c d v:Int) (m0 m1 m2 m3:Bool) (w:World) (h:Wr w bm pc pz oc oz cc cz n W H x y) (hi:inB W H x y) (k:May a b c d) (v0:0<=v) (v1:v<=4294967295)
  (hc:w.cell? ⟨pc,oc+(y*W+x).toNat,none⟩=some (.int .i64 v)) (hf:w.frozen? ⟨pc,oc+(y*W+x).toNat,none⟩=false) :
  Calls Tryz.prog 162 #[.pointer (some ⟨bm,0,none⟩),.int .i64 x,.int .i64 y,C4 a b c d,M4 m0 m1 m2 m3] w (Ret (.bool true) (w.setCell ⟨pc,oc+(y*W+x).toNat,none⟩ (.int .i64 (mixN v a b c d m0 m1 m2 m3)))):=by
 obtain ⟨w0,w1,h0,h1,c0,c1,c2,c3,hn,lbm,lpc,lpz⟩:=h;have HI:=hi;obtain ⟨x0,x1,y0,y1⟩:=hi;obtain ⟨q0,q1⟩:=ix_in x0 x1 y0 y1;obtain ⟨a0,a1⟩:=area_01 w0 w1 h0 h1;have q3:0<=y*W+x:=by omega
 have n1:y*W+x<n:=by omega
 have n3:n<=1048576:=by omega
 have lbm':bm<=w.heap.size:=by omega
 have lpc':pc<=w.heap.size:=by omega
 have hput:bits .or .i64 (bits .andNot .i64 v (mk m0 m1 m2 m3)) (bits .and .i64 (pk a b c d) (mk m0 m1 m2 m3))=mixN v a b c d m0 m1 m2 m3:=by
  have:=put_bits (up_may v) k m0 m1 m2 m3
  rwa [pk_up v0 v1] at this
 clear hn
 go_enter Tryz.func162,Tryz.ntmps162
 go_wp2_with (first|(go_at_call 206;(with_reducible refine (in_yes W H x y bm _ w0 w1 h0 h1 HI ?_ ?_).mono ?_);go_simp;go_simp;rintro _ _ ⟨rfl,rfl⟩))
 refine wp_region_ext (by kernel_rfl) (by kernel_rfl) ?_
 repeat (go_big_quiet_step ((first|(go_at_call 209;with_reducible exact Calls.quiet_ret (bits_any m0 m1 m2 m3 _)))))
 refine wpQuiet_nil ?_;intro _ hw_ext;obtain ⟨X,hw_ext⟩:=hw_ext;subst hw_ext;go_wp2;refine wp_region_ext_tail 12 (by kernel_rfl) (by kernel_rfl) ?_;simp only[jx]
 repeat (go_big_quiet_step ((first|(go_at_call 210;with_reducible exact Calls.quiet_ret (pack_any _ _ _ _ k _)))))
 refine wpQuiet_nil ?_;intro _ hw_ext;obtain ⟨Y,hw_ext⟩:=hw_ext;subst hw_ext;go_wp2;go_ret;exact Ret.of (by exact bl_)
theorem deep_in (bm pc pz oc oz cc cz n:Nat) (W H x y:Int) (u v:Int) (w:World) (h:Wr w bm pc pz oc oz cc cz n W H x y) (hi:inB W H x y)
  (hc:w.cell? ⟨pz,oz+(y*W+x).toNat,none⟩=some (.int .i64 v)) (hf:w.frozen? ⟨pz,oz+(y*W+x).toNat,none⟩=false) :
  Calls Tryz.prog 163 #[.pointer (some ⟨bm,0,none⟩),.int .i64 x,.int .i64 y,.int .i64 u] w (Ret (.bool true) (w.setCell ⟨pz,oz+(y*W+x).toNat,none⟩ (.int .i64 u))):=by
 obtain ⟨w0,w1,h0,h1,c0,c1,c2,c3,hn,lbm,lpc,lpz⟩:=h;have HI:=hi;obtain ⟨x0,x1,y0,y1⟩:=hi;obtain ⟨q0,q1⟩:=ix_in x0 x1 y0 y1;obtain ⟨a0,a1⟩:=area_01 w0 w1 h0 h1;have q3:0<=y*W+x:=by omega
 have n1:y*W+x<n:=by omega
 have n3:n<=1048576:=by omega
 have lbm':bm<=w.heap.size:=by omega
 have lpc':pc<=w.heap.size:=by omega
 clear hn
 go_enter Tryz.func163,Tryz.ntmps163
 go_wp2_with (first|(go_at_call 206;(with_reducible refine (in_yes W H x y bm _ w0 w1 h0 h1 HI ?_ ?_).mono ?_);go_simp;go_simp;rintro _ _ ⟨rfl,rfl⟩))
 go_region
 all_goals go_wp2
 all_goals go_ret
 all_goals exact Ret.of (by exact bl_)
end
section
theorem put_no (bm pc pz oc oz cc cz n:Nat) (W H x y:Int) (a b c d:Int) (m0 m1 m2 m3:Bool) (w:World) (h:Wr w bm pc pz oc oz cc cz n W H x y) (bx0:-9223372036854775808<=x) (bx1:x<=9223372036854775807) (by0:-9223372036854775808<=y) (by1:y<=9223372036854775807) (hi:¬inB W H x y) :
  Calls Tryz.prog 162 #[.pointer (some ⟨bm,0,none⟩),.int .i64 x,.int .i64 y,C4 a b c d,M4 m0 m1 m2 m3] w (Ret (.bool false) w):=by
 obtain ⟨w0,w1,h0,h1,c0,c1,c2,c3,hn,lbm,lpc,lpz⟩:=h;have HI:=jj hi;have lbm':bm<=w.heap.size:=by omega
 clear hn hi
 go_enter Tryz.func162,Tryz.ntmps162
 go_wp2_with (first|(go_at_call 206;(with_reducible refine (in_no W H x y bm _ w0 w1 h0 h1 bx0 bx1 by0 by1 HI.out ?_ ?_).mono ?_);go_simp;go_simp;rintro _ _ ⟨rfl,rfl⟩))
 go_ret;exact Ret.of (by exact bl_)
theorem deep_no (bm pc pz oc oz cc cz n:Nat) (W H x y:Int) (u:Int) (w:World) (h:Wr w bm pc pz oc oz cc cz n W H x y) (bx0:-9223372036854775808<=x) (bx1:x<=9223372036854775807) (by0:-9223372036854775808<=y) (by1:y<=9223372036854775807) (hi:¬inB W H x y) :
  Calls Tryz.prog 163 #[.pointer (some ⟨bm,0,none⟩),.int .i64 x,.int .i64 y,.int .i64 u] w (Ret (.bool false) w):=by
 obtain ⟨w0,w1,h0,h1,c0,c1,c2,c3,hn,lbm,lpc,lpz⟩:=h;have HI:=jj hi;have lbm':bm<=w.heap.size:=by omega
 clear hn hi
 go_enter Tryz.func163,Tryz.ntmps163
 go_wp2_with (first|(go_at_call 206;(with_reducible refine (in_no W H x y bm _ w0 w1 h0 h1 bx0 bx1 by0 by1 HI.out ?_ ?_).mono ?_);go_simp;go_simp;rintro _ _ ⟨rfl,rfl⟩))
 go_ret;exact Ret.of (by exact bl_)
end
section
theorem cell_one_at {w:World} {n:Nat} (h:w.heap.size=n) (x:Value) (t:TypeId):∀ j u,[x][j]?=some u->(w.alloc (.cells #[x] t)).cell? ((⟨n,0,none⟩:Addr).add j)=some u:=by
 subst h;exact cell_one_new _ _ _
theorem rnew_ok (W H:Int) (n:Nat) (w:World) (w0:1<=W) (w1:W<=1024) (h0:1<=H) (h1:H<=1024) (hn:W*H=n) :
  Calls Tryz.prog 69 #[.int .i64 W,.int .i64 H] w (Makes W H (List.replicate n 0) (List.replicate n 16777215) (fun m=>.tuple #[m,.int .i64 0]) w):=by
 obtain ⟨a0,a1⟩:=area_01 w0 w1 h0 h1;have n0:1<=n:=by omega
 have n1:n<=1048576:=by omega
 obtain ⟨i0,hi,hz0,hz1,hz2⟩:=info_parts info_int;have d1:decide (W<1)=false:=by simp;omega
 have d2:decide (1024<W)=false:=by simp;omega
 have d3:decide (H<1)=false:=by simp;omega
 have d4:decide (1024<H)=false:=by simp;omega
 go_enter Tryz.func69,Tryz.ntmps69
 go_wp2;go_loopw [7] (fun i wr=>∃ (k:Nat) (vc vz:Value),k<=n/\i=.int .i64 k/\Grow (w.alloc (.cells #[.int .i64 0,.int .i64 0,.slice none 0 0,.slice none 0 0] 54)) wr (w.heap.size+1) W H vc vz k k)
  (fun i _=>n-(intOf i).toNat)
 case atStart =>
  refine ⟨0,_,_,by omega,rfl,⟨by exact bl_,by simp,?_,World.ownsRow_nil _ _ _ _,World.ownsRow_nil _ _ _ _,by simp[Value.ownBlock]⟩⟩;unfold Row;simp only[World.hp_alloc,World.hp_drew,Array.getElem?_push,Array.size_push];simp
 case round =>
  obtain ⟨k,vc,vz,hk,rfl,G⟩:=hrel;have c2:=G.row.cell 2;have c3:=G.row.cell 3;simp at c2 c3;have hsz:=G.bel.size
  by_cases hlt:k<n
  ·go_upto_region 8 with (first
    |(at_builtin;refine wpList_append_lies _ rfl _ _ 52 rfl (w.heap.size+1+1) 3 i0 (.int .i64 0) 1 8 Tryz.underlying52 hi hz0 hz1 hz2 rfl (by decide) _ _ _ rfl (G.oc.alloc _) ⟨wr.heap.size,0,none⟩ 1 1 [.int .i64 0] rfl rfl (cell_one_new _ _ _) (fun x hx=>by simp at hx;subst hx;rfl) (by omega) (by unfold maxLen;omega) (by omega) (by simp;simp at hsz;omega) (wr.heap.size+1) (by simp) ?_;intro g cap w3 hown hgrow hat hlt3;obtain ⟨r3,G3⟩:=G.c hown hgrow hat;have e2:=r3.cell 2;have e3:=r3.cell 3;have f2:=r3.frozen 2;have f3:=r3.frozen 3;have t3:=G3.row.cell 3;have hsz3:=G3.bel.size;simp at e2 e3 t3;clear c2 c3 r3))
   have hsw:∀ v,(w3.setCell ⟨w.heap.size+1,2,none⟩ v).heap.size=w3.heap.size:=fun v=>by simp[World.setCell]
   go_wp2_with (first
    |(at_builtin;refine wpList_append_lies _ rfl _ _ 52 rfl (w.heap.size+1+1) 3 i0 (.int .i64 0) 1 8 Tryz.underlying52 hi hz0 hz1 hz2 rfl (by decide) _ _ _ rfl (G3.oz.alloc _) ⟨w3.heap.size,0,none⟩ 1 1 [.int .i64 16777215] rfl rfl (cell_one_at (hsw _) _ _) (fun x hx=>by simp at hx;subst hx;rfl) (by omega) (by unfold maxLen;omega) (by omega) (by simp;simp at hsz3;omega) (w3.heap.size+1) (by simp) ?_;intro g4 cap4 w4 hown4 hgrow4 hat4 hlt4;obtain ⟨r4,G4⟩:=G3.z hown4 hgrow4 (by rw[hsw];exact hat4);have e4:=r4.cell 3;have f4:=r4.frozen 3;simp at e4;clear e2 e3 t3 r4))
   go_roundw
   case rel=>exact ⟨k+1,_,_,by omega,by go_num,G4⟩
   case measure=>simp[intOf];omega
  ·obtain rfl:k=n:=by omega
   have c0:=G.row.cell 0;have c1:=G.row.cell 1;simp at c0 c1;obtain ⟨gc,capc,rfl,-,-⟩:=G.oc.form (by omega);obtain ⟨gz,capz,rfl,-,-⟩:=G.oz.form (by omega);have oc:=G.oc;have oz:=G.oz;obtain ⟨X,rfl⟩:=G.bel.toExt;have sw:=grown_swap (w:=w) (o:=.cells #[.int .i64 0,.int .i64 0,.slice none 0 0,.slice none 0 0] 54) (o':=.cells #[.int .i64 W,.int .i64 H,.slice (some ⟨gc,0,none⟩) k capc,.slice (some ⟨gz,0,none⟩) k capz] 54) (X:=X);have oc':=oc.kept sw (.inr fun e=>by have:=(oc.lt _ e).1;omega);have oz':=oz.kept sw (.inr fun e=>by have:=(oz.lt _ e).1;omega);clear G oc oz sw;go_wp2;refine bodyPost_ret (v:=.tuple #[Im W H (.slice (some ⟨gc,0,none⟩) k capc) (.slice (some ⟨gz,0,none⟩) k capz),.int .i64 0]) (by simp[results,Tryz.results69,go_sem]) rfl ?_;refine ⟨_,_,rfl,jz (by exact bl_),rd_own (l:=List.replicate k 0) (by simpa using oc') ?_,rd_own (l:=List.replicate k 16777215) (by simpa using oz') ?_⟩
   ·intro z hz;rw[List.eq_of_mem_replicate hz];decide
   ·intro z hz;rw[List.eq_of_mem_replicate hz];decide
end
section
theorem row_grown {w w':World} {p:Nat} {c:Array Value} {T:TypeId} (h:Row w p c T) (hg:w.grownBy w' none):Row w' p c T:=by
 unfold Row;rw[hg.block p h.lt (by simp)];exact h
def Laid (w:World) (W H:Int) (n:Nat) (nc nz:List Value) (wx:World):Prop :=
 ∃ g1 k1 g2 k2:Nat,Below w.heap.size w wx/\Row wx w.heap.size #[.int .i64 W,.int .i64 H,sl g1 n k1,sl g2 n k2] 54/\Row wx (w.heap.size+1) #[.int .i64 0,.int .i64 0,.slice none 0 0,.slice none 0 0] 54 /\
  wx.ownsRow (w.heap.size+2) 3 1 (sl g1 n k1) n nc/\wx.ownsRow (w.heap.size+2) 3 1 (sl g2 n k2) n nz/\g1≠g2
theorem owns_rebase {w:World} {q q' g n k:Nat} {e:TypeId} {xs:List Value} (h:w.ownsRow q e 1 (sl g n k) n xs) (hq:q'<=g):w.ownsRow q' e 1 (sl g n k) n xs:=by
 obtain ⟨h1,h2⟩:=h;refine ⟨h1,?_⟩;rcases h2 with ⟨h2,h3⟩|⟨g',c',cur,e',h4,h5⟩
 ·cases h2
 ·obtain ⟨rfl,rfl⟩:g=g'/\k=c':=by simpa using e'
  exact .inr ⟨g,k,cur,rfl,hq,h5⟩
theorem laid_mk {w w2:World} {W H:Int} {n q1 q2 g1 k1 g2 k2:Nat} {nc nz:List Value} {c z:Value} (B2:Below w.heap.size w w2) (R2:Row w2 w.heap.size #[.int .i64 W,.int .i64 H,c,z] 54) (S2:Row w2 (w.heap.size+1) #[.int .i64 0,.int .i64 0,.slice none 0 0,.slice none 0 0] 54)
  (O1:w2.ownsRow q1 3 1 (sl g1 (0+n) k1) (0+n) ([]++nc)) (O2:w2.ownsRow q2 3 1 (sl g2 (0+n) k2) (0+n) ([]++nz)) (b1:w.heap.size+2<=g1) (b2:w.heap.size+2<=g2) (ne:g1≠g2) :
  Laid w W H n nc nz ((w2.setCell ⟨w.heap.size,2,none⟩ (sl g1 n k1)).setCell ⟨w.heap.size,3,none⟩ (sl g2 n k2)):=by
 rw[Nat.zero_add,List.nil_append] at O1 O2;have P1:=owns_rebase (q':=w.heap.size+2) O1 b1;have P2:=owns_rebase (q':=w.heap.size+2) O2 b2;have kp:∀ (w':World) (k:Nat) (v:Value) (g kk:Nat) (xs:List Value),w.heap.size+2<=g->w'.ownsRow (w.heap.size+2) 3 1 (sl g n kk) n xs->(w'.setCell ⟨w.heap.size,k,none⟩ v).ownsRow (w.heap.size+2) 3 1 (sl g n kk) n xs:=fun w' k v g kk xs hg h =>
  h.kept (grown_set _ _ _ _) (.inr (by simp[Value.ownBlock];omega))
 refine ⟨g1,k1,g2,k2,(B2.setCell (Nat.le_refl _) _).setCell (Nat.le_refl _) _,?_,(S2.other (by omega) _ _).other (by omega) _ _,kp _ _ _ _ _ _ b1 (kp _ _ _ _ _ _ b1 P1),kp _ _ _ _ _ _ b2 (kp _ _ _ _ _ _ b2 P2),ne⟩;have:=(R2.set 2 (sl g1 n k1)).set 3 (sl g2 n k2)
 simpa using this
def Copied (W H:Int) (n:Nat) (nc nz:List Value) (w:World) (e:Ending) (w':World):Prop :=
 ∃ g1 k1 g2 k2:Nat,e=.returned (Im W H (sl g1 n k1) (sl g2 n k2))/\(∃ X,w'=w.ext X)/\w'.ownsRow (w.heap.size+2) 3 1 (sl g1 n k1) n nc/\w'.ownsRow (w.heap.size+2) 3 1 (sl g2 n k2) n nz/\g1≠g2
theorem rcopy_any (W H : Int) (b off cap b' off' cap' n : Nat) (nc nz : List Value) (w : World) (n0 : 1 ≤ n) (n1 : n ≤ 1048576) (hb : b < w.heap.size) (hb' : b' < w.heap.size)
    (hl : nc.length = n * 1) (hl' : nz.length = n * 1) (ho : ∀ u ∈ nc, u.oneCell' = true) (ho' : ∀ u ∈ nz, u.oneCell' = true)
    (HC : ∀ W, Below w.heap.size w W → ∀ j u, nc[j]? = some u → W.cell? ((⟨b, off, none⟩ : Addr).add j) = some u)
    (HZ : ∀ W, Below w.heap.size w W → ∀ j u, nz[j]? = some u → W.cell? ((⟨b', off', none⟩ : Addr).add j) = some u) :
    Calls Tryz.prog 30 #[Im W H (.slice (some ⟨b, off, none⟩) n cap) (.slice (some ⟨b', off', none⟩) n cap')] w (Copied W H n nc nz w) := by
  obtain ⟨i0, hi, hz0, hz1, hz2⟩ := info_parts info_int
  have K1 := jj HC
  have K2 := jj HZ
  have hn1 : n ≤ maxLen := by unfold maxLen; omega
  clear HC HZ
  go_enter Tryz.func30, Tryz.ntmps30
  go_upto_region 1 with fail
  go_cut [] (fun wx => Laid w W H n nc nz wx)
  case first =>
    go_region_law (first
      | (refine step_append_grows rfl (.tmp 3) (.tmp 5) 52 rfl 3 i0 (.int .i64 0) 1 8 Tryz.underlying52 hi hz0 hz1 hz2 rfl (by decide) _ 0 0 [] rfl ?_ rfl ?_ ⟨b, off, none⟩ n cap nc rfl hl ?_ ho (by omega) (by omega) (by omega) ?_
         · intro h; cases h
         · intro _ _ j u h; simp at h
         · exact K1.out _ (by exact bl_)
         intro v1 w1 hown1 hgrow1
         have B1 : Below w.heap.size w w1 := Below.grown (w := _) (by exact bl_) hgrow1 (by simp; omega) (by simp)
         have R1 : Row w1 w.heap.size #[.int .i64 W, .int .i64 H, .slice (some ⟨b, off, none⟩) n cap, .slice (some ⟨b', off', none⟩) n cap'] 54 := row_grown (by exact ra_) hgrow1
         have S1 : Row w1 (w.heap.size + 1) #[.int .i64 0, .int .i64 0, .slice none 0 0, .slice none 0 0] 54 := row_grown (by exact ra_) hgrow1
         have z1 := hgrow1.size
         obtain ⟨g1, k1, rfl, hg1, hg1'⟩ := hown1.form (by omega)
         have y1 : w.heap.size < w1.heap.size := R1.lt
         have y1' : w.heap.size ≤ w1.heap.size := by omega
         have e13 := R1.cell 3
         simp at e13 z1 hg1
         clear hgrow1)
      | (refine step_append_grows rfl (.tmp 7) (.tmp 9) 52 rfl 3 i0 (.int .i64 0) 1 8 Tryz.underlying52 hi hz0 hz1 hz2 rfl (by decide) _ 0 0 [] rfl ?_ rfl ?_ ⟨b', off', none⟩ n cap' nz rfl hl' ?_ ho' (by omega) (by omega) (by omega) ?_
         · intro h; cases h
         · intro _ _ j u h; simp at h
         · exact K2.out _ (by (repeat (first | assumption | with_reducible refine Below.drew ?_ | with_reducible refine Below.alloc ?_ (by first | omega | (simp; omega)) _)))
         intro v2 w2 hown2 hgrow2
         have b1s := B1.size
         have B2 : Below w.heap.size w w2 := Below.grown (w := _) (by (repeat (first | assumption | with_reducible refine Below.drew ?_ | with_reducible refine Below.alloc ?_ (by first | omega | (simp; omega)) _))) hgrow2 (by first | omega | (simp; omega)) (by simp)
         have R2 : Row w2 w.heap.size #[.int .i64 W, .int .i64 H, .slice (some ⟨b, off, none⟩) n cap, .slice (some ⟨b', off', none⟩) n cap'] 54 := row_grown (by exact ra_) hgrow2
         have S2 : Row w2 (w.heap.size + 1) #[.int .i64 0, .int .i64 0, .slice none 0 0, .slice none 0 0] 54 := row_grown (by exact ra_) hgrow2
         obtain ⟨q1, O1⟩ : ∃ q, w2.ownsRow q 3 1 (.slice (some ⟨g1, 0, none⟩) (0 + n) k1) (0 + n) ([] ++ nc) := ⟨_, by first | exact hown1.kept hgrow2 (.inr (by simp [Value.ownBlock])) | exact (hown1.alloc _).kept hgrow2 (.inr (by simp [Value.ownBlock]))⟩
         have z2 := hgrow2.size
         obtain ⟨g2, k2, rfl, hg2, hg2'⟩ := hown2.form (by omega)
         have f22 := R2.frozen 2
         have f23 := R2.frozen 3
         have e22 := R2.cell 2
         have e23 := R2.cell 3
         simp at e22 e23 z2 hg2
         clear hgrow2))
    all_goals (go_wp2_with fail; go_meet)
    all_goals (with_reducible refine laid_mk B2 R2 S2 O1 hown2 ?_ ?_ ?_)
    all_goals omega
  case rest =>
    obtain ⟨g1, k1, g2, k2, B, R, S, O1, O2, ne⟩ := hcut
    have c0 := R.cell 0
    have c1 := R.cell 1
    have c2 := R.cell 2
    have c3 := R.cell 3
    have s0 := S.cell 0
    have s1 := S.cell 1
    have s2 := S.cell 2
    have s3 := S.cell 3
    have t0 := S.frozen 0
    have t1 := S.frozen 1
    have t2 := S.frozen 2
    have t3 := S.frozen 3
    simp at c0 c1 c2 c3 s0 s1 s2 s3
    have S4 := (((S.set 0 (.int .i64 W)).set 1 (.int .i64 H)).set 2 (sl g1 n k1)).set 3 (sl g2 n k2)
    simp at S4
    have r0 := S4.cell 0
    have r1 := S4.cell 1
    have r2 := S4.cell 2
    have r3 := S4.cell 3
    simp at r0 r1 r2 r3
    have kp : ∀ (w' : World) (k : Nat) (v : Value) (g kk : Nat) (xs : List Value), w'.ownsRow (w.heap.size + 2) 3 1 (sl g n kk) n xs → (w'.setCell ⟨w.heap.size + 1, k, none⟩ v).ownsRow (w.heap.size + 2) 3 1 (sl g n kk) n xs := fun w' k v g kk xs h =>
      h.kept (grown_set _ _ _ _) (.inr fun e => by have := (h.lt _ e).1; omega)
    have P1 := kp _ 3 (sl g2 n k2) _ _ _ (kp _ 2 (sl g1 n k1) _ _ _ (kp _ 1 (.int .i64 H) _ _ _ (kp _ 0 (.int .i64 W) _ _ _ O1)))
    have P2 := kp _ 3 (sl g2 n k2) _ _ _ (kp _ 2 (sl g1 n k1) _ _ _ (kp _ 1 (.int .i64 H) _ _ _ (kp _ 0 (.int .i64 W) _ _ _ O2)))
    have BB := (((B.setCell (p := ⟨w.heap.size + 1, 0, none⟩) (by simp) (.int .i64 W)).setCell (p := ⟨w.heap.size + 1, 1, none⟩) (by simp) (.int .i64 H)).setCell (p := ⟨w.heap.size + 1, 2, none⟩) (by simp) (sl g1 n k1)).setCell (p := ⟨w.heap.size + 1, 3, none⟩) (by simp) (sl g2 n k2)
    clear O1 O2 kp
    go_wp2
    refine bodyPost_ret (v := Im W H (sl g1 n k1) (sl g2 n k2)) (by simp [results, Tryz.results30, go_sem, r0, r1, r2, r3]) rfl ?_
    exact ⟨g1, k1, g2, k2, rfl, BB.toExt, P1, P2, ne⟩
end
end Go.Proofs.YthcjfanigfgckaaGreat
