import Derived.Test.YthcjfanigfgckaaGreatSHiddenOrder08
import Derived.Test.YthcjfanigfgckaaGreatSHiddenOrder25
set_option linter.unusedVariables false
set_option linter.unusedSimpArgs false
set_option maxRecDepth 100000
set_option maxHeartbeats 16000000
namespace Go.Proofs.YthcjfanigfgckaaGreat
open Go.RowKit
abbrev sdV (p q:WinP):Value:=.agg #[.int .i64 p.x,.int .i64 p.y,.int .i64 (q.x-p.x),.int .i64 (q.y-p.y),.int .i64 (leastS p q)]
theorem floor_t {n d:Int} (hd:0<d):(if n.tmod d<0 then n.tdiv d-1 else n.tdiv d)=n/d:=by
 have h1:=Int.tdiv_mul_add_tmod n d;have h2:=Int.tmod_lt_of_pos n hd;have h3:=Int.tmod_lt_of_pos (-n) hd;rw[Int.neg_tmod] at h3
 split
 ·apply Int.le_antisymm
  ·refine (Int.le_ediv_iff_mul_le hd).2 ?_;rw[Int.sub_mul];omega
  ·have:n/d<n.tdiv d:=(Int.ediv_lt_iff_lt_mul hd).2 (by omega);omega
 ·apply Int.le_antisymm
  ·exact (Int.le_ediv_iff_mul_le hd).2 (by omega)
  ·have:n/d<n.tdiv d+1:=(Int.ediv_lt_iff_lt_mul hd).2 (by rw[Int.add_mul];omega);omega
theorem newSide_any (p q:WinP) (hp:p.fits) (hq:q.fits) (w:World):Calls Tryz.prog 214 #[p.v,q.v] w (Ret (sdV p q) w):=by
 unfold sdV;have e0:leastS p q=if q.y-p.y<0\/(q.y-p.y=0/\q.x-p.x<0) then 0 else 1:=rfl
 obtain ⟨h1,h2,h3,h4,-,-,-⟩:=hp;obtain ⟨k1,k2,k3,k4,-,-,-⟩:=hq;generalize leastS p q=l at *;obtain ⟨W,hW⟩:∃ W,q.x-p.x=W:=⟨_,rfl⟩;obtain ⟨H,hH⟩:∃ W,q.y-p.y=W:=⟨_,rfl⟩;have s1:IntKind.i64.wrap (q.x-p.x)=W:=by rw[hW];exact IntWalk.i64_in _ (by omega)
 have s2:IntKind.i64.wrap (q.y-p.y)=H:=by rw[hH];exact IntWalk.i64_in _ (by omega)
 simp only[hW,hH] at e0;simp only[hW,hH];clear hW hH h1 h2 h3 h4 k1 k2 k3 k4
 by_cases c1:H<0
 ·obtain rfl:l=0:=by rw[e0,if_pos (.inl c1)]
  clear e0
  go_enter Tryz.func214,Tryz.ntmps214
  go_wp2;refine bodyPost_ret (v:=.agg #[.int .i64 p.x,.int .i64 p.y,.int .i64 W,.int .i64 H,.int .i64 0]) (by simp[results,Tryz.results214,go_sem]) rfl (Ret.of (by exact bl_))
 by_cases c2:H=0
 ·subst c2
  by_cases c3:W<0
  ·obtain rfl:l=0:=by rw[e0,if_pos (.inr ⟨rfl,c3⟩)]
   clear e0 c1
   go_enter Tryz.func214,Tryz.ntmps214
   go_wp2;refine bodyPost_ret (v:=.agg #[.int .i64 p.x,.int .i64 p.y,.int .i64 W,.int .i64 0,.int .i64 0]) (by simp[results,Tryz.results214,go_sem]) rfl (Ret.of (by exact bl_))
  ·obtain rfl:l=1:=by rw[e0,if_neg (by omega)]
   clear e0 c1
   go_enter Tryz.func214,Tryz.ntmps214
   go_wp2;refine bodyPost_ret (v:=.agg #[.int .i64 p.x,.int .i64 p.y,.int .i64 W,.int .i64 0,.int .i64 1]) (by simp[results,Tryz.results214,go_sem]) rfl (Ret.of (by exact bl_))
 ·obtain rfl:l=1:=by rw[e0,if_neg (by omega)]
  have c4:(H==0)=false:=by simpa using c2
  clear e0
  go_enter Tryz.func214,Tryz.ntmps214
  go_wp2;refine bodyPost_ret (v:=.agg #[.int .i64 p.x,.int .i64 p.y,.int .i64 W,.int .i64 H,.int .i64 1]) (by simp[results,Tryz.results214,go_sem]) rfl (Ret.of (by exact bl_))
theorem sideAt_any (p q:WinP) (l x y:Int) (hp:p.fits) (hq:q.fits) (hx:Near x y) (w:World):Calls Tryz.prog 215 #[.agg #[.int .i64 p.x,.int .i64 p.y,.int .i64 (q.x-p.x),.int .i64 (q.y-p.y),.int .i64 l],.int .i64 x,.int .i64 y] w (Ret (.int .i64 (ar p q (midP x y))) w):=by
 obtain ⟨h1,h2,h3,h4,-,-,-⟩:=hp;obtain ⟨k1,k2,k3,k4,-,-,-⟩:=hq;obtain ⟨x0,x1,y0,y1⟩:=hx;rw[show ar p q (midP x y)=(q.x-p.x)*(y*256+128-p.y)-(q.y-p.y)*(x*256+128-p.x) from rfl];obtain ⟨W,hW⟩:∃ W,q.x-p.x=W:=⟨_,rfl⟩;obtain ⟨H,hH⟩:∃ H,q.y-p.y=H:=⟨_,rfl⟩;have w1:-536870912<=W/\W<=536870912:=by omega
 have w2:-536870912<=H/\H<=536870912:=by omega
 simp only[hW,hH];clear hW hH;obtain ⟨a,ha⟩:∃ a,p.x=a:=⟨_,rfl⟩;obtain ⟨b,hb⟩:∃ a,p.y=a:=⟨_,rfl⟩;simp only[ha,hb] at *;clear ha hb;have m1:=mul_bds (U:=536870912) (V:=1342177408) (by omega) (by omega) w1.1 w1.2 (show -1342177408<=y*256+128-b by omega) (by omega);have m2:=mul_bds (U:=536870912) (V:=1342177408) (by omega) (by omega) w2.1 w2.2 (show -1342177408<=x*256+128-a by omega) (by omega);have k5:IntKind.i64.wrap (W*(y*256+128-b))=W*(y*256+128-b):=IntWalk.i64_in _ (by omega);have k6:IntKind.i64.wrap (H*(x*256+128-a))=H*(x*256+128-a):=IntWalk.i64_in _ (by omega);have k7:IntKind.i64.wrap (W*(y*256+128-b)-H*(x*256+128-a))=W*(y*256+128-b)-H*(x*256+128-a):=IntWalk.i64_in _ (by omega);clear m1 m2 w1 w2
 go_enter Tryz.func215,Tryz.ntmps215
 go_wp2;go_ret;exact Ret.of (by exact bl_)
theorem tfloor_any (n d:Int) (hd:0<d) (d1:d<=4611686018427387904) (n0:-4611686018427387904<=n) (n1:n<=4611686018427387904) (w:World):Calls Tryz.prog 216 #[.int .i64 n,.int .i64 d] w (Ret (.int .i64 (n/d)) w):=by
 rw[<-floor_t hd];have nz:(d==0)=false:=by simp;omega
 have nz2:¬d=0:=by omega
 have b1:-4611686018427387904<=n.tdiv d/\n.tdiv d<=4611686018427387904:=by
  have:=Int.natAbs_tdiv_le_natAbs n d;omega
 have w1:IntKind.i64.wrap (n.tdiv d)=n.tdiv d:=IntWalk.i64_in _ (by omega);have w2:IntKind.i64.wrap (n.tdiv d-1)=n.tdiv d-1:=IntWalk.i64_in _ (by omega)
 go_enter Tryz.func216,Tryz.ntmps216
 go_wp2
 ·go_ret;exact Ret.of' rfl (by exact bl_)
 ·go_ret;exact Ret.of' rfl (by exact bl_)
theorem first_in (p q:WinP) (y:Int) (hp:p.fits) (hq:q.fits) (hx:Near 0 y):-4611686018427387904<=firstS p q y/\firstS p q y<=4611686018427387904:=by
 have:=(nigh3m hp hq hx).ar;unfold firstS leastS
 split<;>omega
theorem row20_any (p q:WinP) (y f t:Int) (hp:p.fits) (hq:q.fits) (hx:Near 0 y) (w:World):Calls Tryz.prog 179 #[sdV p q,.int .i64 y,.int .i64 f,.int .i64 t] w (Ret (.tuple #[.int .i64 (rowF p q y f),.int .i64 (rowT p q y f t)]) w):=by
 unfold sdV;have AT:=jj (fun w=>sideAt_any p q (leastS p q) 0 y hp hq hx w);obtain ⟨b1,b2⟩:=first_in p q y hp hq hx;have ab:=(nigh3m hp hq hx).ar;have lb:0<=leastS p q/\leastS p q<=1:=by unfold leastS;split<;>omega
 obtain ⟨l0,l1⟩:=lb;unfold rowF rowT;have eF:ar p q (midP 0 y)-leastS p q=firstS p q y:=rfl;obtain ⟨h1,h2,h3,h4,-,-,-⟩:=hp;obtain ⟨k1,k2,k3,k4,-,-,-⟩:=hq;have w1:-536870912<=q.y-p.y/\q.y-p.y<=536870912:=by omega
 obtain ⟨w10,w11⟩:=w1;generalize ar p q (midP 0 y)=n at *;generalize leastS p q=l at *;obtain ⟨F,hF⟩:∃ F,firstS p q y=F:=⟨_,rfl⟩;rw[hF] at eF b1 b2 ⊢;clear hF h1 h2 h3 h4 k1 k2 k3 k4;obtain ⟨W,hW⟩:∃ W,q.x-p.x=W:=⟨_,rfl⟩;obtain ⟨H,hH⟩:∃ H,q.y-p.y=H:=⟨_,rfl⟩;simp only[hW,hH] at *;clear hW hH;obtain ⟨y0,y1⟩:-4194304<=y/\y<=4194304:=⟨hx.y0,hx.y1⟩;have s1:IntKind.i64.wrap (n-l)=F:=by rw[eF];exact IntWalk.i64_in _ (by omega)
 clear eF ab hx
 by_cases c1:0<H
 ·have FL:=jj (fun w=>tfloor_any F (H*256) (by omega) (by omega) b1 b2 w);have n1:-4611686018427387904<=F/(H*256)/\F/(H*256)<=4611686018427387904:=by
   have m:=Int.natAbs_ediv_le_natAbs F (H*256);omega
  rw[if_neg (by omega),if_pos c1];obtain ⟨Q,hQ⟩:∃ Q,F/(H*256)=Q:=⟨_,rfl⟩;rw[hQ] at FL n1 ⊢;obtain ⟨n10,n11⟩:=n1;clear hQ
  go_enter Tryz.func179,Tryz.ntmps179
  go_wp2;refine wp_region_ext (by kernel_rfl) (by kernel_rfl) ?_
  repeat (go_big_quiet_step (((go_at_call 215;with_reducible exact Calls.quiet_ret (AT.out _)))))
  refine wpQuiet_nil ?_;intro _ hw_ext;obtain ⟨X,hw_ext⟩:=hw_ext;subst hw_ext
  go_wp2_with (first|(go_at_call 216;(with_reducible refine (FL.out _).mono ?_);rintro _ _ ⟨rfl,X_,rfl⟩))
  refine bodyPost_ret (v:=.tuple #[.int .i64 (f),.int .i64 (min t (Q+1))]) (by simp[results,Tryz.results179,go_sem]) rfl (Ret.of (by exact bl_))
 ·by_cases c2:H<0
  ·have FL:=jj (fun w=>tfloor_any F (-H*256) (by omega) (by omega) b1 b2 w);have n1:-4611686018427387904<=F/(-H*256)/\F/(-H*256)<=4611686018427387904:=by
    have m:=Int.natAbs_ediv_le_natAbs F (-H*256);omega
   rw[if_pos c2,if_neg c1,if_pos c2];obtain ⟨Q,hQ⟩:∃ Q,F/(-H*256)=Q:=⟨_,rfl⟩;rw[hQ] at FL n1 ⊢;obtain ⟨n10,n11⟩:=n1;clear hQ
   go_enter Tryz.func179,Tryz.ntmps179
   go_wp2;refine wp_region_ext (by kernel_rfl) (by kernel_rfl) ?_
   repeat (go_big_quiet_step (((go_at_call 215;with_reducible exact Calls.quiet_ret (AT.out _)))))
   refine wpQuiet_nil ?_;intro _ hw_ext;obtain ⟨X,hw_ext⟩:=hw_ext;subst hw_ext
   go_wp2_with (first|(go_at_call 216;(with_reducible refine (FL.out _).mono ?_);rintro _ _ ⟨rfl,X_,rfl⟩))
   refine bodyPost_ret (v:=.tuple #[.int .i64 (max f (-Q)),.int .i64 (t)]) (by simp[results,Tryz.results179,go_sem]) rfl (Ret.of (by exact bl_))
  ·obtain rfl:H=0:=by omega
   rw[if_neg c2,if_neg c1,if_neg c2]
   by_cases c3:F<0
   ·rw[if_pos c3]
    go_enter Tryz.func179,Tryz.ntmps179
    go_wp2;refine wp_region_ext (by kernel_rfl) (by kernel_rfl) ?_
    repeat (go_big_quiet_step (((go_at_call 215;with_reducible exact Calls.quiet_ret (AT.out _)))))
    refine wpQuiet_nil ?_;intro _ hw_ext;obtain ⟨X,hw_ext⟩:=hw_ext;subst hw_ext;go_wp2;refine bodyPost_ret (v:=.tuple #[.int .i64 (f),.int .i64 (f)]) (by simp[results,Tryz.results179,go_sem]) rfl (Ret.of (by exact bl_))
   ·rw[if_neg c3]
    go_enter Tryz.func179,Tryz.ntmps179
    go_wp2;refine wp_region_ext (by kernel_rfl) (by kernel_rfl) ?_
    repeat (go_big_quiet_step (((go_at_call 215;with_reducible exact Calls.quiet_ret (AT.out _)))))
    refine wpQuiet_nil ?_;intro _ hw_ext;obtain ⟨X,hw_ext⟩:=hw_ext;subst hw_ext;go_wp2;refine bodyPost_ret (v:=.tuple #[.int .i64 (f),.int .i64 (t)]) (by simp[results,Tryz.results179,go_sem]) rfl (Ret.of (by exact bl_))
def SidesR (a b c:WinP) (w:World) (e:Ending) (w':World):Prop :=
 ∃ g,e=.returned (.slice (some ⟨g,0,none⟩) 3 3)/\(∃ X,w'=w.ext X)/\w.heap.size<=g/\Row w' g #[.int .i64 a.x,.int .i64 a.y,.int .i64 (b.x-a.x),.int .i64 (b.y-a.y),.int .i64 (leastS a b),.int .i64 b.x,.int .i64 b.y,.int .i64 (c.x-b.x),.int .i64 (c.y-b.y),.int .i64 (leastS b c),.int .i64 c.x,.int .i64 c.y,.int .i64 (a.x-c.x),.int .i64 (a.y-c.y),.int .i64 (leastS c a)] 210
theorem sides_no (a b c:WinP) (ha:a.fits) (hb:b.fits) (hc:c.fits) (h:ar a b c=0) (w:World):Calls Tryz.prog 178 #[a.v,b.v,c.v] w (Ret (.slice none 0 0) w):=by
 have A:=jj (fun w=>h▸area_any a b c (nigh3 ha hb hc) w);clear ha hb hc h
 go_enter Tryz.func178,Tryz.ntmps178
 go_wp2_with (first|(go_at_call 57;(with_reducible refine (A.out _).mono ?_);rintro _ _ ⟨rfl,X_,rfl⟩))
 go_ret;exact Ret.of (by exact bl_)
theorem sides_any (a b c:WinP) (ha:a.fits) (hb:b.fits) (hc:c.fits) (h:ar a b c≠0) (w:World):Calls Tryz.prog 178 #[a.v,b.v,c.v] w (SidesR a (triB a b c) (triC a b c) w):=by
 have A:=jj (fun w=>area_any a b c (nigh3 ha hb hc) w);obtain ⟨fb,fc⟩:=triB_fits (a:=a) hb hc;have N1:=jj (fun w=>newSide_any a (triB a b c) ha fb w);have N2:=jj (fun w=>newSide_any (triB a b c) (triC a b c) fb fc w);have N3:=jj (fun w=>newSide_any (triC a b c) a fc ha w);have eB:triB a b c=if ar a b c<0 then c else b:=rfl
 have eC:triC a b c=if ar a b c<0 then b else c:=rfl
 have ab:=(nigh3 ha hb hc).ar;obtain ⟨n,hn⟩:∃ n,ar a b c=n:=⟨_,rfl⟩;rw[hn] at A eB eC ab h;clear ha hb hc;obtain ⟨B,hB⟩:∃ B,triB a b c=B:=⟨_,rfl⟩;obtain ⟨C,hC⟩:∃ B,triC a b c=B:=⟨_,rfl⟩;simp only[hB,hC] at *;clear hB hC hn fb fc;obtain ⟨ab0,ab1⟩:=ab;have nz:(n==0)=false:=by simpa using h
 clear h
 by_cases c0:n<0
 ·rw[if_pos c0] at eB eC;subst eB eC
  go_enter Tryz.func178,Tryz.ntmps178
  go_wp2_with (first|(go_at_call 57;(with_reducible refine (A.out _).mono ?_);rintro _ _ ⟨rfl,X_,rfl⟩))
  refine wp_region_ext_tail 9 (by kernel_rfl) (by kernel_rfl) ?_;simp only[jx]
  repeat (go_big_quiet_step ((first|(go_at_call 214;with_reducible exact Calls.quiet_ret (N1.out _))|(go_at_call 214;with_reducible exact Calls.quiet_ret (N2.out _))|(go_at_call 214;with_reducible exact Calls.quiet_ret (N3.out _)))))
  refine wpQuiet_nil ?_;intro _ hw_ext;obtain ⟨X,hw_ext⟩:=hw_ext;subst hw_ext;go_wp2;go_ret;exact ⟨_,rfl,jz (by exact bl_),by omega,by exact rx_⟩
 ·rw[if_neg c0] at eB eC;subst eB eC
  go_enter Tryz.func178,Tryz.ntmps178
  go_wp2_with (first|(go_at_call 57;(with_reducible refine (A.out _).mono ?_);rintro _ _ ⟨rfl,X_,rfl⟩))
  refine wp_region_ext_tail 9 (by kernel_rfl) (by kernel_rfl) ?_;simp only[jx]
  repeat (go_big_quiet_step ((first|(go_at_call 214;with_reducible exact Calls.quiet_ret (N1.out _))|(go_at_call 214;with_reducible exact Calls.quiet_ret (N2.out _))|(go_at_call 214;with_reducible exact Calls.quiet_ret (N3.out _)))))
  refine wpQuiet_nil ?_;intro _ hw_ext;obtain ⟨X,hw_ext⟩:=hw_ext;subst hw_ext;go_wp2;go_ret;exact ⟨_,rfl,jz (by exact bl_),by omega,by exact rx_⟩
end Go.Proofs.YthcjfanigfgckaaGreat
