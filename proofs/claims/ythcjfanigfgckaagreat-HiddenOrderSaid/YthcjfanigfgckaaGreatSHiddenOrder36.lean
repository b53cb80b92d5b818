import Derived.Test.YthcjfanigfgckaaGreatSHiddenOrder31
import Derived.Test.YthcjfanigfgckaaGreatSHiddenOrder34
set_option linter.unusedVariables false
set_option linter.unusedSimpArgs false
set_option maxRecDepth 100000
set_option maxHeartbeats 16000000
namespace Go.Proofs.YthcjfanigfgckaaGreat
open Go.RowKit
theorem not_short {w:World} {b:Nat} {c:Array Value} {T:TypeId} {v:Value} {L:List FrP} (hr:Row w b c T) (hc:c.size<8) (h:Recs frK w v L):∀ b',v.ownBlock=some b'->L≠[]->b'≠b:=by
 intro b' hb' hne e;subst e;obtain ⟨-,a,cap,rfl,-,h3⟩:=h;rcases h3 with h3|⟨b,off,rfl,-,hcl⟩
 ·exact hne h3
 obtain rfl:b=b':=by simpa [Value.ownBlock] using hb'
 obtain ⟨f,L',rfl⟩:=List.exists_cons_of_ne_nil hne;have q:w.cell? ⟨b,off+0*8+7,none⟩=some (.int .i64 f.cov):=hcl 0 f rfl 7 _ rfl;rw[hr.cell,Array.getElem?_eq_none (by omega)] at q;cases q
theorem Recs.set1 {α:Type} {K:RecK α} {w:World} {v:Value} {L:List α} {b i:Nat} {u:Value} (h:Recs K w v L) (hb:∀ b',v.ownBlock=some b'->L≠[]->b'≠b):Recs K (w.setCell ⟨b,i,none⟩ u) v L :=
 h.chg (p:=fun j=>j=b) (Chg.setCell (p:=fun j=>j=b) Chg.refl (fun _=>rfl) _) (fun b' h1 h2 _ h4=>hb b' h1 h2 h4)
theorem face_line0 (a b:WinP) (k:LookP) (c x0 y0 x1 y1:Int) (hs:k.soft=false) (ha:a.wide) (hb:b.wide) (hp:w64 k.p) (hc:w64 c) (har:areaP x0 y0 x1 y1<=1048576) (w:World):Calls Tryz.prog 83 #[a.v,b.v,k.v,D3 k.p k.r c,R4 x0 y0 x1 y1] w (RLine w (wdL a b k.width k.dashed k.p k.r c x0 y0 x1 y1) k.p k.r (wdC a b k.width k.dashed k.p k.r c)):=by
 have WI:=jj (fun w=>wline_any a b k.width k.dashed k.p k.r c x0 y0 x1 y1 ha hb hp hc har w);generalize wdL a b k.width k.dashed k.p k.r c x0 y0 x1 y1=L at *;generalize wdC a b k.width k.dashed k.p k.r c=cc at *;have HS:=jj hs;clear ha hb hp hc har hs
 go_enter Tryz.func83,Tryz.ntmps83
 go_upto_region 1 with fail
 rw[HS.out];refine wp_abs (F:=fun w1=>Row w1 w.heap.size #[.int .i64 a.x,.int .i64 a.y,.int .i64 a.z,.int .i64 a.c0,.int .i64 a.c1,.int .i64 a.c2,.int .i64 a.c3] 45/\Row w1 (w.heap.size+1) #[.int .i64 b.x,.int .i64 b.y,.int .i64 b.z,.int .i64 b.c0,.int .i64 b.c1,.int .i64 b.c2,.int .i64 b.c3] 45/\Row w1 (w.heap.size+1+1) #[.int .i64 k.width,.bool false,.bool k.dashed,.int .i64 k.p,.int .i64 k.r,.int .i64 k.c,.int .i64 k.size,.int .i64 k.kind,.int .i64 k.front,.int .i64 k.back,.bool k.ccw,.int .i64 k.cull,.bool k.off,.int .i64 k.factor,.int .i64 k.units] 27/\Row w1 (w.heap.size+1+1+1) #[.int .i64 k.p,.int .i64 k.r,.int .i64 c] 25/\Row w1 (w.heap.size+1+1+1+1) #[.int .i64 x0,.int .i64 y0,.int .i64 x1,.int .i64 y1] 29/\Row w1 (w.heap.size+1+1+1+1+1) #[.int .i64 0,.int .i64 0,.int .i64 0] 25/\∃ X,w1=w.ext X) ⟨by exact rx_,by exact rx_,by exact rx_,by exact rx_,by exact rx_,by exact rx_,jz (by exact bl_)⟩ ?_;rintro w1 ⟨Ra,Rb,Rk,Rd,Rr,Rz,hX⟩;have HX:=jj hX;have HRz:=jj Rz;have ca:=Ra.cell;have fa:=Ra.frozen;have la:=Ra.lt;have cb:=Rb.cell;have fb:=Rb.frozen;have lb:=Rb.lt;have ck:=Rk.cell;have fk:=Rk.frozen;have lk:=Rk.lt;have cd:=Rd.cell;have fd:=Rd.frozen;have ld:=Rd.lt;have cr:=Rr.cell;have fr:=Rr.frozen;have lr:=Rr.lt;have cz:=Rz.cell;have fz:=Rz.frozen;have lz:=Rz.lt;clear Ra Rb Rk Rd Rr Rz hX
 go_wp2_with (first|(go_at_call 127;(with_reducible refine (WI.out _).mono ?_);rintro _ _ ⟨v1,rfl,hv1,⟨XF,rfl⟩⟩;have HV1:=jj hv1;obtain ⟨-,av,cap,rfl,-,-⟩:=hv1))
 have r3:Row (((w1.setCell ⟨w.heap.size+1+1+1+1+1,0,none⟩ (.int .i64 k.p)).setCell ⟨w.heap.size+1+1+1+1+1,1,none⟩ (.int .i64 k.r)).setCell ⟨w.heap.size+1+1+1+1+1,2,none⟩ (.int .i64 cc)) (w.heap.size+1+1+1+1+1) #[.int .i64 k.p,.int .i64 k.r,.int .i64 cc] 25:=((HRz.out.set 0 _).set 1 _).set 2 _;have cE:=(r3.ext XF).cell;refine bodyPost_ret (v:=.tuple #[.slice av L.length cap,D3 k.p k.r cc]) (by simp[results,Tryz.results83,go_sem,cE];try rfl) rfl ?_;have nl:=not_short (HRz.out.ext XF) (by decide) HV1.out;have P:=((HV1.out.set1 (i:=0) (u:=.int .i64 k.p) nl).set1 (i:=1) (u:=.int .i64 k.r) nl).set1 (i:=2) (u:=.int .i64 cc) nl;rw[World.setCell_ext lz,World.setCell_ext (by simpa [World.setCell] using lz),World.setCell_ext (by simpa [World.setCell] using lz)] at P;refine ⟨_,rfl,P,?_⟩;obtain ⟨X0,hX0⟩:=HX.out;subst hX0;exact jz (by exact br_)
section
theorem sm_y (a b:WinP) (x y:Int):(y-a.y)*smL a b=smS a b x y*(b.y-a.y)+smC a b x y*(b.x-a.x):=by unfold smL smS smC;grind
theorem sm_x (a b:WinP) (x y:Int):(x-a.x)*smL a b=smS a b x y*(b.x-a.x)-smC a b x y*(b.y-a.y):=by unfold smL smS smC;grind
theorem sq_bound {c w l m:Int} (hl:0<l) (hm:0<=m) (hc:c*c<=l*(m*m)) (hw:w*w<=l):-(m*l)<=c*w/\c*w<=m*l:=by
 have e:(c*w)*(c*w)=(c*c)*(w*w):=by grind
 have h1:(c*c)*(w*w)<=(l*(m*m))*l:=Int.mul_le_mul hc hw (smq_nn w) (Int.mul_nonneg (by omega) (smq_nn m));have e2:(l*(m*m))*l=(m*l)*(m*l):=by grind
 rw[<-e,e2] at h1;have ml:0<=m*l:=Int.mul_nonneg hm (by omega)
 constructor
 ·apply Classical.byContradiction;intro k
  have:=smq_lt (a:=m*l) (b:=-(c*w)) ml (by omega);rw[Int.neg_mul_neg] at this;omega
 ·apply Classical.byContradiction;intro k
  have:=smq_lt (a:=m*l) (b:=c*w) ml (by omega);omega
theorem in_K {a b:WinP} {n x y:Int} (h:inS a b n x y):smC a b x y*smC a b x y<=smK a b n/\0<smL a b:=by
 obtain ⟨⟨h1,h2⟩,h3⟩:=h;have hl:0<smL a b:=by omega
 refine ⟨?_,hl⟩;rcases h3 with h3|h3|h3
 ·exact h3.2
 ·rw[h3];unfold smK;rw[show 128*n*128*n=(128*n)*(128*n) by grind];have:=Int.mul_nonneg (show 0<=smL a b by omega) (smq_nn (128*n));omega
 ·omega
theorem part_bound {s l h:Int} (h0:0<=s) (h1:s<l):min 0 h*l<=s*h/\s*h<=max 0 h*l:=by
 by_cases k:0<=h
 ·rw[show min 0 h=0 by omega,show max 0 h=h by omega];have:=Int.mul_nonneg h0 k;have:=Int.mul_le_mul_of_nonneg_right (show s<=l by omega) k;rw[Int.mul_comm h l];omega
 ·rw[show min 0 h=h by omega,show max 0 h=0 by omega];have a1:=Int.mul_nonneg h0 (show 0<=-h by omega);have a2:=Int.mul_le_mul_of_nonneg_right (show s<=l by omega) (show 0<=-h by omega);rw[Int.mul_neg] at a1 a2;rw[Int.mul_neg] at a2;rw[Int.mul_comm h l];omega
theorem in_y {a b:WinP} {n x y:Int} (hn:0<=n) (h:inS a b n x y):min a.y b.y-128*n<=y/\y<=max a.y b.y+128*n:=by
 obtain ⟨hK,hl⟩:=in_K h;obtain ⟨⟨h1,h2⟩,-⟩:=h;have e:=sm_y a b x y;have hw:(b.x-a.x)*(b.x-a.x)<=smL a b:=by have:=smq_nn (b.y-a.y);unfold smL;omega
 have sb:=sq_bound (c:=smC a b x y) (w:=b.x-a.x) (m:=128*n) hl (by omega) (by unfold smK at hK;rw[show 128*n*128*n=(128*n)*(128*n) by grind] at hK;exact hK) hw;have pb:=part_bound (h:=b.y-a.y) h1 h2;generalize smL a b=l at *;generalize smS a b x y*(b.y-a.y)=S at *;generalize smC a b x y*(b.x-a.x)=C at *;have k1:(y-a.y)*l<=(max 0 (b.y-a.y)+128*n)*l:=by rw[Int.add_mul];omega
 have k2:(min 0 (b.y-a.y)-128*n)*l<=(y-a.y)*l:=by rw[Int.sub_mul];omega
 have j1:=Int.le_of_mul_le_mul_right k1 hl;have j2:=Int.le_of_mul_le_mul_right k2 hl;omega
theorem in_x {a b:WinP} {n x y:Int} (hn:0<=n) (h:inS a b n x y):min a.x b.x-128*n<=x/\x<=max a.x b.x+128*n:=by
 obtain ⟨hK,hl⟩:=in_K h;obtain ⟨⟨h1,h2⟩,-⟩:=h;have e:=sm_x a b x y;have hw:(b.y-a.y)*(b.y-a.y)<=smL a b:=by have:=smq_nn (b.x-a.x);unfold smL;omega
 have sb:=sq_bound (c:=smC a b x y) (w:=b.y-a.y) (m:=128*n) hl (by omega) (by unfold smK at hK;rw[show 128*n*128*n=(128*n)*(128*n) by grind] at hK;exact hK) hw;have pb:=part_bound (h:=b.x-a.x) h1 h2;generalize smL a b=l at *;generalize smS a b x y*(b.x-a.x)=S at *;generalize smC a b x y*(b.y-a.y)=C at *;have k1:(x-a.x)*l<=(max 0 (b.x-a.x)+128*n)*l:=by rw[Int.add_mul];omega
 have k2:(min 0 (b.x-a.x)-128*n)*l<=(x-a.x)*l:=by rw[Int.sub_mul];omega
 have j1:=Int.le_of_mul_le_mul_right k1 hl;have j2:=Int.le_of_mul_le_mul_right k2 hl;omega
theorem covN_none {a b:WinP} {n x y:Int} (hn:0<=n) (h:256*y+240<min a.y b.y-128*n\/max a.y b.y+128*n<256*y+16\/256*x+240<min a.x b.x-128*n\/max a.x b.x+128*n<256*x+16):covN a b n x y=0:=by
 unfold covN covRow;refine Eq.trans (sumTo_congr 8 fun k hk=>?_) (sumTo_zero 8);refine Eq.trans (sumTo_congr 8 fun i hi=>if_neg fun hin=>?_) (sumTo_zero 8);have h1:=in_y hn hin;have h2:=in_x hn hin;omega
def smFr (a b:WinP) (n x y:Int) (v:Int->Int->Int×Int×Int×Int×Int):FrP:=⟨x,y,(v x y).1,(v x y).2.1,(v x y).2.2.1,(v x y).2.2.2.1,(v x y).2.2.2.2,covN a b n x y⟩
def smRowL (a b:WinP) (n:Int) (v:Int->Int->Int×Int×Int×Int×Int) (x0 x y:Int):List FrP:=((rng x0 x).filter (fun x=>decide (covN a b n x y≠0))).map (fun x=>smFr a b n x y v)
def smTo (a b:WinP) (n:Int) (v:Int->Int->Int×Int×Int×Int×Int) (x0 x1 y0 y:Int):List FrP:=(rng y0 y).flatMap (smRowL a b n v x0 x1)
theorem smRowL_start (a b:WinP) (n:Int) (v:Int->Int->Int×Int×Int×Int×Int) (x0 x y:Int) (h:∀ z,x0<=z->z<x->covN a b n z y=0):smRowL a b n v x0 x y=[]:=by
 unfold smRowL;rw[List.map_eq_nil_iff,List.filter_eq_nil_iff];intro z hz;obtain ⟨h1,h2⟩:=rng_mem.1 hz;simp[h z h1 h2]
theorem smRowL_no (a b:WinP) (n:Int) (v:Int->Int->Int×Int×Int×Int×Int) (x0 x y:Int) (h:x0<=x) (hc:covN a b n x y=0):smRowL a b n v x0 (x+1) y=smRowL a b n v x0 x y:=by
 unfold smRowL;rw[rng_snoc h,List.filter_append,List.map_append];simp[hc]
theorem smRowL_end (a b:WinP) (n:Int) (v:Int->Int->Int×Int×Int×Int×Int) (x0 x y:Int) (hx:x0<=x) (m:Nat) (h:∀ z,x<=z->z<x+m->covN a b n z y=0):smRowL a b n v x0 (x+m) y=smRowL a b n v x0 x y:=by
 induction m with
 |zero=>simp
 |succ m ih=>rw[show x+((m+1:Nat):Int)=(x+m)+1 by omega,smRowL_no a b n v x0 (x+m) y (by omega) (h _ (by omega) (by omega)),ih fun z h1 h2=>h z h1 (by omega)]
structure Band (a b:WinP) (n x0 y0 x1 y1 L R O I:Int):Prop where
 l:L=max x0 ((min a.x b.x-n*128)/256-1)
 r:R=min x1 ((max a.x b.x+n*128)/256+2)
 o:O=max y0 ((min a.y b.y-n*128)/256-1)
 i:I=min y1 ((max a.y b.y+n*128)/256+2)
section
variable {a b:WinP} {n x0 y0 x1 y1 L R O I:Int} {v:Int->Int->Int×Int×Int×Int×Int}
theorem Band.col (h:Band a b n x0 y0 x1 y1 L R O I) (hn:0<=n) (x y:Int) (h0:x0<=x) (h1:x<x1) (hx:x<L\/R<=x):covN a b n x y=0:=by
 obtain ⟨rfl,rfl,-,-⟩:=h;exact covN_none hn (by omega)
theorem Band.row (h:Band a b n x0 y0 x1 y1 L R O I) (hn:0<=n) (x y:Int) (h0:y0<=y) (h1:y<y1) (hy:y<O\/I<=y):covN a b n x y=0:=by
 obtain ⟨-,-,rfl,rfl⟩:=h;exact covN_none hn (by omega)
theorem Band.none (h:Band a b n x0 y0 x1 y1 L R O I) (hn:0<=n) (hL:R<=L):smTo a b n v x0 x1 y0 y1=[]:=by
 unfold smTo;rw[List.flatMap_eq_nil_iff];intro z hz;exact smRowL_start a b n v x0 x1 z fun x h0 h1=>h.col hn x z h0 h1 (by omega)
theorem Band.left (h:Band a b n x0 y0 x1 y1 L R O I) (hn:0<=n) (hl:L<R) (y:Int):smRowL a b n v x0 L y=[] :=
 smRowL_start a b n v x0 L y fun z h0 h1=>h.col hn z y h0 (by have:=h.r;omega) (by omega)
theorem Band.right (h:Band a b n x0 y0 x1 y1 L R O I) (hn:0<=n) (hl:L<R) (y:Int):smRowL a b n v x0 R y=smRowL a b n v x0 x1 y:=by
 have hR:R<=x1:=by have:=h.r;omega
 have hL:x0<=L:=by have:=h.l;omega
 have:=smRowL_end a b n v x0 R y (by omega) (x1-R).toNat fun z k0 k1=>h.col hn z y (by omega) (by omega) (by omega)
 rw[show R+((x1-R).toNat:Int)=x1 by omega] at this;exact this.symm
end
theorem smRowL_len (a b:WinP) (n:Int) (v:Int->Int->Int×Int×Int×Int×Int) (x0 x y:Int):(smRowL a b n v x0 x y).length<=(x-x0).toNat:=by
 unfold smRowL;rw[List.length_map,<-rng_len x0 x];exact List.length_filter_le _ _
theorem smTo_len (a b:WinP) (n:Int) (v:Int->Int->Int×Int×Int×Int×Int) (x0 x1 y0 y:Int):(smTo a b n v x0 x1 y0 y).length<=(x1-x0).toNat * (y-y0).toNat:=by
 unfold smTo;rw[<-rng_len y0 y]
 induction rng y0 y with
 |nil=>simp
 |cons z l ih =>
  rw[List.flatMap_cons,List.length_append,List.length_cons,Nat.mul_succ];have:=smRowL_len a b n v x0 x1 z;omega
end
def opsH (m:Bool):OpsP:=if m then ⟨false,0,0,0,0,true,3,false,false,0,0,true,true,true,true⟩ else ⟨false,0,0,0,0,true,1,true,false,0,0,false,false,false,false⟩
def imgF (o:OpsP) (W H:Int) (s:List Int×List Int) (L:List FrP):List Int×List Int:=L.foldl (fun s f=>(oneC o f W H s.1 s.2,oneZ o f W H s.2)) s
theorem imgF_append (o:OpsP) (W H:Int) (s:List Int×List Int) (A B:List FrP):imgF o W H s (A++B)=imgF o W H (imgF o W H s A) B:=by unfold imgF;rw[List.foldl_append]
theorem imgF_cons (o:OpsP) (W H:Int) (s:List Int×List Int) (f:FrP) (L:List FrP):imgF o W H s (f::L)=imgF o W H (oneC o f W H s.1 s.2,oneZ o f W H s.2) L:=rfl
theorem allF_img (o:OpsP) (W H:Int) (C Z:List Int) (L:List FrP):(allF o W H C Z L).1=(imgF o W H (C,Z) L).1/\(allF o W H C Z L).2.1=(imgF o W H (C,Z) L).2:=by
 have:∀ (L:List FrP) (s:List Int×List Int×Int),(L.foldl (stepF o W H) s).1=(imgF o W H (s.1,s.2.1) L).1/\(L.foldl (stepF o W H) s).2.1=(imgF o W H (s.1,s.2.1) L).2:=by
  intro L
  induction L with
  |nil=>intro s;exact ⟨rfl,rfl⟩
  |cons f L ih =>
   intro s;rw[List.foldl_cons,imgF_cons];exact ih (stepF o W H s f)
 exact this L (C,Z,0)
theorem oneC_ok {o:OpsP} {f:FrP} {W H:Int} {C Z:List Int} (h:ImOk W H C Z):ImOk W H (oneC o f W H C Z) (oneZ o f W H Z):=by
 have hc:ImOk W H (oneC o f W H C Z) Z:=by
  unfold oneC
  split
  ·rename_i hb
   unfold oneB at hb;simp only[Bool.and_eq_true,decide_eq_true_eq] at hb;unfold putC
   split
   ·rename_i hi
    exact h.setC _ (ix_lt h hi).1 (mixN_01 _ _ _ _ _ _ _ _ _ (kol_may hb.1.1 hb.1.2 W H C))
   ·exact h
  ·exact h
 unfold oneZ
 split
 ·rename_i hb
  unfold oneB at hb;simp only[Bool.and_eq_true,decide_eq_true_eq] at hb;unfold putZ
  split
  ·rename_i hi
   obtain ⟨⟨⟨-,hf⟩,-⟩,-⟩:=hb;unfold FrP.fits at hf;exact hc.setZ _ (ix_lt h hi).2 (by omega)
  ·exact hc
 ·exact hc
theorem oneC_lenH (o:OpsP) (f:FrP) (W H:Int) (C Z:List Int):(oneC o f W H C Z).length=C.length:=by
 unfold oneC putC
 repeat' split
 all_goals simp
theorem oneZ_lenH (o:OpsP) (f:FrP) (W H:Int) (Z:List Int):(oneZ o f W H Z).length=Z.length:=by
 unfold oneZ putZ
 repeat' split
 all_goals simp
theorem imgF_ok {o:OpsP} {W H:Int}:∀ {L:List FrP} {s:List Int×List Int},ImOk W H s.1 s.2->ImOk W H (imgF o W H s L).1 (imgF o W H s L).2
 | [],s,h=>h
 |f::L,s,h=>by
  rw[imgF_cons];exact imgF_ok (L:=L) (s:=(oneC o f W H s.1 s.2,oneZ o f W H s.2)) (oneC_ok h)
theorem imgF_len {o:OpsP} {W H:Int}:∀ {L:List FrP} {s:List Int×List Int},(imgF o W H s L).1.length=s.1.length/\(imgF o W H s L).2.length=s.2.length
 | [],s=>⟨rfl,rfl⟩
 |f::L,s=>by
  rw[imgF_cons];have:=imgF_len (o:=o) (W:=W) (H:=H) (L:=L) (s:=(oneC o f W H s.1 s.2,oneZ o f W H s.2));simp only at this;rw[this.1,this.2];exact ⟨oneC_lenH o f W H s.1 s.2,oneZ_lenH o f W H s.2⟩
theorem set_same (l:List Int) (i:Nat):l.set i (elt l i)=l:=by
 apply List.ext_getElem?
 intro j
 by_cases h:i=j
 ·subst h
  by_cases hi:i<l.length
  ·simp[elt,hi]
  ·rw[List.getElem?_eq_none (by simp;omega),List.getElem?_eq_none (by omega)]
 ·rw[List.getElem?_set_ne h]
theorem dull_one {f:FrP} {W H:Int} {C Z:List Int} (h:ImOk W H C Z):oneC (opsH false) f W H C Z=C:=by
 unfold oneC
 split
 ·unfold putC
  split
  ·rename_i hi
   have hl:=(ix_lt h hi).1;have hb:=h.cs _ hl;unfold mixN;simp only[opsH,if_false,Bool.false_eq_true];rw[pk_up hb.1 hb.2,set_same]
  ·rfl
 ·rfl
theorem dull_all {W H:Int}:∀ {L:List FrP} {C Z:List Int},ImOk W H C Z->(imgF (opsH false) W H (C,Z) L).1=C
 | [],C,Z,h=>rfl
 |f::L,C,Z,h=>by
  rw[imgF_cons];have k:=oneC_ok (o:=opsH false) (f:=f) h;simp only;rw[dull_one h] at k ⊢;exact dull_all k
theorem keepsH:Keeps (opsH false):=⟨by decide,rfl,rfl,rfl,.inl rfl⟩
theorem faces_at {W H:Int} {C Z:List Int} (h:ImOk W H C Z) (L:List FrP) {k:Nat} (hk:k<C.length):elt (imgF (opsH false) W H (C,Z) L).2 k=leastF W k (elt Z k) L:=by
 rw[<-(allF_img (opsH false) W H C Z L).2];exact least_all keepsH h k hk L (C,Z,0) (by have:=h.same;simpa using this)
theorem edges_z {W H:Int}:∀ {L:List FrP} {s:List Int×List Int},(imgF (opsH true) W H s L).2=s.2
 | [],s=>rfl
 |f::L,s=>by
  rw[imgF_cons,edges_z];simp[oneZ,opsH]
structure LineF (c0 c1 c2 c3:Int) (f:FrP):Prop where
 fits:f.fits
 c:f.c0=c0/\f.c1=c1/\f.c2=c2/\f.c3=c3
 cov:f.cov=64
def nearF (W:Int) (k:Nat) (z:Int) (f:FrP):Prop:=(f.x=(k:Int)%W/\f.y=(k:Int)/W)/\f.z<=z
instance (W : Int) (k : Nat) (z : Int) (f : FrP) : Decidable (nearF W k z f) := by unfold nearF; exact inferInstance
theorem edge_one {c0 c1 c2 c3:Int} {f:FrP} (hf:LineF c0 c1 c2 c3 f) {W H:Int} {C Z:List Int} (h:ImOk W H C Z) {k:Nat} (hk:k<C.length):elt (oneC (opsH true) f W H C Z) k=if nearF W k (elt Z k) f then pk c0 c1 c2 c3 else elt C k:=by
 obtain ⟨h1,h2⟩:=kth h hk;obtain ⟨hfit,⟨e0,e1,e2,e3⟩,ec⟩:=hf;have ha:f.a=c3:=by
  unfold FrP.a Go.Proofs.YthcjfanigfgckaaGreat.cov;rw[e3,ec];omega
 have hm:May c0 c1 c2 c3:=by
  have:=hfit.may;rw[e0,e1,e2,ha] at this;exact this
 have hb:oneB (opsH true) f W H Z=(decide (inB W H f.x f.y)&&decide (passP 3 f.z (gotC id W H Z f.x f.y))):=by
  unfold oneB ref? refB OpsP.has OpsP.pass;have hr:(opsH true).right:=by decide
  rw[decide_eq_true hr,decide_eq_true hfit];show (true&&true&&!((false&&!_) || !(decide (inB W H f.x f.y)) || (true&&!(decide (passP 3 f.z (gotC id W H Z f.x f.y))))))=_
  simp
 have hkol:∀ s a fn,kol (opsH true) W H C f.x f.y s a fn=s:=fun s a fn=>rfl
 have hone:oneC (opsH true) f W H C Z=if oneB (opsH true) f W H Z then putC W H C f.x f.y c0 c1 c2 c3 true true true true else C:=by
  unfold oneC;simp only[hkol,e0,e1,e2,ha]
  rfl
 rw[hone]
 by_cases hat:f.x=(k:Int)%W/\f.y=(k:Int)/W
 ·obtain ⟨ax,ay⟩:=hat;have hi:inB W H f.x f.y:=by rw[ax,ay];exact h1
  have hg:gotC id W H Z f.x f.y=elt Z k:=by rw[ax,ay];exact got_at h k hk
  rw[hg] at hb
  by_cases hp:f.z<=elt Z k
  ·have hq:passP 3 f.z (elt Z k):=by unfold passP;omega
   have hb2:oneB (opsH true) f W H Z=true:=by rw[hb];simp[hi,hq]
   rw[hb2,if_pos rfl,if_pos (show nearF W k (elt Z k) f from ⟨⟨ax,ay⟩,hp⟩)];exact putC_at h k hk hm ax.symm ay.symm
  ·have hq:¬passP 3 f.z (elt Z k):=by unfold passP;omega
   have hb2:oneB (opsH true) f W H Z=false:=by rw[hb];simp[hq]
   rw[hb2,if_neg (by decide),if_neg (show ¬nearF W k (elt Z k) f from fun q=>hp q.2)]
 ·rw[if_neg (show ¬nearF W k (elt Z k) f from fun q=>hat q.1)]
  split
  ·exact putC_off h k fun q=>hat ⟨q.1.symm,q.2.symm⟩
  ·rfl
theorem edges_at {c0 c1 c2 c3:Int} {W H:Int} {Z:List Int} {k:Nat}:∀ {L:List FrP} {C:List Int},(∀ f∈L,LineF c0 c1 c2 c3 f)->ImOk W H C Z->k<C.length->elt (imgF (opsH true) W H (C,Z) L).1 k=if ∃ f∈L,nearF W k (elt Z k) f then pk c0 c1 c2 c3 else elt C k
 | [],C,hL,h,hk=>by simp[imgF]
 |f::L,C,hL,h,hk=>by
  rw[imgF_cons];have hz:oneZ (opsH true) f W H Z=Z:=by simp[oneZ,opsH]
  have k2:=oneC_ok (o:=opsH true) (f:=f) h;simp only[hz] at k2 ⊢;have hl:=oneC_lenH (opsH true) f W H C Z;rw[edges_at (fun g hg=>hL g (jk hg)) k2 (by rw[hl];exact hk),edge_one (hL f List.mem_cons_self) h hk]
  by_cases h1:∃ g∈L,nearF W k (elt Z k) g
  ·obtain ⟨g,hg,hn⟩:=h1;rw[if_pos ⟨g,hg,hn⟩,if_pos ⟨g,jk hg,hn⟩]
  ·rw[if_neg h1]
   by_cases h2:nearF W k (elt Z k) f
   ·rw[if_pos h2,if_pos ⟨f,List.mem_cons_self,h2⟩]
   ·rw[if_neg h2,if_neg];rintro ⟨g,hg,hn⟩;rcases List.mem_cons.1 hg with rfl|hg
    ·exact h2 hn
    ·exact h1 ⟨g,hg,hn⟩
def minZ (z:Int) (L:List FrP):Int:=L.foldl (fun z f=>min z f.z) z
theorem le_minZ {m:Int}:∀ {L:List FrP} {z:Int},m<=minZ z L↔m<=z/\∀ f∈L,m<=f.z
 | [],z=>by simp[minZ]
 |f::L,z=>by
  have ih:=le_minZ (m:=m) (L:=L) (z:=min z f.z);rw[show minZ z (f::L)=minZ (min z f.z) L from rfl,ih];simp only[List.mem_cons,forall_eq_or_imp]
  constructor
  ·rintro ⟨h1,h2⟩;exact ⟨by omega,by omega,h2⟩
  ·rintro ⟨h1,h2,h3⟩;exact ⟨by omega,h3⟩
theorem le_leastF {W:Int} {k:Nat} {m:Int}:∀ {L:List FrP} {z:Int},m<=leastF W k z L↔m<=z/\∀ f∈L,atPx W k f->m<=f.z
 | [],z=>by simp[leastF]
 |f::L,z=>by
  have ih:=le_leastF (W:=W) (k:=k) (m:=m) (L:=L) (z:=minF W k z f);rw[show leastF W k z (f::L)=leastF W k (minF W k z f) L from rfl,ih];simp only[List.mem_cons,forall_eq_or_imp];unfold minF
  by_cases ha:atPx W k f
  ·rw[if_pos ha]
   constructor
   ·rintro ⟨h1,h2⟩;exact ⟨by omega,fun _=>by omega,h2⟩
   ·rintro ⟨h1,h2,h3⟩;have:=h2 ha;exact ⟨by omega,h3⟩
  ·rw[if_neg ha]
   constructor
   ·rintro ⟨h1,h2⟩;exact ⟨h1,fun q=>absurd q ha,h2⟩
   ·rintro ⟨h1,h2,h3⟩;exact ⟨h1,h3⟩
theorem eq_of_le {a b:Int} (h:∀ m,m<=a↔m<=b):a=b:=by
 have h1:=(h a).1 (Int.le_refl a);have h2:=(h b).2 (Int.le_refl b);omega
end Go.Proofs.YthcjfanigfgckaaGreat
