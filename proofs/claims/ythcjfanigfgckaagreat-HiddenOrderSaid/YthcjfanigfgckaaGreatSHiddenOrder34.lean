import Derived.Test.YthcjfanigfgckaaGreatSHiddenOrder23
import Derived.Test.YthcjfanigfgckaaGreatSHiddenOrder24
import Derived.Test.YthcjfanigfgckaaGreatSHiddenOrder30
import Derived.Test.YthcjfanigfgckaaGreatSHiddenOrder32
set_option linter.unusedVariables false
set_option linter.unusedSimpArgs false
set_option maxRecDepth 100000
set_option maxHeartbeats 16000000
namespace Go.Proofs.YthcjfanigfgckaaGreat
open Go.RowKit
theorem side_of {x0 y0 x1 y1:Int} (hr:rightP x0 y0 x1 y1) (har:areaP x0 y0 x1 y1<=1048576):((x1-x0).toNat+(y1-y0).toNat)*64<=134217728:=by
 unfold areaP at har;rw[if_pos hr] at har;unfold rightP at hr;have a1:(x1-x0)*1<=(x1-x0)*(y1-y0):=Int.mul_le_mul_of_nonneg_left (by omega) (by omega);have a2:1*(y1-y0)<=(x1-x0)*(y1-y0):=Int.mul_le_mul_of_nonneg_right (by omega) (by omega);omega
theorem wline_any (a b:WinP) (n:Int) (dd:Bool) (p r c x0 y0 x1 y1:Int) (ha:a.wide) (hb:b.wide) (hp:w64 p) (hc:w64 c) (har:areaP x0 y0 x1 y1<=1048576) (w:World):Calls Tryz.prog 127 #[a.v,b.v,.int .i64 n,.bool dd,D3 p r c,R4 x0 y0 x1 y1] w (RLine w (wdL a b n dd p r c x0 y0 x1 y1) p r (wdC a b n dd p r c)):=by
 unfold wdL wdC
 by_cases h:lineP a b n p r c
 ·by_cases hr:rightP x0 y0 x1 y1
  ·rw[if_pos ⟨h,hr⟩,if_pos h];cases dd
   ·exact wline_in0 a b n p r c x0 y0 x1 y1 ha hb hp hc h hr (side_of hr har) w
   ·exact wline_in1 a b n p r c x0 y0 x1 y1 ha hb hp hc h hr (side_of hr har) w
  ·rw[if_neg (fun k=>hr k.2),if_pos h];cases dd
   ·exact wline_noR0 a b n p r c x0 y0 x1 y1 ha hb hp hc h hr w
   ·exact wline_noR1 a b n p r c x0 y0 x1 y1 ha hb hp hc h hr w
 ·rw[if_neg (fun k=>h k.1),if_neg h];exact wline_no a b n dd p r c x0 y0 x1 y1 ha hb hp hc h w
def smS (a b:WinP) (x y:Int):Int:=(x-a.x)*(b.x-a.x)+(y-a.y)*(b.y-a.y)
def smC (a b:WinP) (x y:Int):Int:=(b.x-a.x)*(y-a.y)-(b.y-a.y)*(x-a.x)
def smL (a b:WinP):Int:=(b.x-a.x)*(b.x-a.x)+(b.y-a.y)*(b.y-a.y)
def smK (a b:WinP) (n:Int):Int:=smL a b*(128*n*128*n)
def inS (a b:WinP) (n x y:Int):Prop:=(0<=smS a b x y/\smS a b x y<smL a b)/\((0<smC a b x y/\smC a b x y*smC a b x y<=smK a b n)\/smC a b x y=0\/(smC a b x y<0/\smC a b x y*smC a b x y<smK a b n))
instance (a b : WinP) (n x y : Int) : Decidable (inS a b n x y) := by unfold inS; exact inferInstance
structure Across (K R B:Int):Prop where
 r0:0<=R
 lo:R*R<=K
 hi:K<(R+1)*(R+1)
 b:B=if R*R=K then R-1 else R
theorem smq_le {a b:Int} (h0:0<=a) (h:a<=b):a*a<=b*b:=Int.mul_le_mul h h h0 (by omega)
theorem smq_lt {a b:Int} (h0:0<=a) (h:a<b):a*a<b*b:=by
 have:=smq_le (a:=a+1) (b:=b) (by omega) (by omega);have e:(a+1)*(a+1)=a*a+2*a+1:=by grind
 omega
theorem Across.pos {K R B:Int} (h:Across K R B) (hK:1<=K):1<=R/\0<=B:=by
 obtain ⟨h1,h2,h3,h4⟩:=h;have hr:1<=R:=by
  apply Classical.byContradiction;intro k
  obtain rfl:R=0:=by omega
  omega
 refine ⟨hr,?_⟩;rw[h4];split<;>omega
theorem Across.iff {K R B c:Int} (h:Across K R B) (hK:1<=K):((0<c/\c*c<=K)\/c=0\/(c<0/\c*c<K))↔(-B<=c/\c<=R):=by
 obtain ⟨p1,p2⟩:=h.pos hK;obtain ⟨h1,h2,h3,h4⟩:=h
 constructor
 ·rintro (⟨c0,c1⟩|rfl|⟨c0,c1⟩)
  ·refine ⟨by omega,?_⟩
   apply Classical.byContradiction;intro k
   have:=smq_le (a:=R+1) (b:=c) (by omega) (by omega);omega
  ·omega
  ·refine ⟨?_,by omega⟩
   apply Classical.byContradiction;intro k
   have e:c*c=(-c)*(-c):=by rw[Int.neg_mul_neg]
   rw[e] at c1
   by_cases q:R*R=K
   ·rw[if_pos q] at h4;have:=smq_le (a:=R) (b:=-c) (by omega) (by omega);omega
   ·rw[if_neg q] at h4;have:=smq_le (a:=R+1) (b:=-c) (by omega) (by omega);omega
 ·rintro ⟨b0,b1⟩
  by_cases c0:0<c
  ·exact .inl ⟨c0,by have:=smq_le (a:=c) (b:=R) (by omega) b1;omega⟩
  ·by_cases c1:c=0
   ·exact .inr (.inl c1)
   ·refine .inr (.inr ⟨by omega,?_⟩);have e:c*c=(-c)*(-c):=by rw[Int.neg_mul_neg]
    rw[e]
    by_cases q:R*R=K
    ·rw[if_pos q] at h4;have:=smq_lt (a:=-c) (b:=R) (by omega) (by omega);omega
    ·rw[if_neg q] at h4;have:=smq_le (a:=-c) (b:=R) (by omega) (by omega);omega
def sumTo (f:Nat->Nat):Nat->Nat
 |0=>0
 |n+1=>sumTo f n+f n
theorem sumTo_congr {f g:Nat->Nat}:∀ n,(∀ i,i<n->f i=g i)->sumTo f n=sumTo g n
 |0,_=>rfl
 |n+1,h=>by rw[sumTo,sumTo,sumTo_congr n (fun i hi=>h i (by omega)),h n (by omega)]
theorem sumTo_zero:∀ n,sumTo (fun _=>0) n=0
 |0=>rfl
 |n+1=>by simp only[sumTo];rw[sumTo_zero n]
def smp (a b:WinP) (n x y:Int):Nat:=if inS a b n x y then 1 else 0
def covRow (a b:WinP) (n Y q:Int):Nat:=sumTo (fun i=>smp a b n (32*(8*q+i)+16) Y) 8
def covN (a b:WinP) (n x y:Int):Nat:=sumTo (fun k=>covRow a b n (256*y+32*k+16) x) 8
def covPart (a b:WinP) (n Y q z:Int) (m:Nat):Nat:=sumTo (fun i=>if 8*q+(i:Int)<z then smp a b n (32*(8*q+i)+16) Y else 0) m
theorem covPart_step (a b:WinP) (n Y q z:Int) (h:inS a b n (32*z+16) Y):∀ m:Nat,covPart a b n Y q (z+1) m=covPart a b n Y q z m+(if 8*q<=z/\z<8*q+m then 1 else 0)
 |0=>by unfold covPart;simp only[sumTo];rw[if_neg (by omega)]
 |m+1=>by
  have ih:=covPart_step a b n Y q z h m;unfold covPart at ih ⊢;simp only[sumTo];rw[ih];generalize sumTo (fun i=>if 8*q+(i:Int)<z then smp a b n (32*(8*q+i)+16) Y else 0) m=A
  by_cases e:8*q+(m:Int)=z
  ·have hs:smp a b n (32*(8*q+(m:Int))+16) Y=1:=by rw[e];exact if_pos h
   rw[hs];clear ih hs h
   repeat' split
   all_goals omega
  ·generalize smp a b n (32*(8*q+(m:Int))+16) Y=S;clear ih h
   repeat' split
   all_goals omega
theorem smq_nn (x:Int):0<=x*x:=by
 rcases Int.le_total 0 x with h|h
 ·exact Int.mul_nonneg h h
 ·have:=Int.mul_nonneg (a:=-x) (b:=-x) (by omega) (by omega)
  rwa [Int.neg_mul_neg] at this
def cntL (F:Nat->Nat) (m:Nat):Array Value:=((List.range m).map (fun j=>Value.int .i64 (F j:Int))).toArray
theorem cntL_set (F:Nat->Nat) (m j:Nat) (h:j<m) (v:Nat):(cntL F m).setIfInBounds j (.int .i64 (v:Int))=cntL (fun i=>if i=j then v else F i) m:=by
 apply Array.ext
 ·simp[cntL]
 ·intro i h1 h2;have hi:i<m:=by simpa [cntL] using h2
  simp only[cntL,List.setIfInBounds_toArray,List.getElem_toArray,List.getElem_set,List.getElem_map,List.getElem_range]
  by_cases e:i=j
  ·subst e;simp
  ·rw[if_neg (fun k=>e k.symm),if_neg e]
theorem cntL_congr {F G:Nat->Nat} {m:Nat} (h:∀ j,j<m->F j=G j):cntL F m=cntL G m:=by
 unfold cntL
 congr 1
 refine List.map_congr_left fun j hj=>?_
 rw[h j (List.mem_range.1 hj)]
structure Cn (w wr:World) (g:Nat) (s arr:Array Value):Prop where
 st:Row wr w.heap.size s 216
 ct:Row wr g arr 3
 lt:g<w.heap.size
 chg:Chg (fun j=>j=g) w wr
theorem Cn.grow {w wr:World} {g:Nat} {s arr:Array Value} (h:Cn w wr g s arr) (X:Xt):Cn w (wr.ext X) g s arr:=⟨h.st.ext X,h.ct.ext X,h.lt,h.chg.ext X⟩
theorem Cn.put {w wr:World} {g:Nat} {s arr:Array Value} (h:Cn w wr g s arr) (k:Nat) (v:Value):Cn w (wr.setCell ⟨g,k,none⟩ v) g s (arr.setIfInBounds k v) :=
 ⟨h.st.other (by have:=h.lt;omega) k v,h.ct.set k v,h.lt,h.chg.setCell (fun _=>rfl) v⟩
def cntK (a b:WinP) (n x y:Int) (k j:Nat):Nat:=sumTo (fun k'=>covRow a b n (256*y+32*k'+16) (x+j)) k
def cntZ (a b:WinP) (n x y:Int) (k:Nat) (z:Int) (j:Nat):Nat:=cntK a b n x y k j+covPart a b n (256*y+32*k+16) (x+j) z 8
theorem cntZ_step (a b:WinP) (n x y:Int) (k m j0:Nat) (z:Int) (h:inS a b n (32*z+16) (256*y+32*k+16)) (hz:8*(x+j0)<=z/\z<8*(x+j0)+8) :
  cntL (fun i=>if i=j0 then cntZ a b n x y k z j0+1 else cntZ a b n x y k z i) m=cntL (cntZ a b n x y k (z+1)) m:=by
 refine cntL_congr fun j hj=>?_
 unfold cntZ;rw[covPart_step a b n _ (x+j) z h 8]
 by_cases e:j=j0
 ·subst e;rw[if_pos rfl,if_pos (by omega)];omega
 ·rw[if_neg e,if_neg (by omega)];omega
theorem covRow_none (a b:WinP) (n Y q:Int) (h:∀ t,8*q<=t->t<8*q+8->¬inS a b n (32*t+16) Y):covRow a b n Y q=0:=by
 unfold covRow;exact Eq.trans (sumTo_congr 8 fun i hi=>if_neg (h _ (by omega) (by omega))) (sumTo_zero 8)
theorem cntK_next (a b:WinP) (n x y:Int) (k j:Nat):cntK a b n x y (k+1) j=cntK a b n x y k j+covRow a b n (256*y+32*k+16) (x+j):=rfl
structure RowS (a b:WinP) (n x y:Int) (k m:Nat) (pf pu:Int):Prop where
 iff:∀ z,(pf<=z/\z<=pu)↔((8*x*32+16<=z/\z<=(8*(x+m)-1)*32+16)/\inS a b n z (256*y+32*k+16))
theorem RowS.none {a b:WinP} {n x y:Int} {k m:Nat} {pf pu:Int} (h:RowS a b n x y k m pf pu) (hl:pu<pf):cntL (cntK a b n x y k) m=cntL (cntK a b n x y (k+1)) m:=by
 refine cntL_congr fun j hj=>?_
 rw[cntK_next,covRow_none a b n _ (x+j) fun t h1 h2 hin=>?_,Nat.add_zero];have:=(h.iff (32*t+16)).2 ⟨by omega,hin⟩;omega
theorem RowS.at_ {a b:WinP} {n x y:Int} {k m:Nat} {pf pu z:Int} (h:RowS a b n x y k m pf pu) (h0:-((16-pf)/32)<=z) (h1:z<=(pu-16)/32):inS a b n (32*z+16) (256*y+32*k+16)/\8*x<=z/\z<=8*(x+m)-1:=by
 have:=(h.iff (32*z+16)).1 ⟨by omega,by omega⟩;exact ⟨this.2,by omega,by omega⟩
theorem RowS.put {a b:WinP} {n x y:Int} {k m:Nat} {pf pu z:Int} (h:RowS a b n x y k m pf pu) (h0:-((16-pf)/32)<=z) (h1:z<=(pu-16)/32) (j:Nat) (hj:z/8-x=(j:Int)) (hm:j<m) (v:Nat) (hv:cntZ a b n x y k z j=v) :
  (cntL (cntZ a b n x y k z) m).setIfInBounds j (.int .i64 ((v:Int)+1))=cntL (cntZ a b n x y k (z+1)) m:=by
 have:=cntL_set (cntZ a b n x y k z) m j hm (v+1);rw[show ((v+1:Nat):Int)=(v:Int)+1 by omega] at this;rw[this,<-hv];exact cntZ_step a b n x y k m j z (h.at_ h0 h1).1 (by omega)
structure Got (w wx:World) (bm g1 k1 g2 k2:Nat) (W H:Int) (C Z:List Int) (o:OpsP) (f:FrP) (pd:Nat):Prop where
 im:Img wx bm g1 k1 g2 k2 W H C Z
 ro:Row wx w.heap.size #[.bool o.cut,.int .i64 o.x0,.int .i64 o.y0,.int .i64 o.x1,.int .i64 o.y1,.bool o.deep,.int .i64 o.fn,.bool o.keep,.bool o.mix,.int .i64 o.sf,.int .i64 o.df,.bool o.m0,.bool o.m1,.bool o.m2,.bool o.m3] 119
 rf:Row wx (w.heap.size+1) #[.int .i64 f.x,.int .i64 f.y,.int .i64 f.z,.int .i64 f.c0,.int .i64 f.c1,.int .i64 f.c2,.int .i64 f.c3,.int .i64 f.cov] 73
 d:Row wx pd #[.int .i64 (gotC up0 W H C f.x f.y),.int .i64 (gotC up1 W H C f.x f.y),.int .i64 (gotC up2 W H C f.x f.y),.int .i64 (gotC up3 W H C f.x f.y)] 43
 lt:bm<w.heap.size/\g1<w.heap.size/\g2<w.heap.size/\w.heap.size+1<pd
 chg:Chg (fun _=>False) w wx
theorem Got.ext {w wx:World} {bm g1 k1 g2 k2:Nat} {W H:Int} {C Z:List Int} {o:OpsP} {f:FrP} {pd:Nat} (h:Got w wx bm g1 k1 g2 k2 W H C Z o f pd) (X:Xt):Got w (wx.ext X) bm g1 k1 g2 k2 W H C Z o f pd :=
 ⟨h.im.ext X,h.ro.ext X,h.rf.ext X,h.d.ext X,h.lt,h.chg.ext X⟩
end Go.Proofs.YthcjfanigfgckaaGreat
