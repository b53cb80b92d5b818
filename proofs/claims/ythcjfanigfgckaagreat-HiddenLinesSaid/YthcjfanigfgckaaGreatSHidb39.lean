import Derived.Test.YthcjfanigfgckaaGreatSHidb38
set_option linter.unusedVariables false
set_option linter.unusedSimpArgs false
set_option maxRecDepth 100000
set_option maxHeartbeats 16000000
namespace Go.Proofs.YthcjfanigfgckaaGreat
open Go.RowKit _root_.Go.Proofs.Tryz
instance jh38 : Coe Nat Value := ⟨fun n => .int .i64 n⟩
def smS (a b:WinP) (x y:Int):Int:=(x-a.x)*(b.x-a.x)+(y-a.y)*(b.y-a.y)
def smC (a b:WinP) (x y:Int):Int:=(b.x-a.x)*(y-a.y)-(b.y-a.y)*(x-a.x)
def smL (a b:WinP):Int:=(b.x-a.x)*(b.x-a.x)+(b.y-a.y)*(b.y-a.y)
def smK (a b:WinP) (n:Int):Int:=smL a b*(128*n*128*n)
def inS (a b:WinP) (n x y:Int):Prop:=(0<=smS a b x y/\smS a b x y<smL a b)/\((0<smC a b x y/\smC a b x y*smC a b x y<=smK a b n)\/smC a b x y=0\/(smC a b x y<0/\smC a b x y*smC a b x y<smK a b n))
instance (a b : WinP) (n x y : Int) : Decidable (inS a b n x y) := by unfold inS; exact inferInstance
structure Across (K R B:Int):Prop where
 r0:0<=R
 lo:R*R<=K
 hi:K<(R+1)*(R+1)
 b:B=if R*R=K then R-1 else R
theorem rW {a b:Int} (h0:0<=a) (h:a<=b):a*a<=b*b:=Int.mul_le_mul h h h0 (by omega)
theorem aD9 {a b:Int} (h0:0<=a) (h:a<b):a*a<b*b:=by
 have:=rW (a:=a+1) (b:=b) (by omega) (by omega);have e:(a+1)*(a+1)=a*a+2*a+1:=by grind
 omega
theorem Across.pos {K R B:Int} (h:Across K R B) (hK:1<=K):1<=R/\0<=B:=by
 obtain ⟨h1,h2,h3,h4⟩:=h;have hr:1<=R:=by
  apply Classical.byContradiction;intro k
  obtain rfl:R=0:=by omega
  omega
 refine ⟨hr,?_⟩;rw[h4];split<;>omega
theorem Across.iff {K R B c:Int} (h:Across K R B) (hK:1<=K):((0<c/\c*c<=K)\/c=0\/(c<0/\c*c<K))↔(-B<=c/\c<=R):=by
 obtain ⟨p1,p2⟩:=h.pos hK;obtain ⟨h1,h2,h3,h4⟩:=h
 constructor
 ·rintro (⟨c0,c1⟩|rfl|⟨c0,c1⟩)
  ·refine ⟨by omega,?_⟩
   apply Classical.byContradiction;intro k
   have:=rW (a:=R+1) (b:=c) (by omega) (by omega);omega
  ·omega
  ·refine ⟨?_,by omega⟩
   apply Classical.byContradiction;intro k
   have e:c*c=(-c)*(-c):=by rw[Int.neg_mul_neg]
   rw[e] at c1
   by_cases q:R*R=K
   ·rw[if_pos q] at h4;have:=rW (a:=R) (b:=-c) (by omega) (by omega);omega
   ·rw[if_neg q] at h4;have:=rW (a:=R+1) (b:=-c) (by omega) (by omega);omega
 ·rintro ⟨b0,b1⟩
  by_cases c0:0<c
  ·exact .inl ⟨c0,by have:=rW (a:=c) (b:=R) (by omega) b1;omega⟩
  ·by_cases c1:c=0
   ·exact .inr (.inl c1)
   ·refine .inr (.inr ⟨by omega,?_⟩);have e:c*c=(-c)*(-c):=by rw[Int.neg_mul_neg]
    rw[e]
    by_cases q:R*R=K
    ·rw[if_pos q] at h4;have:=aD9 (a:=-c) (b:=R) (by omega) (by omega);omega
    ·rw[if_neg q] at h4;have:=rW (a:=-c) (b:=R) (by omega) (by omega);omega
def oG (f:Nat->Nat):Nat->Nat
 |0=>0
 |n+1=>oG f n+f n
theorem iJ {f g:Nat->Nat}:∀ n,(∀ i,i<n->f i=g i)->oG f n=oG g n
 |0,_=>rfl
 |n+1,h=>by rw[oG,oG,iJ n (fun i hi=>h i (by omega)),h n (by omega)]
theorem jR:∀ n,oG (fun _=>0) n=0
 |0=>rfl
 |n+1=>by simp only[oG];rw[jR n]
def smp (a b:WinP) (n x y:Int):Nat:=if inS a b n x y then 1 else 0
def sX (a b:WinP) (n Y q:Int):Nat:=oG (fun i=>smp a b n (32*(8*q+i)+16) Y) 8
def aOn (a b:WinP) (n x y:Int):Nat:=oG (fun k=>sX a b n (256*y+32*k+16) x) 8
def covPart (a b:WinP) (n Y q z:Int) (m:Nat):Nat:=oG (fun i=>if 8*q+(i:Int)<z then smp a b n (32*(8*q+i)+16) Y else 0) m
theorem covPart_step (a b:WinP) (n Y q z:Int) (h:inS a b n (32*z+16) Y):∀ m:Nat,covPart a b n Y q (z+1) m=covPart a b n Y q z m+(if 8*q<=z/\z<8*q+m then 1 else 0)
 |0=>by unfold covPart;simp only[oG];rw[if_neg (by omega)]
 |m+1=>by
  have ih:=covPart_step a b n Y q z h m;unfold covPart at ih ⊢;simp only[oG];rw[ih];generalize oG (fun i=>if 8*q+(i:Int)<z then smp a b n (32*(8*q+i)+16) Y else 0) m=A
  by_cases e:8*q+(m:Int)=z
  ·have hs:smp a b n (32*(8*q+(m:Int))+16) Y=1:=by rw[e];exact if_pos h
   rw[hs];clear ih hs h
   repeat' split
   all_goals omega
  ·generalize smp a b n (32*(8*q+(m:Int))+16) Y=S;clear ih h
   repeat' split
   all_goals omega
theorem uU (x:Int):0<=x*x:=by
 rcases Int.le_total 0 x with h|h
 ·exact Int.mul_nonneg h h
 ·have:=Int.mul_nonneg (a:=-x) (b:=-x) (by omega) (by omega)
  rwa [Int.neg_mul_neg] at this
def aQk (F:Nat->Nat) (m:Nat):Array Value:=((List.range m).map (fun j=>Value.int .i64 (F j:Int))).toArray
theorem cntL_set (F:Nat->Nat) (m j:Nat) (h:j<m) (v:Nat):(aQk F m).setIfInBounds j (.int .i64 (v:Int))=aQk (fun i=>if i=j then v else F i) m:=by
 apply Array.ext
 ·simp[aQk]
 ·intro i h1 h2;have hi:i<m:=by simpa [aQk] using h2
  simp only[aQk,List.setIfInBounds_toArray,List.getElem_toArray,List.getElem_set,List.getElem_map,List.getElem_range]
  by_cases e:i=j
  ·subst e;simp
  ·rw[if_neg (fun k=>e k.symm),if_neg e]
theorem aC9 {F G:Nat->Nat} {m:Nat} (h:∀ j,j<m->F j=G j):aQk F m=aQk G m:=by
 unfold aQk
 congr 1
 refine List.map_congr_left fun j hj=>?_
 rw[h j (List.mem_range.1 hj)]
structure Cn (w wr:World) (g:Nat) (s arr:Array Value):Prop where
 st:Row wr w.heap.size s 216
 ct:Row wr g arr 3
 lt:g<w.heap.size
 chg:Chg (fun j=>j=g) w wr
theorem Cn.grow {w wr:World} {g:Nat} {s arr:Array Value} (h:Cn w wr g s arr) (X:Xt):Cn w (wr.ext X) g s arr:=⟨h.st.ext X,h.ct.ext X,h.lt,h.chg.ext X⟩
theorem Cn.put {w wr:World} {g:Nat} {s arr:Array Value} (h:Cn w wr g s arr) (k:Nat) (v:Value):Cn w (wr.setCell ⟨g,k,none⟩ v) g s (arr.setIfInBounds k v) :=
 ⟨h.st.other (by have:=h.lt;omega) k v,h.ct.set k v,h.lt,h.chg.setCell (fun _=>rfl) v⟩
def aR1 (a b:WinP) (n x y:Int) (k j:Nat):Nat:=oG (fun k'=>sX a b n (256*y+32*k'+16) (x+j)) k
def cntZ (a b:WinP) (n x y:Int) (k:Nat) (z:Int) (j:Nat):Nat:=aR1 a b n x y k j+covPart a b n (256*y+32*k+16) (x+j) z 8
theorem cntZ_step (a b:WinP) (n x y:Int) (k m j0:Nat) (z:Int) (h:inS a b n (32*z+16) (256*y+32*k+16)) (hz:8*(x+j0)<=z/\z<8*(x+j0)+8) :
  aQk (fun i=>if i=j0 then cntZ a b n x y k z j0+1 else cntZ a b n x y k z i) m=aQk (cntZ a b n x y k (z+1)) m:=by
 refine aC9 fun j hj=>?_
 unfold cntZ;rw[covPart_step a b n _ (x+j) z h 8]
 by_cases e:j=j0
 ·subst e;rw[if_pos rfl,if_pos (by omega)];omega
 ·rw[if_neg e,if_neg (by omega)];omega
theorem zO (a b:WinP) (n Y q:Int) (h:∀ t,8*q<=t->t<8*q+8->¬inS a b n (32*t+16) Y):sX a b n Y q=0:=by
 unfold sX;exact Eq.trans (iJ 8 fun i hi=>if_neg (h _ (by omega) (by omega))) (jR 8)
theorem aHu (a b:WinP) (n x y:Int) (k j:Nat):aR1 a b n x y (k+1) j=aR1 a b n x y k j+sX a b n (256*y+32*k+16) (x+j):=rfl
structure RowS (a b:WinP) (n x y:Int) (k m:Nat) (pf pu:Int):Prop where
 iff:∀ z,(pf<=z/\z<=pu)↔((8*x*32+16<=z/\z<=(8*(x+m)-1)*32+16)/\inS a b n z (256*y+32*k+16))
theorem RowS.none {a b:WinP} {n x y:Int} {k m:Nat} {pf pu:Int} (h:RowS a b n x y k m pf pu) (hl:pu<pf):aQk (aR1 a b n x y k) m=aQk (aR1 a b n x y (k+1)) m:=by
 refine aC9 fun j hj=>?_
 rw[aHu,zO a b n _ (x+j) fun t h1 h2 hin=>?_,Nat.add_zero];have:=(h.iff (32*t+16)).2 ⟨by omega,hin⟩;omega
theorem RowS.at_ {a b:WinP} {n x y:Int} {k m:Nat} {pf pu z:Int} (h:RowS a b n x y k m pf pu) (h0:-((16-pf)/32)<=z) (h1:z<=(pu-16)/32):inS a b n (32*z+16) (256*y+32*k+16)/\8*x<=z/\z<=8*(x+m)-1:=by
 have:=(h.iff (32*z+16)).1 ⟨by omega,by omega⟩;exact ⟨this.2,by omega,by omega⟩
theorem RowS.put {a b:WinP} {n x y:Int} {k m:Nat} {pf pu z:Int} (h:RowS a b n x y k m pf pu) (h0:-((16-pf)/32)<=z) (h1:z<=(pu-16)/32) (j:Nat) (hj:z/8-x=(j:Int)) (hm:j<m) (v:Nat) (hv:cntZ a b n x y k z j=v) :
  (aQk (cntZ a b n x y k z) m).setIfInBounds j (.int .i64 ((v:Int)+1))=aQk (cntZ a b n x y k (z+1)) m:=by
 have:=cntL_set (cntZ a b n x y k z) m j hm (v+1);rw[show ((v+1:Nat):Int)=(v:Int)+1 by omega] at this;rw[this,<-hv];exact cntZ_step a b n x y k m j z (h.at_ h0 h1).1 (by omega)
section
theorem aTc (a b:WinP) (x y:Int):(y-a.y)*smL a b=smS a b x y*(b.y-a.y)+smC a b x y*(b.x-a.x):=by unfold smL smS smC;grind
theorem aTd (a b:WinP) (x y:Int):(x-a.x)*smL a b=smS a b x y*(b.x-a.x)-smC a b x y*(b.y-a.y):=by unfold smL smS smC;grind
theorem aAf {c w l m:Int} (hl:0<l) (hm:0<=m) (hc:c*c<=l*(m*m)) (hw:w*w<=l):-(m*l)<=c*w/\c*w<=m*l:=by
 have e:(c*w)*(c*w)=(c*c)*(w*w):=by grind
 have h1:(c*c)*(w*w)<=(l*(m*m))*l:=Int.mul_le_mul hc hw (uU w) (Int.mul_nonneg (by omega) (uU m));have e2:(l*(m*m))*l=(m*l)*(m*l):=by grind
 rw[<-e,e2] at h1;have ml:0<=m*l:=Int.mul_nonneg hm (by omega)
 constructor
 ·apply Classical.byContradiction;intro k
  have:=aD9 (a:=m*l) (b:=-(c*w)) ml (by omega);rw[Int.neg_mul_neg] at this;omega
 ·apply Classical.byContradiction;intro k
  have:=aD9 (a:=m*l) (b:=c*w) ml (by omega);omega
theorem aS5 {a b:WinP} {n x y:Int} (h:inS a b n x y):smC a b x y*smC a b x y<=smK a b n/\0<smL a b:=by
 obtain ⟨⟨h1,h2⟩,h3⟩:=h;have hl:0<smL a b:=by omega
 refine ⟨?_,hl⟩;rcases h3 with h3|h3|h3
 ·exact h3.2
 ·rw[h3];unfold smK;rw[show 128*n*128*n=(128*n)*(128*n) by grind];have:=Int.mul_nonneg (show 0<=smL a b by omega) (uU (128*n));omega
 ·omega
theorem sF {s l h:Int} (h0:0<=s) (h1:s<l):min 0 h*l<=s*h/\s*h<=max 0 h*l:=by
 by_cases k:0<=h
 ·rw[show min 0 h=0 by omega,show max 0 h=h by omega];have:=Int.mul_nonneg h0 k;have:=Int.mul_le_mul_of_nonneg_right (show s<=l by omega) k;rw[Int.mul_comm h l];omega
 ·rw[show min 0 h=h by omega,show max 0 h=0 by omega];have a1:=Int.mul_nonneg h0 (show 0<=-h by omega);have a2:=Int.mul_le_mul_of_nonneg_right (show s<=l by omega) (show 0<=-h by omega);rw[Int.mul_neg] at a1 a2;rw[Int.mul_neg] at a2;rw[Int.mul_comm h l];omega
theorem aTh {a b:WinP} {n x y:Int} (hn:0<=n) (h:inS a b n x y):min a.y b.y-128*n<=y/\y<=max a.y b.y+128*n:=by
 obtain ⟨hK,hl⟩:=aS5 h;obtain ⟨⟨h1,h2⟩,-⟩:=h;have e:=aTc a b x y;have hw:(b.x-a.x)*(b.x-a.x)<=smL a b:=by have:=uU (b.y-a.y);unfold smL;omega
 have sb:=aAf (c:=smC a b x y) (w:=b.x-a.x) (m:=128*n) hl (by omega) (by unfold smK at hK;rw[show 128*n*128*n=(128*n)*(128*n) by grind] at hK;exact hK) hw;have pb:=sF (h:=b.y-a.y) h1 h2;generalize smL a b=l at *;generalize smS a b x y*(b.y-a.y)=S at *;generalize smC a b x y*(b.x-a.x)=C at *;have k1:(y-a.y)*l<=(max 0 (b.y-a.y)+128*n)*l:=by rw[Int.add_mul];omega
 have k2:(min 0 (b.y-a.y)-128*n)*l<=(y-a.y)*l:=by rw[Int.sub_mul];omega
 have j1:=Int.le_of_mul_le_mul_right k1 hl;have j2:=Int.le_of_mul_le_mul_right k2 hl;omega
theorem aTi {a b:WinP} {n x y:Int} (hn:0<=n) (h:inS a b n x y):min a.x b.x-128*n<=x/\x<=max a.x b.x+128*n:=by
 obtain ⟨hK,hl⟩:=aS5 h;obtain ⟨⟨h1,h2⟩,-⟩:=h;have e:=aTd a b x y;have hw:(b.y-a.y)*(b.y-a.y)<=smL a b:=by have:=uU (b.x-a.x);unfold smL;omega
 have sb:=aAf (c:=smC a b x y) (w:=b.y-a.y) (m:=128*n) hl (by omega) (by unfold smK at hK;rw[show 128*n*128*n=(128*n)*(128*n) by grind] at hK;exact hK) hw;have pb:=sF (h:=b.x-a.x) h1 h2;generalize smL a b=l at *;generalize smS a b x y*(b.x-a.x)=S at *;generalize smC a b x y*(b.y-a.y)=C at *;have k1:(x-a.x)*l<=(max 0 (b.x-a.x)+128*n)*l:=by rw[Int.add_mul];omega
 have k2:(min 0 (b.x-a.x)-128*n)*l<=(x-a.x)*l:=by rw[Int.sub_mul];omega
 have j1:=Int.le_of_mul_le_mul_right k1 hl;have j2:=Int.le_of_mul_le_mul_right k2 hl;omega
theorem aHs {a b:WinP} {n x y:Int} (hn:0<=n) (h:256*y+240<min a.y b.y-128*n\/max a.y b.y+128*n<256*y+16\/256*x+240<min a.x b.x-128*n\/max a.x b.x+128*n<256*x+16):aOn a b n x y=0:=by
 unfold aOn sX;refine Eq.trans (iJ 8 fun k hk=>?_) (jR 8);refine Eq.trans (iJ 8 fun i hi=>if_neg fun hin=>?_) (jR 8);have h1:=aTh hn hin;have h2:=aTi hn hin;omega
def aTe (a b:WinP) (n x y:Int) (v:Int->Int->Int×Int×Int×Int×Int):FrP:=⟨x,y,(v x y).1,(v x y).2.1,(v x y).2.2.1,(v x y).2.2.2.1,(v x y).2.2.2.2,aOn a b n x y⟩
def r8 (a b:WinP) (n:Int) (v:Int->Int->Int×Int×Int×Int×Int) (x0 x y:Int):List FrP:=((rng x0 x).filter (fun x=>decide (aOn a b n x y≠0))).map (fun x=>aTe a b n x y v)
def aO8 (a b:WinP) (n:Int) (v:Int->Int->Int×Int×Int×Int×Int) (x0 x1 y0 y:Int):List FrP:=(rng y0 y).flatMap (r8 a b n v x0 x1)
theorem nY (a b:WinP) (n:Int) (v:Int->Int->Int×Int×Int×Int×Int) (x0 x y:Int) (h:∀ z,x0<=z->z<x->aOn a b n z y=0):r8 a b n v x0 x y=[]:=by
 unfold r8;rw[List.map_eq_nil_iff,List.filter_eq_nil_iff];intro z hz;obtain ⟨h1,h2⟩:=rng_mem.1 hz;simp[h z h1 h2]
theorem smRowL_no (a b:WinP) (n:Int) (v:Int->Int->Int×Int×Int×Int×Int) (x0 x y:Int) (h:x0<=x) (hc:aOn a b n x y=0):r8 a b n v x0 (x+1) y=r8 a b n v x0 x y:=by
 unfold r8;rw[aAi h,List.filter_append,List.map_append];simp[hc]
theorem smRowL_end (a b:WinP) (n:Int) (v:Int->Int->Int×Int×Int×Int×Int) (x0 x y:Int) (hx:x0<=x) (m:Nat) (h:∀ z,x<=z->z<x+m->aOn a b n z y=0):r8 a b n v x0 (x+m) y=r8 a b n v x0 x y:=by
 induction m with
 |zero=>simp
 |succ m ih=>rw[show x+((m+1:Nat):Int)=(x+m)+1 by omega,smRowL_no a b n v x0 (x+m) y (by omega) (h _ (by omega) (by omega)),ih fun z h1 h2=>h z h1 (by omega)]
structure Band (a b:WinP) (n x0 y0 x1 y1 L R O I:Int):Prop where
 l:L=max x0 ((min a.x b.x-n*128)/256-1)
 r:R=min x1 ((max a.x b.x+n*128)/256+2)
 o:O=max y0 ((min a.y b.y-n*128)/256-1)
 i:I=min y1 ((max a.y b.y+n*128)/256+2)
section
variable {a b:WinP} {n x0 y0 x1 y1 L R O I:Int} {v:Int->Int->Int×Int×Int×Int×Int}
theorem Band.col (h:Band a b n x0 y0 x1 y1 L R O I) (hn:0<=n) (x y:Int) (h0:x0<=x) (h1:x<x1) (hx:x<L\/R<=x):aOn a b n x y=0:=by
 obtain ⟨rfl,rfl,-,-⟩:=h;exact aHs hn (by omega)
theorem Band.row (h:Band a b n x0 y0 x1 y1 L R O I) (hn:0<=n) (x y:Int) (h0:y0<=y) (h1:y<y1) (hy:y<O\/I<=y):aOn a b n x y=0:=by
 obtain ⟨-,-,rfl,rfl⟩:=h;exact aHs hn (by omega)
theorem Band.none (h:Band a b n x0 y0 x1 y1 L R O I) (hn:0<=n) (hL:R<=L):aO8 a b n v x0 x1 y0 y1=[]:=by
 unfold aO8;rw[List.flatMap_eq_nil_iff];intro z hz;exact nY a b n v x0 x1 z fun x h0 h1=>h.col hn x z h0 h1 (by omega)
theorem Band.left (h:Band a b n x0 y0 x1 y1 L R O I) (hn:0<=n) (hl:L<R) (y:Int):r8 a b n v x0 L y=[] :=
 nY a b n v x0 L y fun z h0 h1=>h.col hn z y h0 (by have:=h.r;omega) (by omega)
theorem Band.right (h:Band a b n x0 y0 x1 y1 L R O I) (hn:0<=n) (hl:L<R) (y:Int):r8 a b n v x0 R y=r8 a b n v x0 x1 y:=by
 have hR:R<=x1:=by have:=h.r;omega
 have hL:x0<=L:=by have:=h.l;omega
 have:=smRowL_end a b n v x0 R y (by omega) (x1-R).toNat fun z k0 k1=>h.col hn z y (by omega) (by omega) (by omega)
 rw[show R+((x1-R).toNat:Int)=x1 by omega] at this;exact this.symm
end
theorem aB3 (a b:WinP) (n:Int) (v:Int->Int->Int×Int×Int×Int×Int) (x0 x y:Int):(r8 a b n v x0 x y).length<=(x-x0).toNat:=by
 unfold r8;rw[List.length_map,<-jA x0 x];exact List.length_filter_le _ _
theorem aI4 (a b:WinP) (n:Int) (v:Int->Int->Int×Int×Int×Int×Int) (x0 x1 y0 y:Int):(aO8 a b n v x0 x1 y0 y).length<=(x1-x0).toNat * (y-y0).toNat:=by
 unfold aO8;rw[<-jA y0 y]
 induction rng y0 y with
 |nil=>simp
 |cons z l ih =>
  rw[List.flatMap_cons,List.length_append,List.length_cons,Nat.mul_succ];have:=aB3 a b n v x0 x1 z;omega
end
structure RcP where
 x0:Int
 y0:Int
 x1:Int
 y1:Int
abbrev RcP.v (r:RcP):Value:=R4 r.x0 r.y0 r.x1 r.y1
def RcP.has (r:RcP) (x y:Int):Prop:=nM r.x0 r.y0 r.x1 r.y1 x y
instance rcHasDec (r : RcP) (x y : Int) : Decidable (r.has x y) := by unfold RcP.has; exact inferInstance
theorem zQ {Q:Int}:max (-33554432) (min (if sml Q then nX Q else if Q<0 then -33554432 else 33554432) 33554432)=kM Q:=by
 unfold kM
 by_cases h:sml Q
 ·rw[if_pos h,iK h]
 ·rw[if_neg h];unfold sml at h;split<;>omega
theorem tJ (a b c:WinP) (f u:Int) (ha:a.fits) (hb:b.fits) (hc:c.fits) (f0:-65536<=f) (f1:f<=65536) (u0:-16777216<=u) (u1:u<=16777216) (w:World) :
  Calls prog 50 #[a.v,b.v,c.v,f,u] w (Ret (.int .i64 (aIl a b c f u)) w):=by
 have A:=jj (fun w=>eM a b c (iV ha hb hc) w);have ab:=(iV ha hb hc).ar;obtain ⟨⟨y0,y1⟩,x0,x1⟩:=uR ha hb hc;have hU:stU a b c=a.z*(b.y-c.y)+b.z*(c.y-a.y)+c.z*(a.y-b.y):=rfl;have hV:stV a b c=a.z*(b.x-c.x)+b.z*(c.x-a.x)+c.z*(a.x-b.x):=rfl;obtain ⟨p0,p1,p2,p3,pz0,pz1,-⟩:=ha;obtain ⟨q0,q1,q2,q3,qz0,qz1,-⟩:=hb;obtain ⟨r0,r1,r2,r3,rz0,rz1,-⟩:=hc;have m1:=iT pz0 pz1 (d:=b.y-c.y) (by omega) (by omega);have m2:=iT qz0 qz1 (d:=c.y-a.y) (by omega) (by omega);have m3:=iT rz0 rz1 (d:=a.y-b.y) (by omega) (by omega);have n1:=iT pz0 pz1 (d:=b.x-c.x) (by omega) (by omega);have n2:=iT qz0 qz1 (d:=c.x-a.x) (by omega) (by omega);have n3:=iT rz0 rz1 (d:=a.x-b.x) (by omega) (by omega);have d1:IntKind.i64.wrap (b.y-c.y)=b.y-c.y:=IntWalk.i64_in _ (by omega);have d2:IntKind.i64.wrap (c.y-a.y)=c.y-a.y:=IntWalk.i64_in _ (by omega);have d3:IntKind.i64.wrap (a.y-b.y)=a.y-b.y:=IntWalk.i64_in _ (by omega);have k1:IntKind.i64.wrap (a.z*(b.y-c.y))=a.z*(b.y-c.y):=IntWalk.i64_in _ (by omega);have k2:IntKind.i64.wrap (b.z*(c.y-a.y))=b.z*(c.y-a.y):=IntWalk.i64_in _ (by omega);have k3:IntKind.i64.wrap (c.z*(a.y-b.y))=c.z*(a.y-b.y):=IntWalk.i64_in _ (by omega);have k4:IntKind.i64.wrap (a.z*(b.y-c.y)+b.z*(c.y-a.y))=a.z*(b.y-c.y)+b.z*(c.y-a.y):=IntWalk.i64_in _ (by omega);have k5:IntKind.i64.wrap (a.z*(b.y-c.y)+b.z*(c.y-a.y)+c.z*(a.y-b.y))=stU a b c:=by rw[hU];exact IntWalk.i64_in _ (by omega)
 have e1:IntKind.i64.wrap (b.x-c.x)=b.x-c.x:=IntWalk.i64_in _ (by omega);have e2:IntKind.i64.wrap (c.x-a.x)=c.x-a.x:=IntWalk.i64_in _ (by omega);have e3:IntKind.i64.wrap (a.x-b.x)=a.x-b.x:=IntWalk.i64_in _ (by omega);have g1:IntKind.i64.wrap (a.z*(b.x-c.x))=a.z*(b.x-c.x):=IntWalk.i64_in _ (by omega);have g2:IntKind.i64.wrap (b.z*(c.x-a.x))=b.z*(c.x-a.x):=IntWalk.i64_in _ (by omega);have g3:IntKind.i64.wrap (c.z*(a.x-b.x))=c.z*(a.x-b.x):=IntWalk.i64_in _ (by omega);have g4:IntKind.i64.wrap (a.z*(b.x-c.x)+b.z*(c.x-a.x))=a.z*(b.x-c.x)+b.z*(c.x-a.x):=IntWalk.i64_in _ (by omega);have g5:IntKind.i64.wrap (a.z*(b.x-c.x)+b.z*(c.x-a.x)+c.z*(a.x-b.x))=stV a b c:=by rw[hV];exact IntWalk.i64_in _ (by omega)
 have BU:=jj (fun w=>pS (stU a b c) (by unfold dQ at y0 y1;split at y0<;>omega) (by unfold dQ at y0 y1;split at y0<;>omega) w);have BV:=jj (fun w=>pS (stV a b c) (by unfold dQ at x0 x1;split at x0<;>omega) (by unfold dQ at x0 x1;split at x0<;>omega) w);unfold aIl aD2;generalize stU a b c=su at *;generalize stV a b c=sv at *;generalize ar a b c=n at *;obtain ⟨ab0,ab1⟩:=ab;have B0:=jj (fun w=>pS n (by omega) (by omega) w);have hd:dQ n=0↔n=0:=by unfold dQ;split<;>omega
 have hd1:0<=dQ n/\dQ n<=3602880389091196928:=by unfold dQ;split<;>omega
 generalize dQ su=bu at *;generalize dQ sv=bw at *;clear hU hV m1 m2 m3 n1 n2 n3 p0 p1 p2 p3 pz0 pz1 q0 q1 q2 q3 qz0 qz1 r0 r1 r2 r3 rz0 rz1
 by_cases h:n=0
 ·rw[if_pos h];have e:dQ n=0:=hd.2 h;rw[e] at B0;have hu:max (-33554432) (min u 33554432)=u:=by omega
  have HU:=jj hu;clear hd hd1 h e hu
  go_enter func50,ntmps50
  go_wp2_with (first|(go_at_call 62;with_reducible refine jn (A.out _) fun X_=>?_)|(go_at_call 85;with_reducible refine jn (B0.out _) fun X_=>?_))
  go_ret;exact Ret.of' (congrArg (Value.int .i64) HU.out) (by exact bl_)
 ·rw[if_neg h];have hdn:¬dQ n=0:=fun k=>h (hd.1 k)
  obtain ⟨D,hD⟩:∃ D,dQ n=D:=⟨_,rfl⟩;rw[hD] at B0 hd1 hdn ⊢;obtain ⟨N,hN⟩:∃ N,max bu bw=N:=⟨_,rfl⟩;rw[hN];have N0:0<=N/\N<=27021596153610240:=by omega
  have D0:1<=D/\D<=3602880389091196928:=by omega
  have mb:=eI (U:=65536) (V:=27021596153610240) (by omega) (by omega) f0 f1 (show -27021596153610240<=N by omega) N0.2;have M:=jj (fun w=>jS f N (by unfold sml;omega) (by unfold sml;omega) w);have F1:=jj (fun w=>dI (f*N) (by unfold inR;omega) w);have O1:=jj (fun w=>kS D (by unfold sml;omega) w);have F2:=jj (fun w=>dI D (by unfold inR;omega) w);have qb:-1770887431076116955136<=f*N/D/\f*N/D<=1770887431076116955136:=by
   have e:=Int.ediv_mul_le (f*N) (b:=D) (by omega);have l:=Int.lt_ediv_add_one_mul_self (f*N) (b:=D) (by omega);obtain ⟨Q,hQ⟩:∃ Q,f*N/D=Q:=⟨_,rfl⟩;rw[hQ] at e l ⊢
   constructor
   ·apply Int.not_lt.1;intro hl
    have:(Q+1)*D<=(Q+1)*1:=Int.mul_le_mul_of_nonpos_left (by omega) D0.1;omega
   ·apply Int.not_lt.1;intro hl
    have:Q*1<=Q*D:=Int.mul_le_mul_of_nonneg_left D0.1 (by omega);omega
  have FL:=jj (fun va vd (j k:Nat) w h1 h2 h3=>qL va vd (f*N) D j k w h1 h2 D0.1 h3);generalize f*N=fN at *;generalize fN/D=q at *;generalize fN%D=r at *;have O2:=jj (fun w=>kS u (by unfold sml;omega) w);have F3:=jj (fun w=>dI u (by unfold inR;omega) w);have ib:inR (q+u):=by unfold inR;omega
  have TO:=jj (fun v (k:Nat) w h=>aAe v (q+u) k w h);rw[nL ib] at TO;have SM:=jj (fun w=>m7 (q+u) ib w);have CS:=jj (zQ (Q:=q+u));have hDz:(D==0)=false:=by simpa using hdn
  obtain ⟨N00,N01⟩:=N0;obtain ⟨D00,D01⟩:=D0;have HM:=jj hN;have hm:=HM.out;clear hd hd1 h hdn hD hN mb qb ib
  go_enter func50,ntmps50
  go_upto_region 7 with (first
   |(go_at_call 62;(with_reducible refine (A.out _).mono ?_);rintro _ _ ⟨rfl,XA,rfl⟩)
   |(go_at_call 85;(with_reducible refine (B0.out _).mono ?_);rintro _ _ ⟨rfl,XB0,rfl⟩)
   |(go_at_call 85;(with_reducible refine (BU.out _).mono ?_);rintro _ _ ⟨rfl,XB1,rfl⟩)
   |(go_at_call 85;(with_reducible refine (BV.out _).mono ?_);rintro _ _ ⟨rfl,XB2,rfl⟩)
   |(go_at_call 87;(with_reducible refine (M.out _).mono ?_);rintro _ _ ⟨rfl,XM,rfl⟩)
   |(go_at_call 61;(with_reducible refine (O1.out _).mono ?_);rintro _ _ ⟨rfl,XO,rfl⟩)
   |(go_at_call 60;(with_reducible refine Calls.mono (F1.out _) ?_);(repeat (first|assumption|exact N1.out|exact N2.out|exact N3.out|exact N4.out|with_reducible refine RN.ext ?_ _|with_reducible refine RN.alloc ?_ _|with_reducible refine RN.drew ?_));rintro _ _ ⟨v_N1,rfl,g_N1,⟨Y_N1,rfl⟩⟩;obtain ⟨m_N1,a_N1,k_N1,c_N1,rfl⟩:=g_N1.form;have N1:=jj g_N1;clear g_N1)
   |(go_at_call 60;(with_reducible refine Calls.mono (F2.out _) ?_);(repeat (first|assumption|exact N1.out|exact N2.out|exact N3.out|exact N4.out|with_reducible refine RN.ext ?_ _|with_reducible refine RN.alloc ?_ _|with_reducible refine RN.drew ?_));rintro _ _ ⟨v_N2,rfl,g_N2,⟨Y_N2,rfl⟩⟩;obtain ⟨m_N2,a_N2,k_N2,c_N2,rfl⟩:=g_N2.form;have N2:=jj g_N2;clear g_N2)
   |(go_at_call 86;(with_reducible refine (FL.out _ _ 129 129 _ ?_ ?_ (by decide)).mono ?_);(repeat (first|assumption|exact N1.out|exact N2.out|exact N3.out|exact N4.out|with_reducible refine RN.ext ?_ _|with_reducible refine RN.alloc ?_ _|with_reducible refine RN.drew ?_));rintro _ _ ⟨v_,rfl,⟨qv,rv,rfl,gq,gr⟩,⟨YF,rfl⟩⟩;obtain ⟨mq,aq,kq,cq,rfl⟩:=gq.form;obtain ⟨mr,ar',kr,cr,rfl⟩:=gr.form;clear N1 N2 gr;have N3:=jj gq;clear gq))
  obtain ⟨P,hP⟩:∃ P,w.heap.size+1+1+1+XA.sz+XB0.sz+XB1.sz+XB2.sz+XM.sz+Y_N1.sz+XO.sz+Y_N2.sz+YF.sz=P:=⟨_,rfl⟩;refine aE (F:=fun w1=>Row w1 P #[.bool mq,.slice aq kq cq] 101/\RN w1 (.agg #[.bool mq,.slice aq kq cq]) q 131/\∃ X,w1=w.ext X) ⟨by rw[<-hP];exact rx_,(N3.out.alloc _).alloc _,jz (by exact bl_)⟩ ?_;have HPw:=jj (show w.heap.size<=P by omega);rw[hP];rintro w1 ⟨hr,hn,hX⟩;have HR:=jj hr;have HN:=jj hn;have HX:=jj hX;have c1:=hr.cell;have c2:=hr.frozen;have c3:=hr.lt;clear hr hn hX hP N3;refine aJ 5 [none,none,some ([],srV (I2 u)),some ([2],srN u 129),some ([3],srN (q+u) 132)] (by kernel_rfl) (by kernel_rfl) ?_;simp only[jx]
  (repeat (first|(refine aA ?_;intro K_ hK_;go_big_quiet_op;go_big_quiet_on)|simp only[jw]))
  refine aF rfl (fun w_ hw_ hk_ K_ hK_=>?_) (fun v2 f2=>?_)
  ·obtain ⟨X_,rfl⟩:=hw_;go_simp
   go_at_call 61
   refine (O2.out _).mono ?_;rintro _ _ ⟨rfl,hX⟩;exact hK_ _ _ rfl hX
  obtain rfl:=f2
  (repeat (first|(refine aA ?_;intro K_ hK_;go_big_quiet_op;go_big_quiet_on)|simp only[jw]))
  refine aF rfl (fun w_ hw_ hk_ K_ hK_=>?_) (fun v3 f3=>?_)
  ·obtain ⟨X_,rfl⟩:=hw_;go_simp
   go_at_call 60
   refine (F3.out _).mono ?_;rintro _ _ ⟨v,rfl,h1,h2⟩;exact hK_ _ _ h1 h2
  obtain ⟨m3,a3,l3,b3,rfl⟩:=f3
  (repeat (first|(refine aA ?_;intro K_ hK_;go_big_quiet_op;go_big_quiet_on)|simp only[jw]))
  refine aF rfl (fun w_ hw_ hk_ K_ hK_=>?_) (fun v4 f4=>?_)
  ·obtain ⟨X_,rfl⟩:=hw_;have h3:=(hk_ (3,_) (by repeat (first|exact List.mem_cons_self|refine jk ?_))) (by simp);go_simp
   go_at_call 59
   refine (iI _ _ q u 131 129 _ (by first|exact HN.out.ext _|exact HN.out.drew.ext _) h3 (by decide) (by decide)).mono ?_;rintro _ _ ⟨v,rfl,h1,h2⟩;exact hK_ _ _ h1 h2
  obtain ⟨m4,a4,l4,b4,rfl⟩:=f4
  (repeat (first|(refine aA ?_;intro K_ hK_;go_big_quiet_op;go_big_quiet_on)|simp only[jw]))
  refine aT ?_;intro w_ hw_ kk;obtain ⟨X,rfl⟩:=hw_;have h4:=(kk (4,_) (by repeat (first|exact List.mem_cons_self|refine jk ?_)));have H4:=jj h4;clear h4 kk;go_upto_region 8 with fail
  have NP:=pY (HR.out.ext X) qF H4.out;rw[World.setCell_ext c3,World.setCell_ext (by simpa [World.setCell] using c3)] at NP;have hpw:=HPw.out;have hmn:m4=decide (q+u<0):=by
   obtain ⟨a5,k5,c5,e,-⟩:=H4.out.minus;injection e with e
   simp at e;exact e.1
  refine aE (F:=fun w2=>Row w2 P #[.bool m4,.slice a4 l4 b4] 101/\RN w2 (.agg #[.bool m4,.slice a4 l4 b4]) (q+u) 132/\∃ X,w2=w.ext X) ⟨NP.1,NP.2,?_⟩ ?_
  ·obtain ⟨X0,hX0⟩:=HX.out;subst hX0;exact jz (by exact br_)
  clear NP c1 c2 c3 HR HN HX H4;rintro w2 ⟨hr,hn,hX⟩;have HN:=jj hn;have HX:=jj hX;have c1:=hr.cell;have c2:=hr.frozen;have c3:=hr.lt;clear hr hn hX;obtain ⟨Z,hZ⟩:∃ Z,q+u=Z:=⟨_,rfl⟩;rw[hZ] at TO SM CS hmn HN ⊢;have HMN:=jj hmn;have HZE:=jj hZ;clear hZ hmn
  by_cases hs:sml Z
  ·have cs:=CS.out;rw[if_pos hs] at cs;simp only[hs,decide_true] at SM;obtain ⟨V,hV⟩:∃ V,nX Z=V:=⟨_,rfl⟩;rw[hV] at SM cs;have HC:=jj cs;clear cs hV hs CS
   go_wp2_with (first
    |(go_at_call 88;(with_reducible refine (TO.out _ 132 _ HN.out).mono ?_);rintro _ _ ⟨rfl,XT,rfl⟩)
    |(go_at_call 89;with_reducible refine jn (SM.out _) fun X_=>?_))
   go_ret;obtain ⟨X0,hX0⟩:=HX.out;subst hX0;refine Ret.of' (congrArg (Value.int .i64) ?_) (by exact br_);rw[HZE.out,<-HC.out]
   try rfl
  ·have cs:=CS.out;rw[if_neg hs] at cs;simp only[hs,decide_false] at SM;obtain ⟨V,hV⟩:∃ V,nX Z=V:=⟨_,rfl⟩;rw[hV] at SM;clear hV hs CS
   by_cases hz:Z<0
   ·rw[if_pos hz] at cs;have hmt:m4=true:=by rw[HMN.out];simpa using hz
    subst hmt;have HC:=jj cs;clear cs hz HMN
    go_wp2_with (first
     |(go_at_call 88;(with_reducible refine (TO.out _ 132 _ HN.out).mono ?_);rintro _ _ ⟨rfl,XT,rfl⟩)
     |(go_at_call 89;with_reducible refine jn (SM.out _) fun X_=>?_))
    go_ret;obtain ⟨X0,hX0⟩:=HX.out;subst hX0;refine Ret.of' (congrArg (Value.int .i64) ?_) (by exact br_);rw[HZE.out,<-HC.out]
    try rfl
   ·rw[if_neg hz] at cs;have hmt:m4=false:=by rw[HMN.out];simpa using hz
    subst hmt;have HC:=jj cs;clear cs hz HMN
    go_wp2_with (first
     |(go_at_call 88;(with_reducible refine (TO.out _ 132 _ HN.out).mono ?_);rintro _ _ ⟨rfl,XT,rfl⟩)
     |(go_at_call 89;with_reducible refine jn (SM.out _) fun X_=>?_))
    go_ret;obtain ⟨X0,hX0⟩:=HX.out;subst hX0;refine Ret.of' (congrArg (Value.int .i64) ?_) (by exact br_);rw[HZE.out,<-HC.out]
    try rfl
end Go.Proofs.YthcjfanigfgckaaGreat
