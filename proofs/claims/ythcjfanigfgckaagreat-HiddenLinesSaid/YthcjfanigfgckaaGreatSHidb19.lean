import Derived.Test.YthcjfanigfgckaaGreatSHidb13
import Derived.Test.YthcjfanigfgckaaGreatSHidb18
set_option linter.unusedVariables false
set_option linter.unusedSimpArgs false
set_option maxRecDepth 100000
set_option maxHeartbeats 16000000
namespace Go.Proofs.YthcjfanigfgckaaGreat
open Go.RowKit _root_.Go.Proofs.Tryz
instance jh18 : Coe Nat Value := ⟨fun n => .int .i64 n⟩
def dN (p q:WinP):Int:=if q.y-p.y<0\/(q.y-p.y=0/\q.x-p.x<0) then 0 else 1
def jM (p q:WinP) (y:Int):Int:=ar p q (cW 0 y)-dN p q
def lY (p q:WinP) (y f:Int):Int:=if q.y-p.y<0 then max f (-(jM p q y/(-(q.y-p.y)*256))) else f
def tH (p q:WinP) (y f t:Int):Int:=if 0<q.y-p.y then min t (jM p q y/((q.y-p.y)*256)+1) else if q.y-p.y<0 then t else if jM p q y<0 then f else t
theorem aCr (p q:WinP) (x y:Int):jH p q x y↔dN p q<=ar p q (cW x y):=by
 unfold jH dN
 split<;>omega
theorem aQ1 (p q:WinP) (x y:Int):ar p q (cW x y)=ar p q (cW 0 y)-(q.y-p.y)*256*x:=by
 unfold ar;simp only[cW];grind
theorem nA (p q:WinP) (x y f t:Int):(lY p q y f<=x/\x<tH p q y f t)↔(f<=x/\x<t/\jH p q x y):=by
 rw[aCr,aQ1];have e:(dN p q<=ar p q (cW 0 y)-(q.y-p.y)*256*x)↔(q.y-p.y)*256*x<=jM p q y:=by unfold jM;omega
 rw[e];unfold lY tH;generalize jM p q y=F;generalize q.y-p.y=h
 by_cases c:h<0
 ·rw[if_pos c,if_neg (by omega),if_pos c];have k:-x<=F/(-h*256)↔-x*(-h*256)<=F:=Int.le_ediv_iff_mul_le (by omega);have k2:-x*(-h*256)=h*256*x:=by grind
  rw[k2] at k;omega
 ·rw[if_neg c]
  by_cases c2:0<h
  ·rw[if_pos c2];have k:x<=F/(h*256)↔x*(h*256)<=F:=Int.le_ediv_iff_mul_le (by omega);have k2:x*(h*256)=h*256*x:=Int.mul_comm _ _;rw[k2] at k;omega
  ·rw[if_neg c2,if_neg c];obtain rfl:h=0:=by omega
   simp only[Int.zero_mul]
   split<;>omega
def spF (a b c:WinP) (x0 y:Int):Int:=lY (bO a b c) a y (lY (bE a b c) (bO a b c) y (lY a (bE a b c) y x0))
def spT (a b c:WinP) (x0 x1 y:Int):Int:=tH (bO a b c) a y (lY (bE a b c) (bO a b c) y (lY a (bE a b c) y x0)) (tH (bE a b c) (bO a b c) y (lY a (bE a b c) y x0) (tH a (bE a b c) y x0 x1))
theorem dS {a b c:WinP} (h:ar a b c≠0) (x0 x1 x y:Int):(spF a b c x0 y<=x/\x<spT a b c x0 x1 y)↔(x0<=x/\x<x1/\cO a b c x y):=by
 unfold spF spT cO
 constructor
 ·intro k;obtain ⟨k1,k2,k3⟩:=(nA _ _ _ _ _ _).1 k;obtain ⟨l1,l2,l3⟩:=(nA _ _ _ _ _ _).1 ⟨k1,k2⟩;obtain ⟨m1,m2,m3⟩:=(nA _ _ _ _ _ _).1 ⟨l1,l2⟩;exact ⟨m1,m2,h,m3,l3,k3⟩
 ·rintro ⟨h1,h2,-,h3,h4,h5⟩;have m:=(nA a (bE a b c) x y x0 x1).2 ⟨h1,h2,h3⟩;have l:=(nA (bE a b c) (bO a b c) x y _ _).2 ⟨m.1,m.2,h4⟩;exact (nA (bO a b c) a x y _ _).2 ⟨l.1,l.2,h5⟩
theorem aIy {a b c:WinP} {x y:Int} (h:cO a b c x y):min a.y (min b.y c.y)<=y*256+128/\y*256+128<=max a.y (max b.y c.y):=by
 obtain ⟨w0,w1,w2⟩:=qI h;have hs:=aMd a (bE a b c) (bO a b c) (cW x y);have hn:=aLh a b c;have h0:=h.1;have e:ar (cW x y) (bE a b c) (bO a b c)*a.y+ar a (cW x y) (bO a b c)*(bE a b c).y+ar a (bE a b c) (cW x y)*(bO a b c).y=ar a (bE a b c) (bO a b c)*(y*256+128):=by
  generalize bE a b c=B;generalize bO a b c=C
  unfold ar;simp only[cW];grind
 rw[aO1] at hs e;have m:(min a.y (min b.y c.y)<=(bE a b c).y/\(bE a b c).y<=max a.y (max b.y c.y))/\min a.y (min b.y c.y)<=(bO a b c).y/\(bO a b c).y<=max a.y (max b.y c.y):=by
  rcases aAd a b c with ⟨e1,e2⟩|⟨e1,e2⟩<;>rw[e1,e2]<;>omega
 obtain ⟨⟨m1,m2⟩,m3,m4⟩:=m;have k:=vM (lo:=min a.y (min b.y c.y)) (hi:=max a.y (max b.y c.y)) (p:=a.y) w0 w1 w2 hs (by omega) (by omega) (by omega) m1 m2 m3 m4;rw[e,Int.mul_ediv_cancel_left _ (by omega)] at k;exact k
def gQ (a b c:WinP) (x0 x1 y:Int):List SpP:=if spF a b c x0 y<spT a b c x0 x1 y then [⟨y,spF a b c x0 y,spT a b c x0 x1 y⟩] else []
def bL (a b c:WinP) (x0 x1 y0 y:Int):List SpP:=(rng y0 y).flatMap (gQ a b c x0 x1)
def dL (a b c:WinP) (x0 y0 x1 y1:Int):List SpP:=if ar a b c=0\/¬aM x0 y0 x1 y1 then [] else bL a b c x0 x1 y0 y1
theorem i7 (a b c:WinP) (x0 x1 y0 y:Int) (h:y0<=y):bL a b c x0 x1 y0 (y+1)=bL a b c x0 x1 y0 y++gQ a b c x0 x1 y:=by
 unfold bL;rw[aAi h,List.flatMap_append,List.flatMap_cons,List.flatMap_nil,List.append_nil]
theorem pE {a b c:WinP} (h:ar a b c≠0) {x0 x1 y:Int} (hy:y*256+128<min a.y (min b.y c.y)\/max a.y (max b.y c.y)<y*256+128):gQ a b c x0 x1 y=[]:=by
 unfold gQ;rw[if_neg];intro hl;have:=((dS h x0 x1 (spF a b c x0 y) y).1 ⟨Int.le_refl _,hl⟩).2.2;have:=aIy this;omega
theorem kQ {a b c:WinP} (h:ar a b c≠0) {x0 x1 y0 y:Int} (hy:∀ z,y0<=z->z<y->z*256+128<min a.y (min b.y c.y)\/max a.y (max b.y c.y)<z*256+128):bL a b c x0 x1 y0 y=[]:=by
 unfold bL;rw[List.flatMap_eq_nil_iff];intro z hz;obtain ⟨h1,h2⟩:=rng_mem.1 hz;exact pE h (hy z h1 h2)
theorem uT {a b c:WinP} (h:ar a b c≠0) {x0 x1 y0 y:Int} (h0:y0<=y) (n:Nat) (hy:∀ z,y<=z->z*256+128<min a.y (min b.y c.y)\/max a.y (max b.y c.y)<z*256+128):bL a b c x0 x1 y0 (y+n)=bL a b c x0 x1 y0 y:=by
 induction n with
 |zero=>simp
 |succ n ih =>
  rw[show y+((n+1:Nat):Int)=(y+n)+1 by omega,i7 _ _ _ _ _ _ _ (by omega),ih,pE h (hy _ (by omega)),List.append_nil]
theorem xF {a b c:WinP} (h:ar a b c≠0) (x0 x1 y0:Int):bL a b c x0 x1 y0 (max y0 (min a.y (min b.y c.y)/256-1))=[] :=
 kQ h fun z h1 h2=>.inl (by omega)
theorem aD7 {a b c:WinP} (h:ar a b c≠0) (x0 x1 y0 y1 y:Int) (hy:y0<=y1) (h1:max y0 (min a.y (min b.y c.y)/256-1)<=y)
  (h2:y<=max (max y0 (min a.y (min b.y c.y)/256-1)) (min y1 (max a.y (max b.y c.y)/256+2))) (h3:min y1 (max a.y (max b.y c.y)/256+2)<=y):bL a b c x0 x1 y0 y=bL a b c x0 x1 y0 y1:=by
 by_cases c1:y<=y1
 ·by_cases c2:y=y1
  ·rw[c2]
  ·have:=uT h (x0:=x0) (x1:=x1) (y0:=y0) (y:=y) (by omega) (y1-y).toNat fun z hz=>.inr (by omega)
   rw[show y+((y1-y).toNat:Int)=y1 by omega] at this;exact this.symm
 ·rw[kQ h (y:=y) fun z k1 k2=>.inl (by omega),kQ h (y:=y1) fun z k1 k2=>.inl (by omega)]
theorem pD (a b c:WinP) (x0 x1 y0 y:Int):(bL a b c x0 x1 y0 y).length<=(y-y0).toNat:=by
 unfold bL;rw[<-jA y0 y]
 induction rng y0 y with
 |nil=>simp
 |cons z l ih =>
  rw[List.flatMap_cons,List.length_append,List.length_cons];have:(gQ a b c x0 x1 z).length<=1:=by unfold gQ;split<;>simp
  omega
theorem aNz {a b c:WinP} (h:ar a b c≠0) {x0 x1 x y:Int} (h0:x0<=x) (h1:x<x1):cO a b c x y↔(spF a b c x0 y<=x/\x<spT a b c x0 x1 y):=by
 rw[dS h];exact ⟨fun k=>⟨h0,h1,k⟩,fun k=>k.2.2⟩
def aIp (a b c:WinP) (o x y:Int):FrP:=⟨x,y,max 0 (min (atV a b c x y (·.z)+o) 16777215),atV a b c x y (·.c0),atV a b c x y (·.c1),atV a b c x y (·.c2),atV a b c x y (·.c3),64⟩
def bH (a b c:WinP) (o:Int) (s:SpP):List FrP:=(rng s.x0 s.x1).map (fun x=>aIp a b c o x s.y)
def bF (a b c:WinP) (o:Int) (S:List SpP):List FrP:=S.flatMap (bH a b c o)
def eW (a b c:WinP) (o x0 y0 x1 y1:Int):List FrP:=bF a b c o (dL a b c x0 y0 x1 y1)
theorem oE (a b c:WinP) (o y x0 x:Int) (h:x0<=x):bH a b c o ⟨y,x0,x+1⟩=bH a b c o ⟨y,x0,x⟩++[aIp a b c o x y]:=by
 unfold bH;simp only;rw[aAi h,List.map_append];rfl
theorem fX (a b c:WinP) (o y x0 x:Int) (h:x<=x0):bH a b c o ⟨y,x0,x⟩=[]:=by
 unfold bH;simp only;rw[aEi h];rfl
theorem iN (a b c:WinP) (o:Int) (S S':List SpP):bF a b c o (S++S')=bF a b c o S++bF a b c o S':=by
 unfold bF;rw[List.flatMap_append]
theorem sQ (a b c:WinP) (o:Int) (s:SpP):bF a b c o [s]=bH a b c o s:=by
 unfold bF;simp
theorem sR (a b c:WinP) (o x0 x1 y0 y:Int) (hn:ar a b c≠0) (hx:x0<=x1):(bF a b c o (bL a b c x0 x1 y0 y)).length<=(x1-x0).toNat * (y-y0).toNat:=by
 unfold bL bF;rw[<-jA y0 y]
 induction rng y0 y with
 |nil=>simp
 |cons z l ih =>
  rw[List.flatMap_cons,List.flatMap_append,List.length_append,List.length_cons,Nat.mul_succ];have:((gQ a b c x0 x1 z).flatMap (bH a b c o)).length<=(x1-x0).toNat:=by
   unfold gQ;split
   ·next hl =>
    have k1:=((dS hn x0 x1 (spF a b c x0 z) z).1 ⟨Int.le_refl _,hl⟩);have k2:=((dS hn x0 x1 (spT a b c x0 x1 z-1) z).1 ⟨by omega,by omega⟩);simp only[List.flatMap_cons,List.flatMap_nil,List.append_nil];unfold bH;rw[List.length_map,jA];simp only;omega
   ·simp
  omega
def uZ (a b c:WinP) (o y f t x:Int):List FrP:=bH a b c o ⟨y,f,min x t⟩
theorem aB8 (a b c:WinP) (o y f t x0:Int) (h:f<t->x0<=f):uZ a b c o y f t x0=[]:=fX _ _ _ _ _ _ _ (by omega)
theorem aJf (a b c:WinP) (o y f t x:Int) (h:f<=x/\x<t):uZ a b c o y f t (x+1)=uZ a b c o y f t x++[aIp a b c o x y]:=by
 unfold uZ;rw[show min (x+1) t=x+1 by omega,show min x t=x by omega,oE _ _ _ _ _ _ _ h.1]
theorem aM1 (a b c:WinP) (o y f t x:Int) (h:¬(f<=x/\x<t)):uZ a b c o y f t (x+1)=uZ a b c o y f t x:=by
 unfold uZ
 by_cases k:x<t
 ·rw[fX _ _ _ _ _ _ _ (show min (x+1) t<=f by omega),fX _ _ _ _ _ _ _ (show min x t<=f by omega)]
 ·rw[show min (x+1) t=t by omega,show min x t=t by omega]
theorem aJh (a b c:WinP) (o y f t x1:Int) (h:f<t->t<=x1):uZ a b c o y f t x1=bF a b c o (if f<t then [⟨y,f,t⟩] else []):=by
 unfold uZ
 by_cases k:f<t
 ·rw[if_pos k,sQ,show min x1 t=t by have:=h k;omega]
 ·rw[if_neg k,fX _ _ _ _ _ _ _ (by omega)];rfl
theorem aJg (a b c:WinP) (o y f t x0 x1 x:Int) (h:f<t->x0<=f/\t<=x1):(uZ a b c o y f t x).length<=(x1-x0).toNat:=by
 unfold uZ bH;rw[List.length_map,jA];simp only;omega
abbrev sdV (p q:WinP):Value:=.agg #[p.x,p.y,.int .i64 (q.x-p.x),.int .i64 (q.y-p.y),.int .i64 (dN p q)]
theorem aN2 {n d:Int} (hd:0<d):(if n.tmod d<0 then n.tdiv d-1 else n.tdiv d)=n/d:=by
 have h1:=Int.tdiv_mul_add_tmod n d;have h2:=Int.tmod_lt_of_pos n hd;have h3:=Int.tmod_lt_of_pos (-n) hd;rw[Int.neg_tmod] at h3
 split
 ·apply Int.le_antisymm
  ·refine (Int.le_ediv_iff_mul_le hd).2 ?_;rw[Int.sub_mul];omega
  ·have:n/d<n.tdiv d:=(Int.ediv_lt_iff_lt_mul hd).2 (by omega);omega
 ·apply Int.le_antisymm
  ·exact (Int.le_ediv_iff_mul_le hd).2 (by omega)
  ·have:n/d<n.tdiv d+1:=(Int.ediv_lt_iff_lt_mul hd).2 (by rw[Int.add_mul];omega);omega
theorem kW (p q:WinP) (hp:p.fits) (hq:q.fits) (w:World):Calls prog 214 #[p.v,q.v] w (Ret (sdV p q) w):=by
 unfold sdV;have e0:dN p q=if q.y-p.y<0\/(q.y-p.y=0/\q.x-p.x<0) then 0 else 1:=rfl
 obtain ⟨h1,h2,h3,h4,-,-,-⟩:=hp;obtain ⟨k1,k2,k3,k4,-,-,-⟩:=hq;generalize dN p q=l at *;obtain ⟨W,hW⟩:∃ W,q.x-p.x=W:=⟨_,rfl⟩;obtain ⟨H,hH⟩:∃ W,q.y-p.y=W:=⟨_,rfl⟩;have s1:IntKind.i64.wrap (q.x-p.x)=W:=by rw[hW];exact IntWalk.i64_in _ (by omega)
 have s2:IntKind.i64.wrap (q.y-p.y)=H:=by rw[hH];exact IntWalk.i64_in _ (by omega)
 simp only[hW,hH] at e0;simp only[hW,hH];clear hW hH h1 h2 h3 h4 k1 k2 k3 k4
 by_cases c1:H<0
 ·obtain rfl:l=0:=by rw[e0,if_pos (.inl c1)]
  clear e0
  go_enter func214,ntmps214
  go_wp2;refine bodyPost_ret (v:=.agg #[p.x,p.y,W,H,.int .i64 0]) (by simp[results,results214,go_sem]) rfl (Ret.of (by exact bl_))
 by_cases c2:H=0
 ·subst c2
  by_cases c3:W<0
  ·obtain rfl:l=0:=by rw[e0,if_pos (.inr ⟨rfl,c3⟩)]
   clear e0 c1
   go_enter func214,ntmps214
   go_wp2;refine bodyPost_ret (v:=.agg #[p.x,p.y,W,.int .i64 0,.int .i64 0]) (by simp[results,results214,go_sem]) rfl (Ret.of (by exact bl_))
  ·obtain rfl:l=1:=by rw[e0,if_neg (by omega)]
   clear e0 c1
   go_enter func214,ntmps214
   go_wp2;refine bodyPost_ret (v:=.agg #[p.x,p.y,W,.int .i64 0,.int .i64 1]) (by simp[results,results214,go_sem]) rfl (Ret.of (by exact bl_))
 ·obtain rfl:l=1:=by rw[e0,if_neg (by omega)]
  have c4:(H==0)=false:=by simpa using c2
  clear e0
  go_enter func214,ntmps214
  go_wp2;refine bodyPost_ret (v:=.agg #[p.x,p.y,W,H,.int .i64 1]) (by simp[results,results214,go_sem]) rfl (Ret.of (by exact bl_))
theorem aB4 (p q:WinP) (l x y:Int) (hp:p.fits) (hq:q.fits) (hx:Near x y) (w:World):Calls prog 215 #[.agg #[p.x,p.y,.int .i64 (q.x-p.x),.int .i64 (q.y-p.y),l],x,y] w (Ret (.int .i64 (ar p q (cW x y))) w):=by
 obtain ⟨h1,h2,h3,h4,-,-,-⟩:=hp;obtain ⟨k1,k2,k3,k4,-,-,-⟩:=hq;obtain ⟨x0,x1,y0,y1⟩:=hx;rw[show ar p q (cW x y)=(q.x-p.x)*(y*256+128-p.y)-(q.y-p.y)*(x*256+128-p.x) from rfl];obtain ⟨W,hW⟩:∃ W,q.x-p.x=W:=⟨_,rfl⟩;obtain ⟨H,hH⟩:∃ H,q.y-p.y=H:=⟨_,rfl⟩;have w1:-536870912<=W/\W<=536870912:=by omega
 have w2:-536870912<=H/\H<=536870912:=by omega
 simp only[hW,hH];clear hW hH;obtain ⟨a,ha⟩:∃ a,p.x=a:=⟨_,rfl⟩;obtain ⟨b,hb⟩:∃ a,p.y=a:=⟨_,rfl⟩;simp only[ha,hb] at *;clear ha hb;have m1:=eI (U:=536870912) (V:=1342177408) (by omega) (by omega) w1.1 w1.2 (show -1342177408<=y*256+128-b by omega) (by omega);have m2:=eI (U:=536870912) (V:=1342177408) (by omega) (by omega) w2.1 w2.2 (show -1342177408<=x*256+128-a by omega) (by omega);have k5:IntKind.i64.wrap (W*(y*256+128-b))=W*(y*256+128-b):=IntWalk.i64_in _ (by omega);have k6:IntKind.i64.wrap (H*(x*256+128-a))=H*(x*256+128-a):=IntWalk.i64_in _ (by omega);have k7:IntKind.i64.wrap (W*(y*256+128-b)-H*(x*256+128-a))=W*(y*256+128-b)-H*(x*256+128-a):=IntWalk.i64_in _ (by omega);clear m1 m2 w1 w2
 go_enter func215,ntmps215
 go_wp2;go_ret;exact Ret.of (by exact bl_)
theorem rS (n d:Int) (hd:0<d) (d1:d<=4611686018427387904) (n0:-4611686018427387904<=n) (n1:n<=4611686018427387904) (w:World):Calls prog 216 #[n,d] w (Ret (.int .i64 (n/d)) w):=by
 rw[<-aN2 hd];have nz:(d==0)=false:=by simp;omega
 have nz2:¬d=0:=by omega
 have b1:-4611686018427387904<=n.tdiv d/\n.tdiv d<=4611686018427387904:=by
  have:=Int.natAbs_tdiv_le_natAbs n d;omega
 have w1:IntKind.i64.wrap (n.tdiv d)=n.tdiv d:=IntWalk.i64_in _ (by omega);have w2:IntKind.i64.wrap (n.tdiv d-1)=n.tdiv d-1:=IntWalk.i64_in _ (by omega)
 go_enter func216,ntmps216
 go_wp2
 ·go_ret;exact Ret.of' rfl (by exact bl_)
 ·go_ret;exact Ret.of' rfl (by exact bl_)
theorem aKp (p q:WinP) (y:Int) (hp:p.fits) (hq:q.fits) (hx:Near 0 y):-4611686018427387904<=jM p q y/\jM p q y<=4611686018427387904:=by
 have:=(n8 hp hq hx).ar;unfold jM dN
 split<;>omega
theorem pK (p q:WinP) (y f t:Int) (hp:p.fits) (hq:q.fits) (hx:Near 0 y) (w:World):Calls prog 179 #[sdV p q,y,f,t] w (Ret (.tuple #[.int .i64 (lY p q y f),.int .i64 (tH p q y f t)]) w):=by
 unfold sdV;have AT:=jj (fun w=>aB4 p q (dN p q) 0 y hp hq hx w);obtain ⟨b1,b2⟩:=aKp p q y hp hq hx;have ab:=(n8 hp hq hx).ar;have lb:0<=dN p q/\dN p q<=1:=by unfold dN;split<;>omega
 obtain ⟨l0,l1⟩:=lb;unfold lY tH;have eF:ar p q (cW 0 y)-dN p q=jM p q y:=rfl;obtain ⟨h1,h2,h3,h4,-,-,-⟩:=hp;obtain ⟨k1,k2,k3,k4,-,-,-⟩:=hq;have w1:-536870912<=q.y-p.y/\q.y-p.y<=536870912:=by omega
 obtain ⟨w10,w11⟩:=w1;generalize ar p q (cW 0 y)=n at *;generalize dN p q=l at *;obtain ⟨F,hF⟩:∃ F,jM p q y=F:=⟨_,rfl⟩;rw[hF] at eF b1 b2 ⊢;clear hF h1 h2 h3 h4 k1 k2 k3 k4;obtain ⟨W,hW⟩:∃ W,q.x-p.x=W:=⟨_,rfl⟩;obtain ⟨H,hH⟩:∃ H,q.y-p.y=H:=⟨_,rfl⟩;simp only[hW,hH] at *;clear hW hH;obtain ⟨y0,y1⟩:-4194304<=y/\y<=4194304:=⟨hx.y0,hx.y1⟩;have s1:IntKind.i64.wrap (n-l)=F:=by rw[eF];exact IntWalk.i64_in _ (by omega)
 clear eF ab hx
 by_cases c1:0<H
 ·have FL:=jj (fun w=>rS F (H*256) (by omega) (by omega) b1 b2 w);have n1:-4611686018427387904<=F/(H*256)/\F/(H*256)<=4611686018427387904:=by
   have m:=Int.natAbs_ediv_le_natAbs F (H*256);omega
  rw[if_neg (by omega),if_pos c1];obtain ⟨Q,hQ⟩:∃ Q,F/(H*256)=Q:=⟨_,rfl⟩;rw[hQ] at FL n1 ⊢;obtain ⟨n10,n11⟩:=n1;clear hQ
  go_enter func179,ntmps179
  go_wp2;refine jy ?_
  repeat (go_big_quiet_step (((go_at_call 215;with_reducible exact Calls.quiet_ret (AT.out _)))))
  refine jv fun X=>?_
  go_wp2_with (first|(go_at_call 216;with_reducible refine jn (FL.out _) fun X_=>?_))
  refine bodyPost_ret (v:=.tuple #[.int .i64 (f),.int .i64 (min t (Q+1))]) (by simp[results,results179,go_sem]) rfl (Ret.of (by exact bl_))
 ·by_cases c2:H<0
  ·have FL:=jj (fun w=>rS F (-H*256) (by omega) (by omega) b1 b2 w);have n1:-4611686018427387904<=F/(-H*256)/\F/(-H*256)<=4611686018427387904:=by
    have m:=Int.natAbs_ediv_le_natAbs F (-H*256);omega
   rw[if_pos c2,if_neg c1,if_pos c2];obtain ⟨Q,hQ⟩:∃ Q,F/(-H*256)=Q:=⟨_,rfl⟩;rw[hQ] at FL n1 ⊢;obtain ⟨n10,n11⟩:=n1;clear hQ
   go_enter func179,ntmps179
   go_wp2;refine jy ?_
   repeat (go_big_quiet_step (((go_at_call 215;with_reducible exact Calls.quiet_ret (AT.out _)))))
   refine jv fun X=>?_
   go_wp2_with (first|(go_at_call 216;with_reducible refine jn (FL.out _) fun X_=>?_))
   refine bodyPost_ret (v:=.tuple #[.int .i64 (max f (-Q)),.int .i64 (t)]) (by simp[results,results179,go_sem]) rfl (Ret.of (by exact bl_))
  ·obtain rfl:H=0:=by omega
   rw[if_neg c2,if_neg c1,if_neg c2]
   by_cases c3:F<0
   ·rw[if_pos c3]
    go_enter func179,ntmps179
    go_wp2;refine jy ?_
    repeat (go_big_quiet_step (((go_at_call 215;with_reducible exact Calls.quiet_ret (AT.out _)))))
    refine jv fun X=>?_
    go_wp2;refine bodyPost_ret (v:=.tuple #[.int .i64 (f),.int .i64 (f)]) (by simp[results,results179,go_sem]) rfl (Ret.of (by exact bl_))
   ·rw[if_neg c3]
    go_enter func179,ntmps179
    go_wp2;refine jy ?_
    repeat (go_big_quiet_step (((go_at_call 215;with_reducible exact Calls.quiet_ret (AT.out _)))))
    refine jv fun X=>?_
    go_wp2;refine bodyPost_ret (v:=.tuple #[.int .i64 (f),.int .i64 (t)]) (by simp[results,results179,go_sem]) rfl (Ret.of (by exact bl_))
def aQ5 (a b c:WinP) (w:World) (e:Ending) (w':World):Prop :=
 ∃ g,e=.returned (.slice (some ⟨g,0,none⟩) 3 3)/\(∃ X,w'=w.ext X)/\w.heap.size<=g/\Row w' g #[a.x,a.y,.int .i64 (b.x-a.x),.int .i64 (b.y-a.y),.int .i64 (dN a b),b.x,b.y,.int .i64 (c.x-b.x),.int .i64 (c.y-b.y),.int .i64 (dN b c),c.x,c.y,.int .i64 (a.x-c.x),.int .i64 (a.y-c.y),.int .i64 (dN c a)] 210
theorem aI8 (a b c:WinP) (ha:a.fits) (hb:b.fits) (hc:c.fits) (h:ar a b c=0) (w:World):Calls prog 178 #[a.v,b.v,c.v] w (Ret (.slice none 0 0) w):=by
 have A:=jj (fun w=>h▸gJ a b c (iV ha hb hc) w);clear ha hb hc h
 go_enter func178,ntmps178
 go_wp2_with (first|(go_at_call 57;with_reducible refine jn (A.out _) fun X_=>?_))
 go_ret;exact Ret.of (by exact bl_)
theorem uW (a b c:WinP) (ha:a.fits) (hb:b.fits) (hc:c.fits) (h:ar a b c≠0) (w:World):Calls prog 178 #[a.v,b.v,c.v] w (aQ5 a (bE a b c) (bO a b c) w):=by
 have A:=jj (fun w=>gJ a b c (iV ha hb hc) w);obtain ⟨fb,fc⟩:=gO (a:=a) hb hc;have N1:=jj (fun w=>kW a (bE a b c) ha fb w);have N2:=jj (fun w=>kW (bE a b c) (bO a b c) fb fc w);have N3:=jj (fun w=>kW (bO a b c) a fc ha w);have eB:bE a b c=if ar a b c<0 then c else b:=rfl
 have eC:bO a b c=if ar a b c<0 then b else c:=rfl
 have ab:=(iV ha hb hc).ar;obtain ⟨n,hn⟩:∃ n,ar a b c=n:=⟨_,rfl⟩;rw[hn] at A eB eC ab h;clear ha hb hc;obtain ⟨B,hB⟩:∃ B,bE a b c=B:=⟨_,rfl⟩;obtain ⟨C,hC⟩:∃ B,bO a b c=B:=⟨_,rfl⟩;simp only[hB,hC] at *;clear hB hC hn fb fc;obtain ⟨ab0,ab1⟩:=ab;have nz:(n==0)=false:=by simpa using h
 clear h
 by_cases c0:n<0
 ·rw[if_pos c0] at eB eC;subst eB eC
  go_enter func178,ntmps178
  go_wp2_with (first|(go_at_call 57;with_reducible refine jn (A.out _) fun X_=>?_))
  refine jm 9 ?_;simp only[jx]
  repeat (go_big_quiet_step ((first|(go_at_call 214;with_reducible exact Calls.quiet_ret (N1.out _))|(go_at_call 214;with_reducible exact Calls.quiet_ret (N2.out _))|(go_at_call 214;with_reducible exact Calls.quiet_ret (N3.out _)))))
  refine jv fun X=>?_
  go_wp2;go_ret;exact ⟨_,rfl,jz (by exact bl_),by omega,by exact rx_⟩
 ·rw[if_neg c0] at eB eC;subst eB eC
  go_enter func178,ntmps178
  go_wp2_with (first|(go_at_call 57;with_reducible refine jn (A.out _) fun X_=>?_))
  refine jm 9 ?_;simp only[jx]
  repeat (go_big_quiet_step ((first|(go_at_call 214;with_reducible exact Calls.quiet_ret (N1.out _))|(go_at_call 214;with_reducible exact Calls.quiet_ret (N2.out _))|(go_at_call 214;with_reducible exact Calls.quiet_ret (N3.out _)))))
  refine jv fun X=>?_
  go_wp2;go_ret;exact ⟨_,rfl,jz (by exact bl_),by omega,by exact rx_⟩
end Go.Proofs.YthcjfanigfgckaaGreat
