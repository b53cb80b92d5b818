import Derived.Test.YthcjfanigfgckaaGreatSHiddenOrder35
import Derived.Test.YthcjfanigfgckaaGreatSHiddenOrder37
set_option linter.unusedVariables false
set_option linter.unusedSimpArgs false
set_option maxRecDepth 100000
set_option maxHeartbeats 16000000
namespace Go.Proofs.YthcjfanigfgckaaGreat
open Go.RowKit
section
theorem fillL_mem {a b c:WinP} {o x0 y0 x1 y1:Int} {f:FrP}:f∈fillL a b c o x0 y0 x1 y1↔rightP x0 y0 x1 y1/\frIn x0 y0 x1 y1 f=true/\triHas a b c f.x f.y/\f=frAt a b c o f.x f.y:=by
 unfold fillL spansL
 split
 ·rename_i h
  constructor
  ·intro k;simp[fillTo] at k
  ·rintro ⟨h1,-,h3,-⟩;exact h.elim (fun e=>absurd e h3.1) (fun e=>absurd h1 e)
 ·rename_i h
  have h0:ar a b c≠0:=fun e=>h (.inl e)
  have hr:rightP x0 y0 x1 y1:=Classical.byContradiction fun e=>h (.inr e)
  unfold fillTo spansTo;simp only[List.mem_flatMap]
  constructor
  ·rintro ⟨s,⟨y,hy,hs⟩,hf⟩;unfold spanAt at hs
   split at hs
   ·obtain rfl:s=_:=by simpa using hs
    unfold fillRow at hf;obtain ⟨x,hx,rfl⟩:=List.mem_map.1 hf;have k:=(span_iff h0 x0 x1 x y).1 (rng_mem.1 hx);have q:=rng_mem.1 hy;exact ⟨hr,frIn_iff.2 ⟨k.1,k.2.1,q.1,q.2⟩,k.2.2,rfl⟩
   ·simp at hs
  ·rintro ⟨-,h1,h2,h3⟩;have q:=frIn_iff.1 h1;have k:=(span_iff h0 x0 x1 f.x f.y).2 ⟨q.1,q.2.1,h2⟩;refine ⟨⟨f.y,spF a b c x0 f.y,spT a b c x0 x1 f.y⟩,⟨f.y,rng_mem.2 ⟨q.2.2.1,q.2.2.2⟩,?_⟩,?_⟩
   ·unfold spanAt;rw[if_pos (by omega)];exact List.mem_cons_self
   ·unfold fillRow;exact List.mem_map.2 ⟨f.x,rng_mem.2 k,h3.symm⟩
theorem fillF_mem {L:List WinP} {k:LookP} {x0 y0 x1 y1:Int} {f:FrP}:∀ {j:Nat},f∈fillF L k x0 y0 x1 y1 j↔∃ i,i<j/\f∈fillL (wAt L 0) (wAt L (i+1)) (wAt L (i+2)) (offK k (wAt L 0) (wAt L (i+1)) (wAt L (i+2))) x0 y0 x1 y1
 |0=>by simp[fillF]
 |j+1=>by
  rw[fillF,List.mem_append,fillF_mem (j:=j)]
  constructor
  ·rintro (⟨i,hi,h⟩|h)
   ·exact ⟨i,by omega,h⟩
   ·exact ⟨j,by omega,h⟩
  ·rintro ⟨i,hi,h⟩
   by_cases e:i=j
   ·subst e;exact .inr h
   ·exact .inl ⟨i,by omega,h⟩
def lineC (L:List WinP) (B:List Bool) (k:LookP):Nat->Int
 |0=>k.c
 |j+1=>if B.getD j false then lnC (wAt L j) (wAt L ((j+1)%L.length)) k (lineC L B k j) else lineC L B k j
theorem lineF_cnt (L:List WinP) (B:List Bool) (k:LookP) (x0 y0 x1 y1:Int):∀ j,(lineF L B k x0 y0 x1 y1 j).2=lineC L B k j
 |0=>rfl
 |j+1=>by
  have e:=lineF_cnt L B k x0 y0 x1 y1 j;unfold lineF lineC
  split
  ·simp only[e]
  ·exact e
theorem lineF_mem {L:List WinP} {B:List Bool} {k:LookP} {x0 y0 x1 y1:Int} {f:FrP}:∀ {j:Nat},f∈(lineF L B k x0 y0 x1 y1 j).1↔∃ i,i<j/\B.getD i false=true/\f∈lnL (wAt L i) (wAt L ((i+1)%L.length)) k (lineC L B k i) x0 y0 x1 y1
 |0=>by simp[lineF]
 |j+1=>by
  have ih:=lineF_mem (L:=L) (B:=B) (k:=k) (x0:=x0) (y0:=y0) (x1:=x1) (y1:=y1) (f:=f) (j:=j);unfold lineF
  by_cases hb:B.getD j false=true
  ·rw[if_pos hb];simp only[List.mem_append,ih,lineF_cnt]
   constructor
   ·rintro (⟨i,hi,h⟩|h)
    ·exact ⟨i,by omega,h⟩
    ·exact ⟨j,by omega,hb,h⟩
   ·rintro ⟨i,hi,h0,h⟩
    by_cases e:i=j
    ·subst e;exact .inr h
    ·exact .inl ⟨i,by omega,h0,h⟩
  ·rw[if_neg hb,ih]
   constructor
   ·rintro ⟨i,hi,h⟩;exact ⟨i,by omega,h⟩
   ·rintro ⟨i,hi,h0,h⟩
    by_cases e:i=j
    ·subst e;exact absurd h0 hb
    ·exact ⟨i,by omega,h0,h⟩
structure Sub (p0 q0 p1 q1 x0 y0 x1 y1:Int):Prop where
 r:rightP p0 q0 p1 q1
 R:rightP x0 y0 x1 y1
 s:x0<=p0/\y0<=q0/\p1<=x1/\q1<=y1
section
variable {p0 q0 p1 q1 x0 y0 x1 y1:Int} {f:FrP}
theorem Sub.in (h:Sub p0 q0 p1 q1 x0 y0 x1 y1) (hf:frIn p0 q0 p1 q1 f=true):frIn x0 y0 x1 y1 f=true:=by
 have:=frIn_iff.1 hf;have:=h.s;exact frIn_iff.2 (by omega)
theorem fill_less {a b c:WinP} {o:Int} (h:Sub p0 q0 p1 q1 x0 y0 x1 y1):f∈fillL a b c o p0 q0 p1 q1↔f∈fillL a b c o x0 y0 x1 y1/\frIn p0 q0 p1 q1 f=true:=by
 rw[fillL_mem,fillL_mem]
 constructor
 ·rintro ⟨h1,h2,h3⟩;exact ⟨⟨h.R,h.in h2,h3⟩,h2⟩
 ·rintro ⟨⟨h1,h2,h3⟩,h4⟩;exact ⟨h.r,h4,h3⟩
theorem wdL_less {a b:WinP} {n:Int} {dd:Bool} {p r c:Int} (h:Sub p0 q0 p1 q1 x0 y0 x1 y1):f∈wdL a b n dd p r c p0 q0 p1 q1↔f∈wdL a b n dd p r c x0 y0 x1 y1/\frIn p0 q0 p1 q1 f=true:=by
 unfold wdL
 by_cases hl:lineP a b n p r c
 ·rw[if_pos ⟨hl,h.r⟩,if_pos ⟨hl,h.R⟩,wdTo_less h.s,List.mem_filter]
 ·rw[if_neg fun q=>hl q.1,if_neg fun q=>hl q.1];simp
theorem faceF_less {L:List WinP} {k:LookP} (h:Sub p0 q0 p1 q1 x0 y0 x1 y1):f∈faceF L k p0 q0 p1 q1↔f∈faceF L k x0 y0 x1 y1/\frIn p0 q0 p1 q1 f=true:=by
 unfold faceF;rw[fillF_mem,fillF_mem]
 constructor
 ·rintro ⟨i,hi,q⟩;have:=(fill_less h).1 q;exact ⟨⟨i,hi,this.1⟩,this.2⟩
 ·rintro ⟨⟨i,hi,q⟩,hf⟩;exact ⟨i,hi,(fill_less h).2 ⟨q,hf⟩⟩
theorem facL_less {L:List WinP} {B:List Bool} {k:LookP} (hs:k.soft=false) (h:Sub p0 q0 p1 q1 x0 y0 x1 y1):f∈facL L B k p0 q0 p1 q1↔f∈facL L B k x0 y0 x1 y1/\frIn p0 q0 p1 q1 f=true:=by
 have e:∀ a b c x0 y0 x1 y1,lnL a b k c x0 y0 x1 y1=wdL a b k.width k.dashed k.p k.r c x0 y0 x1 y1:=fun a b c x0 y0 x1 y1=>by unfold lnL;rw[hs];rfl
 unfold facL;rw[lineF_mem,lineF_mem];simp only[e]
 constructor
 ·rintro ⟨i,hi,hb,q⟩;have:=(wdL_less h).1 q;exact ⟨⟨i,hi,hb,this.1⟩,this.2⟩
 ·rintro ⟨⟨i,hi,hb,q⟩,hf⟩;exact ⟨i,hi,hb,(wdL_less h).2 ⟨q,hf⟩⟩
theorem fill_fits {a b c:WinP} {o:Int} (ha:a.fitsP) (hb:b.fitsP) (hc:c.fitsP) (h:f∈fillL a b c o x0 y0 x1 y1):f.fits/\frIn x0 y0 x1 y1 f=true:=by
 obtain ⟨-,h1,h2,h3⟩:=fillL_mem.1 h;refine ⟨?_,h1⟩;rw[h3];unfold WinP.fitsP at ha hb hc;have q0:=atV_among h2 (·.c0);have q1:=atV_among h2 (·.c1);have q2:=atV_among h2 (·.c2);have q3:=atV_among h2 (·.c3);unfold FrP.fits frAt;simp only at q0 q1 q2 q3 ⊢;generalize atV a b c f.x f.y (·.c0)=k0 at *;generalize atV a b c f.x f.y (·.c1)=k1 at *;generalize atV a b c f.x f.y (·.c2)=k2 at *;generalize atV a b c f.x f.y (·.c3)=k3 at *;generalize atV a b c f.x f.y (·.z)=kz at *;clear h h1 h2 h3;refine ⟨?_,?_,?_,?_,?_,by decide,by decide⟩
 ·clear q1 q2 q3;omega
 ·clear q0 q2 q3;omega
 ·clear q0 q1 q3;omega
 ·clear q0 q1 q2;omega
 ·clear q0 q1 q2 q3;omega
theorem wd_fits {a b:WinP} {n:Int} {dd:Bool} {p r c:Int} (h:f∈wdL a b n dd p r c x0 y0 x1 y1):f.fits/\frIn x0 y0 x1 y1 f=true:=by
 unfold wdL at h
 split at h
 ·rename_i k
  obtain ⟨⟨ha,hb,-,-⟩,-⟩:=k;obtain ⟨h1,s,m,-,-,rfl⟩:=wdTo_mem h;refine ⟨?_,frIn_iff.2 h1⟩;clear h h1;unfold WinP.fitsP at ha hb;have q0:=mid_mm a.c0 b.c0 (alN a b s.X s.Y) (alD a b);have q1:=mid_mm a.c1 b.c1 (alN a b s.X s.Y) (alD a b);have q2:=mid_mm a.c2 b.c2 (alN a b s.X s.Y) (alD a b);have q3:=mid_mm a.c3 b.c3 (alN a b s.X s.Y) (alD a b);have qz:=mid_mm a.z b.z (alN a b s.X s.Y) (alD a b);unfold FrP.fits wdFr alV;simp only;generalize mid a.c0 b.c0 (alN a b s.X s.Y) (alD a b)=k0 at *;generalize mid a.c1 b.c1 (alN a b s.X s.Y) (alD a b)=k1 at *;generalize mid a.c2 b.c2 (alN a b s.X s.Y) (alD a b)=k2 at *;generalize mid a.c3 b.c3 (alN a b s.X s.Y) (alD a b)=k3 at *;generalize mid a.z b.z (alN a b s.X s.Y) (alD a b)=kz at *;refine ⟨?_,?_,?_,?_,?_,by decide,by decide⟩
  ·clear q1 q2 q3 qz;omega
  ·clear q0 q2 q3 qz;omega
  ·clear q0 q1 q3 qz;omega
  ·clear q0 q1 q2 qz;omega
  ·clear q0 q1 q2 q3;omega
 ·simp at h
theorem wd_color {a b:WinP} {n:Int} {dd:Bool} {p r c:Int} (h:f∈wdL a b n dd p r c x0 y0 x1 y1) (e0:b.c0=a.c0) (e1:b.c1=a.c1) (e2:b.c2=a.c2) (e3:b.c3=a.c3):f.c0=a.c0/\f.c1=a.c1/\f.c2=a.c2/\f.c3=a.c3/\f.cov=64:=by
 unfold wdL at h
 split at h
 ·obtain ⟨h1,s,m,-,-,rfl⟩:=wdTo_mem h;have q0:=mid_mm a.c0 b.c0 (alN a b s.X s.Y) (alD a b);have q1:=mid_mm a.c1 b.c1 (alN a b s.X s.Y) (alD a b);have q2:=mid_mm a.c2 b.c2 (alN a b s.X s.Y) (alD a b);have q3:=mid_mm a.c3 b.c3 (alN a b s.X s.Y) (alD a b);unfold wdFr alV;simp only;rw[e0] at q0 ⊢;rw[e1] at q1 ⊢;rw[e2] at q2 ⊢;rw[e3] at q3 ⊢;refine ⟨by omega,by omega,by omega,by omega,trivial⟩
 ·simp at h
theorem wAt_fitsP {L:List WinP} (h:∀ a∈L,a.fitsP) (i:Nat):(wAt L i).fitsP:=by
 unfold wAt;rw[List.getD_eq_getElem?_getD];cases e:L[i]? with
 |none=>simp only[Option.getD_none];decide
 |some a=>exact h a (List.mem_of_getElem? e)
theorem wAt_color {L:List WinP} {c0 c1 c2 c3:Int} (h:∀ a∈L,a.c0=c0/\a.c1=c1/\a.c2=c2/\a.c3=c3) {i:Nat} (hi:i<L.length):(wAt L i).c0=c0/\(wAt L i).c1=c1/\(wAt L i).c2=c2/\(wAt L i).c3=c3:=by
 obtain ⟨a,ha⟩:∃ a,L[i]?=some a:=⟨_,List.getElem?_eq_getElem hi⟩;rw[wAt_of ha];exact h a (List.mem_of_getElem? ha)
theorem faceF_fits {L:List WinP} {k:LookP} (hL:∀ a∈L,a.fitsP) (h:f∈faceF L k x0 y0 x1 y1):f.fits/\frIn x0 y0 x1 y1 f=true:=by
 obtain ⟨i,-,q⟩:=fillF_mem.1 h;exact fill_fits (wAt_fitsP hL 0) (wAt_fitsP hL (i+1)) (wAt_fitsP hL (i+2)) q
theorem facL_line {L:List WinP} {B:List Bool} {k:LookP} (hs:k.soft=false) (h:f∈facL L B k x0 y0 x1 y1):∃ i,i<B.length/\f∈wdL (wAt L i) (wAt L ((i+1)%L.length)) k.width k.dashed k.p k.r (lineC L B k i) x0 y0 x1 y1:=by
 obtain ⟨i,hi,-,q⟩:=lineF_mem.1 h;unfold lnL at q;rw[hs] at q;exact ⟨i,hi,q⟩
theorem facL_fits {L:List WinP} {B:List Bool} {k:LookP} (hs:k.soft=false) (h:f∈facL L B k x0 y0 x1 y1):f.fits/\frIn x0 y0 x1 y1 f=true:=by
 obtain ⟨i,-,q⟩:=facL_line hs h;exact wd_fits q
theorem facL_color {L:List WinP} {B:List Bool} {k:LookP} (hs:k.soft=false) (hB:B.length=L.length) {c0 c1 c2 c3:Int} (hc:∀ a∈L,a.c0=c0/\a.c1=c1/\a.c2=c2/\a.c3=c3) (h:f∈facL L B k x0 y0 x1 y1):f.c0=c0/\f.c1=c1/\f.c2=c2/\f.c3=c3/\f.cov=64:=by
 obtain ⟨i,hi,q⟩:=facL_line hs h;rw[hB] at hi;obtain ⟨a0,a1,a2,a3⟩:=wAt_color hc hi;obtain ⟨b0,b1,b2,b3⟩:=wAt_color hc (Nat.mod_lt (i+1) (by omega:0<L.length));have:=wd_color q (by omega) (by omega) (by omega) (by omega);rw[a0,a1,a2,a3] at this;exact this
end
end
end Go.Proofs.YthcjfanigfgckaaGreat
