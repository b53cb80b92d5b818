import Derived.Test.YthcjfanigfgckaaGreatSHidb42
import Derived.Test.YthcjfanigfgckaaGreatSHidb43
set_option linter.unusedVariables false
set_option linter.unusedSimpArgs false
set_option maxRecDepth 100000
set_option maxHeartbeats 16000000
namespace Go.Proofs.YthcjfanigfgckaaGreat
open Go.RowKit _root_.Go.Proofs.Tryz
instance jh43 : Coe Nat Value := ⟨fun n => .int .i64 n⟩
section
theorem fillL_mem {a b c:WinP} {o x0 y0 x1 y1:Int} {f:FrP}:f∈eW a b c o x0 y0 x1 y1↔aM x0 y0 x1 y1/\fU x0 y0 x1 y1 f=true/\cO a b c f.x f.y/\f=aIp a b c o f.x f.y:=by
 unfold eW dL
 split
 ·rename_i h
  constructor
  ·intro k;simp[bF] at k
  ·rintro ⟨h1,-,h3,-⟩;exact h.elim (fun e=>absurd e h3.1) (fun e=>absurd h1 e)
 ·rename_i h
  have h0:ar a b c≠0:=fun e=>h (.inl e)
  have hr:aM x0 y0 x1 y1:=Classical.byContradiction fun e=>h (.inr e)
  unfold bF bL;simp only[List.mem_flatMap]
  constructor
  ·rintro ⟨s,⟨y,hy,hs⟩,hf⟩;unfold gQ at hs
   split at hs
   ·obtain rfl:s=_:=by simpa using hs
    unfold bH at hf;obtain ⟨x,hx,rfl⟩:=List.mem_map.1 hf;have k:=(dS h0 x0 x1 x y).1 (rng_mem.1 hx);have q:=rng_mem.1 hy;exact ⟨hr,frIn_iff.2 ⟨k.1,k.2.1,q.1,q.2⟩,k.2.2,rfl⟩
   ·simp at hs
  ·rintro ⟨-,h1,h2,h3⟩;have q:=frIn_iff.1 h1;have k:=(dS h0 x0 x1 f.x f.y).2 ⟨q.1,q.2.1,h2⟩;refine ⟨⟨f.y,spF a b c x0 f.y,spT a b c x0 x1 f.y⟩,⟨f.y,rng_mem.2 ⟨q.2.2.1,q.2.2.2⟩,?_⟩,?_⟩
   ·unfold gQ;rw[if_pos (by omega)];exact List.mem_cons_self
   ·unfold bH;exact List.mem_map.2 ⟨f.x,rng_mem.2 k,h3.symm⟩
theorem fillF_mem {L:List WinP} {k:LookP} {x0 y0 x1 y1:Int} {f:FrP}:∀ {j:Nat},f∈kI L k x0 y0 x1 y1 j↔∃ i,i<j/\f∈eW (wAt L 0) (wAt L (i+1)) (wAt L (i+2)) (wT k (wAt L 0) (wAt L (i+1)) (wAt L (i+2))) x0 y0 x1 y1
 |0=>by simp[kI]
 |j+1=>by
  rw[kI,List.mem_append,fillF_mem (j:=j)]
  constructor
  ·rintro (⟨i,hi,h⟩|h)
   ·exact ⟨i,by omega,h⟩
   ·exact ⟨j,by omega,h⟩
  ·rintro ⟨i,hi,h⟩
   by_cases e:i=j
   ·subst e;exact .inr h
   ·exact .inl ⟨i,by omega,h⟩
def aCq (L:List WinP) (B:List Bool) (k:LookP):Nat->Int
 |0=>k.c
 |j+1=>if B.getD j false then lnC (wAt L j) (wAt L ((j+1)%L.length)) k (aCq L B k j) else aCq L B k j
theorem vQ (L:List WinP) (B:List Bool) (k:LookP) (x0 y0 x1 y1:Int):∀ j,(dU L B k x0 y0 x1 y1 j).2=aCq L B k j
 |0=>rfl
 |j+1=>by
  have e:=vQ L B k x0 y0 x1 y1 j;unfold dU aCq
  split
  ·simp only[e]
  ·exact e
theorem lineF_mem {L:List WinP} {B:List Bool} {k:LookP} {x0 y0 x1 y1:Int} {f:FrP}:∀ {j:Nat},f∈(dU L B k x0 y0 x1 y1 j).1↔∃ i,i<j/\B.getD i false=true/\f∈lnL (wAt L i) (wAt L ((i+1)%L.length)) k (aCq L B k i) x0 y0 x1 y1
 |0=>by simp[dU]
 |j+1=>by
  have ih:=lineF_mem (L:=L) (B:=B) (k:=k) (x0:=x0) (y0:=y0) (x1:=x1) (y1:=y1) (f:=f) (j:=j);unfold dU
  by_cases hb:B.getD j false=true
  ·rw[if_pos hb];simp only[List.mem_append,ih,vQ]
   constructor
   ·rintro (⟨i,hi,h⟩|h)
    ·exact ⟨i,by omega,h⟩
    ·exact ⟨j,by omega,hb,h⟩
   ·rintro ⟨i,hi,h0,h⟩
    by_cases e:i=j
    ·subst e;exact .inr h
    ·exact .inl ⟨i,by omega,h0,h⟩
  ·rw[if_neg hb,ih]
   constructor
   ·rintro ⟨i,hi,h⟩;exact ⟨i,by omega,h⟩
   ·rintro ⟨i,hi,h0,h⟩
    by_cases e:i=j
    ·subst e;exact absurd h0 hb
    ·exact ⟨i,by omega,h0,h⟩
structure Sub (p0 q0 p1 q1 x0 y0 x1 y1:Int):Prop where
 r:aM p0 q0 p1 q1
 R:aM x0 y0 x1 y1
 s:x0<=p0/\y0<=q0/\p1<=x1/\q1<=y1
section
variable {p0 q0 p1 q1 x0 y0 x1 y1:Int} {f:FrP}
theorem Sub.in (h:Sub p0 q0 p1 q1 x0 y0 x1 y1) (hf:fU p0 q0 p1 q1 f=true):fU x0 y0 x1 y1 f=true:=by
 have:=frIn_iff.1 hf;have:=h.s;exact frIn_iff.2 (by omega)
theorem vY {a b c:WinP} {o:Int} (h:Sub p0 q0 p1 q1 x0 y0 x1 y1):f∈eW a b c o p0 q0 p1 q1↔f∈eW a b c o x0 y0 x1 y1/\fU p0 q0 p1 q1 f=true:=by
 rw[fillL_mem,fillL_mem]
 constructor
 ·rintro ⟨h1,h2,h3⟩;exact ⟨⟨h.R,h.in h2,h3⟩,h2⟩
 ·rintro ⟨⟨h1,h2,h3⟩,h4⟩;exact ⟨h.r,h4,h3⟩
theorem aAa {a b:WinP} {n:Int} {dd:Bool} {p r c:Int} (h:Sub p0 q0 p1 q1 x0 y0 x1 y1):f∈wdL a b n dd p r c p0 q0 p1 q1↔f∈wdL a b n dd p r c x0 y0 x1 y1/\fU p0 q0 p1 q1 f=true:=by
 unfold wdL
 by_cases hl:gM a b n p r c
 ·rw[if_pos ⟨hl,h.r⟩,if_pos ⟨hl,h.R⟩,aDk h.s,List.mem_filter]
 ·rw[if_neg fun q=>hl q.1,if_neg fun q=>hl q.1];simp
theorem aC0 {L:List WinP} {k:LookP} (h:Sub p0 q0 p1 q1 x0 y0 x1 y1):f∈nP L k p0 q0 p1 q1↔f∈nP L k x0 y0 x1 y1/\fU p0 q0 p1 q1 f=true:=by
 unfold nP;rw[fillF_mem,fillF_mem]
 constructor
 ·rintro ⟨i,hi,q⟩;have:=(vY h).1 q;exact ⟨⟨i,hi,this.1⟩,this.2⟩
 ·rintro ⟨⟨i,hi,q⟩,hf⟩;exact ⟨i,hi,(vY h).2 ⟨q,hf⟩⟩
theorem aHe {L:List WinP} {B:List Bool} {k:LookP} (hs:k.soft=false) (h:Sub p0 q0 p1 q1 x0 y0 x1 y1):f∈zK L B k p0 q0 p1 q1↔f∈zK L B k x0 y0 x1 y1/\fU p0 q0 p1 q1 f=true:=by
 have e:∀ a b c x0 y0 x1 y1,lnL a b k c x0 y0 x1 y1=wdL a b k.width k.dashed k.p k.r c x0 y0 x1 y1:=fun a b c x0 y0 x1 y1=>by unfold lnL;rw[hs];rfl
 unfold zK;rw[lineF_mem,lineF_mem];simp only[e]
 constructor
 ·rintro ⟨i,hi,hb,q⟩;have:=(aAa h).1 q;exact ⟨⟨i,hi,hb,this.1⟩,this.2⟩
 ·rintro ⟨⟨i,hi,hb,q⟩,hf⟩;exact ⟨i,hi,hb,(aAa h).2 ⟨q,hf⟩⟩
theorem aG3 {a b c:WinP} {o:Int} (ha:a.fitsP) (hb:b.fitsP) (hc:c.fitsP) (h:f∈eW a b c o x0 y0 x1 y1):f.fits/\fU x0 y0 x1 y1 f=true:=by
 obtain ⟨-,h1,h2,h3⟩:=fillL_mem.1 h;refine ⟨?_,h1⟩;rw[h3];unfold WinP.fitsP at ha hb hc;have q0:=iB h2 (·.c0);have q1:=iB h2 (·.c1);have q2:=iB h2 (·.c2);have q3:=iB h2 (·.c3);unfold FrP.fits aIp;simp only at q0 q1 q2 q3 ⊢;generalize atV a b c f.x f.y (·.c0)=k0 at *;generalize atV a b c f.x f.y (·.c1)=k1 at *;generalize atV a b c f.x f.y (·.c2)=k2 at *;generalize atV a b c f.x f.y (·.c3)=k3 at *;generalize atV a b c f.x f.y (·.z)=kz at *;clear h h1 h2 h3;refine ⟨?_,?_,?_,?_,?_,by decide,by decide⟩
 ·clear q1 q2 q3;omega
 ·clear q0 q2 q3;omega
 ·clear q0 q1 q3;omega
 ·clear q0 q1 q2;omega
 ·clear q0 q1 q2 q3;omega
theorem aMf {a b:WinP} {n:Int} {dd:Bool} {p r c:Int} (h:f∈wdL a b n dd p r c x0 y0 x1 y1):f.fits/\fU x0 y0 x1 y1 f=true:=by
 unfold wdL at h
 split at h
 ·rename_i k
  obtain ⟨⟨ha,hb,-,-⟩,-⟩:=k;obtain ⟨h1,s,m,-,-,rfl⟩:=z8 h;refine ⟨?_,frIn_iff.2 h1⟩;clear h h1;unfold WinP.fitsP at ha hb;have q0:=mG a.c0 b.c0 (alN a b s.X s.Y) (alD a b);have q1:=mG a.c1 b.c1 (alN a b s.X s.Y) (alD a b);have q2:=mG a.c2 b.c2 (alN a b s.X s.Y) (alD a b);have q3:=mG a.c3 b.c3 (alN a b s.X s.Y) (alD a b);have qz:=mG a.z b.z (alN a b s.X s.Y) (alD a b);unfold FrP.fits dX alV;simp only;generalize mid a.c0 b.c0 (alN a b s.X s.Y) (alD a b)=k0 at *;generalize mid a.c1 b.c1 (alN a b s.X s.Y) (alD a b)=k1 at *;generalize mid a.c2 b.c2 (alN a b s.X s.Y) (alD a b)=k2 at *;generalize mid a.c3 b.c3 (alN a b s.X s.Y) (alD a b)=k3 at *;generalize mid a.z b.z (alN a b s.X s.Y) (alD a b)=kz at *;refine ⟨?_,?_,?_,?_,?_,by decide,by decide⟩
  ·clear q1 q2 q3 qz;omega
  ·clear q0 q2 q3 qz;omega
  ·clear q0 q1 q3 qz;omega
  ·clear q0 q1 q2 qz;omega
  ·clear q0 q1 q2 q3;omega
 ·simp at h
theorem aIt {a b:WinP} {n:Int} {dd:Bool} {p r c:Int} (h:f∈wdL a b n dd p r c x0 y0 x1 y1) (e0:b.c0=a.c0) (e1:b.c1=a.c1) (e2:b.c2=a.c2) (e3:b.c3=a.c3):f.c0=a.c0/\f.c1=a.c1/\f.c2=a.c2/\f.c3=a.c3/\f.cov=64:=by
 unfold wdL at h
 split at h
 ·obtain ⟨h1,s,m,-,-,rfl⟩:=z8 h;have q0:=mG a.c0 b.c0 (alN a b s.X s.Y) (alD a b);have q1:=mG a.c1 b.c1 (alN a b s.X s.Y) (alD a b);have q2:=mG a.c2 b.c2 (alN a b s.X s.Y) (alD a b);have q3:=mG a.c3 b.c3 (alN a b s.X s.Y) (alD a b);unfold dX alV;simp only;rw[e0] at q0 ⊢;rw[e1] at q1 ⊢;rw[e2] at q2 ⊢;rw[e3] at q3 ⊢;refine ⟨by omega,by omega,by omega,by omega,trivial⟩
 ·simp at h
theorem pB {L:List WinP} (h:∀ a∈L,a.fitsP) (i:Nat):(wAt L i).fitsP:=by
 unfold wAt;rw[List.getD_eq_getElem?_getD];cases e:L[i]? with
 |none=>simp only[Option.getD_none];decide
 |some a=>exact h a (List.mem_of_getElem? e)
theorem uL {L:List WinP} {c0 c1 c2 c3:Int} (h:∀ a∈L,a.c0=c0/\a.c1=c1/\a.c2=c2/\a.c3=c3) {i:Nat} (hi:i<L.length):(wAt L i).c0=c0/\(wAt L i).c1=c1/\(wAt L i).c2=c2/\(wAt L i).c3=c3:=by
 obtain ⟨a,ha⟩:∃ a,L[i]?=some a:=⟨_,List.getElem?_eq_getElem hi⟩;rw[dZ ha];exact h a (List.mem_of_getElem? ha)
theorem aC1 {L:List WinP} {k:LookP} (hL:∀ a∈L,a.fitsP) (h:f∈nP L k x0 y0 x1 y1):f.fits/\fU x0 y0 x1 y1 f=true:=by
 obtain ⟨i,-,q⟩:=fillF_mem.1 h;exact aG3 (pB hL 0) (pB hL (i+1)) (pB hL (i+2)) q
theorem wD {L:List WinP} {B:List Bool} {k:LookP} (hs:k.soft=false) (h:f∈zK L B k x0 y0 x1 y1):∃ i,i<B.length/\f∈wdL (wAt L i) (wAt L ((i+1)%L.length)) k.width k.dashed k.p k.r (aCq L B k i) x0 y0 x1 y1:=by
 obtain ⟨i,hi,-,q⟩:=lineF_mem.1 h;unfold lnL at q;rw[hs] at q;exact ⟨i,hi,q⟩
theorem aHf {L:List WinP} {B:List Bool} {k:LookP} (hs:k.soft=false) (h:f∈zK L B k x0 y0 x1 y1):f.fits/\fU x0 y0 x1 y1 f=true:=by
 obtain ⟨i,-,q⟩:=wD hs h;exact aMf q
theorem aC2 {L:List WinP} {B:List Bool} {k:LookP} (hs:k.soft=false) (hB:B.length=L.length) {c0 c1 c2 c3:Int} (hc:∀ a∈L,a.c0=c0/\a.c1=c1/\a.c2=c2/\a.c3=c3) (h:f∈zK L B k x0 y0 x1 y1):f.c0=c0/\f.c1=c1/\f.c2=c2/\f.c3=c3/\f.cov=64:=by
 obtain ⟨i,hi,q⟩:=wD hs h;rw[hB] at hi;obtain ⟨a0,a1,a2,a3⟩:=uL hc hi;obtain ⟨b0,b1,b2,b3⟩:=uL hc (Nat.mod_lt (i+1) (by omega:0<L.length));have:=aIt q (by omega) (by omega) (by omega) (by omega);rw[a0,a1,a2,a3] at this;exact this
end
end
theorem oK (v ev:Value) (L:List WinP) (B:List Bool) (k:LookP) (x0 y0 x1 y1:Int) (w:World) (hv:Recs wnK w v L) (he:Recs boK w ev B) (hw:∀ a∈L,a.wide) (hk:k.wide) (h:kG L B k x0 y0 x1 y1) (hm:iW L k=1) (hL:L.length<=4096) (har:cJ x0 y0 x1 y1<=1048576) (hln:aIk k x0 y0 x1 y1):Calls prog 15 #[v,ev,k.v,R4 x0 y0 x1 y1] w (RNew frK w (zK L B k x0 y0 x1 y1)):=by
 obtain ⟨h1,h2,h3,h4⟩:=h;have MY:=jj (fun w1 h g=>decide_eq_true h1▸tX v ev L B k x0 y0 x1 y1 w1 h g hw);have RI:=jj (fun w=>decide_eq_true h2▸jZ k hk w);have RR:=jj (fun w=>decide_eq_true h3▸bM x0 y0 x1 y1 w);have CU0:=fun w1 h=>lE v L k w1 h (dG h1) (nH h2)
 have FT0:=fun w1 h=>nO v L k.ccw w1 h (dG h1)
 have FI:=jj (fun w1 h g=>zH v ev L B k x0 y0 x1 y1 w1 h g h1.2.2 h2 h1.2.1 hL har hln);unfold iS at h4;simp only[h4] at CU0;have CU:=jj CU0;unfold iW iS at hm;obtain ⟨bf,hbf⟩:∃ b,g9 (sgn (iO L)) k.ccw=b:=⟨_,rfl⟩;rw[hbf] at FT0 hm;have FT:=jj FT0;clear CU0 FT0 h1 h2 h3 h4 hw hk hbf hL har
 try clear hln
 obtain ⟨TT,hTT⟩:∃ T,zK L B k x0 y0 x1 y1=T:=⟨_,rfl⟩;rw[hTT] at FI ⊢;clear hTT;have HV:=jj hv;have HE:=jj he;obtain ⟨hl,av,cap,rfl,hcap,-⟩:=hv;obtain ⟨hl2,ev,ecap,rfl,-,-⟩:=he;cases bf
 case false =>
  simp only[if_true,if_false,Bool.false_eq_true] at hm;obtain ⟨k2,rfl⟩:∃ k2:LookP,k={ k2 with back:=1 }:=⟨k,by cases k;simp only at hm;subst hm;rfl⟩;clear hm;simp only at FI CU FT RI MY
  go_enter func15,ntmps15
  go_upto_region 2 with fail
  refine aE (F:=fun w1=>Row w1 w.heap.size #[k2.width,.bool k2.soft,.bool k2.dashed,k2.p,k2.r,k2.c,k2.size,k2.kind,k2.front,.int .i64 1,.bool k2.ccw,k2.cull,.bool k2.off,k2.factor,k2.units] 27/\Row w1 (w.heap.size+1) #[x0,y0,x1,y1] 29/\Row w1 (w.heap.size+1+1) #[.slice av L.length cap,.slice ev B.length ecap,k2.width,.bool k2.soft,.bool k2.dashed,k2.p,k2.r,k2.c,k2.size,k2.kind,k2.front,.int .i64 1,.bool k2.ccw,k2.cull,.bool k2.off,k2.factor,k2.units,x0,y0,x1,y1] 82/\Recs wnK w1 (.slice av L.length cap) L/\Recs boK w1 (.slice ev B.length ecap) B/\∃ X,w1=w.ext X) ⟨by exact rx_,by exact rx_,by exact rx_,(by exact rc_ HV.out),(by exact rc_ HE.out),jz (by exact bl_)⟩ ?_;clear HV HE;rintro w1 ⟨Rk,Rr,Rf,hv,he,hX⟩;have HX:=jj hX;have HV:=jj hv;have HE:=jj he;have ck:=Rk.cell;have fk:=Rk.frozen;have lk:=Rk.lt;have cr:=Rr.cell;have fr:=Rr.frozen;have lr:=Rr.lt;have cf:=Rf.cell;have ff:=Rf.frozen;have lf:=Rf.lt;have dk:=World.rowD_of Rk;have df:=World.rowD_of Rf;clear Rk Rr Rf hv he hX
  go_wp2_with (first
   |(go_at_call 45;with_reducible refine jn (MY.out _ (by exact rc_ HV.out) (by exact rc_ HE.out)) fun X_=>?_)
   |(go_at_call 12;with_reducible refine jn (RI.out _) fun X_=>?_)
   |(go_at_call 46;with_reducible refine jn (RR.out _) fun X_=>?_)
   |(go_at_call 22;with_reducible refine jn (CU.out _ (by exact rc_ HV.out)) fun X_=>?_)
   |(go_at_call 20;with_reducible refine jn (FT.out _ (by exact rc_ HV.out)) fun X_=>?_)
   |(go_at_call 48;(with_reducible refine (FI.out _ (by exact rc_ HV.out) (by exact rc_ HE.out)).mono ?_);rintro _ _ ⟨vq,rfl,hq,⟨XQ,rfl⟩⟩;have HQ:=jj hq;clear hq))
  go_ret;obtain ⟨X0,hX0⟩:=HX.out;subst hX0;exact ⟨_,rfl,HQ.out.low (by first|omega|(simp;omega)|simp),jz (by exact br_)⟩
 case true =>
  simp only[if_true,if_false,Bool.false_eq_true] at hm;obtain ⟨k2,rfl⟩:∃ k2:LookP,k={ k2 with front:=1 }:=⟨k,by cases k;simp only at hm;subst hm;rfl⟩;clear hm;simp only at FI CU FT RI MY
  go_enter func15,ntmps15
  go_upto_region 2 with fail
  refine aE (F:=fun w1=>Row w1 w.heap.size #[k2.width,.bool k2.soft,.bool k2.dashed,k2.p,k2.r,k2.c,k2.size,k2.kind,.int .i64 1,k2.back,.bool k2.ccw,k2.cull,.bool k2.off,k2.factor,k2.units] 27/\Row w1 (w.heap.size+1) #[x0,y0,x1,y1] 29/\Row w1 (w.heap.size+1+1) #[.slice av L.length cap,.slice ev B.length ecap,k2.width,.bool k2.soft,.bool k2.dashed,k2.p,k2.r,k2.c,k2.size,k2.kind,.int .i64 1,k2.back,.bool k2.ccw,k2.cull,.bool k2.off,k2.factor,k2.units,x0,y0,x1,y1] 82/\Recs wnK w1 (.slice av L.length cap) L/\Recs boK w1 (.slice ev B.length ecap) B/\∃ X,w1=w.ext X) ⟨by exact rx_,by exact rx_,by exact rx_,(by exact rc_ HV.out),(by exact rc_ HE.out),jz (by exact bl_)⟩ ?_;clear HV HE;rintro w1 ⟨Rk,Rr,Rf,hv,he,hX⟩;have HX:=jj hX;have HV:=jj hv;have HE:=jj he;have ck:=Rk.cell;have fk:=Rk.frozen;have lk:=Rk.lt;have cr:=Rr.cell;have fr:=Rr.frozen;have lr:=Rr.lt;have cf:=Rf.cell;have ff:=Rf.frozen;have lf:=Rf.lt;have dk:=World.rowD_of Rk;have df:=World.rowD_of Rf;clear Rk Rr Rf hv he hX
  go_wp2_with (first
   |(go_at_call 45;with_reducible refine jn (MY.out _ (by exact rc_ HV.out) (by exact rc_ HE.out)) fun X_=>?_)
   |(go_at_call 12;with_reducible refine jn (RI.out _) fun X_=>?_)
   |(go_at_call 46;with_reducible refine jn (RR.out _) fun X_=>?_)
   |(go_at_call 22;with_reducible refine jn (CU.out _ (by exact rc_ HV.out)) fun X_=>?_)
   |(go_at_call 20;with_reducible refine jn (FT.out _ (by exact rc_ HV.out)) fun X_=>?_)
   |(go_at_call 48;(with_reducible refine (FI.out _ (by exact rc_ HV.out) (by exact rc_ HE.out)).mono ?_);rintro _ _ ⟨vq,rfl,hq,⟨XQ,rfl⟩⟩;have HQ:=jj hq;clear hq))
  go_ret;obtain ⟨X0,hX0⟩:=HX.out;subst hX0;exact ⟨_,rfl,HQ.out.low (by first|omega|(simp;omega)|simp),jz (by exact br_)⟩
def aC3 (L:List WinP) (B:List Bool) (k:LookP) (x0 y0 x1 y1:Int):List FrP:=if kG L B k x0 y0 x1 y1 then (if iW L k=0 then nP L k x0 y0 x1 y1 else if iW L k=1 then zK L B k x0 y0 x1 y1 else aSt L B k x0 y0 x1 y1) else []
theorem zI (v ev:Value) (L:List WinP) (B:List Bool) (k:LookP) (x0 y0 x1 y1:Int) (w:World) (hv:Recs wnK w v L) (he:Recs boK w ev B) (hw:∀ a∈L,a.wide) (hk:k.wide) (hL:L.length<=4096) (har:cJ x0 y0 x1 y1<=1048576) (hs:k.soft=false) (hm:iW L k=0\/iW L k=1):Calls prog 15 #[v,ev,k.v,R4 x0 y0 x1 y1] w (RNew frK w (aC3 L B k x0 y0 x1 y1)):=by
 unfold aC3
 by_cases h:kG L B k x0 y0 x1 y1
 ·rw[if_pos h];rcases hm with hm|hm
  ·rw[if_pos hm];exact qP v ev L B k x0 y0 x1 y1 w hv he hw hk h hm hL har
  ·rw[if_neg (by omega),if_pos hm];exact oK v ev L B k x0 y0 x1 y1 w hv he hw hk h hm hL har (aKf hs har)
 ·rw[if_neg h];exact (wC v ev L B k x0 y0 x1 y1 w hv he hw hk h).mono RNew.nil
end Go.Proofs.YthcjfanigfgckaaGreat
