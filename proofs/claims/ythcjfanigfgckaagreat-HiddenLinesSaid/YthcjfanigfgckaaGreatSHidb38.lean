import Derived.Test.YthcjfanigfgckaaGreatSHidb36
import Derived.Test.YthcjfanigfgckaaGreatSHidb37
set_option linter.unusedVariables false
set_option linter.unusedSimpArgs false
set_option maxRecDepth 100000
set_option maxHeartbeats 16000000
namespace Go.Proofs.YthcjfanigfgckaaGreat
open Go.RowKit _root_.Go.Proofs.Tryz
instance jh37 : Coe Nat Value := ⟨fun n => .int .i64 n⟩
theorem oY {x0 y0 x1 y1:Int} {n:Nat} (hr:aM x0 y0 x1 y1) (h:cJ x0 y0 x1 y1<=n):(x1-x0).toNat * (y1-y0).toNat<=n:=by
 unfold cJ at h;rw[if_pos hr] at h;unfold aM at hr;have e:(((x1-x0).toNat * (y1-y0).toNat:Nat):Int)=(x1-x0)*(y1-y0):=by
  rw[Int.natCast_mul,Int.toNat_of_nonneg (by omega),Int.toNat_of_nonneg (by omega)]
 omega
theorem gN {a b c:WinP} (x y:Int) (v:WinP->Int) (ha:a.fits) (hb:b.fits) (hc:c.fits) (hx:Near x y) (h:cO a b c x y) (va:bU (v a)) (vb:bU (v b)) (vc:bU (v c)) (w:World) :
  Calls prog 125 #[(nG a (bE a b c) (bO a b c) (lK a b c) (v a) (v (bE a b c)) (v (bO a b c))).v,I2 ((nG a (bE a b c) (bO a b c) (lK a b c) (v a) (v (bE a b c)) (v (bO a b c))).sum x y)] w (Ret (.int .i64 (atV a b c x y v)) w):=by
 obtain ⟨n1,n2⟩:=xA ha hb hc h.1;obtain ⟨fb,fc⟩:=gO (a:=a) hb hc;have vB:bU (v (bE a b c))/\bU (v (bO a b c)):=by rcases aAd a b c with ⟨e1,e2⟩|⟨e1,e2⟩<;>rw[e1,e2]<;>exact ⟨by assumption,by assumption⟩
 have ok:=nF ha fb fc va vB.1 vB.2 n1 n2;obtain ⟨x0,x1,y0,y1⟩:=hx;have V:=wY (nG a (bE a b c) (bO a b c) (lK a b c) (v a) (v (bE a b c)) (v (bO a b c))) ((nG a (bE a b c) (bO a b c) (lK a b c) (v a) (v (bE a b c)) (v (bO a b c))).sum x y) (PlP.sum_in ok (by omega) (by omega) (by omega) (by omega)) ok.area.1 ok.area.2 w;have e:nX ((nG a (bE a b c) (bO a b c) (lK a b c) (v a) (v (bE a b c)) (v (bO a b c))).sum x y/(nG a (bE a b c) (bO a b c) (lK a b c) (v a) (v (bE a b c)) (v (bO a b c))).area)=atV a b c x y v:=by
  rw[aJu,<-iD h v va vb vc,uE a b c x y v h.1];rfl
 rw[e] at V;exact V
theorem jP (p:PlP) (x y:Int) (h:p.ok) (hx:Near x y) (w:World):Calls prog 118 #[I2 (p.sum x y),I2 p.right] w (Ret (I2 (p.sum (x+1) y)) w):=by
 obtain ⟨x0,x1,y0,y1⟩:=hx;have s1:=PlP.sum_in h (x:=x) (y:=y) (by omega) (by omega) (by omega) (by omega);have s2:=PlP.sum_in h (x:=x+1) (y:=y) (by omega) (by omega) (by omega) (by omega);rw[<-aE6] at s2 ⊢;exact fL _ _ s1 (by have:=h.right;unfold b90 at this;unfold inR;omega) s2 w
theorem aKr (a b c:WinP) (o x0 y0 x1 y1:Int) (ha:a.fits) (hb:b.fits) (hc:c.fits) (o0:-33554432<=o) (o1:o<=33554432) (har:cJ x0 y0 x1 y1<=1048576) (w:World):Calls prog 82 #[a.v,b.v,c.v,o,R4 x0 y0 x1 y1] w (cS frK w (eW a b c o x0 y0 x1 y1)):=by
 by_cases h:dL a b c x0 y0 x1 y1=[]
 ·exact aG2 a b c o x0 y0 x1 y1 ha hb hc h w
 obtain ⟨s0,hs0⟩:=List.exists_mem_of_ne_nil _ h;obtain ⟨-,hr,h0,-⟩:=lO hs0;have har2:(x1-x0).toNat * (y1-y0).toNat<=1048576:=oY hr har;obtain ⟨n1,n2⟩:=xA ha hb hc h0;obtain ⟨fb,fc⟩:=gO (a:=a) hb hc;obtain ⟨a0,a1,a2,a3⟩:=gF ha;obtain ⟨b0,b1,b2,b3⟩:=gF fb;obtain ⟨c0,c1,c2,c3⟩:=gF fc;obtain ⟨d0,d1,d2,d3⟩:=gF hb;obtain ⟨e0,e1,e2,e3⟩:=gF hc;have kz:=nF ha fb fc (fW ha) (fW fb) (fW fc) n1 n2;have k0:=nF ha fb fc a0 b0 c0 n1 n2;have k1:=nF ha fb fc a1 b1 c1 n1 n2;have k2:=nF ha fb fc a2 b2 c2 n1 n2;have k3:=nF ha fb fc a3 b3 c3 n1 n2;have rr:=hr;obtain ⟨⟨r0,r1⟩,⟨r2,r3⟩,⟨r4,r5⟩,⟨r6,r7⟩,rx,ry⟩:=rr;have NR:∀ s∈dL a b c x0 y0 x1 y1,∀ x,s.x0<=x->x<s.x1->Near x s.y:=fun s hs x h1 h2=>by
  obtain ⟨⟨q1,q2,q3,q4,q5⟩,-⟩:=lO hs;exact ⟨by omega,by omega,by omega,by omega⟩
 have HT:∀ s∈dL a b c x0 y0 x1 y1,∀ x,s.x0<=x->x<s.x1->cO a b c x s.y:=fun s hs x h1 h2=>(lO hs).2.2.2 x h1 h2
 refine aG1 a b c o x0 y0 x1 y1 (nG a (bE a b c) (bO a b c) (lK a b c) a.z (bE a b c).z (bO a b c).z) (nG a (bE a b c) (bO a b c) (lK a b c) a.c0 (bE a b c).c0 (bO a b c).c0) (nG a (bE a b c) (bO a b c) (lK a b c) a.c1 (bE a b c).c1 (bO a b c).c1) (nG a (bE a b c) (bO a b c) (lK a b c) a.c2 (bE a b c).c2 (bO a b c).c2) (nG a (bE a b c) (bO a b c) (lK a b c) a.c3 (bE a b c).c3 (bO a b c).c3)
  (zJ a (bE a b c) (bO a b c) (lK a b c)) (dL a b c x0 y0 x1 y1) (fun x y=>atV a b c x y (·.z)) (fun x y=>atV a b c x y (·.c0)) (fun x y=>atV a b c x y (·.c1)) (fun x y=>atV a b c x y (·.c2)) (fun x y=>atV a b c x y (·.c3)) o0 o1 h
  (jj fun s hs=>?_) (jj ?_) (jj ?_) (jj fun x y=>rfl) (jj fun s hs x h1 h2=>aQ0 ha hb hc (HT s hs x h1 h2)) (jj fun w=>uS a b c x0 y0 x1 y1 ha hb hc w) (jj fun w=>yA a b c (iV ha hb hc) w) (jj fun w=>aCg a (bE a b c) (bO a b c) (lK a b c) ha fb fc w)
  (jj fun x y hx w=>i6 _ x y kz (by have:=hx.x0;omega) (by have:=hx.x1;omega) (by have:=hx.y0;omega) (by have:=hx.y1;omega) w) (jj fun s hs x h1 h2 w=>gN x s.y (·.z) ha hb hc (NR s hs x h1 h2) (HT s hs x h1 h2) (fW ha) (fW hb) (fW hc) w) (jj fun x y hx w=>jP _ x y kz hx w)
  (jj fun x y hx w=>i6 _ x y k0 (by have:=hx.x0;omega) (by have:=hx.x1;omega) (by have:=hx.y0;omega) (by have:=hx.y1;omega) w) (jj fun s hs x h1 h2 w=>gN x s.y (·.c0) ha hb hc (NR s hs x h1 h2) (HT s hs x h1 h2) a0 d0 e0 w) (jj fun x y hx w=>jP _ x y k0 hx w)
  (jj fun x y hx w=>i6 _ x y k1 (by have:=hx.x0;omega) (by have:=hx.x1;omega) (by have:=hx.y0;omega) (by have:=hx.y1;omega) w) (jj fun s hs x h1 h2 w=>gN x s.y (·.c1) ha hb hc (NR s hs x h1 h2) (HT s hs x h1 h2) a1 d1 e1 w) (jj fun x y hx w=>jP _ x y k1 hx w)
  (jj fun x y hx w=>i6 _ x y k2 (by have:=hx.x0;omega) (by have:=hx.x1;omega) (by have:=hx.y0;omega) (by have:=hx.y1;omega) w) (jj fun s hs x h1 h2 w=>gN x s.y (·.c2) ha hb hc (NR s hs x h1 h2) (HT s hs x h1 h2) a2 d2 e2 w) (jj fun x y hx w=>jP _ x y k2 hx w)
  (jj fun x y hx w=>i6 _ x y k3 (by have:=hx.x0;omega) (by have:=hx.x1;omega) (by have:=hx.y0;omega) (by have:=hx.y1;omega) w) (jj fun s hs x h1 h2 w=>gN x s.y (·.c3) ha hb hc (NR s hs x h1 h2) (HT s hs x h1 h2) a3 d3 e3 w) (jj fun x y hx w=>jP _ x y k3 hx w) w
 ·obtain ⟨⟨q1,q2,q3,q4,q5⟩,-⟩:=lO hs;omega
 ·have:=vZ a b c o x0 y0 x1 y1 hr;unfold eW at this;rw[this];exact Nat.le_trans (tV a b c o x0 x1 y0 y1 (by omega)) har2
 ·rw[rV a b c x0 y0 x1 y1 hr,if_neg h0];have:=pD a b c x0 x1 y0 y1;omega
theorem aEm (a b c:WinP) (o x0 y0 x1 y1:Int) (ha:a.fits) (hb:b.fits) (hc:c.fits) (o0:-33554432<=o) (o1:o<=33554432) (har:cJ x0 y0 x1 y1<=1048576) (w:World):Calls prog 51 #[a.v,b.v,c.v,o,R4 x0 y0 x1 y1] w (cS frK w (eW a b c o x0 y0 x1 y1)):=by
 by_cases hr:aM x0 y0 x1 y1
 ·exact aJl a b c o x0 y0 x1 y1 ha hb hc o0 o1 hr (oY hr har) w
 ·exact aJk a b c o x0 y0 x1 y1 hr w
def wT (k:LookP) (a b c:WinP):Int:=if k.off then aIl a b c k.factor k.units else 0
theorem aFl {k:LookP} (h:k.ok) (a b c:WinP):-33554432<=wT k a b c/\wT k a b c<=33554432:=by
 unfold LookP.ok aI at h;unfold wT
 split
 ·unfold aIl
  split
  ·omega
  ·unfold kM;omega
 ·omega
def kI (L:List WinP) (k:LookP) (x0 y0 x1 y1:Int):Nat->List FrP
 |0=>[]
 |j+1=>kI L k x0 y0 x1 y1 j++eW (wAt L 0) (wAt L (j+1)) (wAt L (j+2)) (wT k (wAt L 0) (wAt L (j+1)) (wAt L (j+2))) x0 y0 x1 y1
def nP (L:List WinP) (k:LookP) (x0 y0 x1 y1:Int):List FrP:=kI L k x0 y0 x1 y1 (L.length-2)
theorem qO (a b c:WinP) (o x0 y0 x1 y1:Int) (har:cJ x0 y0 x1 y1<=1048576):(eW a b c o x0 y0 x1 y1).length<=1048576:=by
 unfold eW dL
 split
 ·simp[bF]
 ·rename_i h
  have h0:ar a b c≠0:=fun e=>h (.inl e)
  have hr:aM x0 y0 x1 y1:=Classical.byContradiction fun e=>h (.inr e)
  have hx:x0<=x1:=by unfold aM at hr;omega
  exact Nat.le_trans (sR a b c o x0 x1 y0 y1 h0 hx) (oY hr har)
theorem mL (L:List WinP) (k:LookP) (x0 y0 x1 y1:Int) (har:cJ x0 y0 x1 y1<=1048576):∀ j,(kI L k x0 y0 x1 y1 j).length<=j*1048576
 |0=>by simp[kI]
 |j+1=>by
  have:=mL L k x0 y0 x1 y1 har j;have h2:=qO (wAt L 0) (wAt L (j+1)) (wAt L (j+2)) (wT k (wAt L 0) (wAt L (j+1)) (wAt L (j+2))) x0 y0 x1 y1 har;unfold kI;rw[List.length_append];omega
theorem jI:(prog.info? 73).map (fun i=>(i.zero,i.size,i.bytes))=some (some (.agg #[.int .i64 0,.int .i64 0,.int .i64 0,.int .i64 0,.int .i64 0,.int .i64 0,.int .i64 0,.int .i64 0]),8,64):=by kernel_rfl
def RecsN {α:Type} (K:RecK α) (B:Nat) (w:World) (v:Value) (L:List α):Prop:=Recs K w v L/\∀ b,v.ownBlock=some b->L≠[]->B<=b
theorem RecsN.ext {α:Type} {K:RecK α} {B:Nat} {w:World} {v:Value} {L:List α} (h:RecsN K B w v L) (X:Xt):RecsN K B (w.ext X) v L:=⟨h.1.ext X,h.2⟩
theorem RecsN.low {α:Type} {K:RecK α} {B B':Nat} {w:World} {v:Value} {L:List α} (h:RecsN K B w v L) (hb:B'<=B):RecsN K B' w v L:=⟨h.1,fun b e n=>Nat.le_trans hb (h.2 b e n)⟩
def RNew {α:Type} (K:RecK α) (w:World) (L:List α) (e:Ending) (w':World):Prop:=∃ v,e=.returned v/\RecsN K w.heap.size w' v L/\∃ X,w'=w.ext X
theorem RNew.lists {α:Type} {K:RecK α} {w:World} {L:List α} (e:Ending) (w':World) (h:RNew K w L e w'):cS K w L e w':=by
 obtain ⟨v,h1,h2,h3⟩:=h;exact ⟨v,h1,h2.1,h3⟩
theorem RNew.nil {α:Type} {K:RecK α} {w:World} (e:Ending) (w':World) (h:cS K w [] e w'):RNew K w [] e w':=by
 obtain ⟨v,h1,h2,h3⟩:=h;exact ⟨v,h1,⟨h2,fun _ _ c=>absurd rfl c⟩,h3⟩
theorem wB (v:Value) (L:List WinP) (ea:Option Addr) (el ec:Nat) (k:LookP) (x0 y0 x1 y1:Int) (w:World) (hv:Recs wnK w v L) (hf:∀ a∈L,a.fits) (hk:k.ok) (hL:L.length<=4096) (har:cJ x0 y0 x1 y1<=1048576):Calls prog 47 #[fcV v (.slice ea el ec) k x0 y0 x1 y1] w (RNew frK w (nP L k x0 y0 x1 y1)):=by
 have HV:=jj hv;have HF:=jj hf;have HO:=jj (fun a b c=>aFl hk a b c);have hk':=hk;unfold LookP.ok aI at hk';obtain ⟨-,-,-,-,-,-,⟨k0,k1⟩,⟨k2,k3⟩,-⟩:=hk';have OF:=jj (fun a b c (ha:a.fits) (hb:b.fits) (hc:c.fits) w=>vH a b c k.factor k.units ha hb hc k0 k1 k2 k3 w);have FL:=jj (fun a b c o (ha:a.fits) (hb:b.fits) (hc:c.fits) (o0:-33554432<=o) (o1:o<=33554432) w=>aKr a b c o x0 y0 x1 y1 ha hb hc o0 o1 har w);have LEN:=jj (fun j=>mL L k x0 y0 x1 y1 har j);have LEN1:=jj (fun a b c o=>qO a b c o x0 y0 x1 y1 har);obtain ⟨T,hT⟩:∃ T,T=kI L k x0 y0 x1 y1:=⟨_,rfl⟩;have HN:=jj (fun j=>show kI L k x0 y0 x1 y1 (j+1)=kI L k x0 y0 x1 y1 j++eW (wAt L 0) (wAt L (j+1)) (wAt L (j+2)) (wT k (wAt L 0) (wAt L (j+1)) (wAt L (j+2))) x0 y0 x1 y1 from rfl);have H0:=jj (show kI L k x0 y0 x1 y1 0=[] from rfl);unfold nP;rw[<-hT] at HN H0 LEN ⊢;obtain ⟨hl,av,cap,rfl,hcap,-⟩:=hv;clear hf hk har hT;obtain ⟨i0,hii,hz0,hz1,hz2⟩:=info_parts jI
 go_enter func47,ntmps47
 go_upto_region 2 with fail
 refine aE (F:=fun w1=>Row w1 w.heap.size #[.slice av L.length cap,.slice ea el ec,k.width,.bool k.soft,.bool k.dashed,k.p,k.r,k.c,k.size,k.kind,k.front,k.back,.bool k.ccw,k.cull,.bool k.off,k.factor,k.units,x0,y0,x1,y1] 82/\Recs wnK w1 (.slice av L.length cap) L/\∃ X,w1=w.ext X) ⟨by exact rx_,HV.out.alloc _,jz (by exact bl_)⟩ ?_;rintro w1 ⟨Rl,hv1,hX⟩;have HX:=jj hX;have HV1:=jj hv1;have HRl:=jj Rl;have ll:=Rl.lt;clear hX hv1 HV Rl;go_wp2;go_loopw [4,3] (fun i o wr=>∃ (j:Nat) (vo:Value) (M:List FrP),(j=0\/j+2<=L.length)/\i=.int .i64 ((j:Int)+2)/\o=vo/\Hid (M=T j)/\Hid (Hold frK w1 wr 73 [(w.heap.size,#[.slice av L.length cap,.slice ea el ec,.int .i64 k.width,.bool k.soft,.bool k.dashed,.int .i64 k.p,.int .i64 k.r,.int .i64 k.c,.int .i64 k.size,.int .i64 k.kind,.int .i64 k.front,.int .i64 k.back,.bool k.ccw,.int .i64 k.cull,.bool k.off,.int .i64 k.factor,.int .i64 k.units,.int .i64 x0,.int .i64 y0,.int .i64 x1,.int .i64 y1],82)] vo M))
  (fun i _ _=>L.length+2-(intOf i).toNat)
 case atStart=>exact ⟨0,_,[],.inl rfl,rfl,rfl,jj H0.out.symm,jj (Hold.start (List.forall_mem_cons.2 ⟨HRl.out,by simp⟩) (by simp) ⟨_,(aN _).symm⟩)⟩
 case round =>
  obtain ⟨j,vo,M,hj,rfl,hv,hM,hR⟩:=hrel;have hv:=hv.symm;subst hv;have c0:=hR.out.rows _ jq;simp only at c0;have c1:=c0.cell;have c2:=c0.frozen;have c3:=c0.lt;clear c0
  by_cases hlt:j+2<L.length
  ·have hki:(j:Int)+2<L.length:=by omega
   have h0:0<L.length:=by omega
   have h1:j+1<L.length:=by omega
   have hi0:(0:Int)<L.length:=by omega
   have hi1:(j:Int)+1<L.length:=by omega
   obtain ⟨X0,hX0⟩:=hR.out.ext;obtain ⟨-,av',cap',hq,-,hcl⟩:=(by rw[hX0];exact HV1.out.ext X0:Recs wnK wr (.slice av L.length cap) L);obtain ⟨rfl,rfl⟩:av=av'/\cap=cap':=by simpa using hq
   clear hq hX0;rcases hcl with e|⟨lb,lo,rfl,hlb,hcl⟩
   ·rw[e] at h0;simp at h0
   obtain ⟨a,ha⟩:∃ f,L[0]?=some f:=⟨_,List.getElem?_eq_getElem h0⟩;obtain ⟨b,hb⟩:∃ f,L[j+1]?=some f:=⟨_,List.getElem?_eq_getElem h1⟩;obtain ⟨c,hc⟩:∃ f,L[j+2]?=some f:=⟨_,List.getElem?_eq_getElem hlt⟩;have pa0:wr.cell? ⟨lb,lo,none⟩=some (.int .i64 a.x):=by simpa using hcl 0 _ ha 0 _ rfl
   have pa1:wr.cell? ⟨lb,lo+1,none⟩=some (.int .i64 a.y):=by simpa using hcl 0 _ ha 1 _ rfl
   have pa2:wr.cell? ⟨lb,lo+2,none⟩=some (.int .i64 a.z):=by simpa using hcl 0 _ ha 2 _ rfl
   have pa3:wr.cell? ⟨lb,lo+3,none⟩=some (.int .i64 a.c0):=by simpa using hcl 0 _ ha 3 _ rfl
   have pa4:wr.cell? ⟨lb,lo+4,none⟩=some (.int .i64 a.c1):=by simpa using hcl 0 _ ha 4 _ rfl
   have pa5:wr.cell? ⟨lb,lo+5,none⟩=some (.int .i64 a.c2):=by simpa using hcl 0 _ ha 5 _ rfl
   have pa6:wr.cell? ⟨lb,lo+6,none⟩=some (.int .i64 a.c3):=by simpa using hcl 0 _ ha 6 _ rfl
   have pb0:wr.cell? ⟨lb,lo+(j+1)*7,none⟩=some (.int .i64 b.x):=hcl (j+1) _ hb 0 _ rfl;have pb1:wr.cell? ⟨lb,lo+(j+1)*7+1,none⟩=some (.int .i64 b.y):=hcl (j+1) _ hb 1 _ rfl;have pb2:wr.cell? ⟨lb,lo+(j+1)*7+2,none⟩=some (.int .i64 b.z):=hcl (j+1) _ hb 2 _ rfl;have pb3:wr.cell? ⟨lb,lo+(j+1)*7+3,none⟩=some (.int .i64 b.c0):=hcl (j+1) _ hb 3 _ rfl;have pb4:wr.cell? ⟨lb,lo+(j+1)*7+4,none⟩=some (.int .i64 b.c1):=hcl (j+1) _ hb 4 _ rfl;have pb5:wr.cell? ⟨lb,lo+(j+1)*7+5,none⟩=some (.int .i64 b.c2):=hcl (j+1) _ hb 5 _ rfl;have pb6:wr.cell? ⟨lb,lo+(j+1)*7+6,none⟩=some (.int .i64 b.c3):=hcl (j+1) _ hb 6 _ rfl;have pc0:wr.cell? ⟨lb,lo+(j+2)*7,none⟩=some (.int .i64 c.x):=hcl (j+2) _ hc 0 _ rfl;have pc1:wr.cell? ⟨lb,lo+(j+2)*7+1,none⟩=some (.int .i64 c.y):=hcl (j+2) _ hc 1 _ rfl;have pc2:wr.cell? ⟨lb,lo+(j+2)*7+2,none⟩=some (.int .i64 c.z):=hcl (j+2) _ hc 2 _ rfl;have pc3:wr.cell? ⟨lb,lo+(j+2)*7+3,none⟩=some (.int .i64 c.c0):=hcl (j+2) _ hc 3 _ rfl;have pc4:wr.cell? ⟨lb,lo+(j+2)*7+4,none⟩=some (.int .i64 c.c1):=hcl (j+2) _ hc 4 _ rfl;have pc5:wr.cell? ⟨lb,lo+(j+2)*7+5,none⟩=some (.int .i64 c.c2):=hcl (j+2) _ hc 5 _ rfl;have pc6:wr.cell? ⟨lb,lo+(j+2)*7+6,none⟩=some (.int .i64 c.c3):=hcl (j+2) _ hc 6 _ rfl;have na:=dZ ha;have nb:=dZ hb;have nc:=dZ hc;have fa:=HF.out a (List.mem_of_getElem? ha);have fb:=HF.out b (List.mem_of_getElem? hb);have fc:=HF.out c (List.mem_of_getElem? hc);have O:=jj (fun w=>OF.out a b c fa fb fc w);obtain ⟨o0,o1⟩:=HO.out a b c;have G:=jj (fun w=>FL.out a b c (wT k a b c) fa fb fc o0 o1 w);have e1:=HN.out j;rw[na,nb,nc] at e1;have b1:=LEN.out j;have b2:=LEN1.out a b c (wT k a b c);have hoff:=jj (show wT k a b c=if k.off then aIl a b c k.factor k.units else 0 from rfl);obtain ⟨oo,hoo⟩:∃ o,wT k a b c=o:=⟨_,rfl⟩;obtain ⟨ov,hov⟩:∃ o,aIl a b c k.factor k.units=o:=⟨_,rfl⟩;rw[hoo] at o0 o1 G e1 b2 hoff;rw[hov] at O hoff;obtain ⟨S,hS⟩:∃ S,eW a b c oo x0 y0 x1 y1=S:=⟨_,rfl⟩;rw[hS] at e1 b2 G;have e2:=hM.out;have E1:=jj (show T (j+1)=M++S by rw[e1,e2]);have hlb:M.length<=4294967296:=by rw[e2];omega
   have LB1:=jj (show M.length+S.length<=maxLen by unfold maxLen;omega);have LB2:=jj (show (M.length+S.length)*64<=140737488355328 by omega);clear hcl ha hb hc na nb nc fa fb fc e1 e2 b1 b2 hS hoo hov hlb hj;go_wp2;refine aP (by kernel_rfl) ?_
   repeat (first|(refine dE rfl ?_;simp only[List.nil_append,List.cons_append])|(refine bN rfl rfl rfl ?_;simp only[jw,List.nil_append,List.cons_append])|(refine dF rfl rfl ?_;intro K_ hK_;go_big_quiet_op;go_big_quiet_on;simp only[List.nil_append,List.cons_append])|(refine bX rfl rfl Tryz.zeroValue45 ?_;simp only[List.nil_append,List.cons_append])|(refine aY 15 rfl rfl rfl rfl (by simp[Value.oneCell']) (by kernel_rfl) (by simp) rfl rfl rfl rfl ?_;simp only[List.nil_append,List.cons_append])|(refine aY 16 rfl rfl rfl rfl (by simp[Value.oneCell']) (by kernel_rfl) (by simp) rfl rfl rfl rfl ?_;simp only[List.nil_append,List.cons_append])|(refine aY 17 rfl rfl rfl rfl (by simp[Value.oneCell']) (by kernel_rfl) (by simp) rfl rfl rfl rfl ?_;simp only[List.nil_append,List.cons_append]))
   refine eV (aJ6 15 16 17 18 19 20 ⟨by kernel_rfl,by kernel_rfl⟩ rfl rfl rfl rfl rfl (by kernel_rfl) rfl rfl rfl rfl (by kernel_rfl) rfl rfl rfl rfl (by kernel_rfl) ?_);intro X p q r hp hq hr ne_p_q ne_p_r ne_q_r;have c_hp:=hp.cell;have f_hp:=hp.frozen;have g_hp:=hp.gap;have b_hp:=jj hp.block
   try simp only[World.size_ext,World.size_alloc,World.size_drew,World.size_setCell] at g_hp
   clear hp;have c_hq:=hq.cell;have f_hq:=hq.frozen;have g_hq:=hq.gap;have b_hq:=jj hq.block
   try simp only[World.size_ext,World.size_alloc,World.size_drew,World.size_setCell] at g_hq
   clear hq;have c_hr:=hr.cell;have f_hr:=hr.frozen;have g_hr:=hr.gap;have b_hr:=jj hr.block
   try simp only[World.size_ext,World.size_alloc,World.size_drew,World.size_setCell] at g_hr
   clear hr;simp only[jw,ptr];go_upto_region 7 with fail
   refine aE (F:=fun wx=>Hid (Hold frK w1 wx 73 [(w.heap.size,#[.slice (some ⟨lb,lo,none⟩) L.length cap,.slice ea el ec,.int .i64 k.width,.bool k.soft,.bool k.dashed,.int .i64 k.p,.int .i64 k.r,.int .i64 k.c,.int .i64 k.size,.int .i64 k.kind,.int .i64 k.front,.int .i64 k.back,.bool k.ccw,.int .i64 k.cull,.bool k.off,.int .i64 k.factor,.int .i64 k.units,.int .i64 x0,.int .i64 y0,.int .i64 x1,.int .i64 y1],82),(p,#[.int .i64 a.x,.int .i64 a.y,.int .i64 a.z,.int .i64 a.c0,.int .i64 a.c1,.int .i64 a.c2,.int .i64 a.c3],45),(q,#[.int .i64 b.x,.int .i64 b.y,.int .i64 b.z,.int .i64 b.c0,.int .i64 b.c1,.int .i64 b.c2,.int .i64 b.c3],45),(r,#[.int .i64 c.x,.int .i64 c.y,.int .i64 c.z,.int .i64 c.c0,.int .i64 c.c1,.int .i64 c.c2,.int .i64 c.c3],45)] vo M)) (jj ((hR.out.grown (by exact bl_)).with (List.forall_mem_cons.2 ⟨by (repeat (first|exact hR.out.rows _ (List.mem_cons_self)|with_reducible refine Row.ext ?_ _|with_reducible refine aC ?_)),List.forall_mem_cons.2 ⟨by (repeat (first|exact b_hp.out|with_reducible refine Row.ext ?_ _|with_reducible refine aC ?_)),List.forall_mem_cons.2 ⟨by (repeat (first|exact b_hq.out|with_reducible refine Row.ext ?_ _|with_reducible refine aC ?_)),List.forall_mem_cons.2 ⟨by (repeat (first|exact b_hr.out|with_reducible refine Row.ext ?_ _|with_reducible refine aC ?_)),by simp⟩⟩⟩⟩) (by simp))) ?_;clear c_hp c_hq c_hr f_hp f_hq f_hr g_hp g_hq g_hr b_hp b_hq b_hr c1 c2 c3 pa0 pa1 pa2 pa3 pa4 pa5 pa6 pb0 pb1 pb2 pb3 pb4 pb5 pb6 pc0 pc1 pc2 pc3 pc4 pc5 pc6 hR;intro wx hR;have c0:=hR.out.rows _ jq;simp only at c0;have c1:=c0.cell;have c2:=c0.frozen;have c3:=c0.lt;clear c0;have d0:=hR.out.rows _ (jk jq);simp only at d0;have d1:=d0.cell;have d2:=d0.frozen;have d3:=d0.lt;clear d0;have e0:=hR.out.rows _ (jk (jk jq));simp only at e0;have e1:=e0.cell;have e2:=e0.frozen;have e3:=e0.lt;clear e0;have f0:=hR.out.rows _ (jk (jk (jk jq)));simp only at f0;have f1:=f0.cell;have f2:=f0.frozen;have f3:=f0.lt;clear f0;have hsz:=hR.out.size
   by_cases hb:k.off=true
   all_goals
    have ho:=hoff.out;simp only[hb,if_true,if_false,Bool.false_eq_true] at ho;subst ho
    try (have hb:k.off=false:=by simpa using hb)
    clear hoff
    go_wp2_with (first
     |(go_at_call 81;with_reducible refine jn (O.out _) fun X_=>?_)
     |(go_at_call 82;(with_reducible refine (G.out _).mono ?_);rintro _ _ ⟨vq,rfl,hq,⟨XQ,rfl⟩⟩;have HQ:=jj hq;clear hq)
     |(at_builtin;refine aS (K:=frK) rfl _ _ 36 rfl w1.heap.size 73 i0 (.agg #[.int .i64 0,.int .i64 0,.int .i64 0,.int .i64 0,.int .i64 0,.int .i64 0,.int .i64 0,.int .i64 0]) 64 Tryz.underlying36 hii hz0 hz1 hz2 rfl vo M rfl ((hR.out.grown (by exact bl_)).own) vq S rfl (by first|exact HQ.out|exact HQ.out.drew) LB1.out LB2.out (by simp;omega) ?_;intro v' w5 hown hgrow;have h5:=jj ((hR.out.grown (by exact bl_)).more hown hgrow);clear hown hgrow))
    go_roundw
    case rel=>exact ⟨j+1,_,M++S,.inr (by omega),by go_num,rfl,jj E1.out.symm,jj (h5.out.with (List.forall_mem_cons.2 ⟨h5.out.rows _ (List.mem_cons_self),by simp⟩) (by simp))⟩
    case measure=>simp[intOf];omega
  ·have hkk:L.length-2=j:=by omega
   have HK:=jj hkk;have b1:=LEN.out j;have hge:¬((j:Int)+2<L.length):=by omega
   have e2:=hM.out;have hlb:M.length<=1099511627776:=by rw[e2];omega
   clear hkk b1 e2;go_wp2;go_ret;refine ⟨_,rfl,⟨?_,fun b hb _=>?_⟩,?_⟩
   ·rw[HK.out,<-hM.out];exact cM hR.out.own hlb
   ·have h:=(hR.out.own.lt b hb).1;obtain ⟨X0,hX0⟩:=HX.out;rw[hX0,World.size_ext] at h;omega
   ·obtain ⟨X1,hX1⟩:=hR.out.ext;obtain ⟨X0,hX0⟩:=HX.out;subst hX0;subst hX1;exact jz (by exact br_)
end Go.Proofs.YthcjfanigfgckaaGreat
