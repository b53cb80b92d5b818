import Derived.Test.YthcjfanigfgckaaGreatSHidb44
set_option linter.unusedVariables false
set_option linter.unusedSimpArgs false
set_option maxRecDepth 100000
set_option maxHeartbeats 16000000
namespace Go.Proofs.YthcjfanigfgckaaGreat
open Go.RowKit _root_.Go.Proofs.Tryz
instance jh46 : Coe Nat Value := ⟨fun n => .int .i64 n⟩
def aIh (k:LookP) (x0 y0 x1 y1:Int):Prop:=∀ (a b:WinP) (c:Int),a.fitsP->b.fitsP->bW k.p k.r c->∀ w,Calls prog 53 #[a.v,b.v,k.v,D3 k.p k.r c,R4 x0 y0 x1 y1] w (kJ w (lnL a b k c x0 y0 x1 y1) k.p k.r (lnC a b k c))
theorem aEj {k:LookP} {x0 y0 x1 y1:Int} (hs:k.soft=false) (har:cJ x0 y0 x1 y1<=1048576):aIh k x0 y0 x1 y1:=fun a b c ha hb hc w=>by
 have e1:lnL a b k c x0 y0 x1 y1=wdL a b k.width k.dashed k.p k.r c x0 y0 x1 y1:=by unfold lnL;rw[hs];rfl
 have e2:lnC a b k c=wdC a b k.width k.dashed k.p k.r c:=by unfold lnC;rw[hs];rfl
 rw[e1,e2];exact xO a b k c x0 y0 x1 y1 hs (mJ ha) (mJ hb) (by unfold bW at hc;unfold w64;omega) (by unfold bW at hc;unfold w64;omega) har w
def aS1 (B:Nat) (c:Array Value) (T:TypeId):SR gC:=⟨fun v w=>∃ p,v=.pointer (some ⟨p,0,none⟩)/\B<=p/\Row w p c T,fun v w w' ⟨p,h1,h2,h3⟩ ⟨X,e⟩=>by subst e;exact ⟨p,h1,h2,h3.ext X⟩,fun v=>∃ p,v=.pointer (some ⟨p,0,none⟩),.pointer (some ⟨0,0,none⟩),⟨0,rfl⟩,fun v w ⟨p,h1,_⟩=>⟨p,h1⟩⟩
theorem aTt {w:World} {B n:Nat} {c:Array Value} {T:TypeId} (hn:w.heap.size=n) (h:B<=n):(aS1 B c T).R (.pointer (some ⟨n,0,none⟩)) (w.alloc (.cells c T)):=⟨n,rfl,h,dC hn⟩
theorem aS9 {w:World} {o:Obj}:∃ X,w.alloc o=w.ext X:=(Below.alloc (Below.refl _ _) (Nat.le_refl _) _).toExt
theorem tK (v ev:Value) (L:List WinP) (B:List Bool) (k:LookP) (x0 y0 x1 y1:Int) (w:World) (hv:Recs wnK w v L) (he:Recs boK w ev B) (h:¬kG L B k x0 y0 x1 y1) (hL:L.length<=4096):Calls prog 16 #[v,ev,k.v,R4 x0 y0 x1 y1] w (cS frK w []):=by
 have MY0:=fun w1 h g=>pP v ev L B w1 h g
 have RI0:=fun w=>kT k w
 have RR0:=fun w=>bQ x0 y0 x1 y1 w
 have CU0:=fun w1 h (q:rG L B) (c:k.ok)=>jB v L k w1 h (dG q) hL (nH c)
 obtain ⟨bc,hbc⟩:∃ b,qR (g9 (sgn (iO L)) k.ccw) k.cull=b:=⟨_,rfl⟩;rw[hbc] at CU0
 by_cases h1:rG L B
 case neg =>
  simp only[h1,decide_false] at MY0;have MY:=jj MY0;clear h h1 MY0 RI0 RR0 CU0 hbc hL;have HV:=jj hv;have HE:=jj he;obtain ⟨hl,av,cap,rfl,hcap,-⟩:=hv;obtain ⟨hl2,ev,ecap,rfl,-,-⟩:=he
  go_enter func16,ntmps16
  go_upto_region 1 with fail
  refine aE (F:=fun w1=>Row w1 w.heap.size #[k.width,.bool k.soft,.bool k.dashed,k.p,k.r,k.c,k.size,k.kind,k.front,k.back,.bool k.ccw,k.cull,.bool k.off,k.factor,k.units] 27/\Row w1 (w.heap.size+1) #[x0,y0,x1,y1] 29/\Recs wnK w1 (.slice av L.length cap) L/\Recs boK w1 (.slice ev B.length ecap) B/\∃ X,w1=w.ext X) ⟨by exact rx_,by exact rx_,(by exact rc_ HV.out),(by exact rc_ HE.out),jz (by exact bl_)⟩ ?_;clear HV HE;rintro w1 ⟨Rk,Rr,hv,he,hX⟩;have HX:=jj hX;have HV:=jj hv;have HE:=jj he;have HRk:=jj Rk;have HRr:=jj Rr;have ck:=Rk.cell;have fk:=Rk.frozen;have lk:=Rk.lt;have cr:=Rr.cell;have fr:=Rr.frozen;have lr:=Rr.lt;have dk:=World.rowD_of Rk;clear Rk Rr hv he hX
  go_wp2_with (first
   |(go_at_call 17;with_reducible refine jn (MY.out _ (by exact rc_ HV.out) (by exact rc_ HE.out)) fun X_=>?_))
  go_ret;obtain ⟨X0,hX0⟩:=HX.out;subst hX0;exact ⟨_,rfl,bJ _,jz (by exact br_)⟩
 simp only[h1,decide_true] at MY0;have MY:=jj MY0
 by_cases h2:k.ok
 case neg =>
  simp only[h2,decide_false] at RI0;have RI:=jj RI0;clear h h1 h2 MY0 RI0 RR0 CU0 hbc hL;have HV:=jj hv;have HE:=jj he;obtain ⟨hl,av,cap,rfl,hcap,-⟩:=hv;obtain ⟨hl2,ev,ecap,rfl,-,-⟩:=he
  go_enter func16,ntmps16
  go_upto_region 1 with fail
  refine aE (F:=fun w1=>Row w1 w.heap.size #[k.width,.bool k.soft,.bool k.dashed,k.p,k.r,k.c,k.size,k.kind,k.front,k.back,.bool k.ccw,k.cull,.bool k.off,k.factor,k.units] 27/\Row w1 (w.heap.size+1) #[x0,y0,x1,y1] 29/\Recs wnK w1 (.slice av L.length cap) L/\Recs boK w1 (.slice ev B.length ecap) B/\∃ X,w1=w.ext X) ⟨by exact rx_,by exact rx_,(by exact rc_ HV.out),(by exact rc_ HE.out),jz (by exact bl_)⟩ ?_;clear HV HE;rintro w1 ⟨Rk,Rr,hv,he,hX⟩;have HX:=jj hX;have HV:=jj hv;have HE:=jj he;have HRk:=jj Rk;have HRr:=jj Rr;have ck:=Rk.cell;have fk:=Rk.frozen;have lk:=Rk.lt;have cr:=Rr.cell;have fr:=Rr.frozen;have lr:=Rr.lt;have dk:=World.rowD_of Rk;clear Rk Rr hv he hX
  go_wp2_with (first
   |(go_at_call 17;with_reducible refine jn (MY.out _ (by exact rc_ HV.out) (by exact rc_ HE.out)) fun X_=>?_)
   |(go_at_call 13;with_reducible refine jn (RI.out _) fun X_=>?_))
  go_ret;obtain ⟨X0,hX0⟩:=HX.out;subst hX0;exact ⟨_,rfl,bJ _,jz (by exact br_)⟩
 simp only[h2,decide_true] at RI0;have RI:=jj RI0
 by_cases h3:aM x0 y0 x1 y1
 case neg =>
  simp only[h3,decide_false] at RR0;have RR:=jj RR0;clear h h1 h2 h3 MY0 RI0 RR0 CU0 hbc hL;have HV:=jj hv;have HE:=jj he;obtain ⟨hl,av,cap,rfl,hcap,-⟩:=hv;obtain ⟨hl2,ev,ecap,rfl,-,-⟩:=he
  go_enter func16,ntmps16
  go_upto_region 1 with fail
  refine aE (F:=fun w1=>Row w1 w.heap.size #[k.width,.bool k.soft,.bool k.dashed,k.p,k.r,k.c,k.size,k.kind,k.front,k.back,.bool k.ccw,k.cull,.bool k.off,k.factor,k.units] 27/\Row w1 (w.heap.size+1) #[x0,y0,x1,y1] 29/\Recs wnK w1 (.slice av L.length cap) L/\Recs boK w1 (.slice ev B.length ecap) B/\∃ X,w1=w.ext X) ⟨by exact rx_,by exact rx_,(by exact rc_ HV.out),(by exact rc_ HE.out),jz (by exact bl_)⟩ ?_;clear HV HE;rintro w1 ⟨Rk,Rr,hv,he,hX⟩;have HX:=jj hX;have HV:=jj hv;have HE:=jj he;have HRk:=jj Rk;have HRr:=jj Rr;have ck:=Rk.cell;have fk:=Rk.frozen;have lk:=Rk.lt;have cr:=Rr.cell;have fr:=Rr.frozen;have lr:=Rr.lt;have dk:=World.rowD_of Rk;clear Rk Rr hv he hX
  go_wp2_with (first
   |(go_at_call 17;with_reducible refine jn (MY.out _ (by exact rc_ HV.out) (by exact rc_ HE.out)) fun X_=>?_)
   |(go_at_call 13;with_reducible refine jn (RI.out _) fun X_=>?_)
   |(go_at_call 38;with_reducible refine jn (RR.out _) fun X_=>?_))
  go_ret;obtain ⟨X0,hX0⟩:=HX.out;subst hX0;exact ⟨_,rfl,bJ _,jz (by exact br_)⟩
 simp only[h3,decide_true] at RR0;have RR:=jj RR0;have hb:bc=true:=by
  cases hq:bc
  ·exact absurd ⟨h1,h2,h3,by unfold iS;rw[hbc,hq]⟩ h
  ·rfl
 subst hb;have CU:=jj (fun w1 h=>CU0 w1 h h1 h2);clear h h1 h2 h3 MY0 RI0 RR0 CU0 hbc hL;have HV:=jj hv;have HE:=jj he;obtain ⟨hl,av,cap,rfl,hcap,-⟩:=hv;obtain ⟨hl2,ev,ecap,rfl,-,-⟩:=he
 go_enter func16,ntmps16
 go_upto_region 1 with fail
 refine aE (F:=fun w1=>Row w1 w.heap.size #[k.width,.bool k.soft,.bool k.dashed,k.p,k.r,k.c,k.size,k.kind,k.front,k.back,.bool k.ccw,k.cull,.bool k.off,k.factor,k.units] 27/\Row w1 (w.heap.size+1) #[x0,y0,x1,y1] 29/\Recs wnK w1 (.slice av L.length cap) L/\Recs boK w1 (.slice ev B.length ecap) B/\∃ X,w1=w.ext X) ⟨by exact rx_,by exact rx_,(by exact rc_ HV.out),(by exact rc_ HE.out),jz (by exact bl_)⟩ ?_;clear HV HE;rintro w1 ⟨Rk,Rr,hv,he,hX⟩;have HX:=jj hX;have HV:=jj hv;have HE:=jj he;have HRk:=jj Rk;have HRr:=jj Rr;have ck:=Rk.cell;have fk:=Rk.frozen;have lk:=Rk.lt;have cr:=Rr.cell;have fr:=Rr.frozen;have lr:=Rr.lt;have dk:=World.rowD_of Rk;clear Rk Rr hv he hX
 go_wp2_with (first
  |(go_at_call 17;with_reducible refine jn (MY.out _ (by exact rc_ HV.out) (by exact rc_ HE.out)) fun X_=>?_)
  |(go_at_call 13;with_reducible refine jn (RI.out _) fun X_=>?_)
  |(go_at_call 38;with_reducible refine jn (RR.out _) fun X_=>?_)
  |(go_at_call 23;with_reducible refine jn (CU.out _ (by exact rc_ HV.out)) fun X_=>?_))
 go_ret;obtain ⟨X0,hX0⟩:=HX.out;subst hX0;exact ⟨_,rfl,bJ _,jz (by exact br_)⟩
theorem pQ (v ev:Value) (L:List WinP) (B:List Bool) (k:LookP) (x0 y0 x1 y1:Int) (w:World) (hv:Recs wnK w v L) (he:Recs boK w ev B) (h:kG L B k x0 y0 x1 y1) (hm:iW L k=0) (hL:L.length<=4096) (har:cJ x0 y0 x1 y1<=1048576):Calls prog 16 #[v,ev,k.v,R4 x0 y0 x1 y1] w (cS frK w (nP L k x0 y0 x1 y1)):=by
 have hk:=h.2.1;have HF:=jj (dG h.1);have HO:=jj (fun a b c=>aFl hk a b c);unfold LookP.ok aI at hk;obtain ⟨-,-,-,-,-,-,⟨k0,k1⟩,⟨k2,k3⟩,-⟩:=hk;have OF:=jj (fun a b c (ha:a.fits) (hb:b.fits) (hc:c.fits) w=>tJ a b c k.factor k.units ha hb hc k0 k1 k2 k3 w);have FLL:=jj (fun a b c o (ha:a.fits) (hb:b.fits) (hc:c.fits) (o0:-33554432<=o) (o1:o<=33554432) w=>aEm a b c o x0 y0 x1 y1 ha hb hc o0 o1 har w);have LEN:=jj (fun j=>mL L k x0 y0 x1 y1 har j);have LEN1:=jj (fun a b c o=>qO a b c o x0 y0 x1 y1 har);obtain ⟨T,hT⟩:∃ T,T=kI L k x0 y0 x1 y1:=⟨_,rfl⟩;have HN:=jj (fun j=>show kI L k x0 y0 x1 y1 (j+1)=kI L k x0 y0 x1 y1 j++eW (wAt L 0) (wAt L (j+1)) (wAt L (j+2)) (wT k (wAt L 0) (wAt L (j+1)) (wAt L (j+2))) x0 y0 x1 y1 from rfl);have H0:=jj (show kI L k x0 y0 x1 y1 0=[] from rfl);unfold nP;rw[<-hT] at HN H0 LEN ⊢;clear hT k0 k1 k2 k3;obtain ⟨h1,h2,h3,h4⟩:=h;have MY:=jj (fun w1 h g=>decide_eq_true h1▸pP v ev L B w1 h g);have RI:=jj (fun w=>decide_eq_true h2▸kT k w);have RR:=jj (fun w=>decide_eq_true h3▸bQ x0 y0 x1 y1 w);have CU0:=fun w1 h=>jB v L k w1 h (dG h1) hL (nH h2)
 have FT0:=fun w1 h=>kU v L k.ccw w1 h (dG h1) hL
 unfold iS at h4;simp only[h4] at CU0;have CU:=jj CU0;unfold iW iS at hm;obtain ⟨bf,hbf⟩:∃ b,g9 (sgn (iO L)) k.ccw=b:=⟨_,rfl⟩;rw[hbf] at FT0 hm;have FT:=jj FT0;have HM:=jj hm;clear CU0 FT0 h1 h2 h3 h4 hbf hm har;have HV:=jj hv;have HE:=jj he;obtain ⟨hl,av,cap,rfl,hcap,-⟩:=hv;obtain ⟨hl2,ev,ecap,rfl,-,-⟩:=he
 go_enter func16,ntmps16
 go_upto_region 1 with fail
 refine aE (F:=fun w1=>Row w1 w.heap.size #[k.width,.bool k.soft,.bool k.dashed,k.p,k.r,k.c,k.size,k.kind,k.front,k.back,.bool k.ccw,k.cull,.bool k.off,k.factor,k.units] 27/\Row w1 (w.heap.size+1) #[x0,y0,x1,y1] 29/\Recs wnK w1 (.slice av L.length cap) L/\Recs boK w1 (.slice ev B.length ecap) B/\∃ X,w1=w.ext X) ⟨by exact rx_,by exact rx_,(by exact rc_ HV.out),(by exact rc_ HE.out),jz (by exact bl_)⟩ ?_;clear HV HE;rintro w1 ⟨Rk,Rr,hv,he,hX⟩;have HX:=jj hX;have HV:=jj hv;have HE:=jj he;have HRk:=jj Rk;have HRr:=jj Rr;have ck:=Rk.cell;have fk:=Rk.frozen;have lk:=Rk.lt;have cr:=Rr.cell;have fr:=Rr.frozen;have lr:=Rr.lt;have dk:=World.rowD_of Rk;clear Rk Rr hv he hX;go_upto_region 3 with (first
  |(go_at_call 17;with_reducible refine jn (MY.out _ (by exact rc_ HV.out) (by exact rc_ HE.out)) fun X_=>?_)
  |(go_at_call 13;with_reducible refine jn (RI.out _) fun X_=>?_)
  |(go_at_call 38;with_reducible refine jn (RR.out _) fun X_=>?_)
  |(go_at_call 23;with_reducible refine jn (CU.out _ (by exact rc_ HV.out)) fun X_=>?_))
 refine aE (F:=fun w1b=>Row w1b w.heap.size #[k.width,.bool k.soft,.bool k.dashed,k.p,k.r,k.c,k.size,k.kind,k.front,k.back,.bool k.ccw,k.cull,.bool k.off,k.factor,k.units] 27/\Row w1b (w.heap.size+1) #[x0,y0,x1,y1] 29/\Recs wnK w1b (.slice av L.length cap) L/\Recs boK w1b (.slice ev B.length ecap) B/\∃ X,w1b=w.ext X) ⟨by exact rq_ HRk.out,by exact rq_ HRr.out,(by exact rc_ HV.out),(by exact rc_ HE.out),by obtain ⟨X0,hX0⟩:=HX.out;subst hX0;exact jz (by exact br_)⟩ ?_;clear ck fk lk cr fr lr dk HRk HRr HV HE HX;rintro w1 ⟨Rk,Rr,hv,he,hX⟩;have HX:=jj hX;have HV:=jj hv;have HE:=jj he;have HRk:=jj Rk;have HRr:=jj Rr;have ck:=Rk.cell;have fk:=Rk.frozen;have lk:=Rk.lt;have cr:=Rr.cell;have fr:=Rr.frozen;have lr:=Rr.lt;have dk:=World.rowD_of Rk;clear Rk Rr hv he hX
 go_upto_if 41 with (first|(go_at_call 21;with_reducible refine jn (FT.out _ (by exact rc_ HV.out)) fun X_=>?_))
 go_cut [9] from 36 to 43 (fun t wx=>t=.int .i64 0/\∃ X,wx=w1.ext X)
 case first =>
  cases bf
  all_goals
   go_wp2;go_meet;have hm:=HM.out;simp only[if_true,if_false,Bool.false_eq_true] at hm;exact ⟨by rw[hm],_,(aN _).symm⟩
 case rest =>
 obtain ⟨rfl,X1,rfl⟩:=hcut;obtain ⟨i0,hii,hz0,hz1,hz2⟩:=info_parts jI;have H1:=jj (Hold.start (K:=frK) (w:=w1) (wr:=w1.ext X1) (E:=73) (R:=[(w.heap.size,#[.int .i64 k.width,.bool k.soft,.bool k.dashed,.int .i64 k.p,.int .i64 k.r,.int .i64 k.c,.int .i64 k.size,.int .i64 k.kind,.int .i64 k.front,.int .i64 k.back,.bool k.ccw,.int .i64 k.cull,.bool k.off,.int .i64 k.factor,.int .i64 k.units],27),(w.heap.size+1,#[.int .i64 x0,.int .i64 y0,.int .i64 x1,.int .i64 y1],29)]) (List.forall_mem_cons.2 ⟨HRk.out.ext X1,List.forall_mem_cons.2 ⟨HRr.out.ext X1,by simp⟩⟩) (by simp) ⟨X1,rfl⟩);clear ck fk lk cr fr lr dk HRk HRr;go_wp2;go_loopw [10,11] (fun o i wr=>∃ (j:Nat) (vo:Value) (M:List FrP),Hid (j=0\/j+2<=L.length)/\i=.int .i64 ((j:Int)+1)/\o=vo/\Hid (M=T j)/\Hid (Hold frK w1 wr 73 [(w.heap.size,#[.int .i64 k.width,.bool k.soft,.bool k.dashed,.int .i64 k.p,.int .i64 k.r,.int .i64 k.c,.int .i64 k.size,.int .i64 k.kind,.int .i64 k.front,.int .i64 k.back,.bool k.ccw,.int .i64 k.cull,.bool k.off,.int .i64 k.factor,.int .i64 k.units],27),(w.heap.size+1,#[.int .i64 x0,.int .i64 y0,.int .i64 x1,.int .i64 y1],29)] vo M))
  (fun _ i _=>L.length+1-(intOf i).toNat)
 case atStart=>exact ⟨0,_,[],jj (.inl rfl),rfl,rfl,jj H0.out.symm,H1⟩
 case round =>
  clear H1;obtain ⟨j,vo,M,hj',rfl,hv,hM,hR⟩:=hrel;have hj:=hj'.out;clear hj';have hv:=hv.symm;subst hv;have c0:=hR.out.rows _ jq;simp only at c0;have c1:=c0.cell;have c2:=c0.frozen;have c3:=c0.lt;clear c0;have d0:=hR.out.rows _ (jk jq);simp only at d0;have d1:=d0.cell;have d2:=d0.frozen;have d3:=d0.lt;clear d0
  by_cases hlt:j+2<L.length
  ·have hki:(j:Int)+2<L.length:=by omega
   have h0:0<L.length:=by omega
   have h1:j+1<L.length:=by omega
   have hi0:(0:Int)<L.length:=by omega
   have hi1:(j:Int)+1<L.length:=by omega
   obtain ⟨X0,hX0⟩:=hR.out.ext;obtain ⟨-,av',cap',hq,-,hcl⟩:=(by rw[hX0];exact HV.out.ext X0:Recs wnK wr (.slice av L.length cap) L);obtain ⟨rfl,rfl⟩:av=av'/\cap=cap':=by simpa using hq
   clear hq hX0;rcases hcl with e|⟨lb,lo,rfl,hlb,hcl⟩
   ·rw[e] at h0;simp at h0
   obtain ⟨a,ha⟩:∃ f,L[0]?=some f:=⟨_,List.getElem?_eq_getElem h0⟩;obtain ⟨b,hb⟩:∃ f,L[j+1]?=some f:=⟨_,List.getElem?_eq_getElem h1⟩;obtain ⟨c,hc⟩:∃ f,L[j+2]?=some f:=⟨_,List.getElem?_eq_getElem hlt⟩;have pa0:wr.cell? ⟨lb,lo,none⟩=some (.int .i64 a.x):=by simpa using hcl 0 _ ha 0 _ rfl
   have pa1:wr.cell? ⟨lb,lo+1,none⟩=some (.int .i64 a.y):=by simpa using hcl 0 _ ha 1 _ rfl
   have pa2:wr.cell? ⟨lb,lo+2,none⟩=some (.int .i64 a.z):=by simpa using hcl 0 _ ha 2 _ rfl
   have pa3:wr.cell? ⟨lb,lo+3,none⟩=some (.int .i64 a.c0):=by simpa using hcl 0 _ ha 3 _ rfl
   have pa4:wr.cell? ⟨lb,lo+4,none⟩=some (.int .i64 a.c1):=by simpa using hcl 0 _ ha 4 _ rfl
   have pa5:wr.cell? ⟨lb,lo+5,none⟩=some (.int .i64 a.c2):=by simpa using hcl 0 _ ha 5 _ rfl
   have pa6:wr.cell? ⟨lb,lo+6,none⟩=some (.int .i64 a.c3):=by simpa using hcl 0 _ ha 6 _ rfl
   have pb0:wr.cell? ⟨lb,lo+(j+1)*7,none⟩=some (.int .i64 b.x):=hcl (j+1) _ hb 0 _ rfl;have pb1:wr.cell? ⟨lb,lo+(j+1)*7+1,none⟩=some (.int .i64 b.y):=hcl (j+1) _ hb 1 _ rfl;have pb2:wr.cell? ⟨lb,lo+(j+1)*7+2,none⟩=some (.int .i64 b.z):=hcl (j+1) _ hb 2 _ rfl;have pb3:wr.cell? ⟨lb,lo+(j+1)*7+3,none⟩=some (.int .i64 b.c0):=hcl (j+1) _ hb 3 _ rfl;have pb4:wr.cell? ⟨lb,lo+(j+1)*7+4,none⟩=some (.int .i64 b.c1):=hcl (j+1) _ hb 4 _ rfl;have pb5:wr.cell? ⟨lb,lo+(j+1)*7+5,none⟩=some (.int .i64 b.c2):=hcl (j+1) _ hb 5 _ rfl;have pb6:wr.cell? ⟨lb,lo+(j+1)*7+6,none⟩=some (.int .i64 b.c3):=hcl (j+1) _ hb 6 _ rfl;have pc0:wr.cell? ⟨lb,lo+(j+2)*7,none⟩=some (.int .i64 c.x):=hcl (j+2) _ hc 0 _ rfl;have pc1:wr.cell? ⟨lb,lo+(j+2)*7+1,none⟩=some (.int .i64 c.y):=hcl (j+2) _ hc 1 _ rfl;have pc2:wr.cell? ⟨lb,lo+(j+2)*7+2,none⟩=some (.int .i64 c.z):=hcl (j+2) _ hc 2 _ rfl;have pc3:wr.cell? ⟨lb,lo+(j+2)*7+3,none⟩=some (.int .i64 c.c0):=hcl (j+2) _ hc 3 _ rfl;have pc4:wr.cell? ⟨lb,lo+(j+2)*7+4,none⟩=some (.int .i64 c.c1):=hcl (j+2) _ hc 4 _ rfl;have pc5:wr.cell? ⟨lb,lo+(j+2)*7+5,none⟩=some (.int .i64 c.c2):=hcl (j+2) _ hc 5 _ rfl;have pc6:wr.cell? ⟨lb,lo+(j+2)*7+6,none⟩=some (.int .i64 c.c3):=hcl (j+2) _ hc 6 _ rfl;have na:=dZ ha;have nb:=dZ hb;have nc:=dZ hc;have fa:=HF.out a (List.mem_of_getElem? ha);have fb:=HF.out b (List.mem_of_getElem? hb);have fc:=HF.out c (List.mem_of_getElem? hc);have O:=jj (fun w=>OF.out a b c fa fb fc w);obtain ⟨o0,o1⟩:=HO.out a b c;have G:=jj (fun w=>FLL.out a b c (wT k a b c) fa fb fc o0 o1 w);have e1:=HN.out j;rw[na,nb,nc] at e1;have b1:=LEN.out j;have b2:=LEN1.out a b c (wT k a b c);have hoff:=jj (show wT k a b c=if k.off then aIl a b c k.factor k.units else 0 from rfl);obtain ⟨oo,hoo⟩:∃ o,wT k a b c=o:=⟨_,rfl⟩;obtain ⟨ov,hov⟩:∃ o,aIl a b c k.factor k.units=o:=⟨_,rfl⟩;rw[hoo] at o0 o1 G e1 b2 hoff;rw[hov] at O hoff;obtain ⟨S,hS⟩:∃ S,eW a b c oo x0 y0 x1 y1=S:=⟨_,rfl⟩;rw[hS] at e1 b2 G;have e2:=hM.out;have E1:=jj (show T (j+1)=M++S by rw[e1,e2]);have hlb2:M.length<=4294967296:=by rw[e2];omega
   have LB1:=jj (show M.length+S.length<=maxLen by unfold maxLen;omega);have LB2:=jj (show (M.length+S.length)*64<=140737488355328 by omega);clear hcl ha hb hc na nb nc fa fb fc e1 e2 b1 b2 hS hoo hov hlb2 hj
   by_cases hb:k.off=true
   ·have ho:=hoff.out;simp only[hb,if_true] at ho;subst ho;clear hoff;go_upto_region 13 with fail
    clear hb;refine jy ?_
    repeat (go_big_quiet_step ((first|(go_at_call 50;with_reducible exact Calls.quiet_ret (O.out _)))))
    refine jv fun X4=>?_
    have hR4:=jj (hR.out.grow X4);clear O;go_upto_region 14 with fail
    rw[show decide ((j:Int)+1+1<(L.length:Int))=true from decide_eq_true (by omega)];refine aJ 16 [none,none,none,none,none,none,none,none,none,none,none,none,none,none,none,some ([],srR frK S)] (by kernel_rfl) (by kernel_rfl) ?_;simp only[jx]
    (repeat (first|(refine aA ?_;intro K_ hK_;go_big_quiet_op;go_big_quiet_on)|simp only[jw]))
    refine aF rfl (fun w_ hw_ hk_ K_ hK_=>?_) (fun v15 f15=>?_)
    ·obtain ⟨X_,rfl⟩:=hw_;go_simp
     go_at_call 51
     with_reducible refine (G.out _).mono ?_
     rintro _ _ ⟨v,rfl,h1,h2⟩;exact hK_ _ _ h1 h2
    obtain ⟨fa,fc,rfl⟩:=f15
    (repeat (first|(refine aA ?_;intro K_ hK_;go_big_quiet_op;go_big_quiet_on)|simp only[jw]))
    refine aT ?_;intro w_ hw_ kk;obtain ⟨X5,rfl⟩:=hw_;have hq:Recs frK _ (.slice fa S.length fc) S:=(kk (15,_) (by repeat (first|exact List.mem_cons_self|refine jk ?_)));have HQ:=jj hq;have hR5:=jj (hR4.out.grow X5);have hsz:=hR5.out.size;clear hq kk
    go_wp2_with (first
     |(at_builtin;refine aS (K:=frK) rfl _ _ 36 rfl w1.heap.size 73 i0 (.agg #[.int .i64 0,.int .i64 0,.int .i64 0,.int .i64 0,.int .i64 0,.int .i64 0,.int .i64 0,.int .i64 0]) 64 Tryz.underlying36 hii hz0 hz1 hz2 rfl vo M rfl hR5.out.own (.slice fa S.length fc) S rfl HQ.out LB1.out LB2.out (by omega) ?_;intro v' w5 hown hgrow;have h5:=jj (hR5.out.more hown hgrow);clear hown hgrow))
    go_roundw
    case rel=>exact ⟨j+1,_,M++S,jj (.inr (by omega)),by go_num,rfl,jj E1.out.symm,h5⟩
    case measure=>simp[intOf];omega
   ·have hb2:k.off=false:=by simpa using hb
    have ho:=hoff.out;simp only[hb2,if_false,Bool.false_eq_true] at ho;subst ho;have hR4:=hR;clear hb O hoff;go_upto_region 14 with fail
    clear hb2;rw[show decide ((j:Int)+1+1<(L.length:Int))=true from decide_eq_true (by omega)];refine aJ 16 [none,none,none,none,none,none,none,none,none,none,none,none,none,none,none,some ([],srR frK S)] (by kernel_rfl) (by kernel_rfl) ?_;simp only[jx]
    (repeat (first|(refine aA ?_;intro K_ hK_;go_big_quiet_op;go_big_quiet_on)|simp only[jw]))
    refine aF rfl (fun w_ hw_ hk_ K_ hK_=>?_) (fun v15 f15=>?_)
    ·obtain ⟨X_,rfl⟩:=hw_;go_simp
     go_at_call 51
     with_reducible refine (G.out _).mono ?_
     rintro _ _ ⟨v,rfl,h1,h2⟩;exact hK_ _ _ h1 h2
    obtain ⟨fa,fc,rfl⟩:=f15
    (repeat (first|(refine aA ?_;intro K_ hK_;go_big_quiet_op;go_big_quiet_on)|simp only[jw]))
    refine aT ?_;intro w_ hw_ kk;obtain ⟨X5,rfl⟩:=hw_;have hq:Recs frK _ (.slice fa S.length fc) S:=(kk (15,_) (by repeat (first|exact List.mem_cons_self|refine jk ?_)));have HQ:=jj hq;have hR5:=jj (hR4.out.grow X5);have hsz:=hR5.out.size;clear hq kk
    go_wp2_with (first
     |(at_builtin;refine aS (K:=frK) rfl _ _ 36 rfl w1.heap.size 73 i0 (.agg #[.int .i64 0,.int .i64 0,.int .i64 0,.int .i64 0,.int .i64 0,.int .i64 0,.int .i64 0,.int .i64 0]) 64 Tryz.underlying36 hii hz0 hz1 hz2 rfl vo M rfl hR5.out.own (.slice fa S.length fc) S rfl HQ.out LB1.out LB2.out (by omega) ?_;intro v' w5 hown hgrow;have h5:=jj (hR5.out.more hown hgrow);clear hown hgrow))
    go_roundw
    case rel=>exact ⟨j+1,_,M++S,jj (.inr (by omega)),by go_num,rfl,jj E1.out.symm,h5⟩
    case measure=>simp[intOf];omega
  ·have hkk:L.length-2=j:=by omega
   have HK:=jj hkk;have b1:=LEN.out j;have hge:¬((j:Int)+2<L.length):=by omega
   have e2:=hM.out;have hlb:M.length<=1099511627776:=by rw[e2];omega
   clear hkk b1 e2;go_wp2;go_ret;refine ⟨_,rfl,?_,?_⟩
   ·rw[HK.out,<-hM.out];exact cM hR.out.own hlb
   ·obtain ⟨X1,hX1⟩:=hR.out.ext;obtain ⟨X0,hX0⟩:=HX.out;subst hX0;subst hX1;exact jz (by exact br_)
theorem oH (v ev:Value) (L:List WinP) (B:List Bool) (k:LookP) (x0 y0 x1 y1:Int) (w:World) (hv:Recs wnK w v L) (he:Recs boK w ev B) (h:kG L B k x0 y0 x1 y1) (hm:iW L k=1) (hL:L.length<=4096) (har:cJ x0 y0 x1 y1<=1048576) (hln:aIh k x0 y0 x1 y1):Calls prog 16 #[v,ev,k.v,R4 x0 y0 x1 y1] w (cS frK w (zK L B k x0 y0 x1 y1)):=by
 have FLN:=jj hln;have HF:=jj h.1.2.2;have hd:bW k.p k.r k.c:=h.2.1.2.2.2.2.2.2.2.2;have hB:B.length=L.length:=h.1.2.1;have hB2:B.length<=4096:=by omega
 have BD:=jj (fun j=>oV L B k x0 y0 x1 y1 har hd j);have LEN1:=jj (fun a b c=>yH a b k c x0 y0 x1 y1 har);have HN:=jj (fun j=>show dU L B k x0 y0 x1 y1 (j+1)=if B.getD j false then ((dU L B k x0 y0 x1 y1 j).1++lnL (wAt L j) (wAt L ((j+1)%L.length)) k (dU L B k x0 y0 x1 y1 j).2 x0 y0 x1 y1,lnC (wAt L j) (wAt L ((j+1)%L.length)) k (dU L B k x0 y0 x1 y1 j).2) else dU L B k x0 y0 x1 y1 j from rfl);have H0:=jj (show dU L B k x0 y0 x1 y1 0=([],k.c) from rfl);have HB:=jj hB;unfold zK;obtain ⟨T,hT⟩:∃ T,T=dU L B k x0 y0 x1 y1:=⟨_,rfl⟩;rw[<-hT] at HN H0 BD ⊢;clear hT hln hB hd;obtain ⟨h1,h2,h3,h4⟩:=h;have MY:=jj (fun w1 h g=>decide_eq_true h1▸pP v ev L B w1 h g);have RI:=jj (fun w=>decide_eq_true h2▸kT k w);have RR:=jj (fun w=>decide_eq_true h3▸bQ x0 y0 x1 y1 w);have CU0:=fun w1 h=>jB v L k w1 h (dG h1) hL (nH h2)
 have FT0:=fun w1 h=>kU v L k.ccw w1 h (dG h1) hL
 unfold iS at h4;simp only[h4] at CU0;have CU:=jj CU0;unfold iW iS at hm;obtain ⟨bf,hbf⟩:∃ b,g9 (sgn (iO L)) k.ccw=b:=⟨_,rfl⟩;rw[hbf] at FT0 hm;have FT:=jj FT0;have HM:=jj hm;clear CU0 FT0 h1 h2 h3 h4 hbf hm har;have HV:=jj hv;have HE:=jj he;obtain ⟨hl,av,cap,rfl,hcap,-⟩:=hv;obtain ⟨hl2,ev,ecap,rfl,-,-⟩:=he
 go_enter func16,ntmps16
 go_upto_region 1 with fail
 refine aE (F:=fun w1=>Row w1 w.heap.size #[k.width,.bool k.soft,.bool k.dashed,k.p,k.r,k.c,k.size,k.kind,k.front,k.back,.bool k.ccw,k.cull,.bool k.off,k.factor,k.units] 27/\Row w1 (w.heap.size+1) #[x0,y0,x1,y1] 29/\Recs wnK w1 (.slice av L.length cap) L/\Recs boK w1 (.slice ev B.length ecap) B/\∃ X,w1=w.ext X) ⟨by exact rx_,by exact rx_,(by exact rc_ HV.out),(by exact rc_ HE.out),jz (by exact bl_)⟩ ?_;clear HV HE;rintro w1 ⟨Rk,Rr,hv,he,hX⟩;have HX:=jj hX;have HV:=jj hv;have HE:=jj he;have HRk:=jj Rk;have HRr:=jj Rr;have ck:=Rk.cell;have fk:=Rk.frozen;have lk:=Rk.lt;have cr:=Rr.cell;have fr:=Rr.frozen;have lr:=Rr.lt;have dk:=World.rowD_of Rk;clear Rk Rr hv he hX;go_upto_region 3 with (first
  |(go_at_call 17;with_reducible refine jn (MY.out _ (by exact rc_ HV.out) (by exact rc_ HE.out)) fun X_=>?_)
  |(go_at_call 13;with_reducible refine jn (RI.out _) fun X_=>?_)
  |(go_at_call 38;with_reducible refine jn (RR.out _) fun X_=>?_)
  |(go_at_call 23;with_reducible refine jn (CU.out _ (by exact rc_ HV.out)) fun X_=>?_))
 refine aE (F:=fun w1b=>Row w1b w.heap.size #[k.width,.bool k.soft,.bool k.dashed,k.p,k.r,k.c,k.size,k.kind,k.front,k.back,.bool k.ccw,k.cull,.bool k.off,k.factor,k.units] 27/\Row w1b (w.heap.size+1) #[x0,y0,x1,y1] 29/\Recs wnK w1b (.slice av L.length cap) L/\Recs boK w1b (.slice ev B.length ecap) B/\∃ X,w1b=w.ext X) ⟨by exact rq_ HRk.out,by exact rq_ HRr.out,(by exact rc_ HV.out),(by exact rc_ HE.out),by obtain ⟨X0,hX0⟩:=HX.out;subst hX0;exact jz (by exact br_)⟩ ?_;clear ck fk lk cr fr lr dk HRk HRr HV HE HX;rintro w1 ⟨Rk,Rr,hv,he,hX⟩;have HX:=jj hX;have HV:=jj hv;have HE:=jj he;have HRk:=jj Rk;have HRr:=jj Rr;have ck:=Rk.cell;have fk:=Rk.frozen;have lk:=Rk.lt;have cr:=Rr.cell;have fr:=Rr.frozen;have lr:=Rr.lt;have dk:=World.rowD_of Rk;clear Rk Rr hv he hX
 go_upto_if 41 with (first|(go_at_call 21;with_reducible refine jn (FT.out _ (by exact rc_ HV.out)) fun X_=>?_))
 go_cut [9] from 36 to 43 (fun t wx=>t=.int .i64 1/\∃ X,wx=w1.ext X)
 case first =>
  cases bf
  all_goals
   go_wp2;go_meet;have hm:=HM.out;simp only[if_true,if_false,Bool.false_eq_true] at hm;exact ⟨by rw[hm],_,(aN _).symm⟩
 case rest =>
 obtain ⟨rfl,X1,rfl⟩:=hcut;obtain ⟨i0,hii,hz0,hz1,hz2⟩:=info_parts jI;go_upto_region 17 with fail
 obtain ⟨b13,hb13⟩:∃ b,w1.heap.size+X1.sz=b:=⟨_,rfl⟩;refine aE (F:=fun wr=>Hid (Hold frK w1 wr 73 [(w.heap.size,#[.int .i64 k.width,.bool k.soft,.bool k.dashed,.int .i64 k.p,.int .i64 k.r,.int .i64 k.c,.int .i64 k.size,.int .i64 k.kind,.int .i64 k.front,.int .i64 k.back,.bool k.ccw,.int .i64 k.cull,.bool k.off,.int .i64 k.factor,.int .i64 k.units],27),(w.heap.size+1,#[.int .i64 x0,.int .i64 y0,.int .i64 x1,.int .i64 y1],29),(b13,#[.int .i64 k.p,.int .i64 k.r,.int .i64 k.c],25)] (.slice none 0 0) [])) (jj (Hold.start (List.forall_mem_cons.2 ⟨by exact rq_ HRk.out,List.forall_mem_cons.2 ⟨by exact rq_ HRr.out,List.forall_mem_cons.2 ⟨by rw[<-hb13];exact rx_,by simp⟩⟩⟩) (by simp) (jz (by exact br_)))) ?_;have HB13:=jj (show w.heap.size+1<b13/\w1.heap.size<=b13 by omega);rw[hb13];clear hb13 ck fk lk cr fr lr dk HRk HRr;intro w2 H1;go_wp2;go_loopw [10,14] (fun o i wr=>∃ (j:Nat) (vo:Value) (M:List FrP) (cj:Int),j<=B.length/\i=.int .i64 j/\o=vo/\Hid (T j=(M,cj))/\Hid (Hold frK w1 wr 73 [(w.heap.size,#[.int .i64 k.width,.bool k.soft,.bool k.dashed,.int .i64 k.p,.int .i64 k.r,.int .i64 k.c,.int .i64 k.size,.int .i64 k.kind,.int .i64 k.front,.int .i64 k.back,.bool k.ccw,.int .i64 k.cull,.bool k.off,.int .i64 k.factor,.int .i64 k.units],27),(w.heap.size+1,#[.int .i64 x0,.int .i64 y0,.int .i64 x1,.int .i64 y1],29),(b13,#[.int .i64 k.p,.int .i64 k.r,.int .i64 cj],25)] vo M))
  (fun _ i _=>B.length-(intOf i).toNat)
 case atStart=>exact ⟨0,_,[],k.c,by omega,rfl,rfl,H0,H1⟩
 case round =>
  clear H1;obtain ⟨j,vo,M,cj,hj,rfl,hv,hM,hR⟩:=hrel;have hv:=hv.symm;subst hv;have c0:=hR.out.rows _ jq;simp only at c0;have c1:=c0.cell;have c2:=c0.frozen;have c3:=c0.lt;clear c0;have d0:=hR.out.rows _ (jk jq);simp only at d0;have d1:=d0.cell;have d2:=d0.frozen;have d3:=d0.lt;clear d0;have e0:=hR.out.rows _ (jk (jk jq));simp only at e0;have e1:=e0.cell;have e2:=e0.frozen;have e3:=e0.lt;clear e0;have rD:=World.rowD_of (hR.out.rows _ List.mem_cons_self);simp only at rD
  by_cases hlt:j<B.length
  ·have HJ:=jj (show j+1<=B.length from hlt);have hji:(j:Int)<L.length:=by have:=HB.out;omega
   have hli:(j:Int)<B.length:=by omega
   obtain ⟨X0,hX0⟩:=hR.out.ext;obtain ⟨-,ev',ecap',hqe,-,hce⟩:=(by rw[hX0];exact HE.out.ext X0:Recs boK wr (.slice ev B.length ecap) B);obtain ⟨rfl,rfl⟩:ev=ev'/\ecap=ecap':=by simpa using hqe
   rcases hce with e|⟨eb,eo,rfl,heb,hce⟩
   ·rw[e] at hlt;simp at hlt
   obtain ⟨on,hon⟩:∃ f,B[j]?=some f:=⟨_,List.getElem?_eq_getElem hlt⟩;have ge:wr.cell? ⟨eb,eo+j,none⟩=some (.bool on):=by simpa [boK] using hce j _ hon 0 _ rfl
   have hg:B.getD j false=on:=by rw[List.getD_eq_getElem?_getD,hon];rfl
   have hn:=HN.out j;rw[hg,hM.out] at hn;clear hce hqe hon hg;cases on
   ·have E1:=jj (show T (j+1)=(M,cj) by rw[hn];rfl);clear hn hX0 rD;go_wp2;go_roundw
    case rel=>exact ⟨j+1,_,M,cj,HJ.out,by go_num,rfl,E1,hR⟩
    case measure=>have:=HJ.out;simp[intOf];omega
   ·obtain ⟨-,av',cap',hq,-,hcl⟩:=(by rw[hX0];exact HV.out.ext X0:Recs wnK wr (.slice av L.length cap) L);obtain ⟨rfl,rfl⟩:av=av'/\cap=cap':=by simpa using hq
    clear hq hX0;rcases hcl with e|⟨lb,lo,rfl,hlb,hcl⟩
    ·rw[e] at hji;simp at hji;omega
    have hjl:j<L.length:=by omega
    obtain ⟨a,ha⟩:∃ f,L[j]?=some f:=⟨_,List.getElem?_eq_getElem hjl⟩;obtain ⟨m,hm⟩:∃ m,(j+1)%L.length=m:=⟨_,rfl⟩;have hml:m<L.length:=by rw[<-hm];exact Nat.mod_lt _ (by omega)
    have hmi:(m:Int)<L.length:=by omega
    have hrem:((j:Int)+1).tmod (L.length:Int)=m:=by rw[<-hm,Int.tmod_eq_emod_of_nonneg (by omega),Int.natCast_emod];rfl
    have hne1:((L.length:Int)==0)=false:=by simp;intro e;rw[e] at hjl;simp at hjl
    have hne2:(L.length:Int)≠0:=by omega
    obtain ⟨b,hb⟩:∃ f,L[m]?=some f:=⟨_,List.getElem?_eq_getElem hml⟩;have pa0:wr.cell? ⟨lb,lo+j*7,none⟩=some (.int .i64 a.x):=hcl j _ ha 0 _ rfl;have pa1:wr.cell? ⟨lb,lo+j*7+1,none⟩=some (.int .i64 a.y):=hcl j _ ha 1 _ rfl;have pa2:wr.cell? ⟨lb,lo+j*7+2,none⟩=some (.int .i64 a.z):=hcl j _ ha 2 _ rfl;have pa3:wr.cell? ⟨lb,lo+j*7+3,none⟩=some (.int .i64 a.c0):=hcl j _ ha 3 _ rfl;have pa4:wr.cell? ⟨lb,lo+j*7+4,none⟩=some (.int .i64 a.c1):=hcl j _ ha 4 _ rfl;have pa5:wr.cell? ⟨lb,lo+j*7+5,none⟩=some (.int .i64 a.c2):=hcl j _ ha 5 _ rfl;have pa6:wr.cell? ⟨lb,lo+j*7+6,none⟩=some (.int .i64 a.c3):=hcl j _ ha 6 _ rfl;have pb0:wr.cell? ⟨lb,lo+m*7,none⟩=some (.int .i64 b.x):=hcl m _ hb 0 _ rfl;have pb1:wr.cell? ⟨lb,lo+m*7+1,none⟩=some (.int .i64 b.y):=hcl m _ hb 1 _ rfl;have pb2:wr.cell? ⟨lb,lo+m*7+2,none⟩=some (.int .i64 b.z):=hcl m _ hb 2 _ rfl;have pb3:wr.cell? ⟨lb,lo+m*7+3,none⟩=some (.int .i64 b.c0):=hcl m _ hb 3 _ rfl;have pb4:wr.cell? ⟨lb,lo+m*7+4,none⟩=some (.int .i64 b.c1):=hcl m _ hb 4 _ rfl;have pb5:wr.cell? ⟨lb,lo+m*7+5,none⟩=some (.int .i64 b.c2):=hcl m _ hb 5 _ rfl;have pb6:wr.cell? ⟨lb,lo+m*7+6,none⟩=some (.int .i64 b.c3):=hcl m _ hb 6 _ rfl;have na:=dZ ha;have nb:=dZ hb;rw[hm,na,nb] at hn;have b1:=BD.out j;rw[hM.out] at b1;have G:=jj (fun w=>FLN.out a b cj (HF.out a (List.mem_of_getElem? ha)) (HF.out b (List.mem_of_getElem? hb)) b1.2 w);have b2:=LEN1.out a b cj;obtain ⟨S,hS⟩:∃ S,lnL a b k cj x0 y0 x1 y1=S:=⟨_,rfl⟩;obtain ⟨cn,hcn⟩:∃ S,lnC a b k cj=S:=⟨_,rfl⟩;simp only[hS,hcn] at hn G b2;have E1:=jj (show T (j+1)=(M++S,cn) by rw[hn];rfl);have hlb2:M.length<=549755813888:=by have:=b1.1;simp only at this;omega
    have LB1:=jj (show M.length+S.length<=maxLen by unfold maxLen;omega);have LB2:=jj (show (M.length+S.length)*64<=140737488355328 by omega);clear hcl ha hb na nb hn b1 b2 hS hcn hlb2 hm;go_upto_region 23 with fail
    refine aJ 21 [none,none,none,none,none,none,none,none,some ([],srV (.int .i64 (L.length:Int))),none,none,none,none,none,none,some ([],aS0 S k.p k.r cn),none,none,none,some ([],aS1 wr.heap.size #[.int .i64 0,.int .i64 0,.int .i64 0] 25),none] (by kernel_rfl) (by kernel_rfl) ?_;simp only[jx]
    (repeat (first|(refine aA ?_;intro K_ hK_;go_big_quiet_op;go_big_quiet_on)|simp only[jw]))
    refine aF rfl (fun w_ hw_ hk_ K_ hK_=>?_) (fun e8 f8=>?_)
    ·obtain ⟨X_,rfl⟩:=hw_;go_simp;exact hK_ _ _ rfl ⟨⟨#[],_⟩,(aN _).symm⟩
    obtain rfl:=f8
    (repeat (first|(refine aA ?_;intro K_ hK_;go_big_quiet_op;go_big_quiet_on)|simp only[jw]))
    refine aF rfl (fun w_ hw_ hk_ K_ hK_=>?_) (fun e15 f15=>?_)
    ·obtain ⟨X_,rfl⟩:=hw_;go_simp
     go_at_call 53
     with_reducible refine (G.out _).mono ?_
     rintro _ _ ⟨v,rfl,h1,h2⟩;exact hK_ _ _ ⟨v,rfl,h1⟩ h2
    obtain ⟨fa,fc,rfl⟩:=f15
    (repeat (first|(refine aA ?_;intro K_ hK_;go_big_quiet_op;go_big_quiet_on)|simp only[jw]))
    refine aF rfl (fun w_ hw_ hk_ K_ hK_=>?_) (fun e19 f19=>?_)
    ·obtain ⟨X_,rfl⟩:=hw_;go_simp;exact hK_ _ _ (aTt (by simp) (by simp)) aS9
    obtain ⟨bp,rfl⟩:=f19
    (repeat (first|(refine aA ?_;intro K_ hK_;go_big_quiet_op;go_big_quiet_on)|simp only[jw]))
    refine aT ?_;intro w_ hw_ kk;obtain ⟨X,rfl⟩:=hw_;obtain ⟨vs,hvs,hq⟩:=(kk (15,_) (by repeat (first|exact List.mem_cons_self|refine jk ?_)));obtain ⟨bp',hbp,hbp2,Rp⟩:=(kk (19,_) (by repeat (first|exact List.mem_cons_self|refine jk ?_)));clear kk;obtain ⟨rfl⟩:vs=.slice fa S.length fc:=by simpa using hvs.symm
    obtain rfl:bp=bp':=by simpa using hbp
    have HQ:=jj hq;have HRp:=jj Rp;have lp:=Rp.lt;have hR1:=jj (hR.out.grow X);clear hq hvs hbp Rp;have lb13:=HB13.out;have hszw:=hR.out.size;have hpne:some bp≠vo.ownBlock:=fun e=>by have:=(hR.out.own.lt _ e.symm).2;omega
    have hrne:∀ r∈([(w.heap.size,#[.int .i64 k.width,.bool k.soft,.bool k.dashed,.int .i64 k.p,.int .i64 k.r,.int .i64 k.c,.int .i64 k.size,.int .i64 k.kind,.int .i64 k.front,.int .i64 k.back,.bool k.ccw,.int .i64 k.cull,.bool k.off,.int .i64 k.factor,.int .i64 k.units],27),(w.heap.size+1,#[.int .i64 x0,.int .i64 y0,.int .i64 x1,.int .i64 y1],29),(b13,#[.int .i64 k.p,.int .i64 k.r,.int .i64 cj],25)]:List (Nat×Array Value×TypeId)),r.1≠bp:=List.forall_mem_cons.2 ⟨by show w.heap.size≠bp;omega,List.forall_mem_cons.2 ⟨by show w.heap.size+1≠bp;omega,List.forall_mem_cons.2 ⟨by show b13≠bp;omega,by simp⟩⟩⟩;have nl:=jF HRp.out (by decide) HQ.out;have z1:=HRp.out.cell;have z2:=HRp.out.frozen;go_upto_region 24 with fail
    refine aE (F:=fun wx=>Hid (Hold frK w1 wx 73 [(w.heap.size,#[.int .i64 k.width,.bool k.soft,.bool k.dashed,.int .i64 k.p,.int .i64 k.r,.int .i64 k.c,.int .i64 k.size,.int .i64 k.kind,.int .i64 k.front,.int .i64 k.back,.bool k.ccw,.int .i64 k.cull,.bool k.off,.int .i64 k.factor,.int .i64 k.units],27),(w.heap.size+1,#[.int .i64 x0,.int .i64 y0,.int .i64 x1,.int .i64 y1],29),(b13,#[.int .i64 k.p,.int .i64 k.r,.int .i64 cj],25)] vo M)/\Row wx bp #[k.p,k.r,cn] 25/\Recs frK wx (.slice fa S.length fc) S) ⟨jj (((hR1.out.put1 hpne (by omega) hrne).put1 hpne (by omega) hrne).put1 hpne (by omega) hrne),((HRp.out.set 0 _).set 1 _).set 2 _,((HQ.out.set1 nl).set1 nl).set1 nl⟩ ?_;clear hR hR1 HQ HRp nl c1 c2 c3 d1 d2 d3 e1 e2 e3 rD lp hpne hrne z1 z2;rintro wx ⟨hR,Rp,hq⟩;have HQ:=jj hq;have p1:=Rp.cell;have p2:=Rp.frozen;have p3:=Rp.lt;have e0:=hR.out.rows _ (jk (jk jq));simp only at e0;have e1:=e0.cell;have e2:=e0.frozen;have e3:=e0.lt;clear e0;have hsz:=hR.out.size;have Rk0:=hR.out.rows _ List.mem_cons_self;have Rr0:=hR.out.rows _ (jk List.mem_cons_self);have Rd0:=hR.out.rows _ (jk (jk List.mem_cons_self));have fk0:=hR.out.far _ List.mem_cons_self;have fr0:=hR.out.far _ (jk List.mem_cons_self);have fd0:=hR.out.far _ (jk (jk List.mem_cons_self));simp only at Rk0 Rr0 Rd0 fk0 fr0 fd0;have hne:=fR Rd0 fd0 hR.out.own;have nl:=jF Rd0 (by simp) HQ.out;have w1:=hR.out.put (R':=[]) (b:=b13) (k:=0) (u:=.int .i64 k.p) hne (by omega) (by simp) (by simp);have w2:=w1.put (R':=[]) (b:=b13) (k:=1) (u:=.int .i64 k.r) hne (by omega) (by simp) (by simp);have w3:=w2.put (R':=[(w.heap.size,#[.int .i64 k.width,.bool k.soft,.bool k.dashed,.int .i64 k.p,.int .i64 k.r,.int .i64 k.c,.int .i64 k.size,.int .i64 k.kind,.int .i64 k.front,.int .i64 k.back,.bool k.ccw,.int .i64 k.cull,.bool k.off,.int .i64 k.factor,.int .i64 k.units],27),(w.heap.size+1,#[.int .i64 x0,.int .i64 y0,.int .i64 x1,.int .i64 y1],29),(b13,#[.int .i64 k.p,.int .i64 k.r,.int .i64 cn],25)]) (b:=b13) (k:=2) (u:=.int .i64 cn) hne (by omega) (List.forall_mem_cons.2 ⟨((Rk0.other (by omega) _ _).other (by omega) _ _).other (by omega) _ _,List.forall_mem_cons.2 ⟨((Rr0.other (by omega) _ _).other (by omega) _ _).other (by omega) _ _,List.forall_mem_cons.2 ⟨((Rd0.set 0 _).set 1 _).set 2 _,by simp⟩⟩⟩) (List.forall_mem_cons.2 ⟨fk0,List.forall_mem_cons.2 ⟨fr0,List.forall_mem_cons.2 ⟨fd0,by simp⟩⟩⟩);have HW3:=jj w3;have HP3:=jj (((HQ.out.set1 (i:=0) (u:=.int .i64 k.p) nl).set1 (i:=1) (u:=.int .i64 k.r) nl).set1 (i:=2) (u:=.int .i64 cn) nl);clear hq Rp Rk0 Rr0 Rd0 fk0 fr0 fd0 hne nl w1 w2 w3;go_upto_region 25 with fail
    refine aE (F:=fun wy=>Hid (Hold frK w1 wy 73 [(w.heap.size,#[.int .i64 k.width,.bool k.soft,.bool k.dashed,.int .i64 k.p,.int .i64 k.r,.int .i64 k.c,.int .i64 k.size,.int .i64 k.kind,.int .i64 k.front,.int .i64 k.back,.bool k.ccw,.int .i64 k.cull,.bool k.off,.int .i64 k.factor,.int .i64 k.units],27),(w.heap.size+1,#[.int .i64 x0,.int .i64 y0,.int .i64 x1,.int .i64 y1],29),(b13,#[.int .i64 k.p,.int .i64 k.r,.int .i64 cn],25)] vo M)/\Recs frK wy (.slice fa S.length fc) S) ⟨HW3,HP3.out⟩ ?_;clear hR HQ HW3 HP3 p1 p2 p3 e1 e2 e3 hsz;rintro wy ⟨hR5,hq⟩;have HQ:=jj hq;have hsz:=hR5.out.size;clear hq
    go_wp2_with (first
     |(at_builtin;refine aS (K:=frK) rfl _ _ 36 rfl w1.heap.size 73 i0 (.agg #[.int .i64 0,.int .i64 0,.int .i64 0,.int .i64 0,.int .i64 0,.int .i64 0,.int .i64 0,.int .i64 0]) 64 Tryz.underlying36 hii hz0 hz1 hz2 rfl vo M rfl hR5.out.own (.slice fa S.length fc) S rfl HQ.out LB1.out LB2.out (by omega) ?_;intro v' w5 hown hgrow;have h5:=jj (hR5.out.more hown hgrow);clear hown hgrow))
    go_roundw
    case rel=>exact ⟨j+1,_,M++S,cn,HJ.out,by go_num,rfl,E1,h5⟩
    case measure=>have:=HJ.out;simp[intOf];omega
  ·obtain rfl:j=B.length:=by omega
   have hge:¬((B.length:Int)<L.length):=by have:=HB.out;omega
   have b1:=(BD.out B.length).1;rw[hM.out] at b1;have hlb:M.length<=1099511627776:=by simp only at b1;omega
   clear b1;go_wp2;go_ret;refine ⟨_,rfl,?_,?_⟩
   ·rw[hM.out];exact cM hR.out.own hlb
   ·obtain ⟨X1,hX1⟩:=hR.out.ext;obtain ⟨X0,hX0⟩:=HX.out;subst hX0;subst hX1;exact jz (by exact br_)
theorem xP (v ev:Value) (L:List WinP) (B:List Bool) (k:LookP) (x0 y0 x1 y1:Int) (w:World) (hv:Recs wnK w v L) (he:Recs boK w ev B) (hL:L.length<=4096) (har:cJ x0 y0 x1 y1<=1048576) (hs:k.soft=false) (hm:iW L k=0\/iW L k=1):Calls prog 16 #[v,ev,k.v,R4 x0 y0 x1 y1] w (cS frK w (aC3 L B k x0 y0 x1 y1)):=by
 unfold aC3
 by_cases h:kG L B k x0 y0 x1 y1
 ·rw[if_pos h];rcases hm with hm|hm
  ·rw[if_pos hm];exact pQ v ev L B k x0 y0 x1 y1 w hv he h hm hL har
  ·rw[if_neg (by omega),if_pos hm];exact oH v ev L B k x0 y0 x1 y1 w hv he h hm hL har (aEj hs har)
 ·rw[if_neg h];exact tK v ev L B k x0 y0 x1 y1 w hv he h hL
end Go.Proofs.YthcjfanigfgckaaGreat
