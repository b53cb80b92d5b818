import Derived.Lib.SliceRun
import Derived.Test.YthcjfanigfgckaaGreatSHidb28
import Derived.Test.YthcjfanigfgckaaGreatSHidb29
import Derived.Test.YthcjfanigfgckaaGreatSHidb32
import Derived.Test.YthcjfanigfgckaaGreatSHidb33
import Derived.Test.YthcjfanigfgckaaGreatSHidb39
import Derived.Test.YthcjfanigfgckaaGreatSHidb40
set_option linter.unusedVariables false
set_option linter.unusedSimpArgs false
set_option maxRecDepth 100000
set_option maxHeartbeats 16000000
namespace Go.Proofs.YthcjfanigfgckaaGreat
open Go.RowKit _root_.Go.Proofs.Tryz
instance jh40 : Coe Nat Value := ⟨fun n => .int .i64 n⟩
theorem pG {x0 y0 x1 y1:Int} (hr:aM x0 y0 x1 y1) (har:cJ x0 y0 x1 y1<=1048576):((x1-x0).toNat+(y1-y0).toNat)*64<=134217728:=by
 unfold cJ at har;rw[if_pos hr] at har;unfold aM at hr;have a1:(x1-x0)*1<=(x1-x0)*(y1-y0):=Int.mul_le_mul_of_nonneg_left (by omega) (by omega);have a2:1*(y1-y0)<=(x1-x0)*(y1-y0):=Int.mul_le_mul_of_nonneg_right (by omega) (by omega);omega
theorem aDj (a b:WinP) (n:Int) (dd:Bool) (p r c x0 y0 x1 y1:Int) (ha:a.wide) (hb:b.wide) (hp:w64 p) (hc:w64 c) (har:cJ x0 y0 x1 y1<=1048576) (w:World):Calls prog 127 #[a.v,b.v,n,.bool dd,D3 p r c,R4 x0 y0 x1 y1] w (kJ w (wdL a b n dd p r c x0 y0 x1 y1) p r (wdC a b n dd p r c)):=by
 unfold wdL wdC
 by_cases h:gM a b n p r c
 ·by_cases hr:aM x0 y0 x1 y1
  ·rw[if_pos ⟨h,hr⟩,if_pos h];cases dd
   ·exact aDi a b n p r c x0 y0 x1 y1 ha hb hp hc h hr (pG hr har) w
   ·exact aDh a b n p r c x0 y0 x1 y1 ha hb hp hc h hr (pG hr har) w
  ·rw[if_neg (fun k=>hr k.2),if_pos h];cases dd
   ·exact aBq a b n p r c x0 y0 x1 y1 ha hb hp hc h hr w
   ·exact aBp a b n p r c x0 y0 x1 y1 ha hb hp hc h hr w
 ·rw[if_neg (fun k=>h k.1),if_neg h];exact aIs a b n dd p r c x0 y0 x1 y1 ha hb hp hc h w
theorem aB7 (a b:WinP) (n:Int) (dd:Bool) (p r c x0 y0 x1 y1:Int) (har:cJ x0 y0 x1 y1<=1048576) (w:World):Calls prog 98 #[a.v,b.v,n,.bool dd,D3 p r c,R4 x0 y0 x1 y1] w (kJ w (wdL a b n dd p r c x0 y0 x1 y1) p r (wdC a b n dd p r c)):=by
 unfold wdL wdC
 by_cases h:gM a b n p r c
 ·by_cases hr:aM x0 y0 x1 y1
  ·rw[if_pos ⟨h,hr⟩,if_pos h];cases dd
   ·exact aB6 a b n p r c x0 y0 x1 y1 h hr (pG hr har) w
   ·exact aB5 a b n p r c x0 y0 x1 y1 h hr (pG hr har) w
  ·rw[if_neg (fun k=>hr k.2),if_pos h];cases dd
   ·exact xJ a b n p r c x0 y0 x1 y1 h hr w
   ·exact xI a b n p r c x0 y0 x1 y1 h hr w
 ·rw[if_neg (fun k=>h k.1),if_neg h];exact aEe a b n dd p r c x0 y0 x1 y1 h w
theorem jF {w:World} {b:Nat} {c:Array Value} {T:TypeId} {v:Value} {L:List FrP} (hr:Row w b c T) (hc:c.size<8) (h:Recs frK w v L):∀ b',v.ownBlock=some b'->L≠[]->b'≠b:=by
 intro b' hb' hne e;subst e;obtain ⟨-,a,cap,rfl,-,h3⟩:=h;rcases h3 with h3|⟨b,off,rfl,-,hcl⟩
 ·exact hne h3
 obtain rfl:b=b':=by simpa [Value.ownBlock] using hb'
 obtain ⟨f,L',rfl⟩:=List.exists_cons_of_ne_nil hne;have q:w.cell? ⟨b,off+0*8+7,none⟩=some (.int .i64 f.cov):=hcl 0 f rfl 7 _ rfl;rw[hr.cell,Array.getElem?_eq_none (by omega)] at q;cases q
theorem Recs.set1 {α:Type} {K:RecK α} {w:World} {v:Value} {L:List α} {b i:Nat} {u:Value} (h:Recs K w v L) (hb:∀ b',v.ownBlock=some b'->L≠[]->b'≠b):Recs K (w.setCell ⟨b,i,none⟩ u) v L :=
 h.chg (p:=fun j=>j=b) (Chg.setCell (p:=fun j=>j=b) Chg.refl (fun _=>rfl) _) (fun b' h1 h2 _ h4=>hb b' h1 h2 h4)
theorem aCy (a b:WinP) (k:LookP) (c x0 y0 x1 y1:Int) (hs:k.soft=false) (ha:a.wide) (hb:b.wide) (hp:w64 k.p) (hc:w64 c) (har:cJ x0 y0 x1 y1<=1048576) (w:World):Calls prog 83 #[a.v,b.v,k.v,D3 k.p k.r c,R4 x0 y0 x1 y1] w (kJ w (wdL a b k.width k.dashed k.p k.r c x0 y0 x1 y1) k.p k.r (wdC a b k.width k.dashed k.p k.r c)):=by
 have WI:=jj (fun w=>aDj a b k.width k.dashed k.p k.r c x0 y0 x1 y1 ha hb hp hc har w);generalize wdL a b k.width k.dashed k.p k.r c x0 y0 x1 y1=L at *;generalize wdC a b k.width k.dashed k.p k.r c=cc at *;have HS:=jj hs;clear ha hb hp hc har hs
 go_enter func83,ntmps83
 go_upto_region 1 with fail
 rw[HS.out];refine aE (F:=fun w1=>Row w1 w.heap.size #[a.x,a.y,a.z,a.c0,a.c1,a.c2,a.c3] 45/\Row w1 (w.heap.size+1) #[b.x,b.y,b.z,b.c0,b.c1,b.c2,b.c3] 45/\Row w1 (w.heap.size+1+1) #[k.width,.bool false,.bool k.dashed,k.p,k.r,k.c,k.size,k.kind,k.front,k.back,.bool k.ccw,k.cull,.bool k.off,k.factor,k.units] 27/\Row w1 (w.heap.size+1+1+1) #[k.p,k.r,c] 25/\Row w1 (w.heap.size+1+1+1+1) #[x0,y0,x1,y1] 29/\Row w1 (w.heap.size+1+1+1+1+1) #[.int .i64 0,.int .i64 0,.int .i64 0] 25/\∃ X,w1=w.ext X) ⟨by exact rx_,by exact rx_,by exact rx_,by exact rx_,by exact rx_,by exact rx_,jz (by exact bl_)⟩ ?_;rintro w1 ⟨Ra,Rb,Rk,Rd,Rr,Rz,hX⟩;have HX:=jj hX;have HRz:=jj Rz;have ca:=Ra.cell;have fa:=Ra.frozen;have la:=Ra.lt;have cb:=Rb.cell;have fb:=Rb.frozen;have lb:=Rb.lt;have ck:=Rk.cell;have fk:=Rk.frozen;have lk:=Rk.lt;have cd:=Rd.cell;have fd:=Rd.frozen;have ld:=Rd.lt;have cr:=Rr.cell;have fr:=Rr.frozen;have lr:=Rr.lt;have cz:=Rz.cell;have fz:=Rz.frozen;have lz:=Rz.lt;clear Ra Rb Rk Rd Rr Rz hX
 go_wp2_with (first|(go_at_call 127;(with_reducible refine (WI.out _).mono ?_);rintro _ _ ⟨v1,rfl,hv1,⟨XF,rfl⟩⟩;have HV1:=jj hv1;obtain ⟨-,av,cap,rfl,-,-⟩:=hv1))
 have r3:Row (((w1.setCell ⟨w.heap.size+1+1+1+1+1,0,none⟩ (.int .i64 k.p)).setCell ⟨w.heap.size+1+1+1+1+1,1,none⟩ (.int .i64 k.r)).setCell ⟨w.heap.size+1+1+1+1+1,2,none⟩ (.int .i64 cc)) (w.heap.size+1+1+1+1+1) #[k.p,k.r,cc] 25:=((HRz.out.set 0 _).set 1 _).set 2 _;have cE:=(r3.ext XF).cell;refine bodyPost_ret (v:=.tuple #[.slice av L.length cap,D3 k.p k.r cc]) (by simp[results,results83,go_sem,cE];try rfl) rfl ?_;have nl:=jF (HRz.out.ext XF) (by decide) HV1.out;have P:=((HV1.out.set1 (i:=0) (u:=.int .i64 k.p) nl).set1 (i:=1) (u:=.int .i64 k.r) nl).set1 (i:=2) (u:=.int .i64 cc) nl;rw[World.setCell_ext lz,World.setCell_ext (by simpa [World.setCell] using lz),World.setCell_ext (by simpa [World.setCell] using lz)] at P;refine ⟨_,rfl,P,?_⟩;obtain ⟨X0,hX0⟩:=HX.out;subst hX0;exact jz (by exact br_)
theorem xO (a b:WinP) (k:LookP) (c x0 y0 x1 y1:Int) (hs:k.soft=false) (ha:a.wide) (hb:b.wide) (hp:w64 k.p) (hc:w64 c) (har:cJ x0 y0 x1 y1<=1048576) (w:World):Calls prog 53 #[a.v,b.v,k.v,D3 k.p k.r c,R4 x0 y0 x1 y1] w (kJ w (wdL a b k.width k.dashed k.p k.r c x0 y0 x1 y1) k.p k.r (wdC a b k.width k.dashed k.p k.r c)):=by
 have WI:=jj (fun w=>aB7 a b k.width k.dashed k.p k.r c x0 y0 x1 y1 har w);generalize wdL a b k.width k.dashed k.p k.r c x0 y0 x1 y1=L at *;generalize wdC a b k.width k.dashed k.p k.r c=cc at *;have HS:=jj hs;clear ha hb hp hc har hs
 go_enter func53,ntmps53
 go_upto_region 1 with fail
 rw[HS.out];refine aE (F:=fun w1=>Row w1 w.heap.size #[a.x,a.y,a.z,a.c0,a.c1,a.c2,a.c3] 45/\Row w1 (w.heap.size+1) #[b.x,b.y,b.z,b.c0,b.c1,b.c2,b.c3] 45/\Row w1 (w.heap.size+1+1) #[k.width,.bool false,.bool k.dashed,k.p,k.r,k.c,k.size,k.kind,k.front,k.back,.bool k.ccw,k.cull,.bool k.off,k.factor,k.units] 27/\Row w1 (w.heap.size+1+1+1) #[k.p,k.r,c] 25/\Row w1 (w.heap.size+1+1+1+1) #[x0,y0,x1,y1] 29/\Row w1 (w.heap.size+1+1+1+1+1) #[.int .i64 0,.int .i64 0,.int .i64 0] 25/\∃ X,w1=w.ext X) ⟨by exact rx_,by exact rx_,by exact rx_,by exact rx_,by exact rx_,by exact rx_,jz (by exact bl_)⟩ ?_;rintro w1 ⟨Ra,Rb,Rk,Rd,Rr,Rz,hX⟩;have HX:=jj hX;have HRz:=jj Rz;have ca:=Ra.cell;have fa:=Ra.frozen;have la:=Ra.lt;have cb:=Rb.cell;have fb:=Rb.frozen;have lb:=Rb.lt;have ck:=Rk.cell;have fk:=Rk.frozen;have lk:=Rk.lt;have cd:=Rd.cell;have fd:=Rd.frozen;have ld:=Rd.lt;have cr:=Rr.cell;have fr:=Rr.frozen;have lr:=Rr.lt;have cz:=Rz.cell;have fz:=Rz.frozen;have lz:=Rz.lt;clear Ra Rb Rk Rd Rr Rz hX
 go_wp2_with (first|(go_at_call 98;(with_reducible refine (WI.out _).mono ?_);rintro _ _ ⟨v1,rfl,hv1,⟨XF,rfl⟩⟩;have HV1:=jj hv1;obtain ⟨-,av,cap,rfl,-,-⟩:=hv1))
 have r3:Row (((w1.setCell ⟨w.heap.size+1+1+1+1+1,0,none⟩ (.int .i64 k.p)).setCell ⟨w.heap.size+1+1+1+1+1,1,none⟩ (.int .i64 k.r)).setCell ⟨w.heap.size+1+1+1+1+1,2,none⟩ (.int .i64 cc)) (w.heap.size+1+1+1+1+1) #[k.p,k.r,cc] 25:=((HRz.out.set 0 _).set 1 _).set 2 _;have cE:=(r3.ext XF).cell;refine bodyPost_ret (v:=.tuple #[.slice av L.length cap,D3 k.p k.r cc]) (by simp[results,results53,go_sem,cE];try rfl) rfl ?_;have nl:=jF (HRz.out.ext XF) (by decide) HV1.out;have P:=((HV1.out.set1 (i:=0) (u:=.int .i64 k.p) nl).set1 (i:=1) (u:=.int .i64 k.r) nl).set1 (i:=2) (u:=.int .i64 cc) nl;rw[World.setCell_ext lz,World.setCell_ext (by simpa [World.setCell] using lz),World.setCell_ext (by simpa [World.setCell] using lz)] at P;refine ⟨_,rfl,P,?_⟩;obtain ⟨X0,hX0⟩:=HX.out;subst hX0;exact jz (by exact br_)
theorem Hold.chg {α:Type} {K:RecK α} {w wr w':World} {E:TypeId} {R R':List (Nat×Array Value×TypeId)} {v:Value} {L:List α} {g:Nat} (h:Hold K w wr E R v L) (hc:Chg (fun j=>j=g) wr w') (hg:some g≠v.ownBlock) (hw:w.heap.size<=g)
  (hr:∀ r∈R',Row w' r.1 r.2.1 r.2.2) (hf:∀ r∈R',r.2.2≠E):Hold K w w' E R' v L:=by
 refine ⟨hr,hf,World.ownsRow.kept (row:=some g) h.own ⟨hc.os,hc.tape,hc.output,hc.size,fun j hj hne=>hc.block j hj fun e=>hne (by rw[e])⟩ (.inr hg.symm),?_⟩;exact jz (h.below.trans (hc.below (B:=w.heap.size) (fun k hk e=>by omega) h.size))
def smV (a b:WinP) (x y:Int):Int×Int×Int×Int×Int:=(mid a.z b.z (acN a b x y) (acD a b),mid a.c0 b.c0 (acN a b x y) (acD a b),mid a.c1 b.c1 (acN a b x y) (acD a b),mid a.c2 b.c2 (acN a b x y) (acD a b),mid a.c3 b.c3 (acN a b x y) (acD a b))
def aS2 (a b:WinP) (n x0 y0 x1 y1:Int):List FrP:=if aSb a b n/\aM x0 y0 x1 y1 then aO8 a b n (smV a b) x0 x1 y0 y1 else []
def aTn (F:Int->Int->FrP) (x0 x y:Int):List FrP:=(rng x0 x).flatMap (fun x=>if 0<(F x y).cov then [F x y] else [])
def gTo (F:Int->Int->FrP) (x0 x1 y0 y:Int):List FrP:=(rng y0 y).flatMap (fun y=>aTn F x0 x1 y)
def aTo (u v s p q:Int):Nat:=if (p-u)*(p-u)+(q-v)*(q-v)<s then 1 else 0
def aQe (u v s x Y:Int):Nat:=oG (fun i=>aTo u v s (256*x+32*(i:Int)+16) Y) 8
def aTp (u v s x y:Int):Nat:=oG (fun k=>aQe u v s x (256*y+32*(k:Int)+16)) 8
def aQl (z:Int):Int:=min (max z 0) 255
def aRz (u s:Int):Int:=if s%2=1 then u/256-(s-1)/2 else (u+128)/256-s/2
def aQf (a:WinP) (s:Int):RcP:=⟨aRz a.x s,aRz a.y s,aRz a.x s+s,aRz a.y s+s⟩
def aTr (a:WinP) (s kind x y:Int):FrP :=
 ⟨x,y,a.z,if kind=2 then aQl ((256*x+128-a.x+128*s)/s) else a.c0,if kind=2 then aQl ((256*y+128-a.y+128*s)/s) else a.c1,a.c2,a.c3,
  if kind=1 then (aTp a.x a.y (128*s*(128*s)) x y:Int) else if (aQf a s).has x y then 64 else 0⟩
def aSu (a:WinP) (s kind:Int):Prop:=a.fitsP/\cH s/\0<=kind/\kind<=2
instance (a : WinP) (s kind : Int) : Decidable (aSu a s kind) := by unfold aSu; exact inferInstance
def aTq (a:WinP) (s kind x0 y0 x1 y1:Int):List FrP:=if aSu a s kind/\aM x0 y0 x1 y1 then gTo (aTr a s kind) x0 x1 y0 y1 else []
theorem lR {w:World} {k:Nat} {R:List Value->Prop} {v:Value} {zs:List (List Value)} (h:Sls w k R v zs):∃ a cap,v=.slice a zs.length cap/\zs.length<=maxLen:=by
 obtain ⟨-,h1,a,cap,h2,-⟩:=h;exact ⟨a,cap,h2,h1⟩
def aH4 (r:List Value):Prop:=∃ (b:Bool),r=[.bool b]/\True
theorem aI5 {w:World} {v:Value} {zs:List (List Value)} (h:Sls w 1 aH4 v zs) (hn:zs.length<=1099511627776):∃ B:List Bool,B.length=zs.length/\Recs boK w v B:=by
 obtain ⟨hr,-,a,cap,rfl,hc,-,h3⟩:=h;obtain ⟨L,hL,hrow⟩:=gX zs.length (fun i (b:Bool)=>∃ r,zs[i]?=some r/\r=boK.cells b) (fun i hi=>by
  obtain ⟨-,b,e,-⟩:=hr _ (List.getElem_mem hi);exact ⟨b,_,List.getElem?_eq_getElem hi,e⟩)
 refine ⟨L,hL,⟨by omega,a,cap,by rw[hL],by omega,?_⟩⟩;rcases h3 with h3|⟨b,off,rfl,hb,hcl⟩
 ·exact .inl (List.eq_nil_of_length_eq_zero (by rw[hL,h3];rfl))
 ·refine .inr ⟨b,off,rfl,hb,fun i f hi j u hj=>?_⟩;obtain ⟨r,h4,h5⟩:=hrow i f hi;exact hcl i r h4 j u (by rw[h5];exact hj)
end Go.Proofs.YthcjfanigfgckaaGreat
