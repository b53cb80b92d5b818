import Derived.Test.YthcjfanigfgckaaGreatSHidb34
import Derived.Test.YthcjfanigfgckaaGreatSHidb35
set_option linter.unusedVariables false
set_option linter.unusedSimpArgs false
set_option maxRecDepth 100000
set_option maxHeartbeats 16000000
namespace Go.Proofs.YthcjfanigfgckaaGreat
open Go.RowKit _root_.Go.Proofs.Tryz
instance jh36 : Coe Nat Value := ⟨fun n => .int .i64 n⟩
abbrev WinP.cells (a:WinP):List Value:=[.int .i64 a.x,.int .i64 a.y,.int .i64 a.z,.int .i64 a.c0,.int .i64 a.c1,.int .i64 a.c2,.int .i64 a.c3]
def wnK:RecK WinP:=⟨7,WinP.cells,fun _=>rfl,by decide,fun a u hu=>by simp at hu;rcases hu with rfl|rfl|rfl|rfl|rfl|rfl|rfl<;>rfl⟩
def boK:RecK Bool:=⟨1,fun b=>[.bool b],fun _=>rfl,by decide,fun a u hu=>by simp at hu;subst hu;rfl⟩
def wAt (L:List WinP) (i:Nat):WinP:=L.getD i ⟨0,0,0,0,0,0,0⟩
theorem dZ {L:List WinP} {i:Nat} {a:WinP} (h:L[i]?=some a):wAt L i=a:=by unfold wAt;rw[List.getD_eq_getElem?_getD,h];rfl
def fan (L:List WinP):Nat->Int
 |0=>0
 |k+1=>fan L k+ar (wAt L 0) (wAt L (k+1)) (wAt L (k+2))
def iO (L:List WinP):Int:=fan L (L.length-2)
theorem tB {L:List WinP} (h:∀ a∈L,a.fits) (i:Nat):(wAt L i).fits:=by
 by_cases hi:i<L.length
 ·rw[dZ (List.getElem?_eq_getElem hi)];exact h _ (List.getElem_mem hi)
 ·unfold wAt;rw[List.getD_eq_getElem?_getD,List.getElem?_eq_none (by omega)];exact ⟨by decide,by decide,by decide,by decide,by decide,by decide,⟨by decide,by decide,by decide,by decide,by decide,by decide,by decide,by decide⟩⟩
theorem aL7 {L:List WinP} (h:∀ a∈L,a.fits):∀ k:Nat,-(3602880389091196928*(k:Int))<=fan L k/\fan L k<=3602880389091196928*(k:Int)
 |0=>by simp[fan]
 |k+1=>by
  have h1:=aL7 h k;have h2:=(iV (tB h 0) (tB h (k+1)) (tB h (k+2))).ar;unfold fan;omega
theorem aG8 {L:List WinP} (h:∀ a∈L,a.fits) (k:Nat) (hk:k<=1099511627776):inR (fan L k):=by
 have:=aL7 h k;unfold inR;omega
theorem aLb (a b:Int) (ha:inR a) (hb:inR b) (h:inR (a+b)) (w:World):Calls prog 55 #[I2 a,I2 b] w (Ret (.tuple #[I2 (a+b),.bool true]) w):=by
 have A:=aId a b ha hb w;rw[show I2b (a+b)=.tuple #[I2 (a+b),.bool true] by rw[I2b,iM h];simp[h]] at A;exact A
theorem wA (v:Value) (L:List WinP) (w:World) (hv:Recs wnK w v L) (hf:∀ a∈L,a.fits):Calls prog 18 #[v] w (Ret (.int .i64 (sgn (iO L))) w):=by
 have HV:=jj hv;have HF:=jj hf;obtain ⟨hl,av,cap,rfl,hcap,-⟩:=hv;clear hf
 go_enter func18,ntmps18
 go_wp2;go_loopw [4] (fun i wr=>∃ (k:Nat),(k=0\/k+2<=L.length)/\i=.int .i64 ((k:Int)+2)/\Row wr w.heap.size #[.int .i64 (hiN (fan L k)),.int .u64 (loN (fan L k))] 93/\∃ X,wr=w.ext X)
  (fun i _=>L.length+2-(intOf i).toNat)
 case atStart=>exact ⟨0,.inl rfl,rfl,by rw[show hiN (fan L 0)=0 from rfl,show loN (fan L 0)=0 from rfl];exact rx_,jz (by exact bl_)⟩
 case round =>
  obtain ⟨k,hk,rfl,R,hX⟩:=hrel;have HX:=jj hX;have c0:=R.cell;have f0:=R.frozen;have l0:=R.lt
  by_cases hlt:k+2<L.length
  ·have hki:(k:Int)+2<L.length:=by omega
   have h0:0<L.length:=by omega
   have h1:k+1<L.length:=by omega
   have hi0:(0:Int)<L.length:=by omega
   have hi1:(k:Int)+1<L.length:=by omega
   obtain ⟨X0,hX0⟩:=hX;obtain ⟨-,av',cap',hq,-,hcl⟩:=(by rw[hX0];exact HV.out.ext X0:Recs wnK wr (.slice av L.length cap) L);obtain ⟨rfl,rfl⟩:av=av'/\cap=cap':=by simpa using hq
   clear hq hX0;rcases hcl with e|⟨lb,lo,rfl,hlb,hcl⟩
   ·rw[e] at h0;simp at h0
   obtain ⟨a,ha⟩:∃ f,L[0]?=some f:=⟨_,List.getElem?_eq_getElem h0⟩;obtain ⟨b,hb⟩:∃ f,L[k+1]?=some f:=⟨_,List.getElem?_eq_getElem h1⟩;obtain ⟨c,hc⟩:∃ f,L[k+2]?=some f:=⟨_,List.getElem?_eq_getElem hlt⟩;have pa0:wr.cell? ⟨lb,lo,none⟩=some (.int .i64 a.x):=by simpa using hcl 0 _ ha 0 _ rfl
   have pa1:wr.cell? ⟨lb,lo+1,none⟩=some (.int .i64 a.y):=by simpa using hcl 0 _ ha 1 _ rfl
   have pa2:wr.cell? ⟨lb,lo+2,none⟩=some (.int .i64 a.z):=by simpa using hcl 0 _ ha 2 _ rfl
   have pa3:wr.cell? ⟨lb,lo+3,none⟩=some (.int .i64 a.c0):=by simpa using hcl 0 _ ha 3 _ rfl
   have pa4:wr.cell? ⟨lb,lo+4,none⟩=some (.int .i64 a.c1):=by simpa using hcl 0 _ ha 4 _ rfl
   have pa5:wr.cell? ⟨lb,lo+5,none⟩=some (.int .i64 a.c2):=by simpa using hcl 0 _ ha 5 _ rfl
   have pa6:wr.cell? ⟨lb,lo+6,none⟩=some (.int .i64 a.c3):=by simpa using hcl 0 _ ha 6 _ rfl
   have pb0:wr.cell? ⟨lb,lo+(k+1)*7,none⟩=some (.int .i64 b.x):=hcl (k+1) _ hb 0 _ rfl;have pb1:wr.cell? ⟨lb,lo+(k+1)*7+1,none⟩=some (.int .i64 b.y):=hcl (k+1) _ hb 1 _ rfl;have pb2:wr.cell? ⟨lb,lo+(k+1)*7+2,none⟩=some (.int .i64 b.z):=hcl (k+1) _ hb 2 _ rfl;have pb3:wr.cell? ⟨lb,lo+(k+1)*7+3,none⟩=some (.int .i64 b.c0):=hcl (k+1) _ hb 3 _ rfl;have pb4:wr.cell? ⟨lb,lo+(k+1)*7+4,none⟩=some (.int .i64 b.c1):=hcl (k+1) _ hb 4 _ rfl;have pb5:wr.cell? ⟨lb,lo+(k+1)*7+5,none⟩=some (.int .i64 b.c2):=hcl (k+1) _ hb 5 _ rfl;have pb6:wr.cell? ⟨lb,lo+(k+1)*7+6,none⟩=some (.int .i64 b.c3):=hcl (k+1) _ hb 6 _ rfl;have pc0:wr.cell? ⟨lb,lo+(k+2)*7,none⟩=some (.int .i64 c.x):=hcl (k+2) _ hc 0 _ rfl;have pc1:wr.cell? ⟨lb,lo+(k+2)*7+1,none⟩=some (.int .i64 c.y):=hcl (k+2) _ hc 1 _ rfl;have pc2:wr.cell? ⟨lb,lo+(k+2)*7+2,none⟩=some (.int .i64 c.z):=hcl (k+2) _ hc 2 _ rfl;have pc3:wr.cell? ⟨lb,lo+(k+2)*7+3,none⟩=some (.int .i64 c.c0):=hcl (k+2) _ hc 3 _ rfl;have pc4:wr.cell? ⟨lb,lo+(k+2)*7+4,none⟩=some (.int .i64 c.c1):=hcl (k+2) _ hc 4 _ rfl;have pc5:wr.cell? ⟨lb,lo+(k+2)*7+5,none⟩=some (.int .i64 c.c2):=hcl (k+2) _ hc 5 _ rfl;have pc6:wr.cell? ⟨lb,lo+(k+2)*7+6,none⟩=some (.int .i64 c.c3):=hcl (k+2) _ hc 6 _ rfl;have na:=dZ ha;have nb:=dZ hb;have nc:=dZ hc;have fa:=HF.out a (List.mem_of_getElem? ha);have fb:=HF.out b (List.mem_of_getElem? hb);have fc:=HF.out c (List.mem_of_getElem? hc);have hn:=(iV fa fb fc).ar;have hs:fan L (k+1)=fan L k+ar a b c:=by rw[<-na,<-nb,<-nc];rfl
   have r1:=aG8 HF.out k (by omega);have r2:=aG8 HF.out (k+1) (by omega);rw[hs] at r2;have A:=jj (fun w=>gJ a b c (iV fa fb fc) w);have O:=jj (fun w=>aAp (ar a b c) (by unfold sml;omega) w);have D:=jj (fun w=>aLb (fan L k) (ar a b c) r1 (by unfold inR;omega) r2 w);have HS:=jj hs;clear hcl ha hb hc na nb nc fa fb fc hn r1 r2 hs hk;go_wp2;refine kN 19 18 (by kernel_rfl) (by kernel_rfl) ?_;simp only[jx]
   repeat (go_big_quiet_step ((first|(go_at_call 57;with_reducible exact Calls.quiet_ret (A.out _))|(go_at_call 56;with_reducible exact Calls.quiet_ret (O.out _))|(go_at_call 55;with_reducible exact Calls.quiet_ret (D.out _)))))
   refine jv fun X=>?_
   go_wp2;refine ⟨rfl,?_⟩;go_wp2;go_roundw
   case rel =>
    refine ⟨k+1,.inr (by omega),by go_num,?_,?_⟩
    ·rw[HS.out];have r1:Row ((wr.ext X).setCell ⟨w.heap.size,0,none⟩ (.int .i64 (hiN (fan L k+ar a b c)))) w.heap.size #[.int .i64 (hiN (fan L k+ar a b c)),.int .u64 (loN (fan L k))] 93:=(R.ext X).set 0 _;have r2:Row (((wr.ext X).setCell ⟨w.heap.size,0,none⟩ (.int .i64 (hiN (fan L k+ar a b c)))).setCell ⟨w.heap.size,1,none⟩ (.int .u64 (loN (fan L k+ar a b c)))) w.heap.size #[.int .i64 (hiN (fan L k+ar a b c)),.int .u64 (loN (fan L k+ar a b c))] 93:=r1.set 1 _
     first
      |exact r2
      |(rw[World.setCell_ext l0,World.setCell_ext (by simpa [World.setCell] using l0)] at r2;exact r2)
    ·obtain ⟨X1,hX1⟩:=HX.out;subst hX1;exact jz (by exact br_)
   case measure=>simp[intOf];omega
  ·have hkk:L.length-2=k:=by omega
   have S:=jj (fun w=>aI7 (fan L k) (aG8 HF.out k (by omega)) w);have HK:=jj hkk;clear hkk;have hge:¬((k:Int)+2<L.length):=by omega
   go_wp2_with (first|(go_at_call 58;with_reducible refine jn (S.out _) fun X_=>?_))
   go_ret;obtain ⟨X0,hX0⟩:=HX.out;subst hX0;exact Ret.of' (by unfold iO;rw[HK.out];rfl) (by exact br_)
theorem aC4 (a:WinP) (h:a.wide) (w:World):Calls prog 80 #[a.v,.int .i64 1,.int .i64 0] w (Ret (.bool (decide a.fitsP)) w):=by
 have e:decide (gM a a 1 0 1 0)=decide a.fitsP:=decide_eq_decide.2 ⟨fun q=>q.1,fun q=>⟨q,q,by decide,by decide⟩⟩;have R:=jj (fun w=>e▸fH a a 1 0 1 0 h h (by unfold w64;decide) (by unfold w64;decide) w);clear e h
 go_enter func80,ntmps80
 go_wp2_with (first|(go_at_call 112;with_reducible refine jn (R.out _) fun X_=>?_))
 go_ret;exact Ret.of' (by first|rfl|simp) (by exact bl_)
def rG (L:List WinP) (B:List Bool):Prop:=3<=L.length/\B.length=L.length/\∀ a∈L,a.fitsP
instance (L : List WinP) (B : List Bool) : Decidable (rG L B) := by unfold rG; exact inferInstance
abbrev fcV (v ev:Value) (k:LookP) (x0 y0 x1 y1:Int):Value:=.agg #[v,ev,k.width,.bool k.soft,.bool k.dashed,k.p,k.r,k.c,k.size,k.kind,k.front,k.back,.bool k.ccw,k.cull,.bool k.off,k.factor,k.units,x0,y0,x1,y1]
theorem uO {L:List WinP} {j:Nat} {a:WinP} (h:∀ i f,i<j->L[i]?=some f->f.fitsP) (ha:L[j]?=some a) (hf:a.fitsP):∀ i f,i<j+1->L[i]?=some f->f.fitsP:=fun i f hi hf'=>by
 by_cases e:i=j
 ·subst e;rw[ha] at hf';cases hf';exact hf
 ·exact h i f (by omega) hf'
theorem aBi {L:List WinP} (h:∀ i f,i<L.length->L[i]?=some f->f.fitsP):∀ a∈L,a.fitsP:=fun a ha=>by
 obtain ⟨i,hi,rfl⟩:=List.mem_iff_getElem.1 ha;exact h i _ hi (List.getElem?_eq_getElem hi)
theorem tX (v ev:Value) (L:List WinP) (B:List Bool) (k:LookP) (x0 y0 x1 y1:Int) (w:World) (hv:Recs wnK w v L) (he:Recs boK w ev B) (hw:∀ a∈L,a.wide):Calls prog 45 #[fcV v ev k x0 y0 x1 y1] w (Ret (.bool (decide (rG L B))) w):=by
 have HV:=jj hv;have HW:=jj hw;obtain ⟨hl,av,cap,rfl,hcap,-⟩:=hv;obtain ⟨hl2,ev,ecap,rfl,-,-⟩:=he;clear hw
 by_cases h3:L.length<3
 ·have h3i:(L.length:Int)<3:=by omega
  have hf:decide (rG L B)=false:=decide_eq_false fun q=>by unfold rG at q;omega
  rw[hf];clear hf
  go_enter func45,ntmps45
  go_wp2;go_ret;exact Ret.of' rfl (by exact bl_)
 have h3i:¬((L.length:Int)<3):=by omega
 by_cases hb:B.length=L.length
 case neg =>
  have hbi:((B.length:Int) != (L.length:Int))=true:=by simp;omega
  have hf:decide (rG L B)=false:=decide_eq_false fun q=>hb q.2.1
  rw[hf];clear hf hb
  go_enter func45,ntmps45
  go_wp2;go_ret;exact Ret.of' rfl (by exact bl_)
 have hbi:((B.length:Int) != (L.length:Int))=false:=by simp;omega
 have HB:=jj hb;clear hb;obtain ⟨Z,hZ⟩:∃ Z,decide (rG L B)=Z:=⟨_,rfl⟩;rw[hZ];have HZ:=jj hZ;clear hZ;obtain ⟨nb,hnb⟩:∃ n,B.length=n:=⟨_,rfl⟩;rw[hnb] at hbi HB hl2 ⊢
 go_enter func45,ntmps45
 go_upto_region 3 with fail
 refine aE (F:=fun w1=>Row w1 w.heap.size #[.slice av L.length cap,.slice ev nb ecap,k.width,.bool k.soft,.bool k.dashed,k.p,k.r,k.c,k.size,k.kind,k.front,k.back,.bool k.ccw,k.cull,.bool k.off,k.factor,k.units,x0,y0,x1,y1] 82/\Recs wnK w1 (.slice av L.length cap) L/\∃ X,w1=w.ext X) ⟨by exact rx_,by first|exact (HV.out.alloc _)|exact ((HV.out.alloc _).drew),jz (by exact bl_)⟩ ?_;rintro w1 ⟨Rl,hv1,hX⟩;have HX:=jj hX;have cl:=Rl.cell;have fl:=Rl.frozen;have ll:=Rl.lt;obtain ⟨-,av',cap',hq,-,hcl⟩:=hv1;obtain ⟨rfl,rfl⟩:av=av'/\cap=cap':=by simpa using hq
 rcases hcl with e|⟨lb,lo,rfl,hlb,hcl⟩
 ·rw[e] at h3;simp at h3
 have HCL:=jj hcl;clear hq hX hcl Rl;go_wp2;go_loopw [21] (fun i wr=>∃ (j:Nat),j<=L.length/\i=.int .i64 j/\Hid (∀ i f,i<j->L[i]?=some f->f.fitsP)/\∃ X,wr=w1.ext X)
  (fun i _=>L.length-(intOf i).toNat)
 case atStart=>exact ⟨0,by omega,rfl,jj (fun i f hi=>by omega),_,(aN _).symm⟩
 case round =>
  obtain ⟨j,hj,rfl,hF,X,rfl⟩:=hrel
  by_cases hlt:j<L.length
  ·have HJ:=jj (show j+1<=L.length from hlt);have hji:(j:Int)<L.length:=by omega
   obtain ⟨a,ha⟩:∃ f,L[j]?=some f:=⟨_,List.getElem?_eq_getElem hlt⟩;have hcl:=HCL.out;have pa0:w1.cell? ⟨lb,lo+j*7,none⟩=some (.int .i64 a.x):=hcl j _ ha 0 _ rfl;have pa1:w1.cell? ⟨lb,lo+j*7+1,none⟩=some (.int .i64 a.y):=hcl j _ ha 1 _ rfl;have pa2:w1.cell? ⟨lb,lo+j*7+2,none⟩=some (.int .i64 a.z):=hcl j _ ha 2 _ rfl;have pa3:w1.cell? ⟨lb,lo+j*7+3,none⟩=some (.int .i64 a.c0):=hcl j _ ha 3 _ rfl;have pa4:w1.cell? ⟨lb,lo+j*7+4,none⟩=some (.int .i64 a.c1):=hcl j _ ha 4 _ rfl;have pa5:w1.cell? ⟨lb,lo+j*7+5,none⟩=some (.int .i64 a.c2):=hcl j _ ha 5 _ rfl;have pa6:w1.cell? ⟨lb,lo+j*7+6,none⟩=some (.int .i64 a.c3):=hcl j _ ha 6 _ rfl;have D:=fun w=>aC4 a (HW.out a (List.mem_of_getElem? ha)) w
   have HA:=jj ha;clear hcl ha
   by_cases hf:a.fitsP
   ·simp only[hf,decide_true] at D;have HD:=jj D;have nxt:=jj (uO hF.out HA.out hf);clear D hf hF HA
    go_wp2_with (first|(go_at_call 80;with_reducible refine jn (HD.out _) fun X_=>?_))
    go_roundw
    case rel=>exact ⟨j+1,HJ.out,by go_num,nxt,jz (by exact br_)⟩
    case measure=>have:=HJ.out;simp[intOf];omega
   ·simp only[hf,decide_false] at D;have HD:=jj D;have hff:decide (rG L B)=false:=decide_eq_false fun q=>hf (q.2.2 a (List.mem_of_getElem? HA.out))
    have e:=HZ.out;rw[hff] at e;subst e;clear D hf hF HA hff HZ
    go_wp2_with (first|(go_at_call 80;with_reducible refine jn (HD.out _) fun X_=>?_))
    go_ret;obtain ⟨X0,hX0⟩:=HX.out;subst hX0;exact Ret.of' rfl (by exact br_)
  ·obtain rfl:j=L.length:=by omega
   have ht:decide (rG L B)=true:=decide_eq_true ⟨by omega,by rw[hnb];exact HB.out,aBi hF.out⟩;have e:=HZ.out;rw[ht] at e;subst e;clear ht HZ;go_wp2;go_ret;obtain ⟨X0,hX0⟩:=HX.out;subst hX0;exact Ret.of' rfl (by exact br_)
theorem pP (v ev:Value) (L:List WinP) (B:List Bool) (w:World) (hv:Recs wnK w v L) (he:Recs boK w ev B):Calls prog 17 #[v,ev] w (Ret (.bool (decide (rG L B))) w):=by
 have HV:=jj hv;obtain ⟨hl,av,cap,rfl,hcap,hcl⟩:=hv;obtain ⟨hl2,ev,ecap,rfl,-,-⟩:=he;have HCL:=jj hcl;obtain ⟨Z,hZ⟩:∃ Z,decide (rG L B)=Z:=⟨_,rfl⟩;rw[hZ];have HZ:=jj hZ;clear hZ;obtain ⟨nb,hnb⟩:∃ n,B.length=n:=⟨_,rfl⟩;rw[hnb] at hl2 ⊢;have HNB:=jj hnb;clear hcl hnb
 go_enter func17,ntmps17
 go_wp2;go_loopw [5] (fun i wr=>∃ (j:Nat),j<=L.length/\i=.int .i64 j/\Hid (∀ i f,i<j->L[i]?=some f->f.fitsP)/\∃ X,wr=w.ext X)
  (fun i _=>L.length-(intOf i).toNat)
 case atStart=>exact ⟨0,by omega,rfl,jj (fun i f hi=>by omega),_,(aN _).symm⟩
 case round =>
  obtain ⟨j,hj,rfl,hF,X,rfl⟩:=hrel
  by_cases hlt:j<L.length
  ·have HJ:=jj (show j+1<=L.length from hlt);have hji:(j:Int)<L.length:=by omega
   obtain ⟨a,ha⟩:∃ f,L[j]?=some f:=⟨_,List.getElem?_eq_getElem hlt⟩;rcases HCL.out with e|⟨lb,lo,rfl,hlb,hcl⟩
   ·rw[e] at hlt;simp at hlt
   have pa0:w.cell? ⟨lb,lo+j*7,none⟩=some (.int .i64 a.x):=hcl j _ ha 0 _ rfl;have pa1:w.cell? ⟨lb,lo+j*7+1,none⟩=some (.int .i64 a.y):=hcl j _ ha 1 _ rfl;have pa2:w.cell? ⟨lb,lo+j*7+2,none⟩=some (.int .i64 a.z):=hcl j _ ha 2 _ rfl;have pa3:w.cell? ⟨lb,lo+j*7+3,none⟩=some (.int .i64 a.c0):=hcl j _ ha 3 _ rfl;have pa4:w.cell? ⟨lb,lo+j*7+4,none⟩=some (.int .i64 a.c1):=hcl j _ ha 4 _ rfl;have pa5:w.cell? ⟨lb,lo+j*7+5,none⟩=some (.int .i64 a.c2):=hcl j _ ha 5 _ rfl;have pa6:w.cell? ⟨lb,lo+j*7+6,none⟩=some (.int .i64 a.c3):=hcl j _ ha 6 _ rfl;have D:=fun w=>nB a w
   have HA:=jj ha;clear hcl ha HCL
   by_cases hf:a.fitsP
   ·simp only[hf,decide_true] at D;have HD:=jj D;have nxt:=jj (uO hF.out HA.out hf);clear D hf hF HA
    go_wp2_with (first|(go_at_call 54;with_reducible refine jn (HD.out _) fun X_=>?_))
    go_roundw
    case rel=>exact ⟨j+1,HJ.out,by go_num,nxt,jz (by exact br_)⟩
    case measure=>have:=HJ.out;simp[intOf];omega
   ·simp only[hf,decide_false] at D;have HD:=jj D;have hff:decide (rG L B)=false:=decide_eq_false fun q=>hf (q.2.2 a (List.mem_of_getElem? HA.out))
    have e:=HZ.out;rw[hff] at e;subst e;clear D hf hF HA hff HZ
    go_wp2_with (first|(go_at_call 54;with_reducible refine jn (HD.out _) fun X_=>?_))
    go_ret;exact Ret.of' rfl (by exact br_)
  ·obtain rfl:j=L.length:=by omega
   by_cases h3:L.length<3
   ·have hff:decide (rG L B)=false:=decide_eq_false fun q=>by unfold rG at q;omega
    have h3i:¬((3:Int)<=L.length):=by omega
    have e:=HZ.out;rw[hff] at e;subst e;clear hff HZ;go_wp2;go_ret;exact Ret.of' rfl (by exact br_)
   ·have h3i:(3:Int)<=L.length:=by omega
    by_cases hb:nb=L.length
    ·have ht:decide (rG L B)=true:=decide_eq_true ⟨by omega,by rw[HNB.out];exact hb,aBi hF.out⟩;have hbi:((nb:Int)==(L.length:Int))=true:=by simp;omega
     have e:=HZ.out;rw[ht] at e;subst e;clear ht hb HZ;go_wp2;go_ret;exact Ret.of' (by first|rfl|simp) (by exact br_)
    ·have ht:decide (rG L B)=false:=decide_eq_false fun q=>hb (by rw[<-HNB.out];exact q.2.1)
     have hbi:((nb:Int)==(L.length:Int))=false:=by simp;omega
     have e:=HZ.out;rw[ht] at e;subst e;clear ht hb HZ;go_wp2;go_ret;exact Ret.of' (by first|rfl|simp) (by exact br_)
theorem sA (v:Value) (L:List WinP) (w:World) (hv:Recs wnK w v L) (hf:∀ a∈L,a.fits) (hL:L.length<=4096):Calls prog 19 #[v] w (Ret (.int .i64 (sgn (iO L))) w):=by
 have HV:=jj hv;have HF:=jj hf;obtain ⟨hl,av,cap,rfl,hcap,-⟩:=hv;clear hf
 go_enter func19,ntmps19
 go_wp2;go_loopw [4] (fun i wr=>∃ (k n:Nat) (m0:Bool) (a0:Option Addr) (l0 c0:Nat),(k=0\/k+2<=L.length)/\n<=129+k/\i=.int .i64 ((k:Int)+1)/\Row wr w.heap.size #[.bool m0,.slice a0 l0 c0] 101/\RN wr (.agg #[.bool m0,.slice a0 l0 c0]) (fan L k) n/\∃ X,wr=w.ext X)
  (fun i _=>L.length+2-(intOf i).toNat)
 case atStart=>exact ⟨0,0,_,_,_,_,.inl rfl,by omega,rfl,by exact rx_,xM,jz (by exact bl_)⟩
 case round =>
  obtain ⟨k,n,m0,a0,l0,c0,hk,hn,rfl,R,hN,hX⟩:=hrel;have HX:=jj hX;have HN:=jj hN;have cr:=R.cell;have fr:=R.frozen;have lr:=R.lt
  by_cases hlt:k+2<L.length
  ·have hki:(k:Int)+2<L.length:=by omega
   have hki':(k:Int)+1+1<L.length:=by omega
   have h0:0<L.length:=by omega
   have h1:k+1<L.length:=by omega
   have hi0:(0:Int)<L.length:=by omega
   have hi1:(k:Int)+1<L.length:=by omega
   obtain ⟨X0,hX0⟩:=hX;obtain ⟨-,av',cap',hq,-,hcl⟩:=(by rw[hX0];exact HV.out.ext X0:Recs wnK wr (.slice av L.length cap) L);obtain ⟨rfl,rfl⟩:av=av'/\cap=cap':=by simpa using hq
   clear hq hX0 hN;rcases hcl with e|⟨lb,lo,rfl,hlb,hcl⟩
   ·rw[e] at h0;simp at h0
   obtain ⟨a,ha⟩:∃ f,L[0]?=some f:=⟨_,List.getElem?_eq_getElem h0⟩;obtain ⟨b,hb⟩:∃ f,L[k+1]?=some f:=⟨_,List.getElem?_eq_getElem h1⟩;obtain ⟨c,hc⟩:∃ f,L[k+2]?=some f:=⟨_,List.getElem?_eq_getElem hlt⟩;have pa0:wr.cell? ⟨lb,lo,none⟩=some (.int .i64 a.x):=by simpa using hcl 0 _ ha 0 _ rfl
   have pa1:wr.cell? ⟨lb,lo+1,none⟩=some (.int .i64 a.y):=by simpa using hcl 0 _ ha 1 _ rfl
   have pa2:wr.cell? ⟨lb,lo+2,none⟩=some (.int .i64 a.z):=by simpa using hcl 0 _ ha 2 _ rfl
   have pa3:wr.cell? ⟨lb,lo+3,none⟩=some (.int .i64 a.c0):=by simpa using hcl 0 _ ha 3 _ rfl
   have pa4:wr.cell? ⟨lb,lo+4,none⟩=some (.int .i64 a.c1):=by simpa using hcl 0 _ ha 4 _ rfl
   have pa5:wr.cell? ⟨lb,lo+5,none⟩=some (.int .i64 a.c2):=by simpa using hcl 0 _ ha 5 _ rfl
   have pa6:wr.cell? ⟨lb,lo+6,none⟩=some (.int .i64 a.c3):=by simpa using hcl 0 _ ha 6 _ rfl
   have pb0:wr.cell? ⟨lb,lo+(k+1)*7,none⟩=some (.int .i64 b.x):=hcl (k+1) _ hb 0 _ rfl;have pb1:wr.cell? ⟨lb,lo+(k+1)*7+1,none⟩=some (.int .i64 b.y):=hcl (k+1) _ hb 1 _ rfl;have pb2:wr.cell? ⟨lb,lo+(k+1)*7+2,none⟩=some (.int .i64 b.z):=hcl (k+1) _ hb 2 _ rfl;have pb3:wr.cell? ⟨lb,lo+(k+1)*7+3,none⟩=some (.int .i64 b.c0):=hcl (k+1) _ hb 3 _ rfl;have pb4:wr.cell? ⟨lb,lo+(k+1)*7+4,none⟩=some (.int .i64 b.c1):=hcl (k+1) _ hb 4 _ rfl;have pb5:wr.cell? ⟨lb,lo+(k+1)*7+5,none⟩=some (.int .i64 b.c2):=hcl (k+1) _ hb 5 _ rfl;have pb6:wr.cell? ⟨lb,lo+(k+1)*7+6,none⟩=some (.int .i64 b.c3):=hcl (k+1) _ hb 6 _ rfl;have pc0:wr.cell? ⟨lb,lo+(k+2)*7,none⟩=some (.int .i64 c.x):=hcl (k+2) _ hc 0 _ rfl;have pc1:wr.cell? ⟨lb,lo+(k+2)*7+1,none⟩=some (.int .i64 c.y):=hcl (k+2) _ hc 1 _ rfl;have pc2:wr.cell? ⟨lb,lo+(k+2)*7+2,none⟩=some (.int .i64 c.z):=hcl (k+2) _ hc 2 _ rfl;have pc3:wr.cell? ⟨lb,lo+(k+2)*7+3,none⟩=some (.int .i64 c.c0):=hcl (k+2) _ hc 3 _ rfl;have pc4:wr.cell? ⟨lb,lo+(k+2)*7+4,none⟩=some (.int .i64 c.c1):=hcl (k+2) _ hc 4 _ rfl;have pc5:wr.cell? ⟨lb,lo+(k+2)*7+5,none⟩=some (.int .i64 c.c2):=hcl (k+2) _ hc 5 _ rfl;have pc6:wr.cell? ⟨lb,lo+(k+2)*7+6,none⟩=some (.int .i64 c.c3):=hcl (k+2) _ hc 6 _ rfl;have na:=dZ ha;have nb:=dZ hb;have nc:=dZ hc;have fa:=HF.out a (List.mem_of_getElem? ha);have fb:=HF.out b (List.mem_of_getElem? hb);have fc:=HF.out c (List.mem_of_getElem? hc);have hn2:=(iV fa fb fc).ar;have hs:fan L (k+1)=fan L k+ar a b c:=by rw[<-na,<-nb,<-nc];rfl
   have A:=jj (fun w=>eM a b c (iV fa fb fc) w);have O:=jj (fun w=>kS (ar a b c) (by unfold sml;omega) w);have D:=jj (fun w=>dI (ar a b c) (by unfold inR;omega) w);have HS:=jj hs;clear hcl ha hb hc na nb nc fa fb fc hn2 hs hk;go_wp2;refine aJ 17 [none,none,none,none,none,none,none,none,none,none,none,none,none,some ([],srV (.int .i64 (ar a b c))),some ([13],srV (I2 (ar a b c))),some ([14],srN (ar a b c) 129),some ([15],srN (fan L k+ar a b c) (max n 129+1))] (by kernel_rfl) (by kernel_rfl) ?_;simp only[jx]
   (repeat (first|(refine aA ?_;intro K_ hK_;go_big_quiet_op;go_big_quiet_on)|simp only[jw]))
   refine aF rfl (fun w_ hw_ hk_ K_ hK_=>?_) (fun v13 f13=>?_)
   ·obtain ⟨X_,rfl⟩:=hw_;go_simp
    go_at_call 62
    refine (A.out _).mono ?_;rintro _ _ ⟨rfl,hX⟩;exact hK_ _ _ rfl hX
   obtain rfl:=f13
   (repeat (first|(refine aA ?_;intro K_ hK_;go_big_quiet_op;go_big_quiet_on)|simp only[jw]))
   refine aF rfl (fun w_ hw_ hk_ K_ hK_=>?_) (fun v14 f14=>?_)
   ·obtain ⟨X_,rfl⟩:=hw_;go_simp
    go_at_call 61
    refine (O.out _).mono ?_;rintro _ _ ⟨rfl,hX⟩;exact hK_ _ _ rfl hX
   obtain rfl:=f14
   (repeat (first|(refine aA ?_;intro K_ hK_;go_big_quiet_op;go_big_quiet_on)|simp only[jw]))
   refine aF rfl (fun w_ hw_ hk_ K_ hK_=>?_) (fun v15 f15=>?_)
   ·obtain ⟨X_,rfl⟩:=hw_;go_simp
    go_at_call 60
    refine (D.out _).mono ?_;rintro _ _ ⟨v,rfl,h1,h2⟩;exact hK_ _ _ h1 h2
   obtain ⟨m8,a8,l8,c8,rfl⟩:=f15
   (repeat (first|(refine aA ?_;intro K_ hK_;go_big_quiet_op;go_big_quiet_on)|simp only[jw]))
   refine aF rfl (fun w_ hw_ hk_ K_ hK_=>?_) (fun v16 f16=>?_)
   ·obtain ⟨X_,rfl⟩:=hw_;have h8:=(hk_ (15,_) (by repeat (first|exact List.mem_cons_self|refine jk ?_))) (by simp);go_simp
    go_at_call 59
    refine (iI _ _ (fan L k) (ar a b c) n 129 _ (by first|exact HN.out.ext _|exact HN.out.drew.ext _) h8 (by omega) (by decide)).mono ?_;rintro _ _ ⟨v,rfl,h1,h2⟩;exact hK_ _ _ h1 h2
   obtain ⟨m9,a9,l9,c9,rfl⟩:=f16
   (repeat (first|(refine aA ?_;intro K_ hK_;go_big_quiet_op;go_big_quiet_on)|simp only[jw]))
   refine aT ?_;intro w_ hw_ kk;obtain ⟨X,rfl⟩:=hw_;have h9:=(kk (16,_) (by repeat (first|exact List.mem_cons_self|refine jk ?_)));have H9:=jj h9;clear h9 kk;go_wp2;go_roundw
   case rel =>
    have P:=pY (R.ext X) qF H9.out;rw[World.setCell_ext lr,World.setCell_ext (by simpa [World.setCell] using lr)] at P;refine ⟨k+1,_,_,_,_,_,.inr (by omega),?_,by go_num,P.1,by rw[HS.out];exact P.2,?_⟩
    ·omega
    ·obtain ⟨X1,hX1⟩:=HX.out;subst hX1;exact jz (by exact br_)
   case measure=>simp[intOf];omega
  ·have hkk:L.length-2=k:=by omega
   have HK:=jj hkk;clear hkk hN;have hge:¬((k:Int)+2<L.length):=by omega
   have hge':¬((k:Int)+1+1<L.length):=by omega
   go_wp2_with (first|(go_at_call 63;refine (aFg _ _ (fan L k) 0 n 0 _ HN.out xM (by omega) (by decide)).mono ?_;rintro _ _ ⟨rfl,X_,rfl⟩))
   go_ret;obtain ⟨X0,hX0⟩:=HX.out;subst hX0;exact Ret.of' (by unfold iO;rw[HK.out];rfl) (by exact br_)
def g9 (n:Int) (ccw:Bool):Bool:=if ccw then decide (0<=n) else decide (n<=0)
def qR (b:Bool) (c:Int):Bool:=if b then decide (c=1\/c=3) else decide (c=2\/c=3)
theorem uX (z:Int):sgn z=-1\/sgn z=0\/sgn z=1:=by unfold sgn;split<;>(try split)<;>simp
theorem wG {c:Int} (h:aI c 0 3):c=0\/c=1\/c=2\/c=3:=by unfold aI at h;omega
theorem nO (v:Value) (L:List WinP) (ccw:Bool) (w:World) (hv:Recs wnK w v L) (hf:∀ a∈L,a.fits):Calls prog 20 #[v,.bool ccw] w (Ret (.bool (g9 (sgn (iO L)) ccw)) w):=by
 have S:=jj (fun X=>wA v L (w.ext X) (hv.ext X) hf);have S0:=jj (wA v L w hv hf);obtain ⟨-,av,cap,rfl,-,-⟩:=hv;rcases uX (iO L) with e|e|e<;>rw[e] at S S0 ⊢<;>cases ccw
 all_goals
  clear e hf
  go_enter func20,ntmps20
  go_wp2_with (first|(go_at_call 18;with_reducible refine jn (S0.out) fun X_=>?_)|(go_at_call 18;with_reducible refine jn (S.out _) fun X_=>?_))
  go_ret;exact Ret.of' (by first|rfl|decide) (by exact bl_)
theorem kU (v:Value) (L:List WinP) (ccw:Bool) (w:World) (hv:Recs wnK w v L) (hf:∀ a∈L,a.fits) (hL:L.length<=4096):Calls prog 21 #[v,.bool ccw] w (Ret (.bool (g9 (sgn (iO L)) ccw)) w):=by
 have S:=jj (fun X=>sA v L (w.ext X) (hv.ext X) hf hL);have S0:=jj (sA v L w hv hf hL);obtain ⟨-,av,cap,rfl,-,-⟩:=hv;rcases uX (iO L) with e|e|e<;>rw[e] at S S0 ⊢<;>cases ccw
 all_goals
  clear e hf hL
  go_enter func21,ntmps21
  go_wp2_with (first|(go_at_call 19;with_reducible refine jn (S0.out) fun X_=>?_)|(go_at_call 19;with_reducible refine jn (S.out _) fun X_=>?_))
  go_ret;exact Ret.of' (by first|rfl|decide) (by exact bl_)
theorem lE (v:Value) (L:List WinP) (k:LookP) (w:World) (hv:Recs wnK w v L) (hf:∀ a∈L,a.fits) (hc:aI k.cull 0 3):Calls prog 22 #[v,k.v] w (Ret (.bool (qR (g9 (sgn (iO L)) k.ccw) k.cull)) w):=by
 have S:=jj (fun w1 (h:Recs wnK w1 v L)=>nO v L k.ccw w1 h hf);have HV:=jj hv;obtain ⟨-,av,cap,rfl,-,-⟩:=hv;obtain ⟨k0,k1,k2,k3,k4,k5,k6,k7,k8,k9,kw,kc,k12,k13,k14⟩:=k;simp only at hc S ⊢;generalize g9 (sgn (iO L)) kw=b at *;rcases wG hc with rfl|rfl|rfl|rfl<;>cases b
 all_goals
  clear hf hc
  go_enter func22,ntmps22
  go_wp2_with (first|(go_at_call 20;with_reducible refine jn (S.out _ (HV.out.alloc _)) fun X_=>?_))
  go_ret;exact Ret.of' (by first|rfl|decide) (by exact bl_)
theorem jB (v:Value) (L:List WinP) (k:LookP) (w:World) (hv:Recs wnK w v L) (hf:∀ a∈L,a.fits) (hL:L.length<=4096) (hc:aI k.cull 0 3):Calls prog 23 #[v,k.v] w (Ret (.bool (qR (g9 (sgn (iO L)) k.ccw) k.cull)) w):=by
 have S:=jj (fun w1 (h:Recs wnK w1 v L)=>kU v L k.ccw w1 h hf hL);have HV:=jj hv;obtain ⟨-,av,cap,rfl,-,-⟩:=hv;obtain ⟨k0,k1,k2,k3,k4,k5,k6,k7,k8,k9,kw,kc,k12,k13,k14⟩:=k;simp only at hc S ⊢;generalize g9 (sgn (iO L)) kw=b at *;rcases wG hc with rfl|rfl|rfl|rfl<;>cases b
 all_goals
  clear hf hc hL
  go_enter func23,ntmps23
  go_wp2_with (first|(go_at_call 21;with_reducible refine jn (S.out _ (HV.out.alloc _)) fun X_=>?_))
  go_ret;exact Ret.of' (by first|rfl|decide) (by exact bl_)
end Go.Proofs.YthcjfanigfgckaaGreat
