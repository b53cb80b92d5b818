import Derived.Test.YthcjfanigfgckaaGreatSHiddenOrder22
import Derived.Test.YthcjfanigfgckaaGreatSHiddenOrder26
set_option linter.unusedVariables false
set_option linter.unusedSimpArgs false
set_option maxRecDepth 100000
set_option maxHeartbeats 16000000
namespace Go.Proofs.YthcjfanigfgckaaGreat
open Go.RowKit
abbrev WinP.cells (a:WinP):List Value:=[.int .i64 a.x,.int .i64 a.y,.int .i64 a.z,.int .i64 a.c0,.int .i64 a.c1,.int .i64 a.c2,.int .i64 a.c3]
def wnK:RecK WinP:=⟨7,WinP.cells,fun _=>rfl,by decide,fun a u hu=>by simp at hu;rcases hu with rfl|rfl|rfl|rfl|rfl|rfl|rfl<;>rfl⟩
def boK:RecK Bool:=⟨1,fun b=>[.bool b],fun _=>rfl,by decide,fun a u hu=>by simp at hu;subst hu;rfl⟩
def wAt (L:List WinP) (i:Nat):WinP:=L.getD i ⟨0,0,0,0,0,0,0⟩
theorem wAt_of {L:List WinP} {i:Nat} {a:WinP} (h:L[i]?=some a):wAt L i=a:=by unfold wAt;rw[List.getD_eq_getElem?_getD,h];rfl
def fan (L:List WinP):Nat->Int
 |0=>0
 |k+1=>fan L k+ar (wAt L 0) (wAt L (k+1)) (wAt L (k+2))
def faceN (L:List WinP):Int:=fan L (L.length-2)
theorem wAt_fits {L:List WinP} (h:∀ a∈L,a.fits) (i:Nat):(wAt L i).fits:=by
 by_cases hi:i<L.length
 ·rw[wAt_of (List.getElem?_eq_getElem hi)];exact h _ (List.getElem_mem hi)
 ·unfold wAt;rw[List.getD_eq_getElem?_getD,List.getElem?_eq_none (by omega)];exact ⟨by decide,by decide,by decide,by decide,by decide,by decide,⟨by decide,by decide,by decide,by decide,by decide,by decide,by decide,by decide⟩⟩
theorem fan_bd {L:List WinP} (h:∀ a∈L,a.fits):∀ k:Nat,-(3602880389091196928*(k:Int))<=fan L k/\fan L k<=3602880389091196928*(k:Int)
 |0=>by simp[fan]
 |k+1=>by
  have h1:=fan_bd h k;have h2:=(nigh3 (wAt_fits h 0) (wAt_fits h (k+1)) (wAt_fits h (k+2))).ar;unfold fan;omega
theorem fan_in {L:List WinP} (h:∀ a∈L,a.fits) (k:Nat) (hk:k<=1099511627776):inR (fan L k):=by
 have:=fan_bd h k;unfold inR;omega
theorem add22_in (a b:Int) (ha:inR a) (hb:inR b) (h:inR (a+b)) (w:World):Calls Tryz.prog 55 #[I2 a,I2 b] w (Ret (.tuple #[I2 (a+b),.bool true]) w):=by
 have A:=add_any a b ha hb w;rw[show I2b (a+b)=.tuple #[I2 (a+b),.bool true] by rw[I2b,lim_yes h];simp[h]] at A;exact A
theorem face_sign (v:Value) (L:List WinP) (w:World) (hv:Recs wnK w v L) (hf:∀ a∈L,a.fits):Calls Tryz.prog 18 #[v] w (Ret (.int .i64 (sgn (faceN L))) w):=by
 have HV:=jj hv;have HF:=jj hf;obtain ⟨hl,av,cap,rfl,hcap,-⟩:=hv;clear hf
 go_enter Tryz.func18,Tryz.ntmps18
 go_wp2;go_loopw [4] (fun i wr=>∃ (k:Nat),(k=0\/k+2<=L.length)/\i=.int .i64 ((k:Int)+2)/\Row wr w.heap.size #[.int .i64 (hiN (fan L k)),.int .u64 (loN (fan L k))] 93/\∃ X,wr=w.ext X)
  (fun i _=>L.length+2-(intOf i).toNat)
 case atStart=>exact ⟨0,.inl rfl,rfl,by rw[show hiN (fan L 0)=0 from rfl,show loN (fan L 0)=0 from rfl];exact rx_,jz (by exact bl_)⟩
 case round =>
  obtain ⟨k,hk,rfl,R,hX⟩:=hrel;have HX:=jj hX;have c0:=R.cell;have f0:=R.frozen;have l0:=R.lt
  by_cases hlt:k+2<L.length
  ·have hki:(k:Int)+2<L.length:=by omega
   have h0:0<L.length:=by omega
   have h1:k+1<L.length:=by omega
   have hi0:(0:Int)<L.length:=by omega
   have hi1:(k:Int)+1<L.length:=by omega
   obtain ⟨X0,hX0⟩:=hX;obtain ⟨-,av',cap',hq,-,hcl⟩:=(by rw[hX0];exact HV.out.ext X0:Recs wnK wr (.slice av L.length cap) L);obtain ⟨rfl,rfl⟩:av=av'/\cap=cap':=by simpa using hq
   clear hq hX0;rcases hcl with e|⟨lb,lo,rfl,hlb,hcl⟩
   ·rw[e] at h0;simp at h0
   obtain ⟨a,ha⟩:∃ f,L[0]?=some f:=⟨_,List.getElem?_eq_getElem h0⟩;obtain ⟨b,hb⟩:∃ f,L[k+1]?=some f:=⟨_,List.getElem?_eq_getElem h1⟩;obtain ⟨c,hc⟩:∃ f,L[k+2]?=some f:=⟨_,List.getElem?_eq_getElem hlt⟩;have pa0:wr.cell? ⟨lb,lo,none⟩=some (.int .i64 a.x):=by simpa using hcl 0 _ ha 0 _ rfl
   have pa1:wr.cell? ⟨lb,lo+1,none⟩=some (.int .i64 a.y):=by simpa using hcl 0 _ ha 1 _ rfl
   have pa2:wr.cell? ⟨lb,lo+2,none⟩=some (.int .i64 a.z):=by simpa using hcl 0 _ ha 2 _ rfl
   have pa3:wr.cell? ⟨lb,lo+3,none⟩=some (.int .i64 a.c0):=by simpa using hcl 0 _ ha 3 _ rfl
   have pa4:wr.cell? ⟨lb,lo+4,none⟩=some (.int .i64 a.c1):=by simpa using hcl 0 _ ha 4 _ rfl
   have pa5:wr.cell? ⟨lb,lo+5,none⟩=some (.int .i64 a.c2):=by simpa using hcl 0 _ ha 5 _ rfl
   have pa6:wr.cell? ⟨lb,lo+6,none⟩=some (.int .i64 a.c3):=by simpa using hcl 0 _ ha 6 _ rfl
   have pb0:wr.cell? ⟨lb,lo+(k+1)*7,none⟩=some (.int .i64 b.x):=hcl (k+1) _ hb 0 _ rfl;have pb1:wr.cell? ⟨lb,lo+(k+1)*7+1,none⟩=some (.int .i64 b.y):=hcl (k+1) _ hb 1 _ rfl;have pb2:wr.cell? ⟨lb,lo+(k+1)*7+2,none⟩=some (.int .i64 b.z):=hcl (k+1) _ hb 2 _ rfl;have pb3:wr.cell? ⟨lb,lo+(k+1)*7+3,none⟩=some (.int .i64 b.c0):=hcl (k+1) _ hb 3 _ rfl;have pb4:wr.cell? ⟨lb,lo+(k+1)*7+4,none⟩=some (.int .i64 b.c1):=hcl (k+1) _ hb 4 _ rfl;have pb5:wr.cell? ⟨lb,lo+(k+1)*7+5,none⟩=some (.int .i64 b.c2):=hcl (k+1) _ hb 5 _ rfl;have pb6:wr.cell? ⟨lb,lo+(k+1)*7+6,none⟩=some (.int .i64 b.c3):=hcl (k+1) _ hb 6 _ rfl;have pc0:wr.cell? ⟨lb,lo+(k+2)*7,none⟩=some (.int .i64 c.x):=hcl (k+2) _ hc 0 _ rfl;have pc1:wr.cell? ⟨lb,lo+(k+2)*7+1,none⟩=some (.int .i64 c.y):=hcl (k+2) _ hc 1 _ rfl;have pc2:wr.cell? ⟨lb,lo+(k+2)*7+2,none⟩=some (.int .i64 c.z):=hcl (k+2) _ hc 2 _ rfl;have pc3:wr.cell? ⟨lb,lo+(k+2)*7+3,none⟩=some (.int .i64 c.c0):=hcl (k+2) _ hc 3 _ rfl;have pc4:wr.cell? ⟨lb,lo+(k+2)*7+4,none⟩=some (.int .i64 c.c1):=hcl (k+2) _ hc 4 _ rfl;have pc5:wr.cell? ⟨lb,lo+(k+2)*7+5,none⟩=some (.int .i64 c.c2):=hcl (k+2) _ hc 5 _ rfl;have pc6:wr.cell? ⟨lb,lo+(k+2)*7+6,none⟩=some (.int .i64 c.c3):=hcl (k+2) _ hc 6 _ rfl;have na:=wAt_of ha;have nb:=wAt_of hb;have nc:=wAt_of hc;have fa:=HF.out a (List.mem_of_getElem? ha);have fb:=HF.out b (List.mem_of_getElem? hb);have fc:=HF.out c (List.mem_of_getElem? hc);have hn:=(nigh3 fa fb fc).ar;have hs:fan L (k+1)=fan L k+ar a b c:=by rw[<-na,<-nb,<-nc];rfl
   have r1:=fan_in HF.out k (by omega);have r2:=fan_in HF.out (k+1) (by omega);rw[hs] at r2;have A:=jj (fun w=>area_any a b c (nigh3 fa fb fc) w);have O:=jj (fun w=>of_any (ar a b c) (by unfold sml;omega) w);have D:=jj (fun w=>add22_in (fan L k) (ar a b c) r1 (by unfold inR;omega) r2 w);have HS:=jj hs;clear hcl ha hb hc na nb nc fa fb fc hn r1 r2 hs hk;go_wp2;refine wp_region_ext_float 19 18 (by kernel_rfl) (by kernel_rfl) ?_;simp only[jx]
   repeat (go_big_quiet_step ((first|(go_at_call 57;with_reducible exact Calls.quiet_ret (A.out _))|(go_at_call 56;with_reducible exact Calls.quiet_ret (O.out _))|(go_at_call 55;with_reducible exact Calls.quiet_ret (D.out _)))))
   refine wpQuiet_nil ?_;intro _ hw_ext;obtain ⟨X,hw_ext⟩:=hw_ext;subst hw_ext;go_wp2;refine ⟨rfl,?_⟩;go_wp2;go_roundw
   case rel =>
    refine ⟨k+1,.inr (by omega),by go_num,?_,?_⟩
    ·rw[HS.out];have r1:Row ((wr.ext X).setCell ⟨w.heap.size,0,none⟩ (.int .i64 (hiN (fan L k+ar a b c)))) w.heap.size #[.int .i64 (hiN (fan L k+ar a b c)),.int .u64 (loN (fan L k))] 93:=(R.ext X).set 0 _;have r2:Row (((wr.ext X).setCell ⟨w.heap.size,0,none⟩ (.int .i64 (hiN (fan L k+ar a b c)))).setCell ⟨w.heap.size,1,none⟩ (.int .u64 (loN (fan L k+ar a b c)))) w.heap.size #[.int .i64 (hiN (fan L k+ar a b c)),.int .u64 (loN (fan L k+ar a b c))] 93:=r1.set 1 _
     first
      |exact r2
      |(rw[World.setCell_ext l0,World.setCell_ext (by simpa [World.setCell] using l0)] at r2;exact r2)
    ·obtain ⟨X1,hX1⟩:=HX.out;subst hX1;exact jz (by exact br_)
   case measure=>simp[intOf];omega
  ·have hkk:L.length-2=k:=by omega
   have S:=jj (fun w=>sign_any (fan L k) (fan_in HF.out k (by omega)) w);have HK:=jj hkk;clear hkk;have hge:¬((k:Int)+2<L.length):=by omega
   go_wp2_with (first|(go_at_call 58;(with_reducible refine (S.out _).mono ?_);rintro _ _ ⟨rfl,X_,rfl⟩))
   go_ret;obtain ⟨X0,hX0⟩:=HX.out;subst hX0;exact Ret.of' (by unfold faceN;rw[HK.out];rfl) (by exact br_)
section
attribute [local go_sem ↓] Go.wp_at_zero Go.wp_at_succ
end
theorem among_sml {a b c:WinP} {x y:Int} (h:triHas a b c x y) (v:WinP->Int) (ha:sml25 (v a)) (hb:sml25 (v b)) (hc:sml25 (v c)):smlV (atV a b c x y v)=atV a b c x y v:=by
 obtain ⟨h1,h2⟩:=atV_among h v
 apply smlV_yes
 unfold sml25 at ha hb hc;unfold sml;omega
theorem atV_z {a b c:WinP} {x y:Int} (ha:a.fits) (hb:b.fits) (hc:c.fits) (h:triHas a b c x y):0<=atV a b c x y (·.z)/\atV a b c x y (·.z)<=16777215:=by
 obtain ⟨h1,h2⟩:=atV_among h (·.z);have:=ha.z0;have:=ha.z1;have:=hb.z0;have:=hb.z1;have:=hc.z0;have:=hc.z1
 omega
structure RcP where
 x0:Int
 y0:Int
 x1:Int
 y1:Int
abbrev RcP.v (r:RcP):Value:=R4 r.x0 r.y0 r.x1 r.y1
def RcP.has (r:RcP) (x y:Int):Prop:=hasP r.x0 r.y0 r.x1 r.y1 x y
instance rcHasDec (r : RcP) (x y : Int) : Decidable (r.has x y) := by unfold RcP.has; exact inferInstance
end Go.Proofs.YthcjfanigfgckaaGreat
