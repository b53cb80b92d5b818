import Derived.Test.YthcjfanigfgckaaGreatSHiddenOrder43
import Derived.Test.YthcjfanigfgckaaGreatSHiddenOrder45
import Derived.Test.YthcjfanigfgckaaGreatSHiddenOrder46
set_option linter.unusedVariables false
set_option linter.unusedSimpArgs false
set_option maxRecDepth 100000
set_option maxHeartbeats 16000000
namespace Go.Proofs.YthcjfanigfgckaaGreat
open Go.RowKit
theorem frsH_take {l:List PolP} {s:SkP} {m:Bool} {x0 y0 x1 y1:Int} {j:Nat} {p:PolP} (h:l[j]?=some p):frsH (l.take (j+1)) s m x0 y0 x1 y1=frsH (l.take j) s m x0 y0 x1 y1++frsP p s m x0 y0 x1 y1:=by
 unfold frsH;rw[take_next h,List.flatMap_append];simp
theorem area_px (x y:Int):areaP x y (x+1) (y+1)<=1048576:=by
 unfold areaP;rw[show x+1-x=1 by omega,show y+1-y=1 by omega]
 split<;>decide
theorem minZ_snoc (z:Int) (L:List FrP) (f:FrP):minZ z (L++[f])=min (minZ z L) f.z:=by
 unfold minZ;rw[List.foldl_append];rfl
theorem minZ_append (z:Int) (A B:List FrP):minZ z (A++B)=minZ (minZ z A) B:=by
 unfold minZ;rw[List.foldl_append]
theorem frsH_none {l:List PolP} {s:SkP} {x0 y0 x1 y1 m:Int} {j:Nat} {p:PolP} {D:List FrP} (hp:l[j]?=some p) (hD:frsP p s true x0 y0 x1 y1=D) (h:∀ f∈frsH (l.take j) s true x0 y0 x1 y1,m<f.z) (h2:∀ f∈D,m<f.z):∀ f∈frsH (l.take (j+1)) s true x0 y0 x1 y1,m<f.z:=fun f hf=>by
 rw[frsH_take hp,hD,List.mem_append] at hf;rcases hf with hf|hf
 ·exact h f hf
 ·exact h2 f hf
theorem frsH_mem {l:List PolP} {s:SkP} {x0 y0 x1 y1:Int} {p:PolP} {f:FrP} (hp:p∈l) (hf:f∈frsP p s true x0 y0 x1 y1):f∈frsH l s true x0 y0 x1 y1:=List.mem_flatMap.2 ⟨p,hp,hf⟩
theorem hshown (v:Value) (SL:List PsP) (l:List PolP) (s:SkP) (x y far:Int) (w:World) (h:PolsR w v SL l) (hs:s.wide) (x0:0<=x) (x1:x<=65535) (y0:0<=y) (y1:y<=65535):Calls Tryz.prog 27 #[v,s.v,.int .i64 x,.int .i64 y,.int .i64 far] w (Ret (.bool (decide (hidP l s/\shownP l s x y far))) w):=by
 have HP:=jj h;have RI0:=fun w h=>hright v SL l s w h hs
 by_cases hh:hidP l s
 case neg =>
  rw[decide_eq_false hh] at RI0;have RI:=jj RI0;rw[decide_eq_false (show ¬(hidP l s/\shownP l s x y far) from fun q=>hh q.1)];clear hh RI0 h
  go_enter Tryz.func27,Tryz.ntmps27
  go_wp2_with (first|(go_at_call 67;(with_reducible refine (RI.out _ (by repeat (first|with_reducible exact HP.out|with_reducible refine PolsR.ext ?_ _|with_reducible refine PolsR.alloc ?_ _|with_reducible refine PolsR.drew ?_))).mono ?_);rintro _ _ ⟨rfl,X_,rfl⟩))
  go_ret;exact Ret.of' rfl (by exact bl_)
 rw[decide_eq_true hh] at RI0;have RI:=jj RI0;have FRG:=jj (fun q p (hp:p∈l) m w h=>hfrags q p s m x y (x+1) (y+1) w h (hh.2.1 p hp) hs (area_px x y));rw[show decide (hidP l s/\shownP l s x y far)=decide (shownP l s x y far) by simp[hh]];obtain ⟨Z,hZ⟩:∃ Z,decide (shownP l s x y far)=Z:=⟨_,rfl⟩;rw[hZ];have Z1:=jj (show ∀ m,m=minZ far (frsH l s false x y (x+1) (y+1))->∀ f∈frsH l s true x y (x+1) (y+1),f.z<=m->Z=true from fun m e f hf q=>by rw[<-hZ];exact decide_eq_true ⟨f,hf,e▸q⟩);have Z2:=jj (show ∀ m,m=minZ far (frsH l s false x y (x+1) (y+1))->(∀ f∈frsH l s true x y (x+1) (y+1),m<f.z)->Z=false from fun m e k=>by rw[<-hZ];exact decide_eq_false fun ⟨f,hf,q⟩=>by have:=k f hf;have:=e▸q;omega);have w1:=IntWalk.i64_in (x+1) (by omega);have w2:=IntWalk.i64_in (y+1) (by omega);have HN:=jj h.n;obtain ⟨hl,av,cap,rfl,-,-⟩:=h.r;clear hZ hh RI0 h
 go_enter Tryz.func27,Tryz.ntmps27
 go_upto_region 5 with (first|(go_at_call 67;(with_reducible refine (RI.out _ (by repeat (first|with_reducible exact HP.out|with_reducible refine PolsR.ext ?_ _|with_reducible refine PolsR.alloc ?_ _|with_reducible refine PolsR.drew ?_))).mono ?_);rintro _ _ ⟨rfl,X_,rfl⟩))
 obtain ⟨Br,hBr⟩:∃ B,w.heap.size+1+X_.sz=B:=⟨_,rfl⟩;have hb:w.heap.size+1<=Br:=by omega
 refine wp_abs (F:=fun w1=>Row w1 w.heap.size #[.int .i64 s.factor,.int .i64 s.units,.bool s.ccw,.int .i64 s.cull,.int .i64 s.width,.int .i64 s.c0,.int .i64 s.c1,.int .i64 s.c2,.int .i64 s.c3] 48/\Row w1 Br #[.int .i64 x,.int .i64 y,.int .i64 (x+1),.int .i64 (y+1)] 29/\PolsR w1 (.slice av SL.length cap) SL l/\∃ X,w1=w.ext X) ⟨by exact rx_,by rw[<-hBr];exact rx_,by repeat (first|with_reducible exact HP.out|with_reducible refine PolsR.ext ?_ _|with_reducible refine PolsR.alloc ?_ _|with_reducible refine PolsR.drew ?_),jz (by exact bx_)⟩ ?_;rw[hBr];clear hBr;rintro w1 ⟨Ra,Rb,hp,hX⟩;have HX:=jj hX;have HQ:=jj hp;have ca:=Ra.cell;have fa:=Ra.frozen;have la:=Ra.lt;have la2:w.heap.size<w1.heap.size+1:=by omega
 have da:=World.rowD_of Ra;have cb:=Rb.cell;have fb:=Rb.frozen;have lb:=Rb.lt;have lb2:Br<w1.heap.size+1:=by omega
 obtain ⟨-,av',cap',he,-,hcl⟩:=hp.r;obtain ⟨rfl,rfl⟩:av=av'/\cap=cap':=by simpa using he
 have HCL:=jj hcl;clear Ra Rb hp hX hcl HP RI he;go_upto_region 6 with fail
 go_loopw [35,12] (fun i o wr=>∃ (j:Nat) (m:Int),j<=SL.length/\i=.int .i64 j/\o=.int .i64 m/\Hid (m=minZ far (frsH (l.take j) s false x y (x+1) (y+1)))/\∃ X,wr=w1.ext X)
  (fun i _ _=>SL.length-(intOf i).toNat)
 case atStart=>exact ⟨0,far,by omega,rfl,rfl,jj rfl,_,(ext_none' _).symm⟩
 case round =>
  obtain ⟨j,m,hj,rfl,rfl,hM,X,rfl⟩:=hrel
  by_cases hlt:j<SL.length
  ·have HJ:=jj (show j+1<=SL.length from hlt);have hji:(j:Int)<SL.length:=by omega
   obtain ⟨q,hq⟩:∃ f,SL[j]?=some f:=⟨_,List.getElem?_eq_getElem hlt⟩;obtain ⟨p,hp⟩:∃ f,l[j]?=some f:=⟨_,List.getElem?_eq_getElem (by rw[<-HN.out];exact hlt)⟩;rcases HCL.out with e|⟨gb,go,rfl,hgb,hcl⟩
   ·rw[e] at hlt;simp at hlt
   have pa0:w1.cell? ⟨gb,go+j*2,none⟩=some q.vs:=hcl j _ hq 0 _ rfl;have pa1:w1.cell? ⟨gb,go+j*2+1,none⟩=some q.es:=hcl j _ hq 1 _ rfl;have HR:=jj (HQ.out.p j _ _ hq hp);have FR:=jj (fun w h=>FRG.out q p (List.mem_of_getElem? hp) false w h);have HPJ:=jj hp;obtain ⟨D,hD⟩:∃ D,frsP p s false x y (x+1) (y+1)=D:=⟨_,rfl⟩;rw[hD] at FR;have HD:=jj hD;clear hcl hq hp hD;go_upto_region 9 with (first|(go_at_call 71;(with_reducible refine (FR.out _ (by repeat (first|with_reducible exact HR.out|with_reducible refine PolR.ext ?_ _|with_reducible refine PolR.alloc ?_ _|with_reducible refine PolR.drew ?_))).mono ?_);rintro _ _ ⟨vf,rfl,hf,⟨XF,rfl⟩⟩;have HFV:=jj hf;obtain ⟨-,dv,dcap,rfl,-,-⟩:=hf))
   refine wp_abs (F:=fun w2=>Recs frK w2 (.slice dv D.length dcap) D/\∃ X,w2=w1.ext X) ⟨HFV.out,jz (by exact br_)⟩ ?_;clear HFV FR HR pa0 pa1;rintro w2 ⟨hf,hX⟩;have HX2:=jj hX;obtain ⟨hfl,dv',dcap',hqd,-,hcl⟩:=hf;obtain ⟨rfl,rfl⟩:dv=dv'/\dcap=dcap':=by simpa using hqd
   have HDL:=jj hcl;clear hcl hX hqd;go_upto_region 9 with fail
   go_loopw [45,12] (fun i o wr=>∃ (k:Nat) (u:Int),k<=D.length/\i=.int .i64 k/\o=.int .i64 u/\Hid (u=minZ m (D.take k))/\∃ X,wr=w2.ext X)
    (fun i _ _=>D.length-(intOf i).toNat)
   case atStart=>exact ⟨0,m,by omega,rfl,rfl,jj rfl,_,(ext_none' _).symm⟩
   case round =>
    obtain ⟨k,u,hk,rfl,rfl,hU,X,rfl⟩:=hrel
    by_cases hkt:k<D.length
    ·have HK:=jj (show k+1<=D.length from hkt);have hki:(k:Int)<D.length:=by omega
     obtain ⟨f,hf⟩:∃ f,D[k]?=some f:=⟨_,List.getElem?_eq_getElem hkt⟩;rcases HDL.out with e|⟨db,d0,rfl,hdb,hcl⟩
     ·rw[e] at hkt;simp at hkt
     have pd0:w2.cell? ⟨db,d0+k*8,none⟩=some (.int .i64 f.x):=hcl k _ hf 0 _ rfl;have pd1:w2.cell? ⟨db,d0+k*8+1,none⟩=some (.int .i64 f.y):=hcl k _ hf 1 _ rfl;have pd2:w2.cell? ⟨db,d0+k*8+2,none⟩=some (.int .i64 f.z):=hcl k _ hf 2 _ rfl;have pd3:w2.cell? ⟨db,d0+k*8+3,none⟩=some (.int .i64 f.c0):=hcl k _ hf 3 _ rfl;have pd4:w2.cell? ⟨db,d0+k*8+4,none⟩=some (.int .i64 f.c1):=hcl k _ hf 4 _ rfl;have pd5:w2.cell? ⟨db,d0+k*8+5,none⟩=some (.int .i64 f.c2):=hcl k _ hf 5 _ rfl;have pd6:w2.cell? ⟨db,d0+k*8+6,none⟩=some (.int .i64 f.c3):=hcl k _ hf 6 _ rfl;have pd7:w2.cell? ⟨db,d0+k*8+7,none⟩=some (.int .i64 f.cov):=hcl k _ hf 7 _ rfl;have nxt:=jj (show min u f.z=minZ m (D.take (k+1)) by rw[take_next hf,minZ_snoc,<-hU.out]);clear hcl hf hU;go_wp2;go_roundw
     case rel=>exact ⟨k+1,min u f.z,HK.out,by go_num,rfl,nxt,jz (by exact br_)⟩
     case measure=>have:=HK.out;simp[intOf];omega
    ·obtain rfl:k=D.length:=by omega
     have nx:=jj (show u=minZ far (frsH (l.take (j+1)) s false x y (x+1) (y+1)) by rw[frsH_take HPJ.out,HD.out,minZ_append,<-hM.out,hU.out,List.take_length]);clear hM hU;go_wp2;go_roundw
     case rel =>
      obtain ⟨X0,hX0⟩:=HX2.out;subst hX0;exact ⟨j+1,u,HJ.out,by go_num,rfl,nx,jz (by exact br_)⟩
     case measure=>have:=HJ.out;simp[intOf];omega
  ·obtain rfl:j=SL.length:=by omega
   have hm:=hM.out;rw[HN.out,List.take_length] at hm;have HM:=jj hm;clear hm hM;go_upto_region 15 with fail
   go_loopw [57] (fun i wr=>∃ (j:Nat),j<=SL.length/\i=.int .i64 j/\Hid (∀ f∈frsH (l.take j) s true x y (x+1) (y+1),m<f.z)/\∃ X,wr=w1.ext X)
    (fun i _=>SL.length-(intOf i).toNat)
   case atStart=>exact ⟨0,by omega,rfl,jj (fun f hf=>by simp[frsH] at hf),_,rfl⟩
   case round =>
    obtain ⟨j,hj,rfl,hE,X,rfl⟩:=hrel
    by_cases hlt:j<SL.length
    ·have HJ:=jj (show j+1<=SL.length from hlt);have hji:(j:Int)<SL.length:=by omega
     obtain ⟨q,hq⟩:∃ f,SL[j]?=some f:=⟨_,List.getElem?_eq_getElem hlt⟩;obtain ⟨p,hp⟩:∃ f,l[j]?=some f:=⟨_,List.getElem?_eq_getElem (by rw[<-HN.out];exact hlt)⟩;rcases HCL.out with e|⟨gb,go,rfl,hgb,hcl⟩
     ·rw[e] at hlt;simp at hlt
     have pa0:w1.cell? ⟨gb,go+j*2,none⟩=some q.vs:=hcl j _ hq 0 _ rfl;have pa1:w1.cell? ⟨gb,go+j*2+1,none⟩=some q.es:=hcl j _ hq 1 _ rfl;have HR:=jj (HQ.out.p j _ _ hq hp);have FR:=jj (fun w h=>FRG.out q p (List.mem_of_getElem? hp) true w h);have HPJ:=jj hp;obtain ⟨D,hD⟩:∃ D,frsP p s true x y (x+1) (y+1)=D:=⟨_,rfl⟩;rw[hD] at FR;have HD:=jj hD;clear hcl hq hp hD;go_upto_region 18 with (first|(go_at_call 71;(with_reducible refine (FR.out _ (by repeat (first|with_reducible exact HR.out|with_reducible refine PolR.ext ?_ _|with_reducible refine PolR.alloc ?_ _|with_reducible refine PolR.drew ?_))).mono ?_);rintro _ _ ⟨vf,rfl,hf,⟨XF,rfl⟩⟩;have HFV:=jj hf;obtain ⟨-,dv,dcap,rfl,-,-⟩:=hf))
     refine wp_abs (F:=fun w2=>Recs frK w2 (.slice dv D.length dcap) D/\∃ X,w2=w1.ext X) ⟨HFV.out,jz (by exact br_)⟩ ?_;clear HFV FR HR pa0 pa1;rintro w2 ⟨hf,hX⟩;have HX2:=jj hX;obtain ⟨hfl,dv',dcap',hqd,-,hcl⟩:=hf;obtain ⟨rfl,rfl⟩:dv=dv'/\dcap=dcap':=by simpa using hqd
     have HDL:=jj hcl;clear hcl hX hqd;go_upto_region 18 with fail
     go_loopw [67] (fun i wr=>∃ (k:Nat),k<=D.length/\i=.int .i64 k/\Hid (∀ i f,i<k->D[i]?=some f->m<f.z)/\∃ X,wr=w2.ext X)
      (fun i _=>D.length-(intOf i).toNat)
     case atStart=>exact ⟨0,by omega,rfl,jj (fun i f hi=>by omega),_,(ext_none' _).symm⟩
     case round =>
      obtain ⟨k,hk,rfl,hU,X,rfl⟩:=hrel
      by_cases hkt:k<D.length
      ·have HK:=jj (show k+1<=D.length from hkt);have hki:(k:Int)<D.length:=by omega
       obtain ⟨f,hf⟩:∃ f,D[k]?=some f:=⟨_,List.getElem?_eq_getElem hkt⟩;rcases HDL.out with e|⟨db,d0,rfl,hdb,hcl⟩
       ·rw[e] at hkt;simp at hkt
       have pd0:w2.cell? ⟨db,d0+k*8,none⟩=some (.int .i64 f.x):=hcl k _ hf 0 _ rfl;have pd1:w2.cell? ⟨db,d0+k*8+1,none⟩=some (.int .i64 f.y):=hcl k _ hf 1 _ rfl;have pd2:w2.cell? ⟨db,d0+k*8+2,none⟩=some (.int .i64 f.z):=hcl k _ hf 2 _ rfl;have pd3:w2.cell? ⟨db,d0+k*8+3,none⟩=some (.int .i64 f.c0):=hcl k _ hf 3 _ rfl;have pd4:w2.cell? ⟨db,d0+k*8+4,none⟩=some (.int .i64 f.c1):=hcl k _ hf 4 _ rfl;have pd5:w2.cell? ⟨db,d0+k*8+5,none⟩=some (.int .i64 f.c2):=hcl k _ hf 5 _ rfl;have pd6:w2.cell? ⟨db,d0+k*8+6,none⟩=some (.int .i64 f.c3):=hcl k _ hf 6 _ rfl;have pd7:w2.cell? ⟨db,d0+k*8+7,none⟩=some (.int .i64 f.cov):=hcl k _ hf 7 _ rfl
       by_cases hz:f.z<=m
       ·have e:=Z1.out m HM.out f (frsH_mem (List.mem_of_getElem? HPJ.out) (by rw[HD.out];exact List.mem_of_getElem? hf)) hz;subst e;clear hcl hf hU hE Z1 Z2;go_wp2;go_ret;obtain ⟨X2,hX2⟩:=HX2.out;subst hX2;obtain ⟨X0,hX0⟩:=HX.out;subst hX0;exact Ret.of' rfl (by exact br_)
       ·have nxt:=jj (take_ok hU.out hf (show m<f.z by omega));clear hcl hf hU;go_wp2;go_roundw
        case rel=>exact ⟨k+1,HK.out,by go_num,nxt,jz (by exact br_)⟩
        case measure=>have:=HK.out;simp[intOf];omega
      ·obtain rfl:k=D.length:=by omega
       have nx:=jj (frsH_none HPJ.out HD.out hE.out (all_ok hU.out));clear hE hU;go_wp2;go_roundw
       case rel =>
        obtain ⟨X2,hX2⟩:=HX2.out;subst hX2;exact ⟨j+1,HJ.out,by go_num,nx,jz (by exact br_)⟩
       case measure=>have:=HJ.out;simp[intOf];omega
    ·obtain rfl:j=SL.length:=by omega
     have e:=Z2.out m HM.out (by have:=hE.out;rwa [HN.out,List.take_length] at this);subst e;clear hE Z1 Z2;go_wp2;go_ret;obtain ⟨X0,hX0⟩:=HX.out;subst hX0;exact Ret.of' rfl (by exact br_)
end Go.Proofs.YthcjfanigfgckaaGreat
