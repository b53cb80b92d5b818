import Derived.Test.YthcjfanigfgckaaGreatSHiddenOrder38
import Derived.Test.YthcjfanigfgckaaGreatSHiddenOrder39
set_option linter.unusedVariables false
set_option linter.unusedSimpArgs false
set_option maxRecDepth 100000
set_option maxHeartbeats 16000000
namespace Go.Proofs.YthcjfanigfgckaaGreat
open Go.RowKit
section
structure V3P where
 x:Int
 y:Int
 z:Int
structure PolP where
 v:List V3P
 e:List Bool
structure SkP where
 factor:Int
 units:Int
 ccw:Bool
 cull:Int
 width:Int
 c0:Int
 c1:Int
 c2:Int
 c3:Int
def V3P.ok (a:V3P):Prop:=amongP a.x (-1048576) 1048576/\amongP a.y (-1048576) 1048576/\amongP a.z 0 65536
instance v3Dec (a : V3P) : Decidable a.ok := by unfold V3P.ok; exact inferInstance
def PolP.ok (p:PolP):Prop:=(3<=p.v.length/\p.v.length<=64)/\p.e.length=p.v.length/\∀ a∈p.v,a.ok
instance polDec (p : PolP) : Decidable p.ok := by unfold PolP.ok; exact inferInstance
def SkP.hue (s:SkP):Prop:=amongP s.c0 0 255/\amongP s.c1 0 255/\amongP s.c2 0 255/\amongP s.c3 0 255
instance (s : SkP) : Decidable s.hue := by unfold SkP.hue; exact inferInstance
def SkP.num (s:SkP):Prop:=amongP s.factor (-65536) 65536/\amongP s.units (-16777216) 16777216/\amongP s.cull 0 3/\amongP s.width 1 64
instance (s : SkP) : Decidable s.num := by unfold SkP.num; exact inferInstance
def hidP (l:List PolP) (s:SkP):Prop:=l.length<=64/\(∀ p∈l,p.ok)/\s.hue/\s.num
instance (l : List PolP) (s : SkP) : Decidable (hidP l s) := by unfold hidP; exact inferInstance
def lvl (z:Int):Int:=16777215*z/65536
def V3P.win (a:V3P) (s:SkP):WinP:=⟨a.x,a.y,lvl a.z,s.c0,s.c1,s.c2,s.c3⟩
def faceW (p:PolP) (s:SkP):List WinP:=p.v.map (fun a=>a.win s)
def lookH (s:SkP) (m:Bool):LookP:=⟨s.width,false,false,65535,1,0,1,0,if m then 1 else 0,if m then 1 else 0,s.ccw,s.cull,!m,s.factor,s.units⟩
def frsP (p:PolP) (s:SkP) (m:Bool) (x0 y0 x1 y1:Int):List FrP:=drawL (faceW p s) p.e (lookH s m) x0 y0 x1 y1
def frsH (l:List PolP) (s:SkP) (m:Bool) (x0 y0 x1 y1:Int):List FrP:=l.flatMap (fun p=>frsP p s m x0 y0 x1 y1)
theorem lookH_mode (L:List WinP) (s:SkP) (m:Bool):modeK L (lookH s m)=if m then 1 else 0:=by
 unfold modeK lookH;simp
theorem frsP_form (p:PolP) (s:SkP) (m:Bool) (x0 y0 x1 y1:Int):frsP p s m x0 y0 x1 y1=if showP (faceW p s) p.e (lookH s m) x0 y0 x1 y1 then (if m then facL (faceW p s) p.e (lookH s m) x0 y0 x1 y1 else faceF (faceW p s) (lookH s m) x0 y0 x1 y1) else []:=by
 unfold frsP drawL;rw[lookH_mode];cases m<;>simp
section
variable {p0 q0 p1 q1 x0 y0 x1 y1:Int} {f:FrP}
theorem frsP_less {p:PolP} {s:SkP} {m:Bool} (h:Sub p0 q0 p1 q1 x0 y0 x1 y1):f∈frsP p s m p0 q0 p1 q1↔f∈frsP p s m x0 y0 x1 y1/\frIn p0 q0 p1 q1 f=true:=by
 rw[frsP_form,frsP_form];have e:showP (faceW p s) p.e (lookH s m) p0 q0 p1 q1↔showP (faceW p s) p.e (lookH s m) x0 y0 x1 y1:=by
  unfold showP;exact ⟨fun k=>⟨k.1,k.2.1,h.R,k.2.2.2⟩,fun k=>⟨k.1,k.2.1,h.r,k.2.2.2⟩⟩
 by_cases k:showP (faceW p s) p.e (lookH s m) x0 y0 x1 y1
 ·rw[if_pos (e.2 k),if_pos k];cases m
  ·exact faceF_less h
  ·exact facL_less rfl h
 ·rw[if_neg fun q=>k (e.1 q),if_neg k];simp
theorem frsP_fits {p:PolP} {s:SkP} {m:Bool} (h:f∈frsP p s m x0 y0 x1 y1):f.fits/\frIn x0 y0 x1 y1 f=true:=by
 rw[frsP_form] at h
 split at h
 ·rename_i k
  cases m
  ·exact faceF_fits k.1.2.2 h
  ·exact facL_fits rfl h
 ·simp at h
theorem frsP_line {p:PolP} {s:SkP} (h:f∈frsP p s true x0 y0 x1 y1):LineF s.c0 s.c1 s.c2 s.c3 f:=by
 have hq:=(frsP_fits h).1;rw[frsP_form] at h
 split at h
 ·rename_i k
  have:=facL_color (L:=faceW p s) (k:=lookH s true) rfl k.1.2.1 (c0:=s.c0) (c1:=s.c1) (c2:=s.c2) (c3:=s.c3) (fun a ha=>by
   obtain ⟨v,-,rfl⟩:=List.mem_map.1 ha;exact ⟨rfl,rfl,rfl,rfl⟩) h
  exact ⟨hq,⟨this.1,this.2.1,this.2.2.1,this.2.2.2.1⟩,this.2.2.2.2⟩
 ·simp at h
theorem frsH_less {l:List PolP} {s:SkP} {m:Bool} (h:Sub p0 q0 p1 q1 x0 y0 x1 y1):f∈frsH l s m p0 q0 p1 q1↔f∈frsH l s m x0 y0 x1 y1/\frIn p0 q0 p1 q1 f=true:=by
 unfold frsH;simp only[List.mem_flatMap]
 constructor
 ·rintro ⟨p,hp,q⟩;have:=(frsP_less h).1 q;exact ⟨⟨p,hp,this.1⟩,this.2⟩
 ·rintro ⟨⟨p,hp,q⟩,hf⟩;exact ⟨p,hp,(frsP_less h).2 ⟨q,hf⟩⟩
theorem frsH_fits {l:List PolP} {s:SkP} {m:Bool} (h:f∈frsH l s m x0 y0 x1 y1):f.fits/\frIn x0 y0 x1 y1 f=true:=by
 obtain ⟨p,-,q⟩:=List.mem_flatMap.1 h;exact frsP_fits q
theorem frsH_line {l:List PolP} {s:SkP} (h:f∈frsH l s true x0 y0 x1 y1):LineF s.c0 s.c1 s.c2 s.c3 f:=by
 obtain ⟨p,-,q⟩:=List.mem_flatMap.1 h;exact frsP_line q
end
theorem px_sub {W H:Int} {C Z:List Int} (h:ImOk W H C Z) {k:Nat} (hk:k<C.length):Sub ((k:Int)%W) ((k:Int)/W) ((k:Int)%W+1) ((k:Int)/W+1) 0 0 W H:=by
 obtain ⟨⟨h1,h2,h3,h4⟩,-⟩:=kth h hk;obtain ⟨w0,w1,h0,hh,-,-,-,-⟩:=h;refine ⟨?_,?_,by omega⟩<;>unfold rightP<;>omega
theorem px_in {x y:Int} {f:FrP}:frIn x y (x+1) (y+1) f=true↔f.x=x/\f.y=y:=by
 rw[frIn_iff];omega
def shownP (l:List PolP) (s:SkP) (x y far:Int):Prop:=∃ f∈frsH l s true x y (x+1) (y+1),f.z<=minZ far (frsH l s false x y (x+1) (y+1))
instance (l : List PolP) (s : SkP) (x y far : Int) : Decidable (shownP l s x y far) := by unfold shownP; exact inferInstance
def hidImg (l:List PolP) (s:SkP) (W H:Int) (C Z:List Int):List Int×List Int:=imgF (opsH true) W H (imgF (opsH false) W H (C,Z) (frsH l s false 0 0 W H)) (frsH l s true 0 0 W H)
section
variable {W H:Int} {C Z:List Int} {l:List PolP} {s:SkP} {k:Nat}
theorem least_px (h:ImOk W H C Z) (hk:k<C.length) (z:Int):leastF W k z (frsH l s false 0 0 W H)=minZ z (frsH l s false ((k:Int)%W) ((k:Int)/W) ((k:Int)%W+1) ((k:Int)/W+1)):=by
 refine eq_of_le fun m=>?_
 rw[le_leastF,le_minZ];have sb:=px_sub h hk;refine and_congr_right fun _=>?_
 constructor
 ·intro q f hf;have k1:=(frsH_less sb).1 hf;have k2:=px_in.1 k1.2;exact q f k1.1 ⟨k2.1,k2.2,(frsH_fits hf).1⟩
 ·rintro q f hf ⟨k1,k2,-⟩;exact q f ((frsH_less sb).2 ⟨hf,px_in.2 ⟨k1,k2⟩⟩)
theorem hid_z (h:ImOk W H C Z) (hk:k<C.length):elt (hidImg l s W H C Z).2 k=leastF W k (elt Z k) (frsH l s false 0 0 W H):=by
 unfold hidImg;rw[edges_z];exact faces_at h _ hk
theorem hid_c (h:ImOk W H C Z) (hk:k<C.length):elt (hidImg l s W H C Z).1 k=if shownP l s ((k:Int)%W) ((k:Int)/W) (elt Z k) then pk s.c0 s.c1 s.c2 s.c3 else elt C k:=by
 unfold hidImg;have ok:=imgF_ok (o:=opsH false) (L:=frsH l s false 0 0 W H) (s:=(C,Z)) h;have e1:(imgF (opsH false) W H (C,Z) (frsH l s false 0 0 W H)).1=C:=dull_all h;have e2:=faces_at h (frsH l s false 0 0 W H) hk;rw[least_px h hk] at e2;obtain ⟨C1,Z1,hI⟩:∃ a b,imgF (opsH false) W H (C,Z) (frsH l s false 0 0 W H)=(a,b):=⟨_,_,rfl⟩;rw[hI] at ok e1 e2 ⊢;simp only at ok e1 e2;subst e1;rw[edges_at (fun f hf=>frsH_line hf) ok hk,e2];have sb:=px_sub h hk;have:(∃ f∈frsH l s true 0 0 W H,nearF W k (minZ (elt Z k) (frsH l s false ((k:Int)%W) ((k:Int)/W) ((k:Int)%W+1) ((k:Int)/W+1))) f)↔shownP l s ((k:Int)%W) ((k:Int)/W) (elt Z k):=by
  unfold shownP
  constructor
  ·rintro ⟨f,hf,⟨h1,h2⟩,h3⟩;exact ⟨f,(frsH_less sb).2 ⟨hf,px_in.2 ⟨h1,h2⟩⟩,h3⟩
  ·rintro ⟨f,hf,h3⟩;have k1:=(frsH_less sb).1 hf;exact ⟨f,k1.1,px_in.1 k1.2,h3⟩
 by_cases q:shownP l s ((k:Int)%W) ((k:Int)/W) (elt Z k)
 ·rw[if_pos (this.2 q),if_pos q]
 ·rw[if_neg fun e=>q (this.1 e),if_neg q]
theorem hid_ok (h:ImOk W H C Z):ImOk W H (hidImg l s W H C Z).1 (hidImg l s W H C Z).2:=imgF_ok (imgF_ok (s:=(C,Z)) h)
theorem hid_len:(hidImg l s W H C Z).1.length=C.length/\(hidImg l s W H C Z).2.length=Z.length:=by
 unfold hidImg;rw[imgF_len.1,imgF_len.2,imgF_len.1,imgF_len.2];exact ⟨rfl,rfl⟩
end
theorem elt_ext {a b:List Int} (hl:a.length=b.length) (h:∀ i,i<a.length->elt a i=elt b i):a=b:=by
 apply List.ext_getElem?
 intro i
 by_cases hi:i<a.length
 ·have:=h i hi;have hb:i<b.length:=by omega
  unfold elt at this;simp only[List.getD_eq_getElem?_getD,List.getElem?_eq_getElem hi,List.getElem?_eq_getElem hb,Option.getD_some] at this ⊢;rw[this]
 ·rw[List.getElem?_eq_none (by omega),List.getElem?_eq_none (by omega)]
theorem hid_same {l l':List PolP} (hm:∀ p,p∈l↔p∈l') {s:SkP} {W H:Int} {C Z:List Int} (h:ImOk W H C Z):hidImg l s W H C Z=hidImg l' s W H C Z:=by
 have hf:∀ (m:Bool) (x0 y0 x1 y1:Int) (f:FrP),f∈frsH l s m x0 y0 x1 y1↔f∈frsH l' s m x0 y0 x1 y1:=fun m x0 y0 x1 y1 f=>by
  unfold frsH;simp only[List.mem_flatMap,hm]
 have hz:∀ z x y,minZ z (frsH l s false x y (x+1) (y+1))=minZ z (frsH l' s false x y (x+1) (y+1)):=fun z x y=>eq_of_le fun m=>by
  rw[le_minZ,le_minZ];simp only[hf]
 have hs:∀ x y far,shownP l s x y far↔shownP l' s x y far:=fun x y far=>by
  unfold shownP;simp only[hf,hz]
 refine Prod.ext (elt_ext (by rw[hid_len.1,hid_len.1]) fun i hi=>?_) (elt_ext (by rw[hid_len.2,hid_len.2]) fun i hi=>?_)
 ·rw[hid_len.1] at hi;rw[hid_c h hi,hid_c h hi]
  by_cases q:shownP l s ((i:Int)%W) ((i:Int)/W) (elt Z i)
  ·rw[if_pos q,if_pos ((hs _ _ _).1 q)]
  ·rw[if_neg q,if_neg fun e=>q ((hs _ _ _).2 e)]
 ·rw[hid_len.2,h.same] at hi;rw[hid_z h hi,hid_z h hi,least_px h hi,least_px h hi,hz]
theorem imgF_polys (o:OpsP) (W H:Int) (s:SkP) (m:Bool) (x0 y0 x1 y1:Int) (l:List PolP) (S:List Int×List Int) (k:Nat) (p:PolP) (h:l[k]?=some p) :
  imgF o W H S (frsH (l.take (k+1)) s m x0 y0 x1 y1)=imgF o W H (imgF o W H S (frsH (l.take k) s m x0 y0 x1 y1)) (frsP p s m x0 y0 x1 y1):=by
 rw[<-imgF_append,List.take_add_one,h];unfold frsH;rw[List.flatMap_append];simp
end
end Go.Proofs.YthcjfanigfgckaaGreat
