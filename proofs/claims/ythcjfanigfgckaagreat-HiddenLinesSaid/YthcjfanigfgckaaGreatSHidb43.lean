import Derived.Test.YthcjfanigfgckaaGreatSHidb23
import Derived.Test.YthcjfanigfgckaaGreatSHidb41
set_option linter.unusedVariables false
set_option linter.unusedSimpArgs false
set_option maxRecDepth 100000
set_option maxHeartbeats 16000000
namespace Go.Proofs.YthcjfanigfgckaaGreat
open Go.RowKit _root_.Go.Proofs.Tryz
instance jh42 : Coe Nat Value := ⟨fun n => .int .i64 n⟩
abbrev o25:OpsP:=⟨false,0,0,0,0,true,1,true,false,0,0,false,false,false,false⟩
abbrev f25:FrP:=⟨0,0,5,0,0,0,0,64⟩
theorem c25:sH o25 f25 1 1 [0] [6]=[0]:=by decide
def Frs (w:World) (v:Value) (L:List FrP):Prop :=
 (∀ f∈L,f.ok)/\L.length<=1099511627776/\∃ a cap,v=.slice a L.length cap/\L.length<=cap /\
  (L=[]\/∃ b off,a=some ⟨b,off,none⟩/\b<w.heap.size/\∀ i f,L[i]?=some f->∀ j u,f.cells[j]?=some u->w.cell? ⟨b,off+i*8+j,none⟩=some u)
theorem Frs.chg {p:Nat->Prop} {w w1:World} {v:Value} {L:List FrP} (h:Frs w v L) (hc:Chg p w w1) (hb:∀ b,v.ownBlock=some b->L≠[]->b<w.heap.size->¬p b):Frs w1 v L:=by
 obtain ⟨h0,h1,a,cap,rfl,h2,h3⟩:=h;refine ⟨h0,h1,a,cap,rfl,h2,?_⟩
 by_cases hne:L=[]
 ·exact .inl hne
 rcases h3 with h3|⟨b,off,rfl,hb',hcl⟩
 ·exact .inl h3
 ·exact .inr ⟨b,off,rfl,Nat.lt_of_lt_of_le hb' hc.size,fun i f hi j u hj=>by rw[hc.cell hb' (hb b rfl hne hb')];exact hcl i f hi j u hj⟩
theorem Frs.own {w:World} {v:Value} {L:List FrP} (h:Frs w v L):∀ b,v.ownBlock=some b->L≠[]->b<w.heap.size:=by
 obtain ⟨h0,h1,a,cap,rfl,h2,h3⟩:=h;intro b hb hne;rcases h3 with h3|⟨b',off,rfl,hb',hcl⟩
 ·exact absurd h3 hne
 ·simp[Value.ownBlock] at hb;omega
theorem Frs.ext {w:World} {v:Value} {L:List FrP} (h:Frs w v L) (X:Xt):Frs (w.ext X) v L:=h.chg (p:=fun _=>False) (Chg.of_ext X) (fun _ _ _ _ h=>h)
def kP (o:OpsP) (W H:Int) (s:List Int×List Int×Int) (f:FrP):List Int×List Int×Int :=
 (sH o f W H s.1 s.2.1,sG o f W H s.2.1,if sI o f W H s.2.1 then s.2.2+1 else s.2.2)
def aBj (o:OpsP) (W H:Int) (C Z:List Int) (L:List FrP):List Int×List Int×Int:=L.foldl (kP o W H) (C,Z,0)
theorem aIa (o:OpsP) (W H:Int) (C Z:List Int) (L:List FrP) (k:Nat) (hk:k<L.length):aBj o W H C Z (L.take (k+1))=kP o W H (aBj o W H C Z (L.take k)) L[k]:=by
 unfold aBj;rw[List.take_succ_eq_append_getElem hk,List.foldl_append];rfl
theorem aOg (o:OpsP) (W H:Int) (C Z:List Int) (L:List FrP):0<=(aBj o W H C Z L).2.2/\(aBj o W H C Z L).2.2<=L.length:=by
 have:∀ (L:List FrP) (s:List Int×List Int×Int),s.2.2<=(L.foldl (kP o W H) s).2.2/\(L.foldl (kP o W H) s).2.2<=s.2.2+L.length:=by
  intro L
  induction L with
  |nil=>intro s;simp
  |cons f L ih =>
   intro s;have:=ih (kP o W H s f);simp only[List.foldl_cons,List.length_cons];have h2:s.2.2<=(kP o W H s f).2.2/\(kP o W H s f).2.2<=s.2.2+1:=by unfold kP;simp only;split<;>omega
   omega
 have:=this L (C,Z,0);unfold aBj;simp only at this;omega
structure Run (w wr:World) (bm g1 k1 g2 k2:Nat) (W H:Int) (o:OpsP) (v:Value) (L:List FrP) (s:List Int×List Int×Int):Prop where
 im:Img wr bm g1 k1 g2 k2 W H s.1 s.2.1
 o:Row wr w.heap.size #[.bool o.cut,o.x0,o.y0,o.x1,o.y1,.bool o.deep,o.fn,.bool o.keep,.bool o.mix,o.sf,o.df,.bool o.m0,.bool o.m1,.bool o.m2,.bool o.m3] 119
 l:Frs wr v L
 lt:bm<w.heap.size/\g1<w.heap.size/\g2<w.heap.size
 chg:Chg (fun k=>k=g1\/k=g2) w wr
theorem Run.step {w wr w2:World} {bm g1 k1 g2 k2:Nat} {W H:Int} {o:OpsP} {v:Value} {L:List FrP} {s s':List Int×List Int×Int} (h:Run w wr bm g1 k1 g2 k2 W H o v L s)
  (c1:Chg (fun k=>k=g1\/k=g2) wr w2) (hv:∀ b,v.ownBlock=some b->L≠[]->b≠g1/\b≠g2) (hI:Img w2 bm g1 k1 g2 k2 W H s'.1 s'.2.1):Run w w2 bm g1 k1 g2 k2 W H o v L s':=by
 obtain ⟨im,o',l,lt,chg⟩:=h;exact ⟨hI,c1.row o' (by omega),l.chg c1 (fun b hb hne _ h=>by have:=hv b hb hne;omega),lt,chg.trans c1⟩
theorem aH9 {w:World} {bm g1 k1 g2 k2:Nat} {W H:Int} {C Z:List Int} {v:Value} {L:List FrP} (hI:Img w bm g1 k1 g2 k2 W H C Z) (o:OpsP) (ho:o.ok) (hL:Frs w v L) (hv:∀ b,v.ownBlock=some b->L≠[]->b≠g1/\b≠g2) :
  Calls prog 72 #[.pointer (some ⟨bm,0,none⟩),o.v,v] w (aIi bm g1 k1 g2 k2 W H (aBj o W H C Z L).1 (aBj o W H C Z L).2.1 (.int .i64 (aBj o W H C Z L).2.2) w):=by
 have HL:=hL;have hL2:=hL.2.1;have HV:=jj hv;obtain ⟨-,-,a,cap,rfl,hcap,-⟩:=hL;clear hv;have lt:bm<w.heap.size/\g1<w.heap.size/\g2<w.heap.size:=⟨hI.row.lt,hI.c.lt,hI.z.lt⟩
 go_enter func72,ntmps72
 go_wp2;go_loopw [7,12] (fun n i wr=>∃ k:Nat,k<=L.length/\i=.int .i64 k/\n=.int .i64 (aBj o W H C Z (L.take k)).2.2/\Run w wr bm g1 k1 g2 k2 W H o (.slice a L.length cap) L (aBj o W H C Z (L.take k)))
  (fun _ i _=>L.length-(intOf i).toNat)
 case atStart=>exact ⟨0,by omega,rfl,rfl,⟨by show Img _ _ _ _ _ _ _ _ C Z;(repeat (first|assumption|with_reducible refine Img.ext ?_ _|with_reducible refine Img.alloc ?_ _|with_reducible refine Img.drew ?_)),by exact rx_,HL.chg (p:=fun _=>False) (by (repeat (first|exact Chg.refl|with_reducible refine Chg.drew ?_|with_reducible refine Chg.ext ?_ _|with_reducible refine Chg.alloc ?_ _|(with_reducible refine Chg.setCell ?_ (fun hlt_=>absurd hlt_ (by first|omega|(simp;omega))) _)))) (fun _ _ _ _ h=>h),lt,Chg.mono (by (repeat (first|exact Chg.refl|with_reducible refine Chg.drew ?_|with_reducible refine Chg.ext ?_ _|with_reducible refine Chg.alloc ?_ _|(with_reducible refine Chg.setCell ?_ (fun hlt_=>absurd hlt_ (by first|omega|(simp;omega))) _))):Chg (fun _=>False) _ _) (fun _ _ h=>h.elim)⟩⟩
 case round =>
  obtain ⟨k,hk,rfl,rfl,RU⟩:=hrel;obtain ⟨n0,n1⟩:=aOg o W H C Z (L.take k);have n2:(L.take k).length<=k:=List.length_take_le _ _
  by_cases hlt:k<L.length
  ·have HS:=jj (aIa o W H C Z L k hlt);generalize aBj o W H C Z (L.take k)=s at *;obtain ⟨lf,-,a1,cap1,q1,-,h3⟩:=RU.l;rcases h3 with rfl|⟨b,off,rfl,hb,hcl⟩
   ·simp at hlt
   obtain ⟨rfl,rfl⟩:a=some ⟨b,off,none⟩/\cap=cap1:=by simpa using q1
   have hfk:L[k]?=some L[k]:=by simp[hlt]
   have hf:=lf L[k] (by simp);have cl:=hcl k L[k] hfk;clear q1 hcl lf;generalize hF:L[k]=f at *;have HF:=jj hF;clear hF hfk;have d0:=cl 0 _ rfl;have d1:=cl 1 _ rfl;have d2:=cl 2 _ rfl;have d3:=cl 3 _ rfl;have d4:=cl 4 _ rfl;have d5:=cl 5 _ rfl;have d6:=cl 6 _ rfl;have d7:=cl 7 _ rfl;have qD:=World.rowD_of RU.o;have q0:=RU.o.cell 0;have q1:=RU.o.cell 1;have q2:=RU.o.cell 2;have q3:=RU.o.cell 3;have q4:=RU.o.cell 4;have q5:=RU.o.cell 5;have q6:=RU.o.cell 6;have q7:=RU.o.cell 7;have q8:=RU.o.cell 8;have q9:=RU.o.cell 9;have q10:=RU.o.cell 10;have q11:=RU.o.cell 11;have q12:=RU.o.cell 12;have q13:=RU.o.cell 13;have q14:=RU.o.cell 14;simp at q0 q1 q2 q3 q4 q5 q6 q7 q8 q9 q10 q11 q12 q13 q14;simp only[Nat.add_zero] at d0;clear cl;have zr:=RU.chg.size;have zo:=RU.o.lt;have hb':b<=wr.heap.size:=by omega
   obtain ⟨wo,rfl⟩:∃ wo,wo=wr:=⟨_,rfl⟩;have hsn:s.2.2<=1099511627776:=by omega
   clear n1 n2;cases hb1:sI o f W H s.2.1
   all_goals
    have HB1:=jj hb1;clear hb1
    go_wp2_with fail
    refine (aNg (RU.im.alloc _) o f ho hf).mono ?_;rw[HB1.out];rintro _ w2 ⟨rfl,I2,C2⟩;have RU2:=RU.step (s':=kP o W H s f) ((Chg.refl.alloc _).trans C2) HV.out I2;go_wp2;go_roundw
    case rel=>exact ⟨k+1,by omega,by go_num,by rw[HS.out];simp[kP,HB1.out],by rw[HS.out];exact RU2⟩
    case measure=>simp[intOf];omega
  ·obtain rfl:k=L.length:=by omega
   rw[List.take_length] at *;go_wp2;go_ret;exact ⟨rfl,RU.im,RU.chg⟩
def aLa (W:Int) (i:Nat) (f:FrP):Prop:=f.x=(i:Int)%W/\f.y=(i:Int)/W/\f.fits
instance (W : Int) (i : Nat) (f : FrP) : Decidable (aLa W i f) := by unfold aLa; exact inferInstance
def aIo (W:Int) (i:Nat) (z:Int) (f:FrP):Int:=if aLa W i f then min z f.z else z
def gE (W:Int) (i:Nat) (z:Int) (L:List FrP):Int:=L.foldl (aIo W i) z
structure Keeps (o:OpsP):Prop where
 right:o.right
 cut:o.cut=false
 deep:o.deep=true
 keep:o.keep=true
 fn:o.fn=1\/o.fn=3
theorem aAm {W H:Int} {C Z0 Z:List Int} (h:ImOk W H C Z0) (hl:Z.length=C.length) {x y u:Int} (k:Nat) (hk:k<C.length):elt (aE3 W H Z x y u) k=if x=(k:Int)%W/\y=(k:Int)/W then u else elt Z k:=by
 obtain ⟨h1,h2⟩:=kth h hk;unfold aE3
 by_cases hx:x=(k:Int)%W/\y=(k:Int)/W
 ·obtain ⟨rfl,rfl⟩:=hx;rw[if_pos h1,h2,lF _ _ _ _ (by simp;omega),if_pos (by simp)];simp
 ·rw[if_neg hx]
  split
  ·rename_i hi
   have:=(yS h hi).1;rw[lF _ _ _ _ (by omega),if_neg];intro e;subst e;have:=aL1 hi;exact hx ⟨this.1.symm,this.2.symm⟩
  ·rfl
theorem aL5 {W H:Int} {C Z0 Z:List Int} (h:ImOk W H C Z0) (k:Nat) (hk:k<C.length):oC id W H Z ((k:Int)%W) ((k:Int)/W)=elt Z k:=by
 obtain ⟨h1,h2⟩:=kth h hk;unfold oC;rw[if_pos h1,h2];simp
theorem aJ0 {o:OpsP} (ho:Keeps o) {W H:Int} {C Z0 Z:List Int} (h:ImOk W H C Z0) (hl:Z.length=C.length) (f:FrP) (k:Nat) (hk:k<C.length):elt (sG o f W H Z) k=aIo W k (elt Z k) f:=by
 obtain ⟨h1,h2⟩:=kth h hk;obtain ⟨hr,hc,hd,hkp,hfn⟩:=ho;unfold sG aIo;have hb:sI o f W H Z=(decide f.fits&&(decide (inB W H f.x f.y)&&decide (dT o.fn f.z (oC id W H Z f.x f.y)))):=by
  unfold sI ref? aLo OpsP.has OpsP.pass;simp[hr,hc,hd]
 by_cases ha:aLa W k f
 ·rw[if_pos ha];obtain ⟨ax,ay,af⟩:=ha;have hi:inB W H f.x f.y:=by rw[ax,ay];exact h1
  have hg:oC id W H Z f.x f.y=elt Z k:=by rw[ax,ay];exact aL5 h k hk
  rw[hg] at hb;rw[hb]
  by_cases hp:dT o.fn f.z (elt Z k)
  ·simp only[af,hi,hp,hd,hkp,decide_true,Bool.and_self,if_true];rw[aAm h hl k hk,if_pos ⟨ax,ay⟩];unfold dT at hp;omega
  ·simp only[hp,decide_false,Bool.and_false,Bool.false_and,Bool.false_eq_true,if_false];unfold dT at hp;omega
 ·rw[if_neg ha]
  split
  ·rename_i hx
   have hf:f.fits:=by
    rw[hb] at hx;simp at hx;exact hx.1.1
   rw[aAm h hl k hk,if_neg fun hx=>ha ⟨hx.1,hx.2,hf⟩]
  ·rfl
theorem aF9 {o:OpsP} (ho:Keeps o) {W H:Int} {C Z0:List Int} (h:ImOk W H C Z0) (k:Nat) (hk:k<C.length) (L:List FrP) :
  ∀ (s:List Int×List Int×Int),s.2.1.length=C.length->elt (L.foldl (kP o W H) s).2.1 k=gE W k (elt s.2.1 k) L:=by
 induction L with
 |nil=>intro s _;rfl
 |cons f L ih =>
  intro s hs;rw[List.foldl_cons,ih _ (by unfold kP;simp only;rw[show (sG o f W H s.2.1).length=s.2.1.length from by unfold sG aE3;split<;>(try split)<;>simp];exact hs)];unfold gE;rw[List.foldl_cons]
  congr 1
  exact aJ0 ho h hs f k hk
theorem yO (W:Int) (i:Nat) (z:Int) (L:List FrP) (k:Nat) (hk:k<L.length):gE W i z (L.take (k+1))=aIo W i (gE W i z (L.take k)) L[k]:=by
 unfold gE;rw[List.take_succ_eq_append_getElem hk,List.foldl_append];rfl
def iG (m:Bool):OpsP:=if m then ⟨false,0,0,0,0,true,3,false,false,0,0,true,true,true,true⟩ else ⟨false,0,0,0,0,true,1,true,false,0,0,false,false,false,false⟩
def kH (o:OpsP) (W H:Int) (s:List Int×List Int) (L:List FrP):List Int×List Int:=L.foldl (fun s f=>(sH o f W H s.1 s.2,sG o f W H s.2)) s
theorem yU (o:OpsP) (W H:Int) (s:List Int×List Int) (A B:List FrP):kH o W H s (A++B)=kH o W H (kH o W H s A) B:=by unfold kH;rw[List.foldl_append]
theorem gY (o:OpsP) (W H:Int) (s:List Int×List Int) (f:FrP) (L:List FrP):kH o W H s (f::L)=kH o W H (sH o f W H s.1 s.2,sG o f W H s.2) L:=rfl
theorem uF (o:OpsP) (W H:Int) (C Z:List Int) (L:List FrP):(aBj o W H C Z L).1=(kH o W H (C,Z) L).1/\(aBj o W H C Z L).2.1=(kH o W H (C,Z) L).2:=by
 have:∀ (L:List FrP) (s:List Int×List Int×Int),(L.foldl (kP o W H) s).1=(kH o W H (s.1,s.2.1) L).1/\(L.foldl (kP o W H) s).2.1=(kH o W H (s.1,s.2.1) L).2:=by
  intro L
  induction L with
  |nil=>intro s;exact ⟨rfl,rfl⟩
  |cons f L ih =>
   intro s;rw[List.foldl_cons,gY];exact ih (kP o W H s f)
 exact this L (C,Z,0)
theorem x8 {o:OpsP} {f:FrP} {W H:Int} {C Z:List Int} (h:ImOk W H C Z):ImOk W H (sH o f W H C Z) (sG o f W H Z):=by
 have hc:ImOk W H (sH o f W H C Z) Z:=by
  unfold sH
  split
  ·rename_i hb
   unfold sI at hb;simp only[Bool.and_eq_true,decide_eq_true_eq] at hb;unfold aDd
   split
   ·rename_i hi
    exact h.setC _ (yS h hi).1 (aFv _ _ _ _ _ _ _ _ _ (aGb hb.1.1 hb.1.2 W H C))
   ·exact h
  ·exact h
 unfold sG
 split
 ·rename_i hb
  unfold sI at hb;simp only[Bool.and_eq_true,decide_eq_true_eq] at hb;unfold aE3
  split
  ·rename_i hi
   obtain ⟨⟨⟨-,hf⟩,-⟩,-⟩:=hb;unfold FrP.fits at hf;exact hc.setZ _ (yS h hi).2 (by omega)
  ·exact hc
 ·exact hc
theorem vG (o:OpsP) (f:FrP) (W H:Int) (C Z:List Int):(sH o f W H C Z).length=C.length:=by
 unfold sH aDd
 repeat' split
 all_goals simp
theorem aFk (o:OpsP) (f:FrP) (W H:Int) (Z:List Int):(sG o f W H Z).length=Z.length:=by
 unfold sG aE3
 repeat' split
 all_goals simp
theorem aGi {o:OpsP} {W H:Int}:∀ {L:List FrP} {s:List Int×List Int},ImOk W H s.1 s.2->ImOk W H (kH o W H s L).1 (kH o W H s L).2
 | [],s,h=>h
 |f::L,s,h=>by
  rw[gY];exact aGi (L:=L) (s:=(sH o f W H s.1 s.2,sG o f W H s.2)) (x8 h)
theorem imgF_len {o:OpsP} {W H:Int}:∀ {L:List FrP} {s:List Int×List Int},(kH o W H s L).1.length=s.1.length/\(kH o W H s L).2.length=s.2.length
 | [],s=>⟨rfl,rfl⟩
 |f::L,s=>by
  rw[gY];have:=imgF_len (o:=o) (W:=W) (H:=H) (L:=L) (s:=(sH o f W H s.1 s.2,sG o f W H s.2));simp only at this;rw[this.1,this.2];exact ⟨vG o f W H s.1 s.2,aFk o f W H s.2⟩
theorem aJb (l:List Int) (i:Nat):l.set i (elt l i)=l:=by
 apply List.ext_getElem?
 intro j
 by_cases h:i=j
 ·subst h
  by_cases hi:i<l.length
  ·simp[elt,hi]
  ·rw[List.getElem?_eq_none (by simp;omega),List.getElem?_eq_none (by omega)]
 ·rw[List.getElem?_set_ne h]
theorem aKy {f:FrP} {W H:Int} {C Z:List Int} (h:ImOk W H C Z):sH (iG false) f W H C Z=C:=by
 unfold sH
 split
 ·unfold aDd
  split
  ·rename_i hi
   have hl:=(yS h hi).1;have hb:=h.cs _ hl;unfold aLu;simp only[iG,if_false,Bool.false_eq_true];rw[aPo hb.1 hb.2,aJb]
  ·rfl
 ·rfl
theorem aA7 {W H:Int}:∀ {L:List FrP} {C Z:List Int},ImOk W H C Z->(kH (iG false) W H (C,Z) L).1=C
 | [],C,Z,h=>rfl
 |f::L,C,Z,h=>by
  rw[gY];have k:=x8 (o:=iG false) (f:=f) h;simp only;rw[aKy h] at k ⊢;exact aA7 k
theorem aPz:Keeps (iG false):=⟨by decide,rfl,rfl,rfl,.inl rfl⟩
theorem aA3 {W H:Int} {C Z:List Int} (h:ImOk W H C Z) (L:List FrP) {k:Nat} (hk:k<C.length):elt (kH (iG false) W H (C,Z) L).2 k=gE W k (elt Z k) L:=by
 rw[<-(uF (iG false) W H C Z L).2];exact aF9 aPz h k hk L (C,Z,0) (by have:=h.same;simpa using this)
theorem aHh {W H:Int}:∀ {L:List FrP} {s:List Int×List Int},(kH (iG true) W H s L).2=s.2
 | [],s=>rfl
 |f::L,s=>by
  rw[gY,aHh];simp[sG,iG]
structure LineF (c0 c1 c2 c3:Int) (f:FrP):Prop where
 fits:f.fits
 c:f.c0=c0/\f.c1=c1/\f.c2=c2/\f.c3=c3
 cov:f.cov=64
def rQ (W:Int) (k:Nat) (z:Int) (f:FrP):Prop:=(f.x=(k:Int)%W/\f.y=(k:Int)/W)/\f.z<=z
instance (W : Int) (k : Nat) (z : Int) (f : FrP) : Decidable (rQ W k z f) := by unfold rQ; exact inferInstance
theorem aKx {c0 c1 c2 c3:Int} {f:FrP} (hf:LineF c0 c1 c2 c3 f) {W H:Int} {C Z:List Int} (h:ImOk W H C Z) {k:Nat} (hk:k<C.length):elt (sH (iG true) f W H C Z) k=if rQ W k (elt Z k) f then pk c0 c1 c2 c3 else elt C k:=by
 obtain ⟨h1,h2⟩:=kth h hk;obtain ⟨hfit,⟨e0,e1,e2,e3⟩,ec⟩:=hf;have ha:f.a=c3:=by
  unfold FrP.a Go.Proofs.YthcjfanigfgckaaGreat.cov;rw[e3,ec];omega
 have hm:May c0 c1 c2 c3:=by
  have:=hfit.may;rw[e0,e1,e2,ha] at this;exact this
 have hb:sI (iG true) f W H Z=(decide (inB W H f.x f.y)&&decide (dT 3 f.z (oC id W H Z f.x f.y))):=by
  unfold sI ref? aLo OpsP.has OpsP.pass;have hr:(iG true).right:=by decide
  rw[decide_eq_true hr,decide_eq_true hfit];show (true&&true&&!((false&&!_) || !(decide (inB W H f.x f.y)) || (true&&!(decide (dT 3 f.z (oC id W H Z f.x f.y))))))=_
  simp
 have hkol:∀ s a fn,kol (iG true) W H C f.x f.y s a fn=s:=fun s a fn=>rfl
 have hone:sH (iG true) f W H C Z=if sI (iG true) f W H Z then aDd W H C f.x f.y c0 c1 c2 c3 true true true true else C:=by
  unfold sH;simp only[hkol,e0,e1,e2,ha]
  rfl
 rw[hone]
 by_cases hat:f.x=(k:Int)%W/\f.y=(k:Int)/W
 ·obtain ⟨ax,ay⟩:=hat;have hi:inB W H f.x f.y:=by rw[ax,ay];exact h1
  have hg:oC id W H Z f.x f.y=elt Z k:=by rw[ax,ay];exact aL5 h k hk
  rw[hg] at hb
  by_cases hp:f.z<=elt Z k
  ·have hq:dT 3 f.z (elt Z k):=by unfold dT;omega
   have hb2:sI (iG true) f W H Z=true:=by rw[hb];simp[hi,hq]
   rw[hb2,if_pos rfl,if_pos (show rQ W k (elt Z k) f from ⟨⟨ax,ay⟩,hp⟩)];exact aNd h k hk hm ax.symm ay.symm
  ·have hq:¬dT 3 f.z (elt Z k):=by unfold dT;omega
   have hb2:sI (iG true) f W H Z=false:=by rw[hb];simp[hq]
   rw[hb2,if_neg (by decide),if_neg (show ¬rQ W k (elt Z k) f from fun q=>hp q.2)]
 ·rw[if_neg (show ¬rQ W k (elt Z k) f from fun q=>hat q.1)]
  split
  ·exact aJr h k fun q=>hat ⟨q.1.symm,q.2.symm⟩
  ·rfl
theorem aA6 {c0 c1 c2 c3:Int} {W H:Int} {Z:List Int} {k:Nat}:∀ {L:List FrP} {C:List Int},(∀ f∈L,LineF c0 c1 c2 c3 f)->ImOk W H C Z->k<C.length->elt (kH (iG true) W H (C,Z) L).1 k=if ∃ f∈L,rQ W k (elt Z k) f then pk c0 c1 c2 c3 else elt C k
 | [],C,hL,h,hk=>by simp[kH]
 |f::L,C,hL,h,hk=>by
  rw[gY];have hz:sG (iG true) f W H Z=Z:=by simp[sG,iG]
  have k2:=x8 (o:=iG true) (f:=f) h;simp only[hz] at k2 ⊢;have hl:=vG (iG true) f W H C Z;rw[aA6 (fun g hg=>hL g (jk hg)) k2 (by rw[hl];exact hk),aKx (hL f List.mem_cons_self) h hk]
  by_cases h1:∃ g∈L,rQ W k (elt Z k) g
  ·obtain ⟨g,hg,hn⟩:=h1;rw[if_pos ⟨g,hg,hn⟩,if_pos ⟨g,jk hg,hn⟩]
  ·rw[if_neg h1]
   by_cases h2:rQ W k (elt Z k) f
   ·rw[if_pos h2,if_pos ⟨f,List.mem_cons_self,h2⟩]
   ·rw[if_neg h2,if_neg];rintro ⟨g,hg,hn⟩;rcases List.mem_cons.1 hg with rfl|hg
    ·exact h2 hn
    ·exact h1 ⟨g,hg,hn⟩
def oA (z:Int) (L:List FrP):Int:=L.foldl (fun z f=>min z f.z) z
theorem tT {m:Int}:∀ {L:List FrP} {z:Int},m<=oA z L↔m<=z/\∀ f∈L,m<=f.z
 | [],z=>by simp[oA]
 |f::L,z=>by
  have ih:=tT (m:=m) (L:=L) (z:=min z f.z);rw[show oA z (f::L)=oA (min z f.z) L from rfl,ih];simp only[List.mem_cons,forall_eq_or_imp]
  constructor
  ·rintro ⟨h1,h2⟩;exact ⟨by omega,by omega,h2⟩
  ·rintro ⟨h1,h2,h3⟩;exact ⟨by omega,h3⟩
theorem vT {W:Int} {k:Nat} {m:Int}:∀ {L:List FrP} {z:Int},m<=gE W k z L↔m<=z/\∀ f∈L,aLa W k f->m<=f.z
 | [],z=>by simp[gE]
 |f::L,z=>by
  have ih:=vT (W:=W) (k:=k) (m:=m) (L:=L) (z:=aIo W k z f);rw[show gE W k z (f::L)=gE W k (aIo W k z f) L from rfl,ih];simp only[List.mem_cons,forall_eq_or_imp];unfold aIo
  by_cases ha:aLa W k f
  ·rw[if_pos ha]
   constructor
   ·rintro ⟨h1,h2⟩;exact ⟨by omega,fun _=>by omega,h2⟩
   ·rintro ⟨h1,h2,h3⟩;have:=h2 ha;exact ⟨by omega,h3⟩
  ·rw[if_neg ha]
   constructor
   ·rintro ⟨h1,h2⟩;exact ⟨h1,fun q=>absurd q ha,h2⟩
   ·rintro ⟨h1,h2,h3⟩;exact ⟨h1,h3⟩
theorem aA5 {a b:Int} (h:∀ m,m<=a↔m<=b):a=b:=by
 have h1:=(h a).1 (Int.le_refl a);have h2:=(h b).2 (Int.le_refl b);omega
def aN5 (L:List WinP) (B:List Bool) (k:LookP) (x0 y0 x1 y1:Int):Nat->List FrP
 |0=>[]
 |j+1=>if B.getD j false then aN5 L B k x0 y0 x1 y1 j++aTq (wAt L j) k.size k.kind x0 y0 x1 y1 else aN5 L B k x0 y0 x1 y1 j
def aSt (L:List WinP) (B:List Bool) (k:LookP) (x0 y0 x1 y1:Int):List FrP:=aN5 L B k x0 y0 x1 y1 B.length
structure Got (w wx:World) (bm g1 k1 g2 k2:Nat) (W H:Int) (C Z:List Int) (o:OpsP) (f:FrP) (pd:Nat):Prop where
 im:Img wx bm g1 k1 g2 k2 W H C Z
 ro:Row wx w.heap.size #[.bool o.cut,o.x0,o.y0,o.x1,o.y1,.bool o.deep,o.fn,.bool o.keep,.bool o.mix,o.sf,o.df,.bool o.m0,.bool o.m1,.bool o.m2,.bool o.m3] 119
 rf:Row wx (w.heap.size+1) #[f.x,f.y,f.z,f.c0,f.c1,f.c2,f.c3,f.cov] 73
 d:Row wx pd #[.int .i64 (oC up0 W H C f.x f.y),.int .i64 (oC up1 W H C f.x f.y),.int .i64 (oC up2 W H C f.x f.y),.int .i64 (oC up3 W H C f.x f.y)] 43
 lt:bm<w.heap.size/\g1<w.heap.size/\g2<w.heap.size/\w.heap.size+1<pd
 chg:Chg (fun _=>False) w wx
theorem Got.ext {w wx:World} {bm g1 k1 g2 k2:Nat} {W H:Int} {C Z:List Int} {o:OpsP} {f:FrP} {pd:Nat} (h:Got w wx bm g1 k1 g2 k2 W H C Z o f pd) (X:Xt):Got w (wx.ext X) bm g1 k1 g2 k2 W H C Z o f pd :=
 ⟨h.im.ext X,h.ro.ext X,h.rf.ext X,h.d.ext X,h.lt,h.chg.ext X⟩
end Go.Proofs.YthcjfanigfgckaaGreat
