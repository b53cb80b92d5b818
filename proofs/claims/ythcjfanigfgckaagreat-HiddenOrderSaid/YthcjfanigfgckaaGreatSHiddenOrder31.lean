import Derived.Test.YthcjfanigfgckaaGreatSHiddenOrder24
import Derived.Test.YthcjfanigfgckaaGreatSHiddenOrder29
set_option linter.unusedVariables false
set_option linter.unusedSimpArgs false
set_option maxRecDepth 100000
set_option maxHeartbeats 16000000
namespace Go.Proofs.YthcjfanigfgckaaGreat
open Go.RowKit
def frontB (n:Int) (ccw:Bool):Bool:=if ccw then decide (0<=n) else decide (n<=0)
def culledB (b:Bool) (c:Int):Bool:=if b then decide (c=1\/c=3) else decide (c=2\/c=3)
theorem sgn_three (z:Int):sgn z=-1\/sgn z=0\/sgn z=1:=by unfold sgn;split<;>(try split)<;>simp
theorem cull_four {c:Int} (h:amongP c 0 3):c=0\/c=1\/c=2\/c=3:=by unfold amongP at h;omega
theorem face_front (v:Value) (L:List WinP) (ccw:Bool) (w:World) (hv:Recs wnK w v L) (hf:∀ a∈L,a.fits):Calls Tryz.prog 20 #[v,.bool ccw] w (Ret (.bool (frontB (sgn (faceN L)) ccw)) w):=by
 have S:=jj (fun X=>face_sign v L (w.ext X) (hv.ext X) hf);have S0:=jj (face_sign v L w hv hf);obtain ⟨-,av,cap,rfl,-,-⟩:=hv;rcases sgn_three (faceN L) with e|e|e<;>rw[e] at S S0 ⊢<;>cases ccw
 all_goals
  clear e hf
  go_enter Tryz.func20,Tryz.ntmps20
  go_wp2_with (first|(go_at_call 18;(with_reducible refine (S0.out).mono ?_);rintro _ _ ⟨rfl,X_,rfl⟩)|(go_at_call 18;(with_reducible refine (S.out _).mono ?_);rintro _ _ ⟨rfl,X_,rfl⟩))
  go_ret;exact Ret.of' (by first|rfl|decide) (by exact bl_)
theorem face_culled (v:Value) (L:List WinP) (k:LookP) (w:World) (hv:Recs wnK w v L) (hf:∀ a∈L,a.fits) (hc:amongP k.cull 0 3):Calls Tryz.prog 22 #[v,k.v] w (Ret (.bool (culledB (frontB (sgn (faceN L)) k.ccw) k.cull)) w):=by
 have S:=jj (fun w1 (h:Recs wnK w1 v L)=>face_front v L k.ccw w1 h hf);have HV:=jj hv;obtain ⟨-,av,cap,rfl,-,-⟩:=hv;obtain ⟨k0,k1,k2,k3,k4,k5,k6,k7,k8,k9,kw,kc,k12,k13,k14⟩:=k;simp only at hc S ⊢;generalize frontB (sgn (faceN L)) kw=b at *;rcases cull_four hc with rfl|rfl|rfl|rfl<;>cases b
 all_goals
  clear hf hc
  go_enter Tryz.func22,Tryz.ntmps22
  go_wp2_with (first|(go_at_call 20;(with_reducible refine (S.out _ (HV.out.alloc _)).mono ?_);rintro _ _ ⟨rfl,X_,rfl⟩))
  go_ret;exact Ret.of' (by first|rfl|decide) (by exact bl_)
def Frs (w:World) (v:Value) (L:List FrP):Prop :=
 (∀ f∈L,f.ok)/\L.length<=1099511627776/\∃ a cap,v=.slice a L.length cap/\L.length<=cap /\
  (L=[]\/∃ b off,a=some ⟨b,off,none⟩/\b<w.heap.size/\∀ i f,L[i]?=some f->∀ j u,f.cells[j]?=some u->w.cell? ⟨b,off+i*8+j,none⟩=some u)
theorem Frs.chg {p:Nat->Prop} {w w1:World} {v:Value} {L:List FrP} (h:Frs w v L) (hc:Chg p w w1) (hb:∀ b,v.ownBlock=some b->L≠[]->b<w.heap.size->¬p b):Frs w1 v L:=by
 obtain ⟨h0,h1,a,cap,rfl,h2,h3⟩:=h;refine ⟨h0,h1,a,cap,rfl,h2,?_⟩
 by_cases hne:L=[]
 ·exact .inl hne
 rcases h3 with h3|⟨b,off,rfl,hb',hcl⟩
 ·exact .inl h3
 ·exact .inr ⟨b,off,rfl,Nat.lt_of_lt_of_le hb' hc.size,fun i f hi j u hj=>by rw[hc.cell hb' (hb b rfl hne hb')];exact hcl i f hi j u hj⟩
theorem Frs.own {w:World} {v:Value} {L:List FrP} (h:Frs w v L):∀ b,v.ownBlock=some b->L≠[]->b<w.heap.size:=by
 obtain ⟨h0,h1,a,cap,rfl,h2,h3⟩:=h;intro b hb hne;rcases h3 with h3|⟨b',off,rfl,hb',hcl⟩
 ·exact absurd h3 hne
 ·simp[Value.ownBlock] at hb;omega
theorem Frs.ext {w:World} {v:Value} {L:List FrP} (h:Frs w v L) (X:Xt):Frs (w.ext X) v L:=h.chg (p:=fun _=>False) (Chg.of_ext X) (fun _ _ _ _ h=>h)
def stepF (o:OpsP) (W H:Int) (s:List Int×List Int×Int) (f:FrP):List Int×List Int×Int :=
 (oneC o f W H s.1 s.2.1,oneZ o f W H s.2.1,if oneB o f W H s.2.1 then s.2.2+1 else s.2.2)
def allF (o:OpsP) (W H:Int) (C Z:List Int) (L:List FrP):List Int×List Int×Int:=L.foldl (stepF o W H) (C,Z,0)
theorem allF_snoc (o:OpsP) (W H:Int) (C Z:List Int) (L:List FrP) (k:Nat) (hk:k<L.length):allF o W H C Z (L.take (k+1))=stepF o W H (allF o W H C Z (L.take k)) L[k]:=by
 unfold allF;rw[List.take_succ_eq_append_getElem hk,List.foldl_append];rfl
theorem allF_01 (o:OpsP) (W H:Int) (C Z:List Int) (L:List FrP):0<=(allF o W H C Z L).2.2/\(allF o W H C Z L).2.2<=L.length:=by
 have:∀ (L:List FrP) (s:List Int×List Int×Int),s.2.2<=(L.foldl (stepF o W H) s).2.2/\(L.foldl (stepF o W H) s).2.2<=s.2.2+L.length:=by
  intro L
  induction L with
  |nil=>intro s;simp
  |cons f L ih =>
   intro s;have:=ih (stepF o W H s f);simp only[List.foldl_cons,List.length_cons];have h2:s.2.2<=(stepF o W H s f).2.2/\(stepF o W H s f).2.2<=s.2.2+1:=by unfold stepF;simp only;split<;>omega
   omega
 have:=this L (C,Z,0);unfold allF;simp only at this;omega
structure Run (w wr:World) (bm g1 k1 g2 k2:Nat) (W H:Int) (o:OpsP) (v:Value) (L:List FrP) (s:List Int×List Int×Int):Prop where
 im:Img wr bm g1 k1 g2 k2 W H s.1 s.2.1
 o:Row wr w.heap.size #[.bool o.cut,.int .i64 o.x0,.int .i64 o.y0,.int .i64 o.x1,.int .i64 o.y1,.bool o.deep,.int .i64 o.fn,.bool o.keep,.bool o.mix,.int .i64 o.sf,.int .i64 o.df,.bool o.m0,.bool o.m1,.bool o.m2,.bool o.m3] 119
 l:Frs wr v L
 lt:bm<w.heap.size/\g1<w.heap.size/\g2<w.heap.size
 chg:Chg (fun k=>k=g1\/k=g2) w wr
theorem Run.step {w wr w2:World} {bm g1 k1 g2 k2:Nat} {W H:Int} {o:OpsP} {v:Value} {L:List FrP} {s s':List Int×List Int×Int} (h:Run w wr bm g1 k1 g2 k2 W H o v L s)
  (c1:Chg (fun k=>k=g1\/k=g2) wr w2) (hv:∀ b,v.ownBlock=some b->L≠[]->b≠g1/\b≠g2) (hI:Img w2 bm g1 k1 g2 k2 W H s'.1 s'.2.1):Run w w2 bm g1 k1 g2 k2 W H o v L s':=by
 obtain ⟨im,o',l,lt,chg⟩:=h;exact ⟨hI,c1.row o' (by omega),l.chg c1 (fun b hb hne _ h=>by have:=hv b hb hne;omega),lt,chg.trans c1⟩
theorem all_any {w:World} {bm g1 k1 g2 k2:Nat} {W H:Int} {C Z:List Int} {v:Value} {L:List FrP} (hI:Img w bm g1 k1 g2 k2 W H C Z) (o:OpsP) (ho:o.ok) (hL:Frs w v L) (hv:∀ b,v.ownBlock=some b->L≠[]->b≠g1/\b≠g2) :
  Calls Tryz.prog 72 #[.pointer (some ⟨bm,0,none⟩),o.v,v] w (PutsB bm g1 k1 g2 k2 W H (allF o W H C Z L).1 (allF o W H C Z L).2.1 (.int .i64 (allF o W H C Z L).2.2) w):=by
 have HL:=hL;have hL2:=hL.2.1;have HV:=jj hv;obtain ⟨-,-,a,cap,rfl,hcap,-⟩:=hL;clear hv;have lt:bm<w.heap.size/\g1<w.heap.size/\g2<w.heap.size:=⟨hI.row.lt,hI.c.lt,hI.z.lt⟩
 go_enter Tryz.func72,Tryz.ntmps72
 go_wp2;go_loopw [7,12] (fun n i wr=>∃ k:Nat,k<=L.length/\i=.int .i64 k/\n=.int .i64 (allF o W H C Z (L.take k)).2.2/\Run w wr bm g1 k1 g2 k2 W H o (.slice a L.length cap) L (allF o W H C Z (L.take k)))
  (fun _ i _=>L.length-(intOf i).toNat)
 case atStart=>exact ⟨0,by omega,rfl,rfl,⟨by show Img _ _ _ _ _ _ _ _ C Z;(repeat (first|assumption|with_reducible refine Img.ext ?_ _|with_reducible refine Img.alloc ?_ _|with_reducible refine Img.drew ?_)),by exact rx_,HL.chg (p:=fun _=>False) (by (repeat (first|exact Chg.refl|with_reducible refine Chg.drew ?_|with_reducible refine Chg.ext ?_ _|with_reducible refine Chg.alloc ?_ _|(with_reducible refine Chg.setCell ?_ (fun hlt_=>absurd hlt_ (by first|omega|(simp;omega))) _)))) (fun _ _ _ _ h=>h),lt,Chg.mono (by (repeat (first|exact Chg.refl|with_reducible refine Chg.drew ?_|with_reducible refine Chg.ext ?_ _|with_reducible refine Chg.alloc ?_ _|(with_reducible refine Chg.setCell ?_ (fun hlt_=>absurd hlt_ (by first|omega|(simp;omega))) _))):Chg (fun _=>False) _ _) (fun _ _ h=>h.elim)⟩⟩
 case round =>
  obtain ⟨k,hk,rfl,rfl,RU⟩:=hrel;obtain ⟨n0,n1⟩:=allF_01 o W H C Z (L.take k);have n2:(L.take k).length<=k:=List.length_take_le _ _
  by_cases hlt:k<L.length
  ·have HS:=jj (allF_snoc o W H C Z L k hlt);generalize allF o W H C Z (L.take k)=s at *;obtain ⟨lf,-,a1,cap1,q1,-,h3⟩:=RU.l;rcases h3 with rfl|⟨b,off,rfl,hb,hcl⟩
   ·simp at hlt
   obtain ⟨rfl,rfl⟩:a=some ⟨b,off,none⟩/\cap=cap1:=by simpa using q1
   have hfk:L[k]?=some L[k]:=by simp[hlt]
   have hf:=lf L[k] (by simp);have cl:=hcl k L[k] hfk;clear q1 hcl lf;generalize hF:L[k]=f at *;have HF:=jj hF;clear hF hfk;have d0:=cl 0 _ rfl;have d1:=cl 1 _ rfl;have d2:=cl 2 _ rfl;have d3:=cl 3 _ rfl;have d4:=cl 4 _ rfl;have d5:=cl 5 _ rfl;have d6:=cl 6 _ rfl;have d7:=cl 7 _ rfl;have qD:=World.rowD_of RU.o;have q0:=RU.o.cell 0;have q1:=RU.o.cell 1;have q2:=RU.o.cell 2;have q3:=RU.o.cell 3;have q4:=RU.o.cell 4;have q5:=RU.o.cell 5;have q6:=RU.o.cell 6;have q7:=RU.o.cell 7;have q8:=RU.o.cell 8;have q9:=RU.o.cell 9;have q10:=RU.o.cell 10;have q11:=RU.o.cell 11;have q12:=RU.o.cell 12;have q13:=RU.o.cell 13;have q14:=RU.o.cell 14;simp at q0 q1 q2 q3 q4 q5 q6 q7 q8 q9 q10 q11 q12 q13 q14;simp only[Nat.add_zero] at d0;clear cl;have zr:=RU.chg.size;have zo:=RU.o.lt;have hb':b<=wr.heap.size:=by omega
   obtain ⟨wo,rfl⟩:∃ wo,wo=wr:=⟨_,rfl⟩;have hsn:s.2.2<=1099511627776:=by omega
   clear n1 n2;cases hb1:oneB o f W H s.2.1
   all_goals
    have HB1:=jj hb1;clear hb1
    go_wp2_with fail
    refine (one_any (RU.im.alloc _) o f ho hf).mono ?_;rw[HB1.out];rintro _ w2 ⟨rfl,I2,C2⟩;have RU2:=RU.step (s':=stepF o W H s f) ((Chg.refl.alloc _).trans C2) HV.out I2;go_wp2;go_roundw
    case rel=>exact ⟨k+1,by omega,by go_num,by rw[HS.out];simp[stepF,HB1.out],by rw[HS.out];exact RU2⟩
    case measure=>simp[intOf];omega
  ·obtain rfl:k=L.length:=by omega
   rw[List.take_length] at *;go_wp2;go_ret;exact ⟨rfl,RU.im,RU.chg⟩
def atPx (W:Int) (i:Nat) (f:FrP):Prop:=f.x=(i:Int)%W/\f.y=(i:Int)/W/\f.fits
instance (W : Int) (i : Nat) (f : FrP) : Decidable (atPx W i f) := by unfold atPx; exact inferInstance
def minF (W:Int) (i:Nat) (z:Int) (f:FrP):Int:=if atPx W i f then min z f.z else z
def leastF (W:Int) (i:Nat) (z:Int) (L:List FrP):Int:=L.foldl (minF W i) z
structure Keeps (o:OpsP):Prop where
 right:o.right
 cut:o.cut=false
 deep:o.deep=true
 keep:o.keep=true
 fn:o.fn=1\/o.fn=3
theorem putZ_at' {W H:Int} {C Z0 Z:List Int} (h:ImOk W H C Z0) (hl:Z.length=C.length) {x y u:Int} (k:Nat) (hk:k<C.length):elt (putZ W H Z x y u) k=if x=(k:Int)%W/\y=(k:Int)/W then u else elt Z k:=by
 obtain ⟨h1,h2⟩:=kth h hk;unfold putZ
 by_cases hx:x=(k:Int)%W/\y=(k:Int)/W
 ·obtain ⟨rfl,rfl⟩:=hx;rw[if_pos h1,h2,elt_set _ _ _ _ (by simp;omega),if_pos (by simp)];simp
 ·rw[if_neg hx]
  split
  ·rename_i hi
   have:=(ix_lt h hi).1;rw[elt_set _ _ _ _ (by omega),if_neg];intro e;subst e;have:=kth_of hi;exact hx ⟨this.1.symm,this.2.symm⟩
  ·rfl
theorem got_at {W H:Int} {C Z0 Z:List Int} (h:ImOk W H C Z0) (k:Nat) (hk:k<C.length):gotC id W H Z ((k:Int)%W) ((k:Int)/W)=elt Z k:=by
 obtain ⟨h1,h2⟩:=kth h hk;unfold gotC;rw[if_pos h1,h2];simp
theorem oneZ_min {o:OpsP} (ho:Keeps o) {W H:Int} {C Z0 Z:List Int} (h:ImOk W H C Z0) (hl:Z.length=C.length) (f:FrP) (k:Nat) (hk:k<C.length):elt (oneZ o f W H Z) k=minF W k (elt Z k) f:=by
 obtain ⟨h1,h2⟩:=kth h hk;obtain ⟨hr,hc,hd,hkp,hfn⟩:=ho;unfold oneZ minF;have hb:oneB o f W H Z=(decide f.fits&&(decide (inB W H f.x f.y)&&decide (passP o.fn f.z (gotC id W H Z f.x f.y)))):=by
  unfold oneB ref? refB OpsP.has OpsP.pass;simp[hr,hc,hd]
 by_cases ha:atPx W k f
 ·rw[if_pos ha];obtain ⟨ax,ay,af⟩:=ha;have hi:inB W H f.x f.y:=by rw[ax,ay];exact h1
  have hg:gotC id W H Z f.x f.y=elt Z k:=by rw[ax,ay];exact got_at h k hk
  rw[hg] at hb;rw[hb]
  by_cases hp:passP o.fn f.z (elt Z k)
  ·simp only[af,hi,hp,hd,hkp,decide_true,Bool.and_self,if_true];rw[putZ_at' h hl k hk,if_pos ⟨ax,ay⟩];unfold passP at hp;omega
  ·simp only[hp,decide_false,Bool.and_false,Bool.false_and,Bool.false_eq_true,if_false];unfold passP at hp;omega
 ·rw[if_neg ha]
  split
  ·rename_i hx
   have hf:f.fits:=by
    rw[hb] at hx;simp at hx;exact hx.1.1
   rw[putZ_at' h hl k hk,if_neg fun hx=>ha ⟨hx.1,hx.2,hf⟩]
  ·rfl
theorem least_all {o:OpsP} (ho:Keeps o) {W H:Int} {C Z0:List Int} (h:ImOk W H C Z0) (k:Nat) (hk:k<C.length) (L:List FrP) :
  ∀ (s:List Int×List Int×Int),s.2.1.length=C.length->elt (L.foldl (stepF o W H) s).2.1 k=leastF W k (elt s.2.1 k) L:=by
 induction L with
 |nil=>intro s _;rfl
 |cons f L ih =>
  intro s hs;rw[List.foldl_cons,ih _ (by unfold stepF;simp only;rw[show (oneZ o f W H s.2.1).length=s.2.1.length from by unfold oneZ putZ;split<;>(try split)<;>simp];exact hs)];unfold leastF;rw[List.foldl_cons]
  congr 1
  exact oneZ_min ho h hs f k hk
end Go.Proofs.YthcjfanigfgckaaGreat
