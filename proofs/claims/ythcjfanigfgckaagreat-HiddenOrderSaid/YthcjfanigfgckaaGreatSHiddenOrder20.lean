import Derived.OpenShut
import Derived.Deep.Slices
import Derived.Test.YthcjfanigfgckaaGreatSHiddenOrder17
import Derived.Test.YthcjfanigfgckaaGreatSHiddenOrder18
set_option linter.unusedVariables false
set_option linter.unusedSimpArgs false
set_option maxRecDepth 100000
set_option maxHeartbeats 16000000
namespace Go.Proofs.YthcjfanigfgckaaGreat
open Go.RowKit
theorem info_fr:(Tryz.prog.info? 73).map (fun i=>(i.zero,i.size,i.bytes))=some (some (.agg #[.int .i64 0,.int .i64 0,.int .i64 0,.int .i64 0,.int .i64 0,.int .i64 0,.int .i64 0,.int .i64 0]),8,64):=by kernel_rfl
def srR {α:Type} (K:RecK α) (L:List α):SR Grows:=⟨fun v w=>Recs K w v L,fun v w w' h ⟨X,e⟩=>by subst e;exact h.ext X,fun v=>∃ a cap,v=.slice a L.length cap,.slice none L.length 0,⟨_,_,rfl⟩,fun v w ⟨_,a,cap,h,_⟩=>⟨a,cap,h⟩⟩
section
section
end
section
end
section
end
section
end
section
end
section
def Hh (p:Nat) (w:World):Prop:=∃ m s,Row w p #[.bool m,s] 101/\isSl s
def Dd (p:Nat) (z:Int) (n:Nat) (w:World):Prop:=∃ m s,Row w p #[.bool m,s] 101/\RN w (.agg #[.bool m,s]) z n
structure LL (p1 p2:Nat) (z1 z2:Int) (n1 n2:Nat) (w w':World):Prop where
 chg:Chg (fun j=>j=p1\/j=p2) w w'
 h1:Hh p1 w->Hh p1 w'
 h2:Hh p2 w->Hh p2 w'
 d1:Hh p1 w->Hh p2 w->Dd p1 z1 n1 w->Dd p1 z1 n1 w'
 d2:Hh p1 w->Hh p2 w->Dd p2 z2 n2 w->Dd p2 z2 n2 w'
section
variable {p1 p2:Nat} {z1 z2:Int} {n1 n2:Nat} {w w':World}
theorem Hh.ext {p:Nat} (h:Hh p w) (X:Xt):Hh p (w.ext X):=by
 obtain ⟨m,s,r,g⟩:=h;exact ⟨m,s,r.ext X,g⟩
theorem LL.ext (w:World) (X:Xt):LL p1 p2 z1 z2 n1 n2 w (w.ext X) :=
 ⟨Chg.of_ext X,fun h=>h.ext X,fun h=>h.ext X,fun _ _ ⟨m,s,r,h⟩=>⟨m,s,r.ext X,h.ext X⟩,fun _ _ ⟨m,s,r,h⟩=>⟨m,s,r.ext X,h.ext X⟩⟩
end
end
end
section
structure FL (n:Nat) (w0 wr:World) (ma md:Bool) (va vd:Value) (a d lq lr:List Int) (vq vr:Value):Prop where
 ra:Row wr n #[.bool ma,va] 101
 rd:Row wr (n+1) #[.bool md,vd] 101
 r1:Row wr (n+1+1) #[.bool false,.slice none 0 0] 101
 r2:Row wr (n+1+1+1) #[.bool false,.slice none 0 0] 101
 rq:Row wr (n+1+1+1+1) #[.bool false,vq] 101
 rr:Row wr (n+1+1+1+1+1) #[.bool false,vr] 101
 bel:Below n w0 wr
 ba:Rb wr va a
 bd:Rb wr vd d
 bq:Rb wr vq lq
 br:Rb wr vr lr
section
variable {n:Nat} {w0 wr:World} {ma md:Bool} {va vd vq vr:Value} {a d lq lr:List Int}
theorem FL.ext (h:FL n w0 wr ma md va vd a d lq lr vq vr) (hn:n<=w0.heap.size) (X:Xt):FL n w0 (wr.ext X) ma md va vd a d lq lr vq vr :=
 ⟨h.ra.ext X,h.rd.ext X,h.r1.ext X,h.r2.ext X,h.rq.ext X,h.rr.ext X,h.bel.ext (by have:=h.bel.size;omega) X,h.ba.ext X,h.bd.ext X,h.bq.ext X,h.br.ext X⟩
end
end
section
end
section
end
section
end
section
def srS (L:List St):SR Grows:=⟨fun v w=>Sts w v L,fun v w w' h ⟨X,e⟩=>by subst e;exact h.ext X,fun v=>∃ a cap,v=.slice a L.length cap,.slice none L.length 0,⟨_,_,rfl⟩,fun v w ⟨_,a,cap,h,_⟩=>⟨a,cap,h⟩⟩
def mayQ (x y:Int):Prop:=-536870912<=x/\x<=536870912/\-536870912<=y/\y<=536870912
instance (x y : Int) : Decidable (mayQ x y) := by unfold mayQ; exact inferInstance
end
section
open Go.RowKit Go.ChangeShapes Go.WideShapes
def Sls (w:World) (k:Nat) (R:List Value->Prop) (v:Value) (L:List (List Value)):Prop :=
 (∀ r∈L,r.length=k/\R r)/\L.length<=maxLen/\∃ a cap,v=.slice a L.length cap/\L.length<=cap/\cap<=maxLen /\
  (L=[]\/∃ b off,a=some ⟨b,off,none⟩/\b<w.heap.size/\∀ i r,L[i]?=some r->∀ j u,r[j]?=some u->w.cell? ⟨b,off+i*k+j,none⟩=some u)
theorem add_plain (b off j:Nat):(⟨b,off,none⟩:Addr).add j=⟨b,off+j,none⟩:=by
 unfold Addr.add;split
 ·subst_vars;rfl
 ·rfl
theorem list_build {α:Type} (n:Nat) (p:Nat->α->Prop) (h:∀ i,i<n->∃ x,p i x):∃ L:List α,L.length=n/\∀ i x,L[i]?=some x->p i x:=by
 induction n with
 |zero=>exact ⟨[],rfl,fun i x h=>by simp at h⟩
 |succ n ih =>
  obtain ⟨L,hl,hL⟩:=ih fun i hi=>h i (by omega)
  obtain ⟨x,hx⟩:=h n (by omega);refine ⟨L++[x],by simp[hl],fun i y hy=>?_⟩;rw[List.getElem?_append] at hy
  split at hy
  ·exact hL i y hy
  ·rename_i hi
   have hi':i-L.length=0:=by
    rcases Nat.eq_zero_or_pos (i-L.length) with h|h
    ·exact h
    ·rw[List.getElem?_eq_none (by simp;omega)] at hy;cases hy
   rw[hi'] at hy;simp at hy;obtain rfl:i=n:=by omega
   rw[<-hy];exact hx
theorem rd_rows {H:Type} {enc:TypeId×Value->H} {w:World} {fuel:Nat} {cs:List Value} {y:DataW H×List MemPlace} {t e:TypeId} {k:Nat} (ht:Tryz.prog.underlying t=some (.slice e)) (hc:Tryz.prog.cellsOf e=k) (hk:0<k) (R:List Value->Prop)
  (hR:∀ fuel cs y,DataW.trod enc Tryz.prog w 0 (fun _=>true) true fuel e cs=some y->R cs) (h:DataW.trod enc Tryz.prog w 0 (fun _=>true) true fuel t cs=some y):∃ x,cs=[x]/\∃ L,Sls w k R x L:=by
 rcases Go.Deep.open_slice ht h with ⟨rfl,-⟩|⟨a,len,cap,m,n,D,Pl,rfl,-,hl,hm,hmm,-,hi⟩
 ·exact ⟨_,rfl,[],by simp,by simp,none,0,rfl,Nat.le_refl _,Nat.zero_le _,.inl rfl⟩
 ·rw[hc] at hi;have hlm:len<=m:=by rw[hmm];split<;>omega
  obtain ⟨L,hL,hrow⟩:=list_build len (fun i r=>r.length=k/\R r/\∀ j u,r[j]?=some u->w.cell? ((a.add (i*k)).add j)=some u) (fun i hil=>by
   obtain ⟨cs',hcs,htr⟩:=hi i (by omega);obtain ⟨_,hcl,hat⟩:=World.cells?_some hcs;refine ⟨cs',hcl,hR _ _ _ htr,fun j u hj=>?_⟩;have hjl:j<k:=by rw[<-hcl];exact (List.getElem?_eq_some_iff.1 hj).1
   rw[hat j hjl];exact hj)
  refine ⟨_,rfl,L,fun r hr=>?_,by omega,some a,cap,by rw[hL],by omega,hm,?_⟩
  ·obtain ⟨i,hi',rfl⟩:=List.mem_iff_getElem.1 hr;have:=hrow i _ (List.getElem?_eq_getElem hi');exact ⟨this.1,this.2.1⟩
  ·rcases Nat.eq_zero_or_pos len with h0|h0
   ·left;exact List.eq_nil_of_length_eq_zero (by omega)
   ·right
    have hs:a.spot=none:=by
     have h0':0<L.length:=by omega
     obtain ⟨h1,-,h2⟩:=hrow 0 _ (List.getElem?_eq_getElem h0');have h3:=h2 0 _ (List.getElem?_eq_getElem (by omega));cases hs:a.spot with
     |none=>rfl
     |some s=>simp[Addr.add,World.cell?,hs] at h3;split at h3<;>simp at h3
    have e:a=⟨a.block,a.off,none⟩:=by cases a;simp_all
    have hcell:∀ i r,L[i]?=some r->∀ j u,r[j]?=some u->w.cell? ⟨a.block,a.off+i*k+j,none⟩=some u:=fun i r hr j u hu=>by
     have:=(hrow i r hr).2.2 j u hu;rw[e,add_plain,add_plain] at this;exact this
    refine ⟨a.block,a.off,by rw[<-e],?_,hcell⟩;have h0':0<L.length:=by omega
    have h1:=(hrow 0 _ (List.getElem?_eq_getElem h0')).1;have h2:=hcell 0 _ (List.getElem?_eq_getElem h0') 0 _ (List.getElem?_eq_getElem (by omega));exact World.block_lt_of_cell? _ (⟨a.block,a.off+0*k+0,none⟩:Addr) h2
theorem list_2 {α:Type} (l:List α) (h:l.length=2):∃ c0 c1,l=[c0,c1]:=by
 match l,h with
 | [c0,c1],_=>exact ⟨c0,c1,rfl⟩
theorem list_3 {α:Type} (l:List α) (h:l.length=3):∃ c0 c1 c2,l=[c0,c1,c2]:=by
 match l,h with
 | [c0,c1,c2],_=>exact ⟨c0,c1,c2,rfl⟩
theorem list_4 {α:Type} (l:List α) (h:l.length=4):∃ c0 c1 c2 c3,l=[c0,c1,c2,c3]:=by
 match l,h with
 | [c0,c1,c2,c3],_=>exact ⟨c0,c1,c2,c3,rfl⟩
theorem list_5 {α:Type} (l:List α) (h:l.length=5):∃ c0 c1 c2 c3 c4,l=[c0,c1,c2,c3,c4]:=by
 match l,h with
 | [c0,c1,c2,c3,c4],_=>exact ⟨c0,c1,c2,c3,c4,rfl⟩
theorem list_6 {α:Type} (l:List α) (h:l.length=6):∃ c0 c1 c2 c3 c4 c5,l=[c0,c1,c2,c3,c4,c5]:=by
 match l,h with
 | [c0,c1,c2,c3,c4,c5],_=>exact ⟨c0,c1,c2,c3,c4,c5,rfl⟩
theorem list_9 {α:Type} (l:List α) (h:l.length=9):∃ c0 c1 c2 c3 c4 c5 c6 c7 c8,l=[c0,c1,c2,c3,c4,c5,c6,c7,c8]:=by
 match l,h with
 | [c0,c1,c2,c3,c4,c5,c6,c7,c8],_=>exact ⟨c0,c1,c2,c3,c4,c5,c6,c7,c8,rfl⟩
theorem list_13 {α:Type} (l:List α) (h:l.length=13):∃ c0 c1 c2 c3 c4 c5 c6 c7 c8 c9 c10 c11 c12,l=[c0,c1,c2,c3,c4,c5,c6,c7,c8,c9,c10,c11,c12]:=by
 match l,h with
 | [c0,c1,c2,c3,c4,c5,c6,c7,c8,c9,c10,c11,c12],_=>exact ⟨c0,c1,c2,c3,c4,c5,c6,c7,c8,c9,c10,c11,c12,rfl⟩
section
variable {H:Type} {enc:TypeId×Value->H} {w:World} {fuel base:Nat} {cs:List Value} {y:DataW H×List MemPlace} {v:Value} {d:DataW H} {ps:List MemPlace}
theorem rd_uint8 (h:DataW.trod enc Tryz.prog w 0 (fun _=>true) true fuel 5 cs=some y):∃ (x:Int),cs=[.int .u8 x]/\(0<=x/\x<=255):=by
 obtain ⟨n,rfl,-,hw⟩:=DataW.trod_int Tryz.underlying5 h;exact ⟨n,rfl,by have:=bounds_u8 hw;simpa using this⟩
theorem arg_uint8 (hv:Value.okWide Tryz.prog w .any base 5 v) (h:DataW.Trod enc Tryz.prog w 0 (fun _=>true) true 5 v d ps):∃ (x:Int),v=.int .u8 x/\(0<=x/\x<=255):=by
 obtain ⟨x,rfl,-,-,hw⟩:=open_int Tryz.underlying5 hv h;exact ⟨x,rfl,by have:=bounds_u8 hw;simpa using this⟩
theorem rd_int (h:DataW.trod enc Tryz.prog w 0 (fun _=>true) true fuel 3 cs=some y):∃ (x:Int),cs=[.int .i64 x]/\(-9223372036854775808<=x/\x<=9223372036854775807):=by
 obtain ⟨n,rfl,-,hw⟩:=DataW.trod_int Tryz.underlying3 h;exact ⟨n,rfl,by have:=bounds_i64 hw;simpa using this⟩
theorem rd_Color (h:DataW.trod enc Tryz.prog w 0 (fun _=>true) true fuel 43 cs=some y):∃ (x0:Int) (x1:Int) (x2:Int) (x3:Int),cs=[.int .i64 x0,.int .i64 x1,.int .i64 x2,.int .i64 x3]/\(-9223372036854775808<=x0/\x0<=9223372036854775807)/\(-9223372036854775808<=x1/\x1<=9223372036854775807)/\(-9223372036854775808<=x2/\x2<=9223372036854775807)/\(-9223372036854775808<=x3/\x3<=9223372036854775807):=by
 obtain ⟨ys,m,-,-,hl,hn,hf⟩:=DataW.trod_array Tryz.underlying43 h;rw[show Tryz.prog.cellsOf 43=4 from by kernel_rfl] at hl;obtain ⟨c0,c1,c2,c3,rfl⟩:=list_4 cs hl;obtain ⟨y0,y1,y2,y3,rfl⟩:=list_4 ys hn;obtain ⟨x0,e,hx0⟩:=rd_int (cs:=[c0]) (show _=some y0 from hf 0 (by decide));simp only[List.cons.injEq,and_true] at e;obtain rfl:=e;obtain ⟨x1,e,hx1⟩:=rd_int (cs:=[c1]) (show _=some y1 from hf 1 (by decide));simp only[List.cons.injEq,and_true] at e;obtain rfl:=e;obtain ⟨x2,e,hx2⟩:=rd_int (cs:=[c2]) (show _=some y2 from hf 2 (by decide));simp only[List.cons.injEq,and_true] at e;obtain rfl:=e;obtain ⟨x3,e,hx3⟩:=rd_int (cs:=[c3]) (show _=some y3 from hf 3 (by decide));simp only[List.cons.injEq,and_true] at e;obtain rfl:=e;exact ⟨_,_,_,_,rfl,hx0,hx1,hx2,hx3⟩
theorem rd_bool (h:DataW.trod enc Tryz.prog w 0 (fun _=>true) true fuel 4 cs=some y):∃ (x:Bool),cs=[.bool x]/\True:=by
 obtain ⟨n,rfl,-⟩:=DataW.trod_bool Tryz.underlying4 h;exact ⟨n,rfl,trivial⟩
theorem rd_Slbool (h:DataW.trod enc Tryz.prog w 0 (fun _=>true) true fuel 23 cs=some y):∃ (x:Value),cs=[x]/\(∃ zx,Sls w 1 (fun r=>∃ (ex:Bool),r=[.bool ex]/\True) x zx):=by
 exact rd_rows Tryz.underlying23 (by kernel_rfl) (by decide) _ (fun fuel cs y h=>rd_bool h) h
theorem rd_A3_int (h:DataW.trod enc Tryz.prog w 0 (fun _=>true) true fuel 145 cs=some y):∃ (x0:Int) (x1:Int) (x2:Int),cs=[.int .i64 x0,.int .i64 x1,.int .i64 x2]/\(-9223372036854775808<=x0/\x0<=9223372036854775807)/\(-9223372036854775808<=x1/\x1<=9223372036854775807)/\(-9223372036854775808<=x2/\x2<=9223372036854775807):=by
 obtain ⟨ys,m,-,-,hl,hn,hf⟩:=DataW.trod_array Tryz.underlying145 h;rw[show Tryz.prog.cellsOf 145=3 from by kernel_rfl] at hl;obtain ⟨c0,c1,c2,rfl⟩:=list_3 cs hl;obtain ⟨y0,y1,y2,rfl⟩:=list_3 ys hn;obtain ⟨x0,e,hx0⟩:=rd_int (cs:=[c0]) (show _=some y0 from hf 0 (by decide));simp only[List.cons.injEq,and_true] at e;obtain rfl:=e;obtain ⟨x1,e,hx1⟩:=rd_int (cs:=[c1]) (show _=some y1 from hf 1 (by decide));simp only[List.cons.injEq,and_true] at e;obtain rfl:=e;obtain ⟨x2,e,hx2⟩:=rd_int (cs:=[c2]) (show _=some y2 from hf 2 (by decide));simp only[List.cons.injEq,and_true] at e;obtain rfl:=e;exact ⟨_,_,_,rfl,hx0,hx1,hx2⟩
theorem rd_SlA3_int (h:DataW.trod enc Tryz.prog w 0 (fun _=>true) true fuel 66 cs=some y):∃ (x:Value),cs=[x]/\(∃ zx,Sls w 3 (fun r=>∃ (ex0:Int) (ex1:Int) (ex2:Int),r=[.int .i64 ex0,.int .i64 ex1,.int .i64 ex2]/\(-9223372036854775808<=ex0/\ex0<=9223372036854775807)/\(-9223372036854775808<=ex1/\ex1<=9223372036854775807)/\(-9223372036854775808<=ex2/\ex2<=9223372036854775807)) x zx):=by
 exact rd_rows Tryz.underlying66 (by kernel_rfl) (by decide) _ (fun fuel cs y h=>rd_A3_int h) h
theorem rd_Poly (h:DataW.trod enc Tryz.prog w 0 (fun _=>true) true fuel 68 cs=some y):∃ (xV:Value) (xE:Value),cs=[xV,xE]/\(∃ zxV,Sls w 3 (fun r=>∃ (exV0:Int) (exV1:Int) (exV2:Int),r=[.int .i64 exV0,.int .i64 exV1,.int .i64 exV2]/\(-9223372036854775808<=exV0/\exV0<=9223372036854775807)/\(-9223372036854775808<=exV1/\exV1<=9223372036854775807)/\(-9223372036854775808<=exV2/\exV2<=9223372036854775807)) xV zxV)/\(∃ zxE,Sls w 1 (fun r=>∃ (exE:Bool),r=[.bool exE]/\True) xE zxE):=by
 obtain ⟨ys,m,-,-,hl,hn,hf⟩:=DataW.trod_struct Tryz.underlying68 h;rw[show Tryz.prog.cellsOf 68=2 from by kernel_rfl] at hl;obtain ⟨c0,c1,rfl⟩:=list_2 cs hl;obtain ⟨y0,y1,rfl⟩:=list_2 ys hn;obtain ⟨xV,e,hxV⟩:=rd_SlA3_int (cs:=[c0]) (show _=some y0 from hf 0 _ rfl);simp only[List.cons.injEq,and_true] at e;obtain rfl:=e;obtain ⟨xE,e,hxE⟩:=rd_Slbool (cs:=[c1]) (show _=some y1 from hf 1 _ rfl);simp only[List.cons.injEq,and_true] at e;obtain rfl:=e;exact ⟨_,_,rfl,hxV,hxE⟩
theorem rd_SlPoly (h:DataW.trod enc Tryz.prog w 0 (fun _=>true) true fuel 46 cs=some y):∃ (x:Value),cs=[x]/\(∃ zx,Sls w 2 (fun r=>∃ (exV:Value) (exE:Value),r=[exV,exE]/\(∃ zexV,Sls w 3 (fun r=>∃ (eexV0:Int) (eexV1:Int) (eexV2:Int),r=[.int .i64 eexV0,.int .i64 eexV1,.int .i64 eexV2]/\(-9223372036854775808<=eexV0/\eexV0<=9223372036854775807)/\(-9223372036854775808<=eexV1/\eexV1<=9223372036854775807)/\(-9223372036854775808<=eexV2/\eexV2<=9223372036854775807)) exV zexV)/\(∃ zexE,Sls w 1 (fun r=>∃ (eexE:Bool),r=[.bool eexE]/\True) exE zexE)) x zx):=by
 exact rd_rows Tryz.underlying46 (by kernel_rfl) (by decide) _ (fun fuel cs y h=>rd_Poly h) h
theorem rd_Sketch (h:DataW.trod enc Tryz.prog w 0 (fun _=>true) true fuel 48 cs=some y):∃ (xFactor:Int) (xUnits:Int) (xCcw:Bool) (xCull:Int) (xWidth:Int) (xLine0:Int) (xLine1:Int) (xLine2:Int) (xLine3:Int),cs=[.int .i64 xFactor,.int .i64 xUnits,.bool xCcw,.int .i64 xCull,.int .i64 xWidth,.int .i64 xLine0,.int .i64 xLine1,.int .i64 xLine2,.int .i64 xLine3]/\(-9223372036854775808<=xFactor/\xFactor<=9223372036854775807)/\(-9223372036854775808<=xUnits/\xUnits<=9223372036854775807)/\(-9223372036854775808<=xCull/\xCull<=9223372036854775807)/\(-9223372036854775808<=xWidth/\xWidth<=9223372036854775807)/\(-9223372036854775808<=xLine0/\xLine0<=9223372036854775807)/\(-9223372036854775808<=xLine1/\xLine1<=9223372036854775807)/\(-9223372036854775808<=xLine2/\xLine2<=9223372036854775807)/\(-9223372036854775808<=xLine3/\xLine3<=9223372036854775807):=by
 obtain ⟨ys,m,-,-,hl,hn,hf⟩:=DataW.trod_struct Tryz.underlying48 h;rw[show Tryz.prog.cellsOf 48=9 from by kernel_rfl] at hl;obtain ⟨c0,c1,c2,c3,c4,c5,c6,c7,c8,rfl⟩:=list_9 cs hl;obtain ⟨y0,y1,y2,y3,y4,y5,rfl⟩:=list_6 ys hn;obtain ⟨xFactor,e,hxFactor⟩:=rd_int (cs:=[c0]) (show _=some y0 from hf 0 _ rfl);simp only[List.cons.injEq,and_true] at e;obtain rfl:=e;obtain ⟨xUnits,e,hxUnits⟩:=rd_int (cs:=[c1]) (show _=some y1 from hf 1 _ rfl);simp only[List.cons.injEq,and_true] at e;obtain rfl:=e;obtain ⟨xCcw,e,hxCcw⟩:=rd_bool (cs:=[c2]) (show _=some y2 from hf 2 _ rfl);simp only[List.cons.injEq,and_true] at e;obtain rfl:=e;obtain ⟨xCull,e,hxCull⟩:=rd_int (cs:=[c3]) (show _=some y3 from hf 3 _ rfl);simp only[List.cons.injEq,and_true] at e;obtain rfl:=e;obtain ⟨xWidth,e,hxWidth⟩:=rd_int (cs:=[c4]) (show _=some y4 from hf 4 _ rfl);simp only[List.cons.injEq,and_true] at e;obtain rfl:=e;obtain ⟨xLine0,xLine1,xLine2,xLine3,e,hxLine⟩:=rd_Color (cs:=[c5,c6,c7,c8]) (show _=some y5 from hf 5 _ rfl);simp only[List.cons.injEq,and_true] at e;obtain ⟨rfl,rfl,rfl,rfl⟩:=e;exact ⟨_,_,_,_,_,_,_,_,_,rfl,hxFactor,hxUnits,hxCull,hxWidth,hxLine.1,hxLine.2.1,hxLine.2.2.1,hxLine.2.2.2⟩
theorem rd_rastrumlaw27_Art (h:DataW.trod enc Tryz.prog w 0 (fun _=>true) true fuel 50 cs=some y):∃ (xL:Value) (xSFactor:Int) (xSUnits:Int) (xSCcw:Bool) (xSCull:Int) (xSWidth:Int) (xSLine0:Int) (xSLine1:Int) (xSLine2:Int) (xSLine3:Int) (xW:Int) (xH:Int) (xFar:Int),cs=[xL,.int .i64 xSFactor,.int .i64 xSUnits,.bool xSCcw,.int .i64 xSCull,.int .i64 xSWidth,.int .i64 xSLine0,.int .i64 xSLine1,.int .i64 xSLine2,.int .i64 xSLine3,.int .u8 xW,.int .u8 xH,.int .i64 xFar]/\(∃ zxL,Sls w 2 (fun r=>∃ (exLV:Value) (exLE:Value),r=[exLV,exLE]/\(∃ zexLV,Sls w 3 (fun r=>∃ (eexLV0:Int) (eexLV1:Int) (eexLV2:Int),r=[.int .i64 eexLV0,.int .i64 eexLV1,.int .i64 eexLV2]/\(-9223372036854775808<=eexLV0/\eexLV0<=9223372036854775807)/\(-9223372036854775808<=eexLV1/\eexLV1<=9223372036854775807)/\(-9223372036854775808<=eexLV2/\eexLV2<=9223372036854775807)) exLV zexLV)/\(∃ zexLE,Sls w 1 (fun r=>∃ (eexLE:Bool),r=[.bool eexLE]/\True) exLE zexLE)) xL zxL)/\(-9223372036854775808<=xSFactor/\xSFactor<=9223372036854775807)/\(-9223372036854775808<=xSUnits/\xSUnits<=9223372036854775807)/\(-9223372036854775808<=xSCull/\xSCull<=9223372036854775807)/\(-9223372036854775808<=xSWidth/\xSWidth<=9223372036854775807)/\(-9223372036854775808<=xSLine0/\xSLine0<=9223372036854775807)/\(-9223372036854775808<=xSLine1/\xSLine1<=9223372036854775807)/\(-9223372036854775808<=xSLine2/\xSLine2<=9223372036854775807)/\(-9223372036854775808<=xSLine3/\xSLine3<=9223372036854775807)/\(0<=xW/\xW<=255)/\(0<=xH/\xH<=255)/\(-9223372036854775808<=xFar/\xFar<=9223372036854775807):=by
 obtain ⟨ys,m,-,-,hl,hn,hf⟩:=DataW.trod_struct Tryz.underlying50 h;rw[show Tryz.prog.cellsOf 50=13 from by kernel_rfl] at hl;obtain ⟨c0,c1,c2,c3,c4,c5,c6,c7,c8,c9,c10,c11,c12,rfl⟩:=list_13 cs hl;obtain ⟨y0,y1,y2,y3,y4,rfl⟩:=list_5 ys hn;obtain ⟨xL,e,hxL⟩:=rd_SlPoly (cs:=[c0]) (show _=some y0 from hf 0 _ rfl);simp only[List.cons.injEq,and_true] at e;obtain rfl:=e;obtain ⟨xSFactor,xSUnits,xSCcw,xSCull,xSWidth,xSLine0,xSLine1,xSLine2,xSLine3,e,hxS⟩:=rd_Sketch (cs:=[c1,c2,c3,c4,c5,c6,c7,c8,c9]) (show _=some y1 from hf 1 _ rfl);simp only[List.cons.injEq,and_true] at e;obtain ⟨rfl,rfl,rfl,rfl,rfl,rfl,rfl,rfl,rfl⟩:=e;obtain ⟨xW,e,hxW⟩:=rd_uint8 (cs:=[c10]) (show _=some y2 from hf 2 _ rfl);simp only[List.cons.injEq,and_true] at e;obtain rfl:=e;obtain ⟨xH,e,hxH⟩:=rd_uint8 (cs:=[c11]) (show _=some y3 from hf 3 _ rfl);simp only[List.cons.injEq,and_true] at e;obtain rfl:=e;obtain ⟨xFar,e,hxFar⟩:=rd_int (cs:=[c12]) (show _=some y4 from hf 4 _ rfl);simp only[List.cons.injEq,and_true] at e;obtain rfl:=e;exact ⟨_,_,_,_,_,_,_,_,_,_,_,_,_,rfl,hxL,hxS.1,hxS.2.1,hxS.2.2.1,hxS.2.2.2.1,hxS.2.2.2.2.1,hxS.2.2.2.2.2.1,hxS.2.2.2.2.2.2.1,hxS.2.2.2.2.2.2.2,hxW,hxH,hxFar⟩
theorem arg_rastrumlaw27_Art (hv:Value.okWide Tryz.prog w .any base 50 v) (h:DataW.Trod enc Tryz.prog w 0 (fun _=>true) true 50 v d ps):∃ (xL:Value) (xSFactor:Int) (xSUnits:Int) (xSCcw:Bool) (xSCull:Int) (xSWidth:Int) (xSLine0:Int) (xSLine1:Int) (xSLine2:Int) (xSLine3:Int) (xW:Int) (xH:Int) (xFar:Int),v=.agg #[xL,.int .i64 xSFactor,.int .i64 xSUnits,.bool xSCcw,.int .i64 xSCull,.int .i64 xSWidth,.int .i64 xSLine0,.int .i64 xSLine1,.int .i64 xSLine2,.int .i64 xSLine3,.int .u8 xW,.int .u8 xH,.int .i64 xFar]/\(∃ zxL,Sls w 2 (fun r=>∃ (exLV:Value) (exLE:Value),r=[exLV,exLE]/\(∃ zexLV,Sls w 3 (fun r=>∃ (eexLV0:Int) (eexLV1:Int) (eexLV2:Int),r=[.int .i64 eexLV0,.int .i64 eexLV1,.int .i64 eexLV2]/\(-9223372036854775808<=eexLV0/\eexLV0<=9223372036854775807)/\(-9223372036854775808<=eexLV1/\eexLV1<=9223372036854775807)/\(-9223372036854775808<=eexLV2/\eexLV2<=9223372036854775807)) exLV zexLV)/\(∃ zexLE,Sls w 1 (fun r=>∃ (eexLE:Bool),r=[.bool eexLE]/\True) exLE zexLE)) xL zxL)/\(-9223372036854775808<=xSFactor/\xSFactor<=9223372036854775807)/\(-9223372036854775808<=xSUnits/\xSUnits<=9223372036854775807)/\(-9223372036854775808<=xSCull/\xSCull<=9223372036854775807)/\(-9223372036854775808<=xSWidth/\xSWidth<=9223372036854775807)/\(-9223372036854775808<=xSLine0/\xSLine0<=9223372036854775807)/\(-9223372036854775808<=xSLine1/\xSLine1<=9223372036854775807)/\(-9223372036854775808<=xSLine2/\xSLine2<=9223372036854775807)/\(-9223372036854775808<=xSLine3/\xSLine3<=9223372036854775807)/\(0<=xW/\xW<=255)/\(0<=xH/\xH<=255)/\(-9223372036854775808<=xFar/\xFar<=9223372036854775807):=by
 obtain ⟨cs,rfl,-⟩:∃ cs,v=.agg cs/\True:=by
  simp only[Value.okWide,Tryz.underlying50] at hv;obtain ⟨cs,e,-⟩:=hv;exact ⟨cs,e,trivial⟩
 obtain ⟨fuel,h⟩:=h;obtain ⟨xL,xSFactor,xSUnits,xSCcw,xSCull,xSWidth,xSLine0,xSLine1,xSLine2,xSLine3,xW,xH,xFar,e,hf⟩:=rd_rastrumlaw27_Art h;exact ⟨xL,xSFactor,xSUnits,xSCcw,xSCull,xSWidth,xSLine0,xSLine1,xSLine2,xSLine3,xW,xH,xFar,by rw[<-Array.toArray_toList (xs:=cs),show cs.toList=_ from e],hf⟩
end
end
end Go.Proofs.YthcjfanigfgckaaGreat
