import Derived.OpenShut
import Derived.Deep.Slices
import Derived.Test.YthcjfanigfgckaaGreatSHidb13
import Derived.Test.YthcjfanigfgckaaGreatSHidb24
import Derived.Test.YthcjfanigfgckaaGreatSHidb25
set_option linter.unusedVariables false
set_option linter.unusedSimpArgs false
set_option maxRecDepth 100000
set_option maxHeartbeats 16000000
namespace Go.Proofs.YthcjfanigfgckaaGreat
open Go.RowKit _root_.Go.Proofs.Tryz
instance jh25 : Coe Nat Value := ⟨fun n => .int .i64 n⟩
section
section
variable {α:Type} {K:RecK α} {P:Program} {w:World}
theorem pH (base:Nat) (t ty e:TypeId) (i:TypeInfo) (z:Value) (bytes:Nat) (ht:P.underlying t=some (.slice e)) (hi:P.info? e=some i) (hz:i.zero=some z)
  (hsize:i.size=K.k) (hby:i.bytes=bytes) (hzs:z.cells.size=K.k) (v:Value) (L:List α) (hown:w.ownsRow base e K.k v L.length (L.flatMap K.cells)) (x:Value) (M:List α) (hM:Recs K w x M)
  (h63:L.length+M.length<=maxLen) (hbytes:(L.length+M.length)*bytes<=140737488355328) (hbase:base<=w.heap.size) :
  ∃ v' w',(Builtin.append_ #[t,t] ty #[v,x]).run P w=.ok v' w'/\w'.ownsRow base e K.k v' (L++M).length ((L++M).flatMap K.cells)/\w.grownBy w' v.ownBlock:=by
 obtain ⟨h1,a,cap,rfl,h2,h3⟩:=hM;rw[List.length_append,List.flatMap_append]
 by_cases hne:M=[]
 ·subst hne;cases a with
  |some a =>
   obtain ⟨v',w',hr,q1,q2,-⟩:=run_append_own (P:=P) w base t ty e i z K.k bytes ht hi hz hsize hby hzs K.pos v L.length _ hown a 0 cap [] (by simp) (fun j u hj=>by simp at hj) (fun u hu=>by cases hu) h63 hbytes hbase;exact ⟨v',w',hr,by simpa using q1,q2⟩
  |none =>
   refine ⟨v,w,?_,by simpa using hown,World.grownBy.refl _ _⟩;rcases hown.2 with ⟨rfl,h0⟩|⟨g,cap',cur,rfl,_,_,hnc,_⟩
   ·simp[Builtin.append_,run_underlying ht,sizeOf,typeInfo,hi,Builtin.lenOf,Builtin.firstCells]
   ·simp[Builtin.append_,run_underlying ht,sizeOf,typeInfo,hi,Builtin.lenOf,Builtin.firstCells,hnc,storeCells]
 ·rcases h3 with h3|⟨b,off,rfl,hb,hcl⟩
  ·exact absurd h3 hne
  ·obtain ⟨v',w',hr,q1,q2,-⟩:=run_append_own (P:=P) w base t ty e i z K.k bytes ht hi hz hsize hby hzs K.pos v L.length _ hown ⟨b,off,none⟩ M.length cap (M.flatMap K.cells) (K.flat_len M) (fun j u hj=>by
    have hjl:j<M.length*K.k:=by rw[<-K.flat_len M];exact (List.getElem?_eq_some_iff.1 hj).1
    have hq:j/K.k<M.length:=(Nat.div_lt_iff_lt_mul K.pos).2 hjl;have hr:j%K.k<(K.cells (M[j/K.k]'hq)).length:=by rw[K.len];exact Nat.mod_lt _ K.pos
    have e1:=K.flat_at M (j/K.k) _ (j%K.k) _ (List.getElem?_eq_getElem hq) (List.getElem?_eq_getElem hr);have e2:j/K.k*K.k+j%K.k=j:=by rw[Nat.mul_comm];exact Nat.div_add_mod _ _
    rw[e2,hj] at e1;have:=hcl (j/K.k) _ (List.getElem?_eq_getElem hq) (j%K.k) u (by rw[List.getElem?_eq_getElem hr,<-e1]);rw[gB,<-this,Nat.add_assoc,e2]) (K.flat_one M) h63 hbytes hbase
   exact ⟨v',w',hr,q1,q2⟩
theorem rH {o:Oper} {a:Act} {C:Act->World->Prop} {Q:Exit->Act->World->Prop} (s x:Operand) (t:TypeId)
  (ho:o.op=.call { callee:=.builtin .append,args:=#[s,x],argTypes:=#[t,t] })
  (base:Nat) (e:TypeId) (i:TypeInfo) (z:Value) (bytes:Nat) (ht:P.underlying t=some (.slice e)) (hi:P.info? e=some i) (hz:i.zero=some z)
  (hsize:i.size=K.k) (hby:i.bytes=bytes) (hzs:z.cells.size=K.k) (v:Value) (L:List α) (hs:a.eval s=v) (hown:w.ownsRow base e K.k v L.length (L.flatMap K.cells)) (xv:Value) (M:List α) (hx:a.eval x=xv) (hM:Recs K w xv M)
  (h63:L.length+M.length<=maxLen) (hbytes:(L.length+M.length)*bytes<=140737488355328) (hbase:base<=w.heap.size)
  (h:∀ v' w',w'.ownsRow base e K.k v' (L++M).length ((L++M).flatMap K.cells)->w.grownBy w' v.ownBlock->C (a.put o.dst v') w'):o.wp P a w C Q:=by
 obtain ⟨v',w',hr,h2,h3⟩:=pH (P:=P) base t o.type e i z bytes ht hi hz hsize hby hzs v L hown xv M hM h63 hbytes hbase;unfold Oper.wp execOp;simp only[ho,resolve,invoke,builtin,Sem.run_bind,Sem.run_pure,Result.andThen_ok,List.map_toArray,List.map_cons,List.map_nil,hs,hx,hr];exact h v' w' h2 h3
theorem aS {ops:Array Oper} {rest:List Oper} {o:Oper} {a:Act} {Q:Exit->Act->World->Prop} (hgd:o.guard=none) (s x:Operand) (t:TypeId)
  (ho:o.op=.call { callee:=.builtin .append,args:=#[s,x],argTypes:=#[t,t] })
  (base:Nat) (e:TypeId) (i:TypeInfo) (z:Value) (bytes:Nat) (ht:P.underlying t=some (.slice e)) (hi:P.info? e=some i) (hz:i.zero=some z)
  (hsize:i.size=K.k) (hby:i.bytes=bytes) (hzs:z.cells.size=K.k) (v:Value) (L:List α) (hs:a.eval s=v) (hown:w.ownsRow base e K.k v L.length (L.flatMap K.cells)) (xv:Value) (M:List α) (hx:a.eval x=xv) (hM:Recs K w xv M)
  (h63:L.length+M.length<=maxLen) (hbytes:(L.length+M.length)*bytes<=140737488355328) (hbase:base<=w.heap.size)
  (h:∀ v' w',w'.ownsRow base e K.k v' (L++M).length ((L++M).flatMap K.cells)->w.grownBy w' v.ownBlock->wpList P ops Q rest (a.put o.dst v') w'):wpList P ops Q (o::rest) a w :=
 wpList_plain hgd fun _ hK=>rH s x t ho base e i z bytes ht hi hz hsize hby hzs v L hs hown xv M hx hM h63 hbytes hbase fun v' w' h2 h3=>hK _ _ (h v' w' h2 h3)
theorem Hold.more {w wr w1:World} {E:TypeId} {R:List (Nat×Array Value×TypeId)} {v v':Value} {L M:List α} (h:Hold K w wr E R v L)
  (hown:w1.ownsRow w.heap.size E K.k v' (L++M).length ((L++M).flatMap K.cells)) (hg:wr.grownBy w1 v.ownBlock):Hold K w w1 E R v' (L++M) :=
 ⟨fun r hr=>(h.rows r hr).keptR hg (fR (h.rows r hr) (h.far r hr) h.own),h.far,hown,jz (Below.grown h.below hg h.size fun k hk=>(h.own.lt k hk).1)⟩
end
end
theorem qG:(prog.info? 73).map (fun i=>(i.zero,i.size,i.bytes))=some (some (.agg #[.int .i64 0,.int .i64 0,.int .i64 0,.int .i64 0,.int .i64 0,.int .i64 0,.int .i64 0,.int .i64 0]),8,64):=by kernel_rfl
theorem aJd {w:World} {a b:Value} {L:List FrP} (ha:Recs frK w a L) (hb:Recs frK w b L):Calls prog 14 #[a,b] w (Ret (.bool true) w):=by
 obtain ⟨hl,a1,cap1,rfl,hcap1,h1⟩:=ha;obtain ⟨-,a2,cap2,rfl,hcap2,h2⟩:=hb
 go_enter func14,ntmps14
 go_wp2;go_loopw [5] (fun i wr=>∃ (k:Nat) (X:Xt),k<=L.length/\i=.int .i64 k/\wr=w.ext X)
  (fun i _=>L.length-(intOf i).toNat)
 case atStart=>exact ⟨0,⟨#[],w.drawn⟩,by omega,rfl,(show w=w.ext ⟨#[],w.drawn⟩ by simp[World.ext])⟩
 case round =>
  obtain ⟨k,X,hk,rfl,rfl⟩:=hrel
  by_cases hlt:k<L.length
  ·rcases h1 with rfl|⟨b1,off1,rfl,hb1,hc1⟩
   ·simp at hlt
   rcases h2 with rfl|⟨b2,off2,rfl,hb2,hc2⟩
   ·simp at hlt
   have hf:L[k]?=some L[k]:=by simp[hlt]
   have d0:w.cell? ⟨b1,off1+k*8,none⟩=_:=hc1 k L[k] hf 0 _ rfl;have d1:w.cell? ⟨b1,off1+k*8+1,none⟩=_:=hc1 k L[k] hf 1 _ rfl;have d2:w.cell? ⟨b1,off1+k*8+2,none⟩=_:=hc1 k L[k] hf 2 _ rfl;have d3:w.cell? ⟨b1,off1+k*8+3,none⟩=_:=hc1 k L[k] hf 3 _ rfl;have d4:w.cell? ⟨b1,off1+k*8+4,none⟩=_:=hc1 k L[k] hf 4 _ rfl;have d5:w.cell? ⟨b1,off1+k*8+5,none⟩=_:=hc1 k L[k] hf 5 _ rfl;have d6:w.cell? ⟨b1,off1+k*8+6,none⟩=_:=hc1 k L[k] hf 6 _ rfl;have d7:w.cell? ⟨b1,off1+k*8+7,none⟩=_:=hc1 k L[k] hf 7 _ rfl;have e0:w.cell? ⟨b2,off2+k*8,none⟩=_:=hc2 k L[k] hf 0 _ rfl;have e1:w.cell? ⟨b2,off2+k*8+1,none⟩=_:=hc2 k L[k] hf 1 _ rfl;have e2:w.cell? ⟨b2,off2+k*8+2,none⟩=_:=hc2 k L[k] hf 2 _ rfl;have e3:w.cell? ⟨b2,off2+k*8+3,none⟩=_:=hc2 k L[k] hf 3 _ rfl;have e4:w.cell? ⟨b2,off2+k*8+4,none⟩=_:=hc2 k L[k] hf 4 _ rfl;have e5:w.cell? ⟨b2,off2+k*8+5,none⟩=_:=hc2 k L[k] hf 5 _ rfl;have e6:w.cell? ⟨b2,off2+k*8+6,none⟩=_:=hc2 k L[k] hf 6 _ rfl;have e7:w.cell? ⟨b2,off2+k*8+7,none⟩=_:=hc2 k L[k] hf 7 _ rfl;generalize L[k]=s at *;clear hc1 hc2 hf;go_wp2;refine jy ?_
   repeat (go_big_quiet_step ((fail)))
   refine jv fun Y=>?_
   go_wp2;go_roundw
   case rel=>exact ⟨k+1,_,by omega,by go_num,World.ext_ext⟩
   case measure=>simp[intOf];omega
  ·go_wp2;go_ret;exact Ret.of (by exact bl_)
def srR {α:Type} (K:RecK α) (L:List α):SR gC:=⟨fun v w=>Recs K w v L,fun v w w' h ⟨X,e⟩=>by subst e;exact h.ext X,fun v=>∃ a cap,v=.slice a L.length cap,.slice none L.length 0,⟨_,_,rfl⟩,fun v w ⟨_,a,cap,h,_⟩=>⟨a,cap,h⟩⟩
abbrev atS (a b c:WinP) (x y:Int):Value:=.tuple #[.int .i64 (nX (atV a b c x y (·.z))),C4 (nX (atV a b c x y (·.c0))) (nX (atV a b c x y (·.c1))) (nX (atV a b c x y (·.c2))) (nX (atV a b c x y (·.c3)))]
theorem aSx (a b c:WinP) (x y:Int) (h:ar a b c≠0):atT a (bE a b c) (bO a b c) (lK a b c) x y=atS a b c x y:=by
 simp only[atT,atS,uE a b c x y _ h]
theorem iD {a b c:WinP} {x y:Int} (h:cO a b c x y) (v:WinP->Int) (ha:bU (v a)) (hb:bU (v b)) (hc:bU (v c)):nX (atV a b c x y v)=atV a b c x y v:=by
 obtain ⟨h1,h2⟩:=iB h v
 apply iK
 unfold bU at ha hb hc;unfold sml;omega
abbrev atP (a b c:WinP) (x y:Int):Value:=.tuple #[.int .i64 (atV a b c x y (·.z)),C4 (atV a b c x y (·.c0)) (atV a b c x y (·.c1)) (atV a b c x y (·.c2)) (atV a b c x y (·.c3))]
theorem aEz {a b c:WinP} {x y:Int} (ha:a.fits) (hb:b.fits) (hc:c.fits) (hx:Near x y) (h:cO a b c x y) (w:World):Calls prog 91 #[a.v,b.v,c.v,x,y] w (Ret (atP a b c x y) w):=by
 have h0:=h.1;obtain ⟨a0,a1,a2,a3⟩:=gF ha;obtain ⟨b0,b1,b2,b3⟩:=gF hb;obtain ⟨c0,c1,c2,c3⟩:=gF hc;have ez:=iD h (·.z) (fW ha) (fW hb) (fW hc);have e0:=iD h (·.c0) a0 b0 c0;have e1:=iD h (·.c1) a1 b1 c1;have e2:=iD h (·.c2) a2 b2 c2;have e3:=iD h (·.c3) a3 b3 c3;have:=aE0 a b c x y ha hb hc hx h0 w;rw[aSx a b c x y h0] at this;simp only[atS,ez,e0,e1,e2,e3] at this;exact this
theorem aQ0 {a b c:WinP} {x y:Int} (ha:a.fits) (hb:b.fits) (hc:c.fits) (h:cO a b c x y):0<=atV a b c x y (·.z)/\atV a b c x y (·.z)<=16777215:=by
 obtain ⟨h1,h2⟩:=iB h (·.z);have:=ha.z0;have:=ha.z1;have:=hb.z0;have:=hb.z1;have:=hc.z0;have:=hc.z1
 omega
section
open Go.RowKit Go.ChangeShapes Go.WideShapes
def Sls (w:World) (k:Nat) (R:List Value->Prop) (v:Value) (L:List (List Value)):Prop :=
 (∀ r∈L,r.length=k/\R r)/\L.length<=maxLen/\∃ a cap,v=.slice a L.length cap/\L.length<=cap/\cap<=maxLen /\
  (L=[]\/∃ b off,a=some ⟨b,off,none⟩/\b<w.heap.size/\∀ i r,L[i]?=some r->∀ j u,r[j]?=some u->w.cell? ⟨b,off+i*k+j,none⟩=some u)
theorem wQ (b off j:Nat):(⟨b,off,none⟩:Addr).add j=⟨b,off+j,none⟩:=by
 unfold Addr.add;split
 ·subst_vars;rfl
 ·rfl
theorem gX {α:Type} (n:Nat) (p:Nat->α->Prop) (h:∀ i,i<n->∃ x,p i x):∃ L:List α,L.length=n/\∀ i x,L[i]?=some x->p i x:=by
 induction n with
 |zero=>exact ⟨[],rfl,fun i x h=>by simp at h⟩
 |succ n ih =>
  obtain ⟨L,hl,hL⟩:=ih fun i hi=>h i (by omega)
  obtain ⟨x,hx⟩:=h n (by omega);refine ⟨L++[x],by simp[hl],fun i y hy=>?_⟩;rw[List.getElem?_append] at hy
  split at hy
  ·exact hL i y hy
  ·rename_i hi
   have hi':i-L.length=0:=by
    rcases Nat.eq_zero_or_pos (i-L.length) with h|h
    ·exact h
    ·rw[List.getElem?_eq_none (by simp;omega)] at hy;cases hy
   rw[hi'] at hy;simp at hy;obtain rfl:i=n:=by omega
   rw[<-hy];exact hx
theorem xR {H:Type} {enc:TypeId×Value->H} {w:World} {fuel:Nat} {cs:List Value} {y:DataW H×List MemPlace} {t e:TypeId} {k:Nat} (ht:prog.underlying t=some (.slice e)) (hc:prog.cellsOf e=k) (hk:0<k) (R:List Value->Prop)
  (hR:∀ fuel cs y,DataW.trod enc prog w 0 (fun _=>true) true fuel e cs=some y->R cs) (h:DataW.trod enc prog w 0 (fun _=>true) true fuel t cs=some y):∃ x,cs=[x]/\∃ L,Sls w k R x L:=by
 rcases Go.Deep.open_slice ht h with ⟨rfl,-⟩|⟨a,len,cap,m,n,D,Pl,rfl,-,hl,hm,hmm,-,hi⟩
 ·exact ⟨_,rfl,[],by simp,by simp,none,0,rfl,Nat.le_refl _,Nat.zero_le _,.inl rfl⟩
 ·rw[hc] at hi;have hlm:len<=m:=by rw[hmm];split<;>omega
  obtain ⟨L,hL,hrow⟩:=gX len (fun i r=>r.length=k/\R r/\∀ j u,r[j]?=some u->w.cell? ((a.add (i*k)).add j)=some u) (fun i hil=>by
   obtain ⟨cs',hcs,htr⟩:=hi i (by omega);obtain ⟨_,hcl,hat⟩:=World.cells?_some hcs;refine ⟨cs',hcl,hR _ _ _ htr,fun j u hj=>?_⟩;have hjl:j<k:=by rw[<-hcl];exact (List.getElem?_eq_some_iff.1 hj).1
   rw[hat j hjl];exact hj)
  refine ⟨_,rfl,L,fun r hr=>?_,by omega,some a,cap,by rw[hL],by omega,hm,?_⟩
  ·obtain ⟨i,hi',rfl⟩:=List.mem_iff_getElem.1 hr;have:=hrow i _ (List.getElem?_eq_getElem hi');exact ⟨this.1,this.2.1⟩
  ·rcases Nat.eq_zero_or_pos len with h0|h0
   ·left;exact List.eq_nil_of_length_eq_zero (by omega)
   ·right
    have hs:a.spot=none:=by
     have h0':0<L.length:=by omega
     obtain ⟨h1,-,h2⟩:=hrow 0 _ (List.getElem?_eq_getElem h0');have h3:=h2 0 _ (List.getElem?_eq_getElem (by omega));cases hs:a.spot with
     |none=>rfl
     |some s=>simp[Addr.add,World.cell?,hs] at h3;split at h3<;>simp at h3
    have e:a=⟨a.block,a.off,none⟩:=by cases a;simp_all
    have hcell:∀ i r,L[i]?=some r->∀ j u,r[j]?=some u->w.cell? ⟨a.block,a.off+i*k+j,none⟩=some u:=fun i r hr j u hu=>by
     have:=(hrow i r hr).2.2 j u hu;rw[e,wQ,wQ] at this;exact this
    refine ⟨a.block,a.off,by rw[<-e],?_,hcell⟩;have h0':0<L.length:=by omega
    have h1:=(hrow 0 _ (List.getElem?_eq_getElem h0')).1;have h2:=hcell 0 _ (List.getElem?_eq_getElem h0') 0 _ (List.getElem?_eq_getElem (by omega));exact World.block_lt_of_cell? _ (⟨a.block,a.off+0*k+0,none⟩:Addr) h2
theorem aF2 {α:Type} (l:List α) (h:l.length=1):∃ c0,l=[c0]:=by
 match l,h with
 | [c0],_=>exact ⟨c0,rfl⟩
theorem aL0 {α:Type} (l:List α) (h:l.length=2):∃ c0 c1,l=[c0,c1]:=by
 match l,h with
 | [c0,c1],_=>exact ⟨c0,c1,rfl⟩
theorem aLz {α:Type} (l:List α) (h:l.length=3):∃ c0 c1 c2,l=[c0,c1,c2]:=by
 match l,h with
 | [c0,c1,c2],_=>exact ⟨c0,c1,c2,rfl⟩
theorem aLy {α:Type} (l:List α) (h:l.length=4):∃ c0 c1 c2 c3,l=[c0,c1,c2,c3]:=by
 match l,h with
 | [c0,c1,c2,c3],_=>exact ⟨c0,c1,c2,c3,rfl⟩
theorem aPy {α:Type} (l:List α) (h:l.length=5):∃ c0 c1 c2 c3 c4,l=[c0,c1,c2,c3,c4]:=by
 match l,h with
 | [c0,c1,c2,c3,c4],_=>exact ⟨c0,c1,c2,c3,c4,rfl⟩
theorem aPx {α:Type} (l:List α) (h:l.length=6):∃ c0 c1 c2 c3 c4 c5,l=[c0,c1,c2,c3,c4,c5]:=by
 match l,h with
 | [c0,c1,c2,c3,c4,c5],_=>exact ⟨c0,c1,c2,c3,c4,c5,rfl⟩
theorem aPw {α:Type} (l:List α) (h:l.length=9):∃ c0 c1 c2 c3 c4 c5 c6 c7 c8,l=[c0,c1,c2,c3,c4,c5,c6,c7,c8]:=by
 match l,h with
 | [c0,c1,c2,c3,c4,c5,c6,c7,c8],_=>exact ⟨c0,c1,c2,c3,c4,c5,c6,c7,c8,rfl⟩
theorem aNo {α:Type} (l:List α) (h:l.length=13):∃ c0 c1 c2 c3 c4 c5 c6 c7 c8 c9 c10 c11 c12,l=[c0,c1,c2,c3,c4,c5,c6,c7,c8,c9,c10,c11,c12]:=by
 match l,h with
 | [c0,c1,c2,c3,c4,c5,c6,c7,c8,c9,c10,c11,c12],_=>exact ⟨c0,c1,c2,c3,c4,c5,c6,c7,c8,c9,c10,c11,c12,rfl⟩
section
variable {H:Type} {enc:TypeId×Value->H} {w:World} {fuel base:Nat} {cs:List Value} {y:DataW H×List MemPlace} {v:Value} {d:DataW H} {ps:List MemPlace}
theorem aAk (h:DataW.trod enc prog w 0 (fun _=>true) true fuel 5 cs=some y):∃ (x:Int),cs=[.int .u8 x]/\(0<=x/\x<=255):=by
 obtain ⟨n,rfl,-,hw⟩:=DataW.trod_int Tryz.underlying5 h;exact ⟨n,rfl,by have:=bounds_u8 hw;simpa using this⟩
theorem iQ (h:DataW.trod enc prog w 0 (fun _=>true) true fuel 3 cs=some y):∃ (x:Int),cs=[.int .i64 x]/\(-9223372036854775808<=x/\x<=9223372036854775807):=by
 obtain ⟨n,rfl,-,hw⟩:=DataW.trod_int Tryz.underlying3 h;exact ⟨n,rfl,by have:=bounds_i64 hw;simpa using this⟩
theorem aJn (h:DataW.trod enc prog w 0 (fun _=>true) true fuel 43 cs=some y):∃ (x0:Int) (x1:Int) (x2:Int) (x3:Int),cs=[.int .i64 x0,.int .i64 x1,.int .i64 x2,.int .i64 x3]/\(-9223372036854775808<=x0/\x0<=9223372036854775807)/\(-9223372036854775808<=x1/\x1<=9223372036854775807)/\(-9223372036854775808<=x2/\x2<=9223372036854775807)/\(-9223372036854775808<=x3/\x3<=9223372036854775807):=by
 obtain ⟨ys,m,-,-,hl,hn,hf⟩:=DataW.trod_array Tryz.underlying43 h;rw[show prog.cellsOf 43=4 from by kernel_rfl] at hl;obtain ⟨c0,c1,c2,c3,rfl⟩:=aLy cs hl;obtain ⟨y0,y1,y2,y3,rfl⟩:=aLy ys hn;obtain ⟨x0,e,hx0⟩:=iQ (cs:=[c0]) (show _=some y0 from hf 0 (by decide));simp only[List.cons.injEq,and_true] at e;obtain rfl:=e;obtain ⟨x1,e,hx1⟩:=iQ (cs:=[c1]) (show _=some y1 from hf 1 (by decide));simp only[List.cons.injEq,and_true] at e;obtain rfl:=e;obtain ⟨x2,e,hx2⟩:=iQ (cs:=[c2]) (show _=some y2 from hf 2 (by decide));simp only[List.cons.injEq,and_true] at e;obtain rfl:=e;obtain ⟨x3,e,hx3⟩:=iQ (cs:=[c3]) (show _=some y3 from hf 3 (by decide));simp only[List.cons.injEq,and_true] at e;obtain rfl:=e;exact ⟨_,_,_,_,rfl,hx0,hx1,hx2,hx3⟩
theorem aEq (h:DataW.trod enc prog w 0 (fun _=>true) true fuel 4 cs=some y):∃ (x:Bool),cs=[.bool x]/\True:=by
 obtain ⟨n,rfl,-⟩:=DataW.trod_bool Tryz.underlying4 h;exact ⟨n,rfl,trivial⟩
theorem aEr (h:DataW.trod enc prog w 0 (fun _=>true) true fuel 23 cs=some y):∃ (x:Value),cs=[x]/\(∃ zx,Sls w 1 (fun r=>∃ (ex:Bool),r=[.bool ex]/\True) x zx):=by
 exact xR Tryz.underlying23 (by kernel_rfl) (by decide) _ (fun fuel cs y h=>aEq h) h
theorem aEu (h:DataW.trod enc prog w 0 (fun _=>true) true fuel 145 cs=some y):∃ (x0:Int) (x1:Int) (x2:Int),cs=[.int .i64 x0,.int .i64 x1,.int .i64 x2]/\(-9223372036854775808<=x0/\x0<=9223372036854775807)/\(-9223372036854775808<=x1/\x1<=9223372036854775807)/\(-9223372036854775808<=x2/\x2<=9223372036854775807):=by
 obtain ⟨ys,m,-,-,hl,hn,hf⟩:=DataW.trod_array Tryz.underlying145 h;rw[show prog.cellsOf 145=3 from by kernel_rfl] at hl;obtain ⟨c0,c1,c2,rfl⟩:=aLz cs hl;obtain ⟨y0,y1,y2,rfl⟩:=aLz ys hn;obtain ⟨x0,e,hx0⟩:=iQ (cs:=[c0]) (show _=some y0 from hf 0 (by decide));simp only[List.cons.injEq,and_true] at e;obtain rfl:=e;obtain ⟨x1,e,hx1⟩:=iQ (cs:=[c1]) (show _=some y1 from hf 1 (by decide));simp only[List.cons.injEq,and_true] at e;obtain rfl:=e;obtain ⟨x2,e,hx2⟩:=iQ (cs:=[c2]) (show _=some y2 from hf 2 (by decide));simp only[List.cons.injEq,and_true] at e;obtain rfl:=e;exact ⟨_,_,_,rfl,hx0,hx1,hx2⟩
theorem xS (h:DataW.trod enc prog w 0 (fun _=>true) true fuel 66 cs=some y):∃ (x:Value),cs=[x]/\(∃ zx,Sls w 3 (fun r=>∃ (ex0:Int) (ex1:Int) (ex2:Int),r=[.int .i64 ex0,.int .i64 ex1,.int .i64 ex2]/\(-9223372036854775808<=ex0/\ex0<=9223372036854775807)/\(-9223372036854775808<=ex1/\ex1<=9223372036854775807)/\(-9223372036854775808<=ex2/\ex2<=9223372036854775807)) x zx):=by
 exact xR Tryz.underlying66 (by kernel_rfl) (by decide) _ (fun fuel cs y h=>aEu h) h
theorem aM8 (h:DataW.trod enc prog w 0 (fun _=>true) true fuel 68 cs=some y):∃ (xV:Value) (xE:Value),cs=[xV,xE]/\(∃ zxV,Sls w 3 (fun r=>∃ (exV0:Int) (exV1:Int) (exV2:Int),r=[.int .i64 exV0,.int .i64 exV1,.int .i64 exV2]/\(-9223372036854775808<=exV0/\exV0<=9223372036854775807)/\(-9223372036854775808<=exV1/\exV1<=9223372036854775807)/\(-9223372036854775808<=exV2/\exV2<=9223372036854775807)) xV zxV)/\(∃ zxE,Sls w 1 (fun r=>∃ (exE:Bool),r=[.bool exE]/\True) xE zxE):=by
 obtain ⟨ys,m,-,-,hl,hn,hf⟩:=DataW.trod_struct Tryz.underlying68 h;rw[show prog.cellsOf 68=2 from by kernel_rfl] at hl;obtain ⟨c0,c1,rfl⟩:=aL0 cs hl;obtain ⟨y0,y1,rfl⟩:=aL0 ys hn;obtain ⟨xV,e,hxV⟩:=xS (cs:=[c0]) (show _=some y0 from hf 0 _ rfl);simp only[List.cons.injEq,and_true] at e;obtain rfl:=e;obtain ⟨xE,e,hxE⟩:=aEr (cs:=[c1]) (show _=some y1 from hf 1 _ rfl);simp only[List.cons.injEq,and_true] at e;obtain rfl:=e;exact ⟨_,_,rfl,hxV,hxE⟩
theorem aEs (h:DataW.trod enc prog w 0 (fun _=>true) true fuel 46 cs=some y):∃ (x:Value),cs=[x]/\(∃ zx,Sls w 2 (fun r=>∃ (exV:Value) (exE:Value),r=[exV,exE]/\(∃ zexV,Sls w 3 (fun r=>∃ (eexV0:Int) (eexV1:Int) (eexV2:Int),r=[.int .i64 eexV0,.int .i64 eexV1,.int .i64 eexV2]/\(-9223372036854775808<=eexV0/\eexV0<=9223372036854775807)/\(-9223372036854775808<=eexV1/\eexV1<=9223372036854775807)/\(-9223372036854775808<=eexV2/\eexV2<=9223372036854775807)) exV zexV)/\(∃ zexE,Sls w 1 (fun r=>∃ (eexE:Bool),r=[.bool eexE]/\True) exE zexE)) x zx):=by
 exact xR Tryz.underlying46 (by kernel_rfl) (by decide) _ (fun fuel cs y h=>aM8 h) h
theorem aEt (h:DataW.trod enc prog w 0 (fun _=>true) true fuel 48 cs=some y):∃ (xFactor:Int) (xUnits:Int) (xCcw:Bool) (xCull:Int) (xWidth:Int) (xLine0:Int) (xLine1:Int) (xLine2:Int) (xLine3:Int),cs=[.int .i64 xFactor,.int .i64 xUnits,.bool xCcw,.int .i64 xCull,.int .i64 xWidth,.int .i64 xLine0,.int .i64 xLine1,.int .i64 xLine2,.int .i64 xLine3]/\(-9223372036854775808<=xFactor/\xFactor<=9223372036854775807)/\(-9223372036854775808<=xUnits/\xUnits<=9223372036854775807)/\(-9223372036854775808<=xCull/\xCull<=9223372036854775807)/\(-9223372036854775808<=xWidth/\xWidth<=9223372036854775807)/\(-9223372036854775808<=xLine0/\xLine0<=9223372036854775807)/\(-9223372036854775808<=xLine1/\xLine1<=9223372036854775807)/\(-9223372036854775808<=xLine2/\xLine2<=9223372036854775807)/\(-9223372036854775808<=xLine3/\xLine3<=9223372036854775807):=by
 obtain ⟨ys,m,-,-,hl,hn,hf⟩:=DataW.trod_struct Tryz.underlying48 h;rw[show prog.cellsOf 48=9 from by kernel_rfl] at hl;obtain ⟨c0,c1,c2,c3,c4,c5,c6,c7,c8,rfl⟩:=aPw cs hl;obtain ⟨y0,y1,y2,y3,y4,y5,rfl⟩:=aPx ys hn;obtain ⟨xFactor,e,hxFactor⟩:=iQ (cs:=[c0]) (show _=some y0 from hf 0 _ rfl);simp only[List.cons.injEq,and_true] at e;obtain rfl:=e;obtain ⟨xUnits,e,hxUnits⟩:=iQ (cs:=[c1]) (show _=some y1 from hf 1 _ rfl);simp only[List.cons.injEq,and_true] at e;obtain rfl:=e;obtain ⟨xCcw,e,hxCcw⟩:=aEq (cs:=[c2]) (show _=some y2 from hf 2 _ rfl);simp only[List.cons.injEq,and_true] at e;obtain rfl:=e;obtain ⟨xCull,e,hxCull⟩:=iQ (cs:=[c3]) (show _=some y3 from hf 3 _ rfl);simp only[List.cons.injEq,and_true] at e;obtain rfl:=e;obtain ⟨xWidth,e,hxWidth⟩:=iQ (cs:=[c4]) (show _=some y4 from hf 4 _ rfl);simp only[List.cons.injEq,and_true] at e;obtain rfl:=e;obtain ⟨xLine0,xLine1,xLine2,xLine3,e,hxLine⟩:=aJn (cs:=[c5,c6,c7,c8]) (show _=some y5 from hf 5 _ rfl);simp only[List.cons.injEq,and_true] at e;obtain ⟨rfl,rfl,rfl,rfl⟩:=e;exact ⟨_,_,_,_,_,_,_,_,_,rfl,hxFactor,hxUnits,hxCull,hxWidth,hxLine.1,hxLine.2.1,hxLine.2.2.1,hxLine.2.2.2⟩
theorem kV (h:DataW.trod enc prog w 0 (fun _=>true) true fuel 50 cs=some y):∃ (xL:Value) (xSFactor:Int) (xSUnits:Int) (xSCcw:Bool) (xSCull:Int) (xSWidth:Int) (xSLine0:Int) (xSLine1:Int) (xSLine2:Int) (xSLine3:Int) (xW:Int) (xH:Int) (xFar:Int),cs=[xL,.int .i64 xSFactor,.int .i64 xSUnits,.bool xSCcw,.int .i64 xSCull,.int .i64 xSWidth,.int .i64 xSLine0,.int .i64 xSLine1,.int .i64 xSLine2,.int .i64 xSLine3,.int .u8 xW,.int .u8 xH,.int .i64 xFar]/\(∃ zxL,Sls w 2 (fun r=>∃ (exLV:Value) (exLE:Value),r=[exLV,exLE]/\(∃ zexLV,Sls w 3 (fun r=>∃ (eexLV0:Int) (eexLV1:Int) (eexLV2:Int),r=[.int .i64 eexLV0,.int .i64 eexLV1,.int .i64 eexLV2]/\(-9223372036854775808<=eexLV0/\eexLV0<=9223372036854775807)/\(-9223372036854775808<=eexLV1/\eexLV1<=9223372036854775807)/\(-9223372036854775808<=eexLV2/\eexLV2<=9223372036854775807)) exLV zexLV)/\(∃ zexLE,Sls w 1 (fun r=>∃ (eexLE:Bool),r=[.bool eexLE]/\True) exLE zexLE)) xL zxL)/\(-9223372036854775808<=xSFactor/\xSFactor<=9223372036854775807)/\(-9223372036854775808<=xSUnits/\xSUnits<=9223372036854775807)/\(-9223372036854775808<=xSCull/\xSCull<=9223372036854775807)/\(-9223372036854775808<=xSWidth/\xSWidth<=9223372036854775807)/\(-9223372036854775808<=xSLine0/\xSLine0<=9223372036854775807)/\(-9223372036854775808<=xSLine1/\xSLine1<=9223372036854775807)/\(-9223372036854775808<=xSLine2/\xSLine2<=9223372036854775807)/\(-9223372036854775808<=xSLine3/\xSLine3<=9223372036854775807)/\(0<=xW/\xW<=255)/\(0<=xH/\xH<=255)/\(-9223372036854775808<=xFar/\xFar<=9223372036854775807):=by
 obtain ⟨ys,m,-,-,hl,hn,hf⟩:=DataW.trod_struct Tryz.underlying50 h;rw[show prog.cellsOf 50=13 from by kernel_rfl] at hl;obtain ⟨c0,c1,c2,c3,c4,c5,c6,c7,c8,c9,c10,c11,c12,rfl⟩:=aNo cs hl;obtain ⟨y0,y1,y2,y3,y4,rfl⟩:=aPy ys hn;obtain ⟨xL,e,hxL⟩:=aEs (cs:=[c0]) (show _=some y0 from hf 0 _ rfl);simp only[List.cons.injEq,and_true] at e;obtain rfl:=e;obtain ⟨xSFactor,xSUnits,xSCcw,xSCull,xSWidth,xSLine0,xSLine1,xSLine2,xSLine3,e,hxS⟩:=aEt (cs:=[c1,c2,c3,c4,c5,c6,c7,c8,c9]) (show _=some y1 from hf 1 _ rfl);simp only[List.cons.injEq,and_true] at e;obtain ⟨rfl,rfl,rfl,rfl,rfl,rfl,rfl,rfl,rfl⟩:=e;obtain ⟨xW,e,hxW⟩:=aAk (cs:=[c10]) (show _=some y2 from hf 2 _ rfl);simp only[List.cons.injEq,and_true] at e;obtain rfl:=e;obtain ⟨xH,e,hxH⟩:=aAk (cs:=[c11]) (show _=some y3 from hf 3 _ rfl);simp only[List.cons.injEq,and_true] at e;obtain rfl:=e;obtain ⟨xFar,e,hxFar⟩:=iQ (cs:=[c12]) (show _=some y4 from hf 4 _ rfl);simp only[List.cons.injEq,and_true] at e;obtain rfl:=e;exact ⟨_,_,_,_,_,_,_,_,_,_,_,_,_,rfl,hxL,hxS.1,hxS.2.1,hxS.2.2.1,hxS.2.2.2.1,hxS.2.2.2.2.1,hxS.2.2.2.2.2.1,hxS.2.2.2.2.2.2.1,hxS.2.2.2.2.2.2.2,hxW,hxH,hxFar⟩
theorem cV (hv:Value.okWide prog w .any base 50 v) (h:DataW.Trod enc prog w 0 (fun _=>true) true 50 v d ps):∃ (xL:Value) (xSFactor:Int) (xSUnits:Int) (xSCcw:Bool) (xSCull:Int) (xSWidth:Int) (xSLine0:Int) (xSLine1:Int) (xSLine2:Int) (xSLine3:Int) (xW:Int) (xH:Int) (xFar:Int),v=.agg #[xL,xSFactor,xSUnits,.bool xSCcw,xSCull,xSWidth,xSLine0,xSLine1,xSLine2,xSLine3,.int .u8 xW,.int .u8 xH,xFar]/\(∃ zxL,Sls w 2 (fun r=>∃ (exLV:Value) (exLE:Value),r=[exLV,exLE]/\(∃ zexLV,Sls w 3 (fun r=>∃ (eexLV0:Int) (eexLV1:Int) (eexLV2:Int),r=[.int .i64 eexLV0,.int .i64 eexLV1,.int .i64 eexLV2]/\(-9223372036854775808<=eexLV0/\eexLV0<=9223372036854775807)/\(-9223372036854775808<=eexLV1/\eexLV1<=9223372036854775807)/\(-9223372036854775808<=eexLV2/\eexLV2<=9223372036854775807)) exLV zexLV)/\(∃ zexLE,Sls w 1 (fun r=>∃ (eexLE:Bool),r=[.bool eexLE]/\True) exLE zexLE)) xL zxL)/\(-9223372036854775808<=xSFactor/\xSFactor<=9223372036854775807)/\(-9223372036854775808<=xSUnits/\xSUnits<=9223372036854775807)/\(-9223372036854775808<=xSCull/\xSCull<=9223372036854775807)/\(-9223372036854775808<=xSWidth/\xSWidth<=9223372036854775807)/\(-9223372036854775808<=xSLine0/\xSLine0<=9223372036854775807)/\(-9223372036854775808<=xSLine1/\xSLine1<=9223372036854775807)/\(-9223372036854775808<=xSLine2/\xSLine2<=9223372036854775807)/\(-9223372036854775808<=xSLine3/\xSLine3<=9223372036854775807)/\(0<=xW/\xW<=255)/\(0<=xH/\xH<=255)/\(-9223372036854775808<=xFar/\xFar<=9223372036854775807):=by
 obtain ⟨cs,rfl,-⟩:∃ cs,v=.agg cs/\True:=by
  simp only[Value.okWide,Tryz.underlying50] at hv;obtain ⟨cs,e,-⟩:=hv;exact ⟨cs,e,trivial⟩
 obtain ⟨fuel,h⟩:=h;obtain ⟨xL,xSFactor,xSUnits,xSCcw,xSCull,xSWidth,xSLine0,xSLine1,xSLine2,xSLine3,xW,xH,xFar,e,hf⟩:=kV h;exact ⟨xL,xSFactor,xSUnits,xSCcw,xSCull,xSWidth,xSLine0,xSLine1,xSLine2,xSLine3,xW,xH,xFar,by rw[<-Array.toArray_toList (xs:=cs),show cs.toList=_ from e],hf⟩
end
end
end Go.Proofs.YthcjfanigfgckaaGreat
