import Derived.Test.YthcjfanigfgckaaGreatSHiddenOrder07
import Derived.Test.YthcjfanigfgckaaGreatSHiddenOrder18
set_option linter.unusedVariables false
set_option linter.unusedSimpArgs false
set_option maxRecDepth 100000
set_option maxHeartbeats 16000000
namespace Go.Proofs.YthcjfanigfgckaaGreat
open Go.RowKit
section
section
variable {α:Type} {K:RecK α} {P:Program} {w:World}
theorem run_append_recs (base:Nat) (t ty e:TypeId) (i:TypeInfo) (z:Value) (bytes:Nat) (ht:P.underlying t=some (.slice e)) (hi:P.info? e=some i) (hz:i.zero=some z)
  (hsize:i.size=K.k) (hby:i.bytes=bytes) (hzs:z.cells.size=K.k) (v:Value) (L:List α) (hown:w.ownsRow base e K.k v L.length (L.flatMap K.cells)) (x:Value) (M:List α) (hM:Recs K w x M)
  (h63:L.length+M.length<=maxLen) (hbytes:(L.length+M.length)*bytes<=140737488355328) (hbase:base<=w.heap.size) :
  ∃ v' w',(Builtin.append_ #[t,t] ty #[v,x]).run P w=.ok v' w'/\w'.ownsRow base e K.k v' (L++M).length ((L++M).flatMap K.cells)/\w.grownBy w' v.ownBlock:=by
 obtain ⟨h1,a,cap,rfl,h2,h3⟩:=hM;rw[List.length_append,List.flatMap_append]
 by_cases hne:M=[]
 ·subst hne;cases a with
  |some a =>
   obtain ⟨v',w',hr,q1,q2,-⟩:=run_append_own (P:=P) w base t ty e i z K.k bytes ht hi hz hsize hby hzs K.pos v L.length _ hown a 0 cap [] (by simp) (fun j u hj=>by simp at hj) (fun u hu=>by cases hu) h63 hbytes hbase;exact ⟨v',w',hr,by simpa using q1,q2⟩
  |none =>
   refine ⟨v,w,?_,by simpa using hown,World.grownBy.refl _ _⟩;rcases hown.2 with ⟨rfl,h0⟩|⟨g,cap',cur,rfl,_,_,hnc,_⟩
   ·simp[Builtin.append_,run_underlying ht,sizeOf,typeInfo,hi,Builtin.lenOf,Builtin.firstCells]
   ·simp[Builtin.append_,run_underlying ht,sizeOf,typeInfo,hi,Builtin.lenOf,Builtin.firstCells,hnc,storeCells]
 ·rcases h3 with h3|⟨b,off,rfl,hb,hcl⟩
  ·exact absurd h3 hne
  ·obtain ⟨v',w',hr,q1,q2,-⟩:=run_append_own (P:=P) w base t ty e i z K.k bytes ht hi hz hsize hby hzs K.pos v L.length _ hown ⟨b,off,none⟩ M.length cap (M.flatMap K.cells) (K.flat_len M) (fun j u hj=>by
    have hjl:j<M.length*K.k:=by rw[<-K.flat_len M];exact (List.getElem?_eq_some_iff.1 hj).1
    have hq:j/K.k<M.length:=(Nat.div_lt_iff_lt_mul K.pos).2 hjl;have hr:j%K.k<(K.cells (M[j/K.k]'hq)).length:=by rw[K.len];exact Nat.mod_lt _ K.pos
    have e1:=K.flat_at M (j/K.k) _ (j%K.k) _ (List.getElem?_eq_getElem hq) (List.getElem?_eq_getElem hr);have e2:j/K.k*K.k+j%K.k=j:=by rw[Nat.mul_comm];exact Nat.div_add_mod _ _
    rw[e2,hj] at e1;have:=hcl (j/K.k) _ (List.getElem?_eq_getElem hq) (j%K.k) u (by rw[List.getElem?_eq_getElem hr,<-e1]);rw[addr_addR,<-this,Nat.add_assoc,e2]) (K.flat_one M) h63 hbytes hbase
   exact ⟨v',w',hr,q1,q2⟩
theorem wp_append_recs {o:Oper} {a:Act} {C:Act->World->Prop} {Q:Exit->Act->World->Prop} (s x:Operand) (t:TypeId)
  (ho:o.op=.call { callee:=.builtin .append,args:=#[s,x],argTypes:=#[t,t] })
  (base:Nat) (e:TypeId) (i:TypeInfo) (z:Value) (bytes:Nat) (ht:P.underlying t=some (.slice e)) (hi:P.info? e=some i) (hz:i.zero=some z)
  (hsize:i.size=K.k) (hby:i.bytes=bytes) (hzs:z.cells.size=K.k) (v:Value) (L:List α) (hs:a.eval s=v) (hown:w.ownsRow base e K.k v L.length (L.flatMap K.cells)) (xv:Value) (M:List α) (hx:a.eval x=xv) (hM:Recs K w xv M)
  (h63:L.length+M.length<=maxLen) (hbytes:(L.length+M.length)*bytes<=140737488355328) (hbase:base<=w.heap.size)
  (h:∀ v' w',w'.ownsRow base e K.k v' (L++M).length ((L++M).flatMap K.cells)->w.grownBy w' v.ownBlock->C (a.put o.dst v') w'):o.wp P a w C Q:=by
 obtain ⟨v',w',hr,h2,h3⟩:=run_append_recs (P:=P) base t o.type e i z bytes ht hi hz hsize hby hzs v L hown xv M hM h63 hbytes hbase;unfold Oper.wp execOp;simp only[ho,resolve,invoke,builtin,Sem.run_bind,Sem.run_pure,Result.andThen_ok,List.map_toArray,List.map_cons,List.map_nil,hs,hx,hr];exact h v' w' h2 h3
theorem wpList_append_recs {ops:Array Oper} {rest:List Oper} {o:Oper} {a:Act} {Q:Exit->Act->World->Prop} (hgd:o.guard=none) (s x:Operand) (t:TypeId)
  (ho:o.op=.call { callee:=.builtin .append,args:=#[s,x],argTypes:=#[t,t] })
  (base:Nat) (e:TypeId) (i:TypeInfo) (z:Value) (bytes:Nat) (ht:P.underlying t=some (.slice e)) (hi:P.info? e=some i) (hz:i.zero=some z)
  (hsize:i.size=K.k) (hby:i.bytes=bytes) (hzs:z.cells.size=K.k) (v:Value) (L:List α) (hs:a.eval s=v) (hown:w.ownsRow base e K.k v L.length (L.flatMap K.cells)) (xv:Value) (M:List α) (hx:a.eval x=xv) (hM:Recs K w xv M)
  (h63:L.length+M.length<=maxLen) (hbytes:(L.length+M.length)*bytes<=140737488355328) (hbase:base<=w.heap.size)
  (h:∀ v' w',w'.ownsRow base e K.k v' (L++M).length ((L++M).flatMap K.cells)->w.grownBy w' v.ownBlock->wpList P ops Q rest (a.put o.dst v') w'):wpList P ops Q (o::rest) a w :=
 wpList_plain hgd fun _ hK=>wp_append_recs s x t ho base e i z bytes ht hi hz hsize hby hzs v L hs hown xv M hx hM h63 hbytes hbase fun v' w' h2 h3=>hK _ _ (h v' w' h2 h3)
theorem Hold.more {w wr w1:World} {E:TypeId} {R:List (Nat×Array Value×TypeId)} {v v':Value} {L M:List α} (h:Hold K w wr E R v L)
  (hown:w1.ownsRow w.heap.size E K.k v' (L++M).length ((L++M).flatMap K.cells)) (hg:wr.grownBy w1 v.ownBlock):Hold K w w1 E R v' (L++M) :=
 ⟨fun r hr=>(h.rows r hr).keptR hg (row_apart (h.rows r hr) (h.far r hr) h.own),h.far,hown,jz (Below.grown h.below hg h.size fun k hk=>(h.own.lt k hk).1)⟩
end
end
def leastS (p q:WinP):Int:=if q.y-p.y<0\/(q.y-p.y=0/\q.x-p.x<0) then 0 else 1
def firstS (p q:WinP) (y:Int):Int:=ar p q (midP 0 y)-leastS p q
def rowF (p q:WinP) (y f:Int):Int:=if q.y-p.y<0 then max f (-(firstS p q y/(-(q.y-p.y)*256))) else f
def rowT (p q:WinP) (y f t:Int):Int:=if 0<q.y-p.y then min t (firstS p q y/((q.y-p.y)*256)+1) else if q.y-p.y<0 then t else if firstS p q y<0 then f else t
theorem left_least (p q:WinP) (x y:Int):leftP p q x y↔leastS p q<=ar p q (midP x y):=by
 unfold leftP leastS
 split<;>omega
theorem ar_col (p q:WinP) (x y:Int):ar p q (midP x y)=ar p q (midP 0 y)-(q.y-p.y)*256*x:=by
 unfold ar;simp only[midP];grind
theorem row_iff (p q:WinP) (x y f t:Int):(rowF p q y f<=x/\x<rowT p q y f t)↔(f<=x/\x<t/\leftP p q x y):=by
 rw[left_least,ar_col];have e:(leastS p q<=ar p q (midP 0 y)-(q.y-p.y)*256*x)↔(q.y-p.y)*256*x<=firstS p q y:=by unfold firstS;omega
 rw[e];unfold rowF rowT;generalize firstS p q y=F;generalize q.y-p.y=h
 by_cases c:h<0
 ·rw[if_pos c,if_neg (by omega),if_pos c];have k:-x<=F/(-h*256)↔-x*(-h*256)<=F:=Int.le_ediv_iff_mul_le (by omega);have k2:-x*(-h*256)=h*256*x:=by grind
  rw[k2] at k;omega
 ·rw[if_neg c]
  by_cases c2:0<h
  ·rw[if_pos c2];have k:x<=F/(h*256)↔x*(h*256)<=F:=Int.le_ediv_iff_mul_le (by omega);have k2:x*(h*256)=h*256*x:=Int.mul_comm _ _;rw[k2] at k;omega
  ·rw[if_neg c2,if_neg c];obtain rfl:h=0:=by omega
   simp only[Int.zero_mul]
   split<;>omega
def spF (a b c:WinP) (x0 y:Int):Int:=rowF (triC a b c) a y (rowF (triB a b c) (triC a b c) y (rowF a (triB a b c) y x0))
def spT (a b c:WinP) (x0 x1 y:Int):Int:=rowT (triC a b c) a y (rowF (triB a b c) (triC a b c) y (rowF a (triB a b c) y x0)) (rowT (triB a b c) (triC a b c) y (rowF a (triB a b c) y x0) (rowT a (triB a b c) y x0 x1))
theorem span_iff {a b c:WinP} (h:ar a b c≠0) (x0 x1 x y:Int):(spF a b c x0 y<=x/\x<spT a b c x0 x1 y)↔(x0<=x/\x<x1/\triHas a b c x y):=by
 unfold spF spT triHas
 constructor
 ·intro k;obtain ⟨k1,k2,k3⟩:=(row_iff _ _ _ _ _ _).1 k;obtain ⟨l1,l2,l3⟩:=(row_iff _ _ _ _ _ _).1 ⟨k1,k2⟩;obtain ⟨m1,m2,m3⟩:=(row_iff _ _ _ _ _ _).1 ⟨l1,l2⟩;exact ⟨m1,m2,h,m3,l3,k3⟩
 ·rintro ⟨h1,h2,-,h3,h4,h5⟩;have m:=(row_iff a (triB a b c) x y x0 x1).2 ⟨h1,h2,h3⟩;have l:=(row_iff (triB a b c) (triC a b c) x y _ _).2 ⟨m.1,m.2,h4⟩;exact (row_iff (triC a b c) a x y _ _).2 ⟨l.1,l.2,h5⟩
theorem tri_rows {a b c:WinP} {x y:Int} (h:triHas a b c x y):min a.y (min b.y c.y)<=y*256+128/\y*256+128<=max a.y (max b.y c.y):=by
 obtain ⟨w0,w1,w2⟩:=has_weights h;have hs:=ar_sum a (triB a b c) (triC a b c) (midP x y);have hn:=tri_n0 a b c;have h0:=h.1;have e:ar (midP x y) (triB a b c) (triC a b c)*a.y+ar a (midP x y) (triC a b c)*(triB a b c).y+ar a (triB a b c) (midP x y)*(triC a b c).y=ar a (triB a b c) (triC a b c)*(y*256+128):=by
  generalize triB a b c=B;generalize triC a b c=C
  unfold ar;simp only[midP];grind
 rw[tri_n] at hs e;have m:(min a.y (min b.y c.y)<=(triB a b c).y/\(triB a b c).y<=max a.y (max b.y c.y))/\min a.y (min b.y c.y)<=(triC a b c).y/\(triC a b c).y<=max a.y (max b.y c.y):=by
  rcases tri_or a b c with ⟨e1,e2⟩|⟨e1,e2⟩<;>rw[e1,e2]<;>omega
 obtain ⟨⟨m1,m2⟩,m3,m4⟩:=m;have k:=mix_among (lo:=min a.y (min b.y c.y)) (hi:=max a.y (max b.y c.y)) (p:=a.y) w0 w1 w2 hs (by omega) (by omega) (by omega) m1 m2 m3 m4;rw[e,Int.mul_ediv_cancel_left _ (by omega)] at k;exact k
def spanAt (a b c:WinP) (x0 x1 y:Int):List SpP:=if spF a b c x0 y<spT a b c x0 x1 y then [⟨y,spF a b c x0 y,spT a b c x0 x1 y⟩] else []
def spansTo (a b c:WinP) (x0 x1 y0 y:Int):List SpP:=(rng y0 y).flatMap (spanAt a b c x0 x1)
def spansL (a b c:WinP) (x0 y0 x1 y1:Int):List SpP:=if ar a b c=0\/¬rightP x0 y0 x1 y1 then [] else spansTo a b c x0 x1 y0 y1
theorem spansTo_snoc (a b c:WinP) (x0 x1 y0 y:Int) (h:y0<=y):spansTo a b c x0 x1 y0 (y+1)=spansTo a b c x0 x1 y0 y++spanAt a b c x0 x1 y:=by
 unfold spansTo;rw[rng_snoc h,List.flatMap_append,List.flatMap_cons,List.flatMap_nil,List.append_nil]
theorem spanAt_none {a b c:WinP} (h:ar a b c≠0) {x0 x1 y:Int} (hy:y*256+128<min a.y (min b.y c.y)\/max a.y (max b.y c.y)<y*256+128):spanAt a b c x0 x1 y=[]:=by
 unfold spanAt;rw[if_neg];intro hl;have:=((span_iff h x0 x1 (spF a b c x0 y) y).1 ⟨Int.le_refl _,hl⟩).2.2;have:=tri_rows this;omega
theorem spansTo_low {a b c:WinP} (h:ar a b c≠0) {x0 x1 y0 y:Int} (hy:∀ z,y0<=z->z<y->z*256+128<min a.y (min b.y c.y)\/max a.y (max b.y c.y)<z*256+128):spansTo a b c x0 x1 y0 y=[]:=by
 unfold spansTo;rw[List.flatMap_eq_nil_iff];intro z hz;obtain ⟨h1,h2⟩:=rng_mem.1 hz;exact spanAt_none h (hy z h1 h2)
theorem spansTo_high {a b c:WinP} (h:ar a b c≠0) {x0 x1 y0 y:Int} (h0:y0<=y) (n:Nat) (hy:∀ z,y<=z->z*256+128<min a.y (min b.y c.y)\/max a.y (max b.y c.y)<z*256+128):spansTo a b c x0 x1 y0 (y+n)=spansTo a b c x0 x1 y0 y:=by
 induction n with
 |zero=>simp
 |succ n ih =>
  rw[show y+((n+1:Nat):Int)=(y+n)+1 by omega,spansTo_snoc _ _ _ _ _ _ _ (by omega),ih,spanAt_none h (hy _ (by omega)),List.append_nil]
theorem spans_start {a b c:WinP} (h:ar a b c≠0) (x0 x1 y0:Int):spansTo a b c x0 x1 y0 (max y0 (min a.y (min b.y c.y)/256-1))=[] :=
 spansTo_low h fun z h1 h2=>.inl (by omega)
theorem spans_end {a b c:WinP} (h:ar a b c≠0) (x0 x1 y0 y1 y:Int) (hy:y0<=y1) (h1:max y0 (min a.y (min b.y c.y)/256-1)<=y)
  (h2:y<=max (max y0 (min a.y (min b.y c.y)/256-1)) (min y1 (max a.y (max b.y c.y)/256+2))) (h3:min y1 (max a.y (max b.y c.y)/256+2)<=y):spansTo a b c x0 x1 y0 y=spansTo a b c x0 x1 y0 y1:=by
 by_cases c1:y<=y1
 ·by_cases c2:y=y1
  ·rw[c2]
  ·have:=spansTo_high h (x0:=x0) (x1:=x1) (y0:=y0) (y:=y) (by omega) (y1-y).toNat fun z hz=>.inr (by omega)
   rw[show y+((y1-y).toNat:Int)=y1 by omega] at this;exact this.symm
 ·rw[spansTo_low h (y:=y) fun z k1 k2=>.inl (by omega),spansTo_low h (y:=y1) fun z k1 k2=>.inl (by omega)]
theorem spansTo_len (a b c:WinP) (x0 x1 y0 y:Int):(spansTo a b c x0 x1 y0 y).length<=(y-y0).toNat:=by
 unfold spansTo;rw[<-rng_len y0 y]
 induction rng y0 y with
 |nil=>simp
 |cons z l ih =>
  rw[List.flatMap_cons,List.length_append,List.length_cons];have:(spanAt a b c x0 x1 z).length<=1:=by unfold spanAt;split<;>simp
  omega
def frAt (a b c:WinP) (o x y:Int):FrP:=⟨x,y,max 0 (min (atV a b c x y (·.z)+o) 16777215),atV a b c x y (·.c0),atV a b c x y (·.c1),atV a b c x y (·.c2),atV a b c x y (·.c3),64⟩
def fillRow (a b c:WinP) (o:Int) (s:SpP):List FrP:=(rng s.x0 s.x1).map (fun x=>frAt a b c o x s.y)
def fillTo (a b c:WinP) (o:Int) (S:List SpP):List FrP:=S.flatMap (fillRow a b c o)
def fillL (a b c:WinP) (o x0 y0 x1 y1:Int):List FrP:=fillTo a b c o (spansL a b c x0 y0 x1 y1)
theorem fillRow_snoc (a b c:WinP) (o y x0 x:Int) (h:x0<=x):fillRow a b c o ⟨y,x0,x+1⟩=fillRow a b c o ⟨y,x0,x⟩++[frAt a b c o x y]:=by
 unfold fillRow;simp only;rw[rng_snoc h,List.map_append];rfl
theorem fillRow_nil (a b c:WinP) (o y x0 x:Int) (h:x<=x0):fillRow a b c o ⟨y,x0,x⟩=[]:=by
 unfold fillRow;simp only;rw[rng_nil h];rfl
theorem fillTo_append (a b c:WinP) (o:Int) (S S':List SpP):fillTo a b c o (S++S')=fillTo a b c o S++fillTo a b c o S':=by
 unfold fillTo;rw[List.flatMap_append]
theorem fillTo_one (a b c:WinP) (o:Int) (s:SpP):fillTo a b c o [s]=fillRow a b c o s:=by
 unfold fillTo;simp
theorem fillTo_len (a b c:WinP) (o x0 x1 y0 y:Int) (hn:ar a b c≠0) (hx:x0<=x1):(fillTo a b c o (spansTo a b c x0 x1 y0 y)).length<=(x1-x0).toNat * (y-y0).toNat:=by
 unfold spansTo fillTo;rw[<-rng_len y0 y]
 induction rng y0 y with
 |nil=>simp
 |cons z l ih =>
  rw[List.flatMap_cons,List.flatMap_append,List.length_append,List.length_cons,Nat.mul_succ];have:((spanAt a b c x0 x1 z).flatMap (fillRow a b c o)).length<=(x1-x0).toNat:=by
   unfold spanAt;split
   ·next hl =>
    have k1:=((span_iff hn x0 x1 (spF a b c x0 z) z).1 ⟨Int.le_refl _,hl⟩);have k2:=((span_iff hn x0 x1 (spT a b c x0 x1 z-1) z).1 ⟨by omega,by omega⟩);simp only[List.flatMap_cons,List.flatMap_nil,List.append_nil];unfold fillRow;rw[List.length_map,rng_len];simp only;omega
   ·simp
  omega
end Go.Proofs.YthcjfanigfgckaaGreat
