import Derived.Laws.AppendOwnNone
import Derived.Test.YthcjfanigfgckaaGreatSHiddenOrder05
import Derived.Test.YthcjfanigfgckaaGreatSHiddenOrder13
import Derived.Test.YthcjfanigfgckaaGreatSHiddenOrder14
set_option linter.unusedVariables false
set_option linter.unusedSimpArgs false
set_option maxRecDepth 100000
set_option maxHeartbeats 16000000
namespace Go.Proofs.YthcjfanigfgckaaGreat
open Go.RowKit
section
structure RecK (α:Type) where
 k:Nat
 cells:α->List Value
 len:∀ a,(cells a).length=k
 pos:0<k
 one:∀ a,∀ u∈cells a,u.oneCell'=true
section
variable {α:Type} {K:RecK α}
theorem RecK.flat_at (K:RecK α):∀ (L:List α) (i:Nat) (f:α) (j:Nat) (u:Value),L[i]?=some f->(K.cells f)[j]?=some u->(L.flatMap K.cells)[i*K.k+j]?=some u
 | [],_,_,_,_,h,_=>by simp at h
 |g::L,0,f,j,u,h,h'=>by
  obtain rfl:g=f:=by simpa using h
  have hj:j<(K.cells g).length:=by rw[List.getElem?_eq_some_iff] at h';exact h'.1
  rw[List.flatMap_cons,List.getElem?_append_left (by simpa using hj)]
  simpa using h'
 |g::L,i+1,f,j,u,h,h'=>by
  have e8:(K.cells g).length=K.k:=K.len g;have e9:(i+1)*K.k=i*K.k+K.k:=Nat.succ_mul i K.k;rw[List.flatMap_cons,List.getElem?_append_right (by rw[e8];omega),e8,show (i+1)*K.k+j-K.k=i*K.k+j by omega];exact RecK.flat_at K L i f j u (by simpa using h) h'
theorem RecK.flat_len (K:RecK α) (L:List α):(L.flatMap K.cells).length=L.length*K.k:=by
 induction L with
 |nil=>simp
 |cons g L ih=>rw[List.flatMap_cons,List.length_append,K.len,ih,List.length_cons,Nat.succ_mul];omega
theorem RecK.flat_one (K:RecK α) (L:List α):∀ u∈L.flatMap K.cells,u.oneCell'=true:=by
 intro u hu;obtain ⟨s,-,hs⟩:=List.mem_flatMap.1 hu;exact K.one s u hs
def Recs (K:RecK α) (w:World) (v:Value) (L:List α):Prop :=
 L.length<=1099511627776/\∃ a cap,v=.slice a L.length cap/\L.length<=cap /\
  (L=[]\/∃ b off,a=some ⟨b,off,none⟩/\b<w.heap.size/\∀ i f,L[i]?=some f->∀ j u,(K.cells f)[j]?=some u->w.cell? ⟨b,off+i*K.k+j,none⟩=some u)
theorem Recs.chg {p:Nat->Prop} {w w1:World} {v:Value} {L:List α} (h:Recs K w v L) (hc:Chg p w w1) (hb:∀ b,v.ownBlock=some b->L≠[]->b<w.heap.size->¬p b):Recs K w1 v L:=by
 obtain ⟨h1,a,cap,rfl,h2,h3⟩:=h;refine ⟨h1,a,cap,rfl,h2,?_⟩
 by_cases hne:L=[]
 ·exact .inl hne
 rcases h3 with h3|⟨b,off,rfl,hb',hcl⟩
 ·exact .inl h3
 ·exact .inr ⟨b,off,rfl,Nat.lt_of_lt_of_le hb' hc.size,fun i f hi j u hj=>by rw[hc.cell hb' (hb b rfl hne hb')];exact hcl i f hi j u hj⟩
theorem Recs.ext {w:World} {v:Value} {L:List α} (h:Recs K w v L) (X:Xt):Recs K (w.ext X) v L:=h.chg (p:=fun _=>False) (Chg.of_ext X) (fun _ _ _ _ h=>h)
theorem Recs.alloc {w:World} {v:Value} {L:List α} (h:Recs K w v L) (o:Obj):Recs K (w.alloc o) v L:=h.chg (p:=fun _=>False) (Chg.refl.alloc o) (fun _ _ _ _ h=>h)
theorem Recs.drew {w:World} {v:Value} {L:List α} (h:Recs K w v L):Recs K w.drew v L:=h.chg (p:=fun _=>False) Chg.refl.drew (fun _ _ _ _ h=>h)
theorem Recs.below {w w1:World} {v:Value} {L:List α} (h:Recs K w v L) (hb:Below w.heap.size w w1):Recs K w1 v L:=by
 obtain ⟨X,rfl⟩:=hb.toExt;exact h.ext X
theorem recs_nil (w:World):Recs K w (.slice none 0 0) []:=⟨by simp,none,0,rfl,Nat.le_refl _,.inl rfl⟩
theorem own_recs {wr:World} {base:Nat} {T:TypeId} {vb:Value} {L:List α} (h:wr.ownsRow base T K.k vb L.length (L.flatMap K.cells)) (hl:L.length<=1099511627776):Recs K wr vb L:=by
 obtain ⟨hle,h1⟩:=h;rcases h1 with ⟨rfl,h0⟩|⟨g,cap,cur,rfl,hb,hg,h1,h2,h3,h4⟩
 ·obtain rfl:L=[]:=List.length_eq_zero_iff.1 h0;exact ⟨hl,none,0,rfl,Nat.le_refl _,.inl rfl⟩
 ·refine ⟨hl,_,cap,rfl,h1,.inr ⟨g,0,rfl,(Array.getElem?_eq_some_iff.1 hg).1,fun i f hi j u hj=>?_⟩⟩;have e:=K.flat_at L i f j u hi hj;rw[<-h4,List.getElem?_take] at e;rw[Nat.zero_add,World.cell?];simp only[hg]
  split at e
  ·rw[<-Array.getElem?_toList];exact e
  ·exact absurd e (by simp)
theorem addr_addR (b o j:Nat):(⟨b,o,none⟩:Addr).add j=⟨b,o+j,none⟩:=by simp[Addr.add]
theorem cells_newR {w:World} {n:Nat} (h:w.heap.size=n) (c:Array Value) (t:TypeId):∀ j u,c.toList[j]?=some u->(w.alloc (.cells c t)).cell? ((⟨n,0,none⟩:Addr).add j)=some u:=by
 subst h;intro j u hj;rw[addr_addR,Nat.zero_add,World.cell?];simp only[World.hp_alloc,Array.getElem?_push,if_true];rw[<-Array.getElem?_toList];exact hj
theorem recs_lit {w:World} {n:Nat} (h:w.heap.size=n) (L:List α) (c:Array Value) (hc:c.toList=L.flatMap K.cells) (T:TypeId) (hl:L.length<=1099511627776):Recs K (w.alloc (.cells c T)) (.slice (some ⟨n,0,none⟩) L.length L.length) L:=by
 refine ⟨hl,_,L.length,rfl,Nat.le_refl _,.inr ⟨n,0,rfl,by rw[World.hp_alloc,Array.size_push];omega,fun i s hi j u hj=>?_⟩⟩;have:=cells_newR h c T (i*K.k+j) u (by rw[hc];exact K.flat_at L i s j u hi hj);rw[addr_addR,Nat.zero_add] at this;rw[Nat.zero_add];exact this
def RLists (K:RecK α) (w:World) (L:List α) (e:Ending) (w':World):Prop:=∃ v,e=.returned v/\Recs K w' v L/\∃ X,w'=w.ext X
theorem own_extR {w:World} {base n size:Nat} {e:TypeId} {v:Value} {xs:List Value} (h:w.ownsRow base e size v n xs) (X:Xt):(w.ext X).ownsRow base e size v n xs :=
 h.kept (row:=none) ⟨rfl,rfl,rfl,by simp,fun k hk _=>World.heap_ext hk⟩ (by cases v.ownBlock<;>simp)
theorem row_apart {wr:World} {c:Array Value} {T E:TypeId} {b:Nat} (h:Row wr b c T) (hT:T≠E) {base k s:Nat} {v:Value} {xs:List Value} (hr:wr.ownsRow base E s v k xs):some b≠v.ownBlock:=by
 rcases hr.2 with ⟨rfl,_⟩|⟨g,cap,cur,rfl,_,hgb,_⟩
 ·simp[Value.ownBlock]
 ·intro e';obtain rfl:b=g:=by simpa [Value.ownBlock] using e'
  have:=(show wr.heap[b]?=_ from h).symm.trans hgb;simp at this;exact hT this.2
theorem row_elder {wr:World} {E:TypeId} {b:Nat} {base k s:Nat} {v:Value} {xs:List Value} (hr:wr.ownsRow base E s v k xs) (hb:b<base):some b≠v.ownBlock:=fun e=>by
 have:=(hr.lt b e.symm).1;omega
theorem Row.keptR {wr w1:World} {b:Nat} {c:Array Value} {T:TypeId} {row:Option Nat} (h:Row wr b c T) (hg:wr.grownBy w1 row) (hn:some b≠row):Row w1 b c T:=by
 unfold Row;rw[hg.block b h.lt hn];exact h
theorem Recs.keptR {wr w1:World} {v:Value} {L:List α} {row:Option Nat} (h:Recs K wr v L) (hg:wr.grownBy w1 row) (hn:∀ b,v.ownBlock=some b->L≠[]->some b≠row):Recs K w1 v L:=by
 obtain ⟨h1,a,cap,rfl,h2,h3⟩:=h;refine ⟨h1,a,cap,rfl,h2,?_⟩
 by_cases hne:L=[]
 ·exact .inl hne
 rcases h3 with h3|⟨b,off,rfl,hb',hcl⟩
 ·exact .inl h3
 ·refine .inr ⟨b,off,rfl,Nat.lt_of_lt_of_le hb' hg.size,fun i f hi j u hj=>?_⟩;have e:=hcl i f hi j u hj;have hb:=hg.block b hb' (hn b rfl hne);simp only[World.cell?] at e ⊢;rw[hb];exact e
structure Hold (K:RecK α) (w wr:World) (E:TypeId) (R:List (Nat×Array Value×TypeId)) (v:Value) (L:List α):Prop where
 rows:∀ r∈R,Row wr r.1 r.2.1 r.2.2
 far:∀ r∈R,r.2.2≠E
 own:wr.ownsRow w.heap.size E K.k v L.length (L.flatMap K.cells)
 ext:∃ X,wr=w.ext X
theorem Hold.grow {w wr:World} {E:TypeId} {R:List (Nat×Array Value×TypeId)} {v:Value} {L:List α} (h:Hold K w wr E R v L) (X:Xt):Hold K w (wr.ext X) E R v L :=
 ⟨fun r hr=>(h.rows r hr).ext X,h.far,own_extR h.own X,by obtain ⟨Y,rfl⟩:=h.ext;exact ⟨_,World.ext_ext⟩⟩
theorem Hold.grown {w wr w1:World} {E:TypeId} {R:List (Nat×Array Value×TypeId)} {v:Value} {L:List α} (h:Hold K w wr E R v L) (hb:Below wr.heap.size wr w1):Hold K w w1 E R v L:=by
 obtain ⟨X,rfl⟩:=hb.toExt;exact h.grow X
theorem Hold.size {w wr:World} {E:TypeId} {R:List (Nat×Array Value×TypeId)} {v:Value} {L:List α} (h:Hold K w wr E R v L):w.heap.size<=wr.heap.size:=by obtain ⟨X,rfl⟩:=h.ext;simp
theorem Hold.below {w wr:World} {E:TypeId} {R:List (Nat×Array Value×TypeId)} {v:Value} {L:List α} (h:Hold K w wr E R v L):Below w.heap.size w wr:=by obtain ⟨X,rfl⟩:=h.ext;exact (Below.refl _ _).ext (Nat.le_refl _) X
theorem Hold.start {w wr:World} {E:TypeId} {R:List (Nat×Array Value×TypeId)} (hr:∀ r∈R,Row wr r.1 r.2.1 r.2.2) (hf:∀ r∈R,r.2.2≠E) (he:∃ X,wr=w.ext X):Hold K w wr E R (.slice none 0 0) [] :=
 ⟨hr,hf,World.ownsRow_nil _ _ _ _,he⟩
theorem Hold.snoc {w wr w1:World} {E:TypeId} {R:List (Nat×Array Value×TypeId)} {v v':Value} {L:List α} {s:α} {o:Obj} (h:Hold K w wr E R v L)
  (hown:w1.ownsRow w.heap.size E K.k v' (L.length+1) (L.flatMap K.cells++K.cells s)) (hg:(wr.alloc o).grownBy w1 v.ownBlock):Hold K w w1 E R v' (L++[s]):=by
 refine ⟨fun r hr=>((h.rows r hr).alloc o).keptR hg (row_apart (h.rows r hr) (h.far r hr) h.own),h.far,?_,?_⟩
 ·have e:(L++[s]).length=L.length+1:=by simp
  rw[e,List.flatMap_append]
  simpa using hown
 ·exact jz (Below.grown (h.below.alloc h.size o) hg (by have:=h.size;rw[World.hp_alloc,Array.size_push];omega) fun k hk=>(h.own.lt k hk).1)
theorem Hold.with {w wr:World} {E:TypeId} {R R':List (Nat×Array Value×TypeId)} {v:Value} {L:List α} (h:Hold K w wr E R v L) (hr:∀ r∈R',Row wr r.1 r.2.1 r.2.2) (hf:∀ r∈R',r.2.2≠E):Hold K w wr E R' v L :=
 ⟨hr,hf,h.own,h.ext⟩
theorem Hold.put {w wr:World} {E:TypeId} {R R':List (Nat×Array Value×TypeId)} {v:Value} {L:List α} {b k:Nat} {u:Value} (h:Hold K w wr E R v L) (hb:some b≠v.ownBlock) (hw:w.heap.size<=b)
  (hr:∀ r∈R',Row (wr.setCell ⟨b,k,none⟩ u) r.1 r.2.1 r.2.2) (hf:∀ r∈R',r.2.2≠E):Hold K w (wr.setCell ⟨b,k,none⟩ u) E R' v L:=by
 refine ⟨hr,hf,?_,World.setCell_new h.ext hw⟩;refine World.ownsRow.kept (row:=some b) h.own ⟨rfl,rfl,rfl,by simp[World.setCell],fun j hj hne=>?_⟩ (.inr hb.symm);have:¬b=j:=fun e=>hne (by rw[e])
 simp only[World.setCell,Array.getElem?_modify,if_neg this]
theorem Hold.put1 {w wr:World} {E:TypeId} {R:List (Nat×Array Value×TypeId)} {v:Value} {L:List α} {b k:Nat} {u:Value} (h:Hold K w wr E R v L) (hb:some b≠v.ownBlock) (hw:w.heap.size<=b)
  (hr:∀ r∈R,r.1≠b):Hold K w (wr.setCell ⟨b,k,none⟩ u) E R v L :=
 h.put hb hw (fun r hr'=>(h.rows r hr').other (hr r hr') _ _) h.far
end
structure FrP where
 x:Int
 y:Int
 z:Int
 c0:Int
 c1:Int
 c2:Int
 c3:Int
 cov:Int
abbrev FrP.v (f:FrP):Value:=.agg #[.int .i64 f.x,.int .i64 f.y,.int .i64 f.z,.int .i64 f.c0,.int .i64 f.c1,.int .i64 f.c2,.int .i64 f.c3,.int .i64 f.cov]
abbrev FrP.cells (f:FrP):List Value:=[.int .i64 f.x,.int .i64 f.y,.int .i64 f.z,.int .i64 f.c0,.int .i64 f.c1,.int .i64 f.c2,.int .i64 f.c3,.int .i64 f.cov]
def frK:RecK FrP:=⟨8,FrP.cells,fun _=>rfl,by decide,fun a u hu=>by simp at hu;rcases hu with rfl|rfl|rfl|rfl|rfl|rfl|rfl|rfl<;>rfl⟩
structure SpP where
 y:Int
 x0:Int
 x1:Int
abbrev SpP.cells (f:SpP):List Value:=[.int .i64 f.y,.int .i64 f.x0,.int .i64 f.x1]
def spK:RecK SpP:=⟨3,SpP.cells,fun _=>rfl,by decide,fun a u hu=>by simp at hu;rcases hu with rfl|rfl|rfl<;>rfl⟩
def rng (a b:Int):List Int:=(List.range (b-a).toNat).map (fun i:Nat=>a+i)
theorem rng_nil {a b:Int} (h:b<=a):rng a b=[]:=by
 unfold rng;rw[Int.toNat_of_nonpos (by omega)];rfl
theorem rng_snoc {a b:Int} (h:a<=b):rng a (b+1)=rng a b++[b]:=by
 unfold rng;rw[show (b+1-a).toNat=(b-a).toNat+1 by omega,List.range_succ,List.map_append];simp;omega
theorem rng_mem {a b x:Int}:x∈rng a b↔a<=x/\x<b:=by
 unfold rng;simp only[List.mem_map,List.mem_range]
 constructor
 ·rintro ⟨i,hi,rfl⟩;omega
 ·rintro ⟨h1,h2⟩;exact ⟨(x-a).toNat,by omega,by omega⟩
theorem rng_len (a b:Int):(rng a b).length=(b-a).toNat:=by unfold rng;simp
theorem rc_ {A C:Prop} (h:A) (f:A->C:=by intro h_;repeat (first|with_reducible exact h_|with_reducible refine Recs.ext ?_ _|with_reducible refine Recs.alloc ?_ _|with_reducible refine Recs.drew ?_)):C:=f h
end
section
section
def corX (a b:WinP) (n z:Int):Int:=if turnP a.x a.y b.x b.y then z-(n-1)*128 else z
def corY (a b:WinP) (n z:Int):Int:=if turnP a.x a.y b.x b.y then z else z-(n-1)*128
def coreL (a b:WinP) (n:Int):List St:=lineL (corX a b n a.x) (corY a b n a.y) (corX a b n b.x) (corY a b n b.y)
theorem core_turn (a b:WinP) (n:Int):turnP (corX a b n a.x) (corY a b n a.y) (corX a b n b.x) (corY a b n b.y)↔turnP a.x a.y b.x b.y:=by
 unfold corX corY
 by_cases h:turnP a.x a.y b.x b.y
 ·simp only[if_pos h];unfold turnP;omega
 ·simp only[if_neg h];unfold turnP;omega
def litP (p r c k:Int):Prop:=p/2^((c+k)/r%16).toNat%2=1
instance (p r c k : Int) : Decidable (litP p r c k) := by unfold litP; exact inferInstance
def litB (dd:Bool) (p r c:Int) (s:St):Bool:=!dd || decide (litP p r c s.K)
def nextC (dd:Bool) (r c:Int) (k:Nat):Int:=if dd then (c+k)%(r*16) else c
def alV (a b:WinP) (x y:Int):Int×Int×Int×Int×Int:=(mid a.z b.z (alN a b x y) (alD a b),mid a.c0 b.c0 (alN a b x y) (alD a b),mid a.c1 b.c1 (alN a b x y) (alD a b),mid a.c2 b.c2 (alN a b x y) (alD a b),mid a.c3 b.c3 (alN a b x y) (alD a b))
def wdFr (a b:WinP) (s:St) (m:Nat):FrP:=⟨if turnP a.x a.y b.x b.y then s.X+m else s.X,if turnP a.x a.y b.x b.y then s.Y else s.Y+m,(alV a b s.X s.Y).1,(alV a b s.X s.Y).2.1,(alV a b s.X s.Y).2.2.1,(alV a b s.X s.Y).2.2.2.1,(alV a b s.X s.Y).2.2.2.2,64⟩
def wdRow (a b:WinP) (n:Int) (s:St):List FrP:=(List.range n.toNat).map (wdFr a b s)
def frIn (x0 y0 x1 y1:Int) (f:FrP):Bool:=decide (x0<=f.x/\f.x<x1/\y0<=f.y/\f.y<y1)
theorem frIn_iff {x0 y0 x1 y1:Int} {f:FrP}:frIn x0 y0 x1 y1 f=true↔(x0<=f.x/\f.x<x1/\y0<=f.y/\f.y<y1):=by unfold frIn;exact decide_eq_true_iff
def wdOf (a b:WinP) (n x0 y0 x1 y1:Int) (L:List St):List FrP:=(L.flatMap (wdRow a b n)).filter (frIn x0 y0 x1 y1)
def wdTo (a b:WinP) (n:Int) (dd:Bool) (p r c x0 y0 x1 y1:Int):List FrP:=wdOf a b n x0 y0 x1 y1 ((coreL a b n).filter (litB dd p r c))
def wdL (a b:WinP) (n:Int) (dd:Bool) (p r c x0 y0 x1 y1:Int):List FrP:=if lineP a b n p r c/\rightP x0 y0 x1 y1 then wdTo a b n dd p r c x0 y0 x1 y1 else []
theorem wdOf_append (a b:WinP) (n x0 y0 x1 y1:Int) (L M:List St):wdOf a b n x0 y0 x1 y1 (L++M)=wdOf a b n x0 y0 x1 y1 L++wdOf a b n x0 y0 x1 y1 M:=by
 unfold wdOf;rw[List.flatMap_append,List.filter_append]
theorem wdRow_mem {a b:WinP} {n:Int} {s:St} {f:FrP}:f∈wdRow a b n s↔∃ m:Nat,(m:Int)<n/\f=wdFr a b s m:=by
 unfold wdRow;simp only[List.mem_map,List.mem_range]
 constructor
 ·rintro ⟨m,h,rfl⟩;exact ⟨m,by omega,rfl⟩
 ·rintro ⟨m,h,rfl⟩;exact ⟨m,by omega,rfl⟩
theorem wdRow_len (a b:WinP) (n:Int) (s:St):(wdRow a b n s).length=n.toNat:=by unfold wdRow;simp
def rchX (a b:WinP) (n x0:Int):Int:=if turnP a.x a.y b.x b.y then max (x0-n+1) (-4194304) else x0
def rchY (a b:WinP) (n y0:Int):Int:=if turnP a.x a.y b.x b.y then y0 else max (y0-n+1) (-4194304)
theorem wdRow_none {a b:WinP} {n x0 y0 x1 y1:Int} {s:St} (h:¬((rchX a b n x0<=s.X/\s.X<x1)/\rchY a b n y0<=s.Y/\s.Y<y1)) (hx:-4194304<=s.X) (hy:-4194304<=s.Y):(wdRow a b n s).filter (frIn x0 y0 x1 y1)=[]:=by
 rw[List.filter_eq_nil_iff];intro f hf;obtain ⟨m,hm,rfl⟩:=wdRow_mem.1 hf;rw[frIn_iff];unfold rchX rchY at h;unfold wdFr
 by_cases t:turnP a.x a.y b.x b.y
 ·simp only[if_pos t] at h ⊢;omega
 ·simp only[if_neg t] at h ⊢;omega
theorem core_bd {a b:WinP} {n:Int} (ha:a.fitsP) (hb:b.fitsP) (hn:widthP n) {s:St} (hs:s∈coreL a b n):(-1048641<=s.X/\s.X<=1048576)/\-1048641<=s.Y/\s.Y<=1048576:=by
 have h:=lineL_in _ _ _ _ s hs;unfold WinP.fitsP at ha hb;unfold widthP at hn;unfold corX corY at h
 by_cases t:turnP a.x a.y b.x b.y
 ·simp only[if_pos t] at h;omega
 ·simp only[if_neg t] at h;omega
theorem core_may {a b:WinP} {n:Int} (ha:a.fitsP) (hb:b.fitsP) (hn:widthP n):MayP (corX a b n a.x) (corY a b n a.y)/\MayP (corX a b n b.x) (corY a b n b.y):=by
 unfold WinP.fitsP at ha hb;unfold widthP at hn;unfold corX corY
 by_cases t:turnP a.x a.y b.x b.y
 ·simp only[if_pos t];exact ⟨⟨by omega,by omega,by omega,by omega⟩,⟨by omega,by omega,by omega,by omega⟩⟩
 ·simp only[if_neg t];exact ⟨⟨by omega,by omega,by omega,by omega⟩,⟨by omega,by omega,by omega,by omega⟩⟩
theorem rch_right {a b:WinP} {n x0 y0 x1 y1:Int} (hn:widthP n) (h:rightP x0 y0 x1 y1):rightP (rchX a b n x0) (rchY a b n y0) x1 y1:=by
 unfold rightP rchX rchY widthP at *
 by_cases t:turnP a.x a.y b.x b.y
 ·simp only[if_pos t];omega
 ·simp only[if_neg t];omega
theorem filter_swap {α:Type} (p q:α->Bool) (L:List α):(L.filter p).filter q=(L.filter q).filter p:=by
 rw[List.filter_filter,List.filter_filter]
 congr 1;funext x;exact Bool.and_comm _ _
theorem flatMap_filter_none {α β:Type} (g:α->List β) (p:α->Bool) (L:List α) (h:∀ s∈L,p s=false->g s=[]):(L.filter p).flatMap g=L.flatMap g:=by
 induction L with
 |nil=>rfl
 |cons s L ih =>
  have ih:=ih fun t ht=>h t (jk ht)
  by_cases hp:p s=true
  ·rw[List.filter_cons_of_pos hp,List.flatMap_cons,List.flatMap_cons,ih]
  ·rw[List.filter_cons_of_neg hp,List.flatMap_cons,h s List.mem_cons_self (by simpa using hp),ih,List.nil_append]
theorem wdOf_rows (a b:WinP) (n x0 y0 x1 y1:Int) (L:List St):wdOf a b n x0 y0 x1 y1 L=L.flatMap (fun s=>(wdRow a b n s).filter (frIn x0 y0 x1 y1)):=by
 unfold wdOf
 induction L with
 |nil=>rfl
 |cons s L ih=>rw[List.flatMap_cons,List.filter_append,ih,List.flatMap_cons]
theorem wdTo_within {a b:WinP} {n:Int} {dd:Bool} {p r c x0 y0 x1 y1:Int} (ha:a.fitsP) (hb:b.fitsP) (hn:widthP n) (hr:rightP x0 y0 x1 y1) :
  wdOf a b n x0 y0 x1 y1 ((withinL (corX a b n a.x) (corY a b n a.y) (corX a b n b.x) (corY a b n b.y) (rchX a b n x0) (rchY a b n y0) x1 y1).filter (litB dd p r c))=wdTo a b n dd p r c x0 y0 x1 y1:=by
 unfold wdTo;have rr:=rch_right (a:=a) (b:=b) hn hr
 by_cases hz:corX a b n a.x=corX a b n b.x/\corY a b n a.y=corY a b n b.y
 ·have:coreL a b n=[]:=by unfold coreL;rw[hz.1,hz.2,lineL_self]
  rw[this];unfold withinL;rw[if_pos (.inl hz)]
 ·unfold withinL;rw[if_neg (fun k=>k.elim hz fun k=>k rr),filter_swap,wdOf_rows,wdOf_rows];refine flatMap_filter_none _ _ _ fun s hs hp=>?_
  have hb':=core_bd ha hb hn (List.mem_filter.1 hs).1;refine wdRow_none (fun k=>?_) (by omega) (by omega);have hp:=of_decide_eq_false hp;exact hp ⟨rr,k.1.1,k.1.2,k.2.1,k.2.2⟩
theorem wdTo_less {a b:WinP} {n:Int} {dd:Bool} {p r c x0 y0 x1 y1 p0 q0 p1 q1:Int} (h:x0<=p0/\y0<=q0/\p1<=x1/\q1<=y1):wdTo a b n dd p r c p0 q0 p1 q1=(wdTo a b n dd p r c x0 y0 x1 y1).filter (frIn p0 q0 p1 q1):=by
 unfold wdTo wdOf;rw[List.filter_filter];refine List.filter_congr fun f _=>?_
 rw[Bool.eq_iff_iff,Bool.and_eq_true,frIn_iff,frIn_iff];omega
theorem core_num {a b:WinP} {n:Int} {s:St} (hs:s∈coreL a b n):∃ d e:Int,(e=1\/e=-1)/\∀ t∈coreL a b n,t.K=d+e*uC (decide (turnP a.x a.y b.x b.y)) t.X t.Y:=by
 by_cases hz:corX a b n a.x=corX a b n b.x/\corY a b n a.y=corY a b n b.y
 ·have:coreL a b n=[]:=by unfold coreL;rw[hz.1,hz.2,lineL_self]
  rw[this] at hs;cases hs
 ·have ht:decide (turnP (corX a b n a.x) (corY a b n a.y) (corX a b n b.x) (corY a b n b.y))=decide (turnP a.x a.y b.x b.y):=decide_eq_decide.2 (core_turn a b n)
  by_cases hu:(mkWay0 (corX a b n a.x) (corY a b n a.y) (corX a b n b.x) (corY a b n b.y)).au<(mkWay0 (corX a b n a.x) (corY a b n a.y) (corX a b n b.x) (corY a b n b.y)).bu
  ·refine ⟨-posU (decide (turnP a.x a.y b.x b.y)) (corX a b n a.x) (corY a b n a.y),1,.inl rfl,fun t ht'=>?_⟩;have:=((mem_line _ _ _ _ hz t).1 ht').2;unfold idxP at this;rw[if_pos hu,ht] at this;omega
  ·refine ⟨posD (decide (turnP a.x a.y b.x b.y)) (corX a b n a.x) (corY a b n a.y),-1,.inr rfl,fun t ht'=>?_⟩;have:=((mem_line _ _ _ _ hz t).1 ht').2;unfold idxP at this;rw[if_neg hu,ht] at this;omega
theorem core_rise (a b:WinP) (n:Int):(coreL a b n).Pairwise (fun s t=>s.K<t.K):=by
 unfold coreL lineL
 split
 ·exact run_rise _ _ _ _
 ·exact run_rise _ _ _ _
def FrP.off (f g:FrP):Prop:=¬(f.x=g.x/\f.y=g.y)
theorem wdTo_mem {a b:WinP} {n:Int} {dd:Bool} {p r c x0 y0 x1 y1:Int} {f:FrP} (h:f∈wdTo a b n dd p r c x0 y0 x1 y1):(x0<=f.x/\f.x<x1/\y0<=f.y/\f.y<y1)/\∃ (s:St) (m:Nat),s∈coreL a b n/\(m:Int)<n/\f=wdFr a b s m:=by
 unfold wdTo wdOf at h;obtain ⟨h1,h2⟩:=List.mem_filter.1 h;obtain ⟨s,hs,hf⟩:=List.mem_flatMap.1 h1;obtain ⟨m,hm,rfl⟩:=wdRow_mem.1 hf;exact ⟨frIn_iff.1 h2,s,m,(List.mem_filter.1 hs).1,hm,rfl⟩
theorem flatMap_len {α β:Type} (g:α->List β) (k:Nat) (L:List α) (h:∀ s∈L,(g s).length<=k):(L.flatMap g).length<=L.length*k:=by
 induction L with
 |nil=>simp
 |cons s L ih =>
  rw[List.flatMap_cons,List.length_append,List.length_cons,Nat.succ_mul];have:=ih fun t ht=>h t (jk ht)
  have:=h s List.mem_cons_self;omega
theorem wdTo_len {a b:WinP} {n:Int} {dd:Bool} {p r c x0 y0 x1 y1:Int} (hn:0<=n) (m:Nat) (hx:x0<=x1) (hy:y0<=y1) (h1:x1-x0<=m) (h2:y1-y0<=m):(wdTo a b n dd p r c x0 y0 x1 y1).length<=m*n.toNat:=by
 unfold wdTo;rw[wdOf_rows];have e:∀ L:List St,(L.filter (fun s=>decide ((if turnP a.x a.y b.x b.y then y0 else x0)<=uC (decide (turnP a.x a.y b.x b.y)) s.X s.Y/\uC (decide (turnP a.x a.y b.x b.y)) s.X s.Y<if turnP a.x a.y b.x b.y then y1 else x1))).flatMap (fun s=>(wdRow a b n s).filter (frIn x0 y0 x1 y1))=L.flatMap (fun s=>(wdRow a b n s).filter (frIn x0 y0 x1 y1)):=fun L=>by
  refine flatMap_filter_none _ _ _ fun s hs hp=>?_
  rw[List.filter_eq_nil_iff];intro f hf;obtain ⟨j,hj,rfl⟩:=wdRow_mem.1 hf;rw[frIn_iff];have hp:=of_decide_eq_false hp;unfold uC at hp;unfold wdFr
  by_cases t:turnP a.x a.y b.x b.y
  ·simp only[t,decide_true,if_true] at hp ⊢;omega
  ·simp only[t,decide_false,if_false,Bool.false_eq_true] at hp ⊢;omega
 rw[<-e];refine Nat.le_trans (flatMap_len _ n.toNat _ fun s _=>Nat.le_trans (List.length_filter_le _ _) (Nat.le_of_eq (wdRow_len a b n s))) ?_;refine Nat.mul_le_mul_right _ ?_;generalize hM:((coreL a b n).filter (litB dd p r c)).filter _=M;cases hc:M with
 |nil=>simp
 |cons s0 M' =>
  rw[<-hc];have hmem:∀ s∈M,s∈coreL a b n/\((if turnP a.x a.y b.x b.y then y0 else x0)<=uC (decide (turnP a.x a.y b.x b.y)) s.X s.Y/\uC (decide (turnP a.x a.y b.x b.y)) s.X s.Y<if turnP a.x a.y b.x b.y then y1 else x1):=fun s hs=>by
   rw[<-hM] at hs;obtain ⟨h3,h4⟩:=List.mem_filter.1 hs;exact ⟨(List.mem_filter.1 h3).1,of_decide_eq_true h4⟩
  have hp:M.Pairwise (fun s t=>s.K<t.K):=by rw[<-hM];exact ((core_rise a b n).filter _).filter _
  obtain ⟨d,e,he,hK⟩:=core_num (hmem s0 (by rw[hc];exact List.mem_cons_self)).1;have hlen:(if turnP a.x a.y b.x b.y then y0 else x0)<=(if turnP a.x a.y b.x b.y then y1 else x1)/\(if turnP a.x a.y b.x b.y then y1 else x1)-(if turnP a.x a.y b.x b.y then y0 else x0)<=m:=by
   by_cases t:turnP a.x a.y b.x b.y
   ·simp only[t,if_true];omega
   ·simp only[t,if_false];omega
  generalize (if turnP a.x a.y b.x b.y then y0 else x0)=lo at *;generalize (if turnP a.x a.y b.x b.y then y1 else x1)=hi at *;rcases he with rfl|rfl
  ·have:=rise_len M (d+lo) (d+hi) hp (fun q hq=>by have:=hK q (hmem q hq).1;have:=(hmem q hq).2;omega) (by omega);omega
  ·have:=rise_len M (d-hi+1) (d-lo+1) hp (fun q hq=>by have:=hK q (hmem q hq).1;have:=(hmem q hq).2;omega) (by omega);omega
end
section
theorem coreL_same {a b:WinP} (n:Int) (hx:a.x=b.x) (hy:a.y=b.y):coreL a b n=[]:=by
 unfold coreL;rw[hx,hy];exact lineL_self _ _
theorem later_zero (L:List St):L.map (St.later ((0:Nat):Int))=L:=by
 have:St.later ((0:Nat):Int)=id:=by funext s;unfold St.later;simp
 rw[this,List.map_id]
structure Parts (a c b:WinP) (dx dy m k:Int):Prop where
 m0:0<=m
 k0:0<=k
 cx:c.x=a.x+m*dx
 cy:c.y=a.y+m*dy
 bx:b.x=c.x+k*dx
 y2:b.y=c.y+k*dy
section
variable {a b c:WinP} {dx dy m k n:Int}
theorem Parts.turn (h:Parts a c b dx dy m k) (hm:0<m) (hk:0<k):(turnP a.x a.y b.x b.y↔turnP a.x a.y c.x c.y)/\(turnP c.x c.y b.x b.y↔turnP a.x a.y c.x c.y):=by
 obtain ⟨-,-,h1,h2,h3,h4⟩:=h;have e1:b.x=a.x+(m+k)*dx:=by rw[Int.add_mul];omega
 have e2:b.y=a.y+(m+k)*dy:=by rw[Int.add_mul];omega
 have t1:=turnP_scale m a.x a.y dx dy hm;have t2:=turnP_scale (m+k) a.x a.y dx dy (by omega);have t3:=turnP_scale k c.x c.y dx dy hk;rw[<-h1,<-h2] at t1;rw[<-e1,<-e2] at t2;rw[<-h3,<-h4] at t3;exact ⟨t2.trans t1.symm,t3.trans t1.symm⟩
theorem Parts.core (h:Parts a c b dx dy m k):coreL a b n=coreL a c n++(coreL c b n).map (St.later ((coreL a c n).length:Nat)):=by
 by_cases hm:m=0
 ·obtain ⟨-,-,h1,h2,h3,h4⟩:=h;rw[hm,Int.zero_mul,Int.add_zero] at h1 h2;rw[coreL_same (a:=a) (b:=c) n h1.symm h2.symm,List.nil_append,List.length_nil,later_zero];unfold coreL corX corY;rw[h1,h2]
 by_cases hk:k=0
 ·obtain ⟨-,-,h1,h2,h3,h4⟩:=h;rw[hk,Int.zero_mul,Int.add_zero] at h3 h4;rw[coreL_same (a:=c) (b:=b) n h3.symm h4.symm,List.map_nil,List.append_nil];unfold coreL corX corY;rw[h3,h4]
 ·obtain ⟨t1,t2⟩:=h.turn (by have:=h.m0;omega) (by have:=h.k0;omega);obtain ⟨m0,k0,h1,h2,h3,h4⟩:=h;have:=lineL_parts (if turnP a.x a.y c.x c.y then a.x-(n-1)*128 else a.x) (if turnP a.x a.y c.x c.y then a.y else a.y-(n-1)*128) dx dy m k m0 k0;have e1:b.x=a.x+(m+k)*dx:=by rw[Int.add_mul];omega
  have e2:b.y=a.y+(m+k)*dy:=by rw[Int.add_mul];omega
  unfold coreL corX corY
  by_cases t:turnP a.x a.y c.x c.y
  ·simp only[t1.2 t,t2.2 t,t,if_true] at this ⊢;rw[show a.x-(n-1)*128+(m+k)*dx=b.x-(n-1)*128 by omega,show a.x-(n-1)*128+m*dx=c.x-(n-1)*128 by omega,<-e2,<-h2] at this;exact this
  ·have n1:=mt t1.1 t;have n2:=mt t2.1 t;simp only[n1,n2,t,if_false] at this ⊢;rw[show a.y-(n-1)*128+(m+k)*dy=b.y-(n-1)*128 by omega,show a.y-(n-1)*128+m*dy=c.y-(n-1)*128 by omega,<-e1,<-h1] at this;exact this
end
theorem lit_later {dd:Bool} {p r c:Int} (hr:1<=r) (j:Nat) (s:St):litB dd p r c (s.later j)=litB dd p r (nextC dd r c j) s:=by
 unfold litB nextC St.later;cases dd
 ·rfl
 ·simp only[Bool.not_true,Bool.false_or,if_true];refine decide_eq_decide.2 ?_;unfold litP;have e:(c+(s.K+j))/r%16=((c+j)%(r*16)+s.K)/r%16:=by
   have h1:c+j=r*16*((c+j)/(r*16))+(c+j)%(r*16):=by rw[Int.mul_ediv_add_emod]
   generalize (c+j)%(r*16)=t at *;generalize (c+j)/(r*16)=q at *;rw[show c+(s.K+j)=(t+s.K)+(16*q)*r by grind,Int.add_mul_ediv_right _ _ (by omega)];omega
  rw[e]
def pxRow (t:Bool) (n:Int) (s:St):List (Int×Int):=(List.range n.toNat).map (fun m:Nat=>(if t then s.X+m else s.X,if t then s.Y else s.Y+m))
def FrP.px (f:FrP):Int×Int:=(f.x,f.y)
theorem wdRow_px (a b:WinP) (n:Int) (s:St):(wdRow a b n s).map FrP.px=pxRow (decide (turnP a.x a.y b.x b.y)) n s:=by
 unfold wdRow pxRow;rw[List.map_map];refine List.map_congr_left fun m _=>?_
 simp only[Function.comp,FrP.px,wdFr,decide_eq_true_eq]
def inC (x0 y0 x1 y1:Int) (q:Int×Int):Bool:=decide (x0<=q.1/\q.1<x1/\y0<=q.2/\q.2<y1)
theorem wdOf_px (a b:WinP) (n x0 y0 x1 y1:Int) (L:List St):(wdOf a b n x0 y0 x1 y1 L).map FrP.px=(L.flatMap (pxRow (decide (turnP a.x a.y b.x b.y)) n)).filter (inC x0 y0 x1 y1):=by
 unfold wdOf;have:frIn x0 y0 x1 y1=inC x0 y0 x1 y1∘FrP.px:=rfl;rw[this,<-List.filter_map,List.map_flatMap]
 congr 2
 funext s
 exact wdRow_px a b n s
theorem px_later (t:Bool) (n:Int) (j:Int) (L:List St):(L.map (St.later j)).flatMap (pxRow t n)=L.flatMap (pxRow t n):=by
 rw[List.flatMap_map];rfl
section
variable {a b c:WinP} {dx dy m k n p r q x0 y0 x1 y1:Int} {dd:Bool}
theorem Parts.list (h:Parts a c b dx dy m k) (hr:1<=r) :
  (wdTo a b n dd p r q x0 y0 x1 y1).map FrP.px=(wdTo a c n dd p r q x0 y0 x1 y1).map FrP.px++(wdTo c b n dd p r (nextC dd r q (coreL a c n).length) x0 y0 x1 y1).map FrP.px:=by
 unfold wdTo;rw[wdOf_px,wdOf_px,wdOf_px,h.core (n:=n),List.filter_append,List.filter_map];have:litB dd p r q∘St.later ((coreL a c n).length:Nat)=litB dd p r (nextC dd r q (coreL a c n).length):=by
  funext s;exact lit_later hr _ s
 rw[this,List.flatMap_append,px_later,List.filter_append]
 by_cases hm:m=0
 ·obtain ⟨-,-,h1,h2,-,-⟩:=h;rw[hm,Int.zero_mul,Int.add_zero] at h1 h2;rw[coreL_same (a:=a) (b:=c) n h1.symm h2.symm,h1,h2];rfl
 by_cases hk:k=0
 ·obtain ⟨-,-,-,-,h3,h4⟩:=h;rw[hk,Int.zero_mul,Int.add_zero] at h3 h4;rw[coreL_same (a:=c) (b:=b) n h3.symm h4.symm,h3,h4];rfl
 ·obtain ⟨t1,t2⟩:=h.turn (by have:=h.m0;omega) (by have:=h.k0;omega);rw[decide_eq_decide.2 t1,decide_eq_decide.2 t2]
theorem Parts.len (h:Parts a c b dx dy m k) (hr:1<=r) :
  (wdTo a b n dd p r q x0 y0 x1 y1).length=(wdTo a c n dd p r q x0 y0 x1 y1).length+(wdTo c b n dd p r (nextC dd r q (coreL a c n).length) x0 y0 x1 y1).length:=by
 have:=congrArg List.length (h.list (n:=n) (dd:=dd) (p:=p) (q:=q) (x0:=x0) (y0:=y0) (x1:=x1) (y1:=y1) hr)
 simpa using this
theorem Parts.first (h:Parts a c b dx dy m k) (hr:1<=r) (i:Nat) (f g:FrP) (hf:(wdTo a b n dd p r q x0 y0 x1 y1)[i]?=some f) (hg:(wdTo a c n dd p r q x0 y0 x1 y1)[i]?=some g):g.x=f.x/\g.y=f.y:=by
 have e:=congrArg (fun l=>l[i]?) (h.list (n:=n) (dd:=dd) (p:=p) (q:=q) (x0:=x0) (y0:=y0) (x1:=x1) (y1:=y1) hr);rw[List.getElem?_map,hf,List.getElem?_append_left (by rw[List.length_map];exact (List.getElem?_eq_some_iff.1 hg).1),List.getElem?_map,hg] at e;simp only[Option.map_some,Option.some.injEq,FrP.px,Prod.mk.injEq] at e;exact ⟨e.1.symm,e.2.symm⟩
end
theorem core_at {a b:WinP} {n:Int} {i:Nat} {s:St} (h:(coreL a b n)[i]?=some s):s.K=i:=line_num h
theorem core_len {a b:WinP} {n:Int} (ha:a.fitsP) (hb:b.fitsP) (hn:widthP n):(coreL a b n).length<=2097220:=by
 cases hc:coreL a b n with
 |nil=>simp
 |cons s0 L =>
  rw[<-hc];obtain ⟨d,e,he,hK⟩:=core_num (n:=n) (a:=a) (b:=b) (s:=s0) (by rw[hc];exact List.mem_cons_self);have hu:∀ s∈coreL a b n,-1048641<=uC (decide (turnP a.x a.y b.x b.y)) s.X s.Y/\uC (decide (turnP a.x a.y b.x b.y)) s.X s.Y<=1048576:=fun s hs=>by
   have:=core_bd ha hb hn hs;unfold uC
   split<;>omega
  rcases he with rfl|rfl
  ·have:=rise_len (coreL a b n) (d-1048641) (d+1048577) (core_rise a b n) (fun q hq=>by have:=hK q hq;have:=hu q hq;omega) (by omega);omega
  ·have:=rise_len (coreL a b n) (d-1048576) (d+1048642) (core_rise a b n) (fun q hq=>by have:=hK q hq;have:=hu q hq;omega) (by omega);omega
end
end
end Go.Proofs.YthcjfanigfgckaaGreat
section
section
namespace Go.Proofs.YthcjfanigfgckaaGreat
open Go.RowKit
abbrev Ln.w (l:Ln):Value:=.agg #[.int .i64 l.From,.int .i64 l.To,.int .i64 l.X,.int .i64 l.Y,.bool l.Extra]
structure Ln.Ok (l:Ln):Prop where
 f0:-8388608<=l.From
 f1:l.From<=8388608
end Go.Proofs.YthcjfanigfgckaaGreat
end
section
namespace Go.Proofs.YthcjfanigfgckaaGreat
open Go.RowKit
end Go.Proofs.YthcjfanigfgckaaGreat
end
section
namespace Go
section
variable {P:Program} (w:World)
end
end Go
namespace Go.Proofs.YthcjfanigfgckaaGreat
open Go.RowKit
structure Rin (w wr:World) (ax ay bx y2 x0 y0 x1 y1:Int) (l:Ln) (p:Nat) (v:Value) (L:List St):Prop where
 ra:Row wr w.heap.size #[.int .i64 ax,.int .i64 ay] 181
 rb:Row wr (w.heap.size+1) #[.int .i64 bx,.int .i64 y2] 181
 rr:Row wr (w.heap.size+1+1) #[.int .i64 x0,.int .i64 y0,.int .i64 x1,.int .i64 y1] 29
 rl:Row wr p #[.int .i64 l.From,.int .i64 l.To,.int .i64 l.X,.int .i64 l.Y,.bool l.Extra] 231
 hp:w.heap.size+3<=p
 own:wr.ownsRow w.heap.size 228 3 v L.length (L.flatMap St.cells)
 ext:∃ X,wr=w.ext X
section
variable {w wr:World} {ax ay bx y2 x0 y0 x1 y1:Int} {l:Ln} {p:Nat} {v:Value} {L:List St}
theorem Rin.grow (h:Rin w wr ax ay bx y2 x0 y0 x1 y1 l p v L) (X:Xt):Rin w (wr.ext X) ax ay bx y2 x0 y0 x1 y1 l p v L :=
 ⟨h.ra.ext X,h.rb.ext X,h.rr.ext X,h.rl.ext X,h.hp,own_extS h.own X,by obtain ⟨Y,rfl⟩:=h.ext;exact ⟨_,World.ext_ext⟩⟩
theorem Rin.grown {w':World} (h:Rin w wr ax ay bx y2 x0 y0 x1 y1 l p v L) (hb:Below wr.heap.size wr w'):Rin w w' ax ay bx y2 x0 y0 x1 y1 l p v L:=by
 obtain ⟨X,rfl⟩:=hb.toExt;exact h.grow X
theorem Rin.size (h:Rin w wr ax ay bx y2 x0 y0 x1 y1 l p v L):w.heap.size<=wr.heap.size:=by obtain ⟨X,rfl⟩:=h.ext;simp
theorem Rin.below (h:Rin w wr ax ay bx y2 x0 y0 x1 y1 l p v L):Below w.heap.size w wr:=by obtain ⟨X,rfl⟩:=h.ext;exact (Below.refl _ _).ext (Nat.le_refl _) X
theorem Rin.both {w0 w1 w2:World} {v0 v1 v2:Value} {L':List St} {k1:Nat} {xs1:List Value} (h:Rin w wr ax ay bx y2 x0 y0 x1 y1 l p v L) (hB:Below wr.heap.size wr w0)
  (h0:v0.ownBlock=v.ownBlock\/v0.ownBlock=none) (hg1:w0.grownBy w1 v0.ownBlock) (hown1:w1.ownsRow w.heap.size 228 3 v1 k1 xs1) (hg2:w1.grownBy w2 v1.ownBlock)
  (hown:w2.ownsRow w.heap.size 228 3 v2 L'.length (L'.flatMap St.cells)):Rin w w2 ax ay bx y2 x0 y0 x1 y1 l p v2 L':=by
 have h':=h.grown hB;have nn:∀ {b:Nat} {c:Array Value} {T:TypeId},Row w0 b c T->T≠228->some b≠v0.ownBlock:=fun hr hT=>by
  rcases h0 with e|e
  ·rw[e];exact row_not_own hr hT h'.own
  ·rw[e];simp
 have k:∀ {b:Nat} {c:Array Value} {T:TypeId},Row w0 b c T->T≠228->Row w2 b c T:=fun hr hT=>by
  have r1:=hr.kept hg1 (nn hr hT);exact r1.kept hg2 (row_not_own r1 hT hown1)
 refine ⟨k h'.ra (by decide),k h'.rb (by decide),k h'.rr (by decide),k h'.rl (by decide),h.hp,hown,?_⟩;have b1:Below w.heap.size w w1:=Below.grown h'.below hg1 h'.size fun b hb=>by
  rcases h0 with e|e
  ·rw[e] at hb;exact (h'.own.lt b hb).1
  ·rw[e] at hb;cases hb
 exact jz (Below.grown b1 hg2 b1.size fun b hb=>(hown1.lt b hb).1)
theorem Rin.put {w0 w1 w2:World} {v0 v1 v2:Value} {j:Nat} {s:St} (h:Rin w wr ax ay bx y2 x0 y0 x1 y1 l p v L) (hj:j<=L.length) (hB:Below wr.heap.size wr w0)
  (h0:v0.ownBlock=v.ownBlock\/v0.ownBlock=none) (hg1:w0.grownBy w1 v0.ownBlock) (hown1:w1.ownsRow w.heap.size 228 3 v1 (j+1) ((L.take j).flatMap St.cells++St.cells s)) (hg2:w1.grownBy w2 v1.ownBlock)
  (hown:w2.ownsRow w.heap.size 228 3 v2 (j+1+(L.length-j)) ((L.take j).flatMap St.cells++St.cells s++(L.drop j).flatMap St.cells)):Rin w w2 ax ay bx y2 x0 y0 x1 y1 l p v2 (putAt L j s):=by
 refine h.both hB h0 hg1 hown1 hg2 ?_;have e1:(putAt L j s).length=j+1+(L.length-j):=by
  unfold putAt;rw[List.length_append,List.length_take,List.length_cons,List.length_drop];omega
 have e2:(putAt L j s).flatMap St.cells=(L.take j).flatMap St.cells++St.cells s++(L.drop j).flatMap St.cells:=by
  unfold putAt;rw[List.flatMap_append,List.flatMap_cons,List.append_assoc]
 rw[e1,e2];exact hown
end
end Go.Proofs.YthcjfanigfgckaaGreat
end
end
