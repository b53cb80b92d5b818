import Derived.Laws.AppendOwnNone
import Derived.Deep.RegionLawGrows
import Derived.Test.YthcjfanigfgckaaGreatSHidb11
import Derived.Test.YthcjfanigfgckaaGreatSHidb12
set_option linter.unusedVariables false
set_option linter.unusedSimpArgs false
set_option maxRecDepth 100000
set_option maxHeartbeats 16000000
namespace Go.Proofs.YthcjfanigfgckaaGreat
open Go.RowKit _root_.Go.Proofs.Tryz
instance jh12 : Coe Nat Value := ⟨fun n => .int .i64 n⟩
section
structure RecK (α:Type) where
 k:Nat
 cells:α->List Value
 len:∀ a,(cells a).length=k
 pos:0<k
 one:∀ a,∀ u∈cells a,u.oneCell'=true
section
variable {α:Type} {K:RecK α}
theorem RecK.flat_at (K:RecK α):∀ (L:List α) (i:Nat) (f:α) (j:Nat) (u:Value),L[i]?=some f->(K.cells f)[j]?=some u->(L.flatMap K.cells)[i*K.k+j]?=some u
 | [],_,_,_,_,h,_=>by simp at h
 |g::L,0,f,j,u,h,h'=>by
  obtain rfl:g=f:=by simpa using h
  have hj:j<(K.cells g).length:=by rw[List.getElem?_eq_some_iff] at h';exact h'.1
  rw[List.flatMap_cons,List.getElem?_append_left (by simpa using hj)]
  simpa using h'
 |g::L,i+1,f,j,u,h,h'=>by
  have e8:(K.cells g).length=K.k:=K.len g;have e9:(i+1)*K.k=i*K.k+K.k:=Nat.succ_mul i K.k;rw[List.flatMap_cons,List.getElem?_append_right (by rw[e8];omega),e8,show (i+1)*K.k+j-K.k=i*K.k+j by omega];exact RecK.flat_at K L i f j u (by simpa using h) h'
theorem RecK.flat_len (K:RecK α) (L:List α):(L.flatMap K.cells).length=L.length*K.k:=by
 induction L with
 |nil=>simp
 |cons g L ih=>rw[List.flatMap_cons,List.length_append,K.len,ih,List.length_cons,Nat.succ_mul];omega
theorem RecK.flat_one (K:RecK α) (L:List α):∀ u∈L.flatMap K.cells,u.oneCell'=true:=by
 intro u hu;obtain ⟨s,-,hs⟩:=List.mem_flatMap.1 hu;exact K.one s u hs
def Recs (K:RecK α) (w:World) (v:Value) (L:List α):Prop :=
 L.length<=1099511627776/\∃ a cap,v=.slice a L.length cap/\L.length<=cap /\
  (L=[]\/∃ b off,a=some ⟨b,off,none⟩/\b<w.heap.size/\∀ i f,L[i]?=some f->∀ j u,(K.cells f)[j]?=some u->w.cell? ⟨b,off+i*K.k+j,none⟩=some u)
theorem Recs.chg {p:Nat->Prop} {w w1:World} {v:Value} {L:List α} (h:Recs K w v L) (hc:Chg p w w1) (hb:∀ b,v.ownBlock=some b->L≠[]->b<w.heap.size->¬p b):Recs K w1 v L:=by
 obtain ⟨h1,a,cap,rfl,h2,h3⟩:=h;refine ⟨h1,a,cap,rfl,h2,?_⟩
 by_cases hne:L=[]
 ·exact .inl hne
 rcases h3 with h3|⟨b,off,rfl,hb',hcl⟩
 ·exact .inl h3
 ·exact .inr ⟨b,off,rfl,Nat.lt_of_lt_of_le hb' hc.size,fun i f hi j u hj=>by rw[hc.cell hb' (hb b rfl hne hb')];exact hcl i f hi j u hj⟩
theorem Recs.ext {w:World} {v:Value} {L:List α} (h:Recs K w v L) (X:Xt):Recs K (w.ext X) v L:=h.chg (p:=fun _=>False) (Chg.of_ext X) (fun _ _ _ _ h=>h)
theorem Recs.alloc {w:World} {v:Value} {L:List α} (h:Recs K w v L) (o:Obj):Recs K (w.alloc o) v L:=h.chg (p:=fun _=>False) (Chg.refl.alloc o) (fun _ _ _ _ h=>h)
theorem Recs.drew {w:World} {v:Value} {L:List α} (h:Recs K w v L):Recs K w.drew v L:=h.chg (p:=fun _=>False) Chg.refl.drew (fun _ _ _ _ h=>h)
theorem Recs.below {w w1:World} {v:Value} {L:List α} (h:Recs K w v L) (hb:Below w.heap.size w w1):Recs K w1 v L:=by
 obtain ⟨X,rfl⟩:=hb.toExt;exact h.ext X
theorem bJ (w:World):Recs K w (.slice none 0 0) []:=⟨by simp,none,0,rfl,Nat.le_refl _,.inl rfl⟩
theorem cM {wr:World} {base:Nat} {T:TypeId} {vb:Value} {L:List α} (h:wr.ownsRow base T K.k vb L.length (L.flatMap K.cells)) (hl:L.length<=1099511627776):Recs K wr vb L:=by
 obtain ⟨hle,h1⟩:=h;rcases h1 with ⟨rfl,h0⟩|⟨g,cap,cur,rfl,hb,hg,h1,h2,h3,h4⟩
 ·obtain rfl:L=[]:=List.length_eq_zero_iff.1 h0;exact ⟨hl,none,0,rfl,Nat.le_refl _,.inl rfl⟩
 ·refine ⟨hl,_,cap,rfl,h1,.inr ⟨g,0,rfl,(Array.getElem?_eq_some_iff.1 hg).1,fun i f hi j u hj=>?_⟩⟩;have e:=K.flat_at L i f j u hi hj;rw[<-h4,List.getElem?_take] at e;rw[Nat.zero_add,World.cell?];simp only[hg]
  split at e
  ·rw[<-Array.getElem?_toList];exact e
  ·exact absurd e (by simp)
theorem gB (b o j:Nat):(⟨b,o,none⟩:Addr).add j=⟨b,o+j,none⟩:=by simp[Addr.add]
theorem cF {w:World} {n:Nat} (h:w.heap.size=n) (c:Array Value) (t:TypeId):∀ j u,c.toList[j]?=some u->(w.alloc (.cells c t)).cell? ((⟨n,0,none⟩:Addr).add j)=some u:=by
 subst h;intro j u hj;rw[gB,Nat.zero_add,World.cell?];simp only[World.hp_alloc,Array.getElem?_push,if_true];rw[<-Array.getElem?_toList];exact hj
theorem oR {w:World} {n:Nat} (h:w.heap.size=n) (L:List α) (c:Array Value) (hc:c.toList=L.flatMap K.cells) (T:TypeId) (hl:L.length<=1099511627776):Recs K (w.alloc (.cells c T)) (.slice (some ⟨n,0,none⟩) L.length L.length) L:=by
 refine ⟨hl,_,L.length,rfl,Nat.le_refl _,.inr ⟨n,0,rfl,by rw[World.hp_alloc,Array.size_push];omega,fun i s hi j u hj=>?_⟩⟩;have:=cF h c T (i*K.k+j) u (by rw[hc];exact K.flat_at L i s j u hi hj);rw[gB,Nat.zero_add] at this;rw[Nat.zero_add];exact this
def cS (K:RecK α) (w:World) (L:List α) (e:Ending) (w':World):Prop:=∃ v,e=.returned v/\Recs K w' v L/\∃ X,w'=w.ext X
theorem jV {w:World} {base n size:Nat} {e:TypeId} {v:Value} {xs:List Value} (h:w.ownsRow base e size v n xs) (X:Xt):(w.ext X).ownsRow base e size v n xs :=
 h.kept (row:=none) ⟨rfl,rfl,rfl,by simp,fun k hk _=>World.heap_ext hk⟩ (by cases v.ownBlock<;>simp)
theorem fR {wr:World} {c:Array Value} {T E:TypeId} {b:Nat} (h:Row wr b c T) (hT:T≠E) {base k s:Nat} {v:Value} {xs:List Value} (hr:wr.ownsRow base E s v k xs):some b≠v.ownBlock:=by
 rcases hr.2 with ⟨rfl,_⟩|⟨g,cap,cur,rfl,_,hgb,_⟩
 ·simp[Value.ownBlock]
 ·intro e';obtain rfl:b=g:=by simpa [Value.ownBlock] using e'
  have:=(show wr.heap[b]?=_ from h).symm.trans hgb;simp at this;exact hT this.2
theorem uY {wr:World} {E:TypeId} {b:Nat} {base k s:Nat} {v:Value} {xs:List Value} (hr:wr.ownsRow base E s v k xs) (hb:b<base):some b≠v.ownBlock:=fun e=>by
 have:=(hr.lt b e.symm).1;omega
theorem Row.keptR {wr w1:World} {b:Nat} {c:Array Value} {T:TypeId} {row:Option Nat} (h:Row wr b c T) (hg:wr.grownBy w1 row) (hn:some b≠row):Row w1 b c T:=by
 unfold Row;rw[hg.block b h.lt hn];exact h
structure Hold (K:RecK α) (w wr:World) (E:TypeId) (R:List (Nat×Array Value×TypeId)) (v:Value) (L:List α):Prop where
 rows:∀ r∈R,Row wr r.1 r.2.1 r.2.2
 far:∀ r∈R,r.2.2≠E
 own:wr.ownsRow w.heap.size E K.k v L.length (L.flatMap K.cells)
 ext:∃ X,wr=w.ext X
theorem Hold.grow {w wr:World} {E:TypeId} {R:List (Nat×Array Value×TypeId)} {v:Value} {L:List α} (h:Hold K w wr E R v L) (X:Xt):Hold K w (wr.ext X) E R v L :=
 ⟨fun r hr=>(h.rows r hr).ext X,h.far,jV h.own X,by obtain ⟨Y,rfl⟩:=h.ext;exact ⟨_,World.ext_ext⟩⟩
theorem Hold.grown {w wr w1:World} {E:TypeId} {R:List (Nat×Array Value×TypeId)} {v:Value} {L:List α} (h:Hold K w wr E R v L) (hb:Below wr.heap.size wr w1):Hold K w w1 E R v L:=by
 obtain ⟨X,rfl⟩:=hb.toExt;exact h.grow X
theorem Hold.size {w wr:World} {E:TypeId} {R:List (Nat×Array Value×TypeId)} {v:Value} {L:List α} (h:Hold K w wr E R v L):w.heap.size<=wr.heap.size:=by obtain ⟨X,rfl⟩:=h.ext;simp
theorem Hold.below {w wr:World} {E:TypeId} {R:List (Nat×Array Value×TypeId)} {v:Value} {L:List α} (h:Hold K w wr E R v L):Below w.heap.size w wr:=by obtain ⟨X,rfl⟩:=h.ext;exact (Below.refl _ _).ext (Nat.le_refl _) X
theorem Hold.start {w wr:World} {E:TypeId} {R:List (Nat×Array Value×TypeId)} (hr:∀ r∈R,Row wr r.1 r.2.1 r.2.2) (hf:∀ r∈R,r.2.2≠E) (he:∃ X,wr=w.ext X):Hold K w wr E R (.slice none 0 0) [] :=
 ⟨hr,hf,World.ownsRow_nil _ _ _ _,he⟩
theorem Hold.snoc {w wr w1:World} {E:TypeId} {R:List (Nat×Array Value×TypeId)} {v v':Value} {L:List α} {s:α} {o:Obj} (h:Hold K w wr E R v L)
  (hown:w1.ownsRow w.heap.size E K.k v' (L.length+1) (L.flatMap K.cells++K.cells s)) (hg:(wr.alloc o).grownBy w1 v.ownBlock):Hold K w w1 E R v' (L++[s]):=by
 refine ⟨fun r hr=>((h.rows r hr).alloc o).keptR hg (fR (h.rows r hr) (h.far r hr) h.own),h.far,?_,?_⟩
 ·have e:(L++[s]).length=L.length+1:=by simp
  rw[e,List.flatMap_append]
  simpa using hown
 ·exact jz (Below.grown (h.below.alloc h.size o) hg (by have:=h.size;rw[World.hp_alloc,Array.size_push];omega) fun k hk=>(h.own.lt k hk).1)
theorem Hold.with {w wr:World} {E:TypeId} {R R':List (Nat×Array Value×TypeId)} {v:Value} {L:List α} (h:Hold K w wr E R v L) (hr:∀ r∈R',Row wr r.1 r.2.1 r.2.2) (hf:∀ r∈R',r.2.2≠E):Hold K w wr E R' v L :=
 ⟨hr,hf,h.own,h.ext⟩
theorem Hold.put {w wr:World} {E:TypeId} {R R':List (Nat×Array Value×TypeId)} {v:Value} {L:List α} {b k:Nat} {u:Value} (h:Hold K w wr E R v L) (hb:some b≠v.ownBlock) (hw:w.heap.size<=b)
  (hr:∀ r∈R',Row (wr.setCell ⟨b,k,none⟩ u) r.1 r.2.1 r.2.2) (hf:∀ r∈R',r.2.2≠E):Hold K w (wr.setCell ⟨b,k,none⟩ u) E R' v L:=by
 refine ⟨hr,hf,?_,World.setCell_new h.ext hw⟩;refine World.ownsRow.kept (row:=some b) h.own ⟨rfl,rfl,rfl,by simp[World.setCell],fun j hj hne=>?_⟩ (.inr hb.symm);have:¬b=j:=fun e=>hne (by rw[e])
 simp only[World.setCell,Array.getElem?_modify,if_neg this]
theorem Hold.put1 {w wr:World} {E:TypeId} {R:List (Nat×Array Value×TypeId)} {v:Value} {L:List α} {b k:Nat} {u:Value} (h:Hold K w wr E R v L) (hb:some b≠v.ownBlock) (hw:w.heap.size<=b)
  (hr:∀ r∈R,r.1≠b):Hold K w (wr.setCell ⟨b,k,none⟩ u) E R v L :=
 h.put hb hw (fun r hr'=>(h.rows r hr').other (hr r hr') _ _) h.far
end
structure FrP where
 x:Int
 y:Int
 z:Int
 c0:Int
 c1:Int
 c2:Int
 c3:Int
 cov:Int
abbrev FrP.v (f:FrP):Value:=.agg #[f.x,f.y,f.z,f.c0,f.c1,f.c2,f.c3,f.cov]
abbrev FrP.cells (f:FrP):List Value:=[.int .i64 f.x,.int .i64 f.y,.int .i64 f.z,.int .i64 f.c0,.int .i64 f.c1,.int .i64 f.c2,.int .i64 f.c3,.int .i64 f.cov]
def frK:RecK FrP:=⟨8,FrP.cells,fun _=>rfl,by decide,fun a u hu=>by simp at hu;rcases hu with rfl|rfl|rfl|rfl|rfl|rfl|rfl|rfl<;>rfl⟩
structure SpP where
 y:Int
 x0:Int
 x1:Int
abbrev SpP.cells (f:SpP):List Value:=[.int .i64 f.y,.int .i64 f.x0,.int .i64 f.x1]
def spK:RecK SpP:=⟨3,SpP.cells,fun _=>rfl,by decide,fun a u hu=>by simp at hu;rcases hu with rfl|rfl|rfl<;>rfl⟩
def rng (a b:Int):List Int:=(List.range (b-a).toNat).map (fun i:Nat=>a+i)
theorem aEi {a b:Int} (h:b<=a):rng a b=[]:=by
 unfold rng;rw[Int.toNat_of_nonpos (by omega)];rfl
theorem aAi {a b:Int} (h:a<=b):rng a (b+1)=rng a b++[b]:=by
 unfold rng;rw[show (b+1-a).toNat=(b-a).toNat+1 by omega,List.range_succ,List.map_append];simp;omega
theorem rng_mem {a b x:Int}:x∈rng a b↔a<=x/\x<b:=by
 unfold rng;simp only[List.mem_map,List.mem_range]
 constructor
 ·rintro ⟨i,hi,rfl⟩;omega
 ·rintro ⟨h1,h2⟩;exact ⟨(x-a).toNat,by omega,by omega⟩
theorem jA (a b:Int):(rng a b).length=(b-a).toNat:=by unfold rng;simp
theorem rc_ {A C:Prop} (h:A) (f:A->C:=by intro h_;repeat (first|with_reducible exact h_|with_reducible refine Recs.ext ?_ _|with_reducible refine Recs.alloc ?_ _|with_reducible refine Recs.drew ?_)):C:=f h
end
end Go.Proofs.YthcjfanigfgckaaGreat
section
section
namespace Go.Proofs.YthcjfanigfgckaaGreat
open Go.RowKit _root_.Go.Proofs.Tryz
theorem nC (ax ay bx y2 x y:Int) (ha:MayP ax ay) (hb:MayP bx y2) (hx:FarP x y) (w:World) :
  Calls prog 203 #[P2 ax ay,P2 bx y2,x,y] w (Ret (.bool (decide (exP ax ay bx y2 x y))) w):=by
 have HM:=jj (fun w=>aCa ax ay bx y2 x y ha hb hx w);have HI:=jj (fun w=>pN bx y2 x y hb hx w);have e:decide (exP ax ay bx y2 x y)=(decide (mtP (ax-256*x-128) (ay-256*y-128) (bx-256*x-128) (y2-256*y-128))&&!decide (oB (bx-256*x-128) (y2-256*y-128))):=by
  rw[Bool.eq_iff_iff];simp[exP];exact decide_eq_true_iff
 rw[e];clear e;obtain ⟨m,hm⟩:∃ m,decide (mtP (ax-256*x-128) (ay-256*y-128) (bx-256*x-128) (y2-256*y-128))=m:=⟨_,rfl⟩;obtain ⟨n,hn⟩:∃ m,decide (oB (bx-256*x-128) (y2-256*y-128))=m:=⟨_,rfl⟩;rw[hm] at HM ⊢;rw[hn] at HI ⊢;clear hm hn;cases m
 all_goals cases n
 all_goals
  go_enter func203,ntmps203
  go_wp2_with (first|(go_at_call 235;with_reducible refine jn (HM.out _) fun X_=>?_)|(go_at_call 236;with_reducible refine jn (HI.out _) fun X_=>?_))
  go_ret;exact Ret.of' rfl (by exact bl_)
theorem aM4 (x y:Int) (h:MayP x y) (w:World):Calls prog 234 #[P2 x y] w (Ret (In3 x y) w):=by
 have HI:=jj (fun i k w (hf:FarP i k)=>pN x y i k h hf w);have hin:=jj (fun i k=>aGh x y i k);have hx1:fK x y=true->x/256-1<=inX x y/\inX x y<=x/256:=fun e=>by unfold inX;rw[if_pos e];split<;>omega
 have hy1:fK x y=true->inY x y=y/256:=fun e=>by unfold inY;rw[if_pos e]
 have hx2:fK x y=false->inX x y=0/\inY x y=0:=fun e=>by unfold inX inY;rw[e];exact ⟨rfl,rfl⟩
 have tx:=gP x;have ty:=gP y;obtain ⟨x0,x1,y0,y1⟩:=h;obtain ⟨a,ha⟩:∃ a,inX x y=a:=⟨_,rfl⟩;obtain ⟨b,hb⟩:∃ b,inY x y=b:=⟨_,rfl⟩;obtain ⟨o,ho⟩:∃ o,fK x y=o:=⟨_,rfl⟩;simp only[In3,ha,hb,ho] at *;obtain ⟨p,hp⟩:∃ p,x.tdiv 256=p:=⟨_,rfl⟩;obtain ⟨q,hq⟩:∃ p,y.tdiv 256=p:=⟨_,rfl⟩;rw[hp] at tx;rw[hq] at ty;have pb:-2097154<=p/\p<=2097154:=by omega
 have qb:-2097154<=q/\q<=2097154:=by omega
 have A1:o=true->p-2<=a/\a<=p+2:=fun e=>by have:=hx1 e;omega
 have B1:o=true->q-2<=b/\b<=q+2:=fun e=>by have:=hy1 e;omega
 have HA:=jj A1;have HB:=jj B1;have HO:=jj hx2;obtain ⟨pb0,pb1⟩:=pb;obtain ⟨qb0,qb1⟩:=qb;clear hx1 hy1 hx2 tx ty A1 B1 ha hb ho
 go_enter func234,ntmps234
 go_wp2;go_loopw [5] (fun i wr=>∃ (k:Int) (X:Xt),p-2<=k/\k<=p+3/\Hid (o=true->k<=a)/\i=.int .i64 k/\wr=(w.alloc (.cells #[x,y] 181)).ext X)
  (fun i _=>(p+3-intOf i).toNat)
 case atStart=>exact ⟨p-2,_,by omega,by omega,jj fun e=>(HA.out e).1,rfl,mM _⟩
 case round =>
  obtain ⟨k,X,k0,k1,ka,rfl,rfl⟩:=hrel
  by_cases hlt:k<=p+2
  ·go_wp2;go_loopw [6] (fun i wr=>∃ (j:Int) (Y:Xt),q-2<=j/\j<=q+3/\Hid (o=true->a=k->j<=b)/\i=.int .i64 j/\wr=(w.alloc (.cells #[x,y] 181)).ext Y)
    (fun i _=>(q+3-intOf i).toNat)
   case atStart=>exact ⟨q-2,_,by omega,by omega,jj fun e _=>(HB.out e).1,rfl,rfl⟩
   case round =>
    obtain ⟨j,Y,j0,j1,jb,rfl,rfl⟩:=hrel
    by_cases hl2:j<=q+2
    ·obtain ⟨s,hs⟩:∃ s,decide (oB (x-256*k-128) (y-256*j-128))=s:=⟨_,rfl⟩;have HI1:=jj (fun w=>hs▸HI.out k j w ⟨by omega,by omega,by omega,by omega⟩);have HN:=jj ((hin.out k j).trans (by rw[<-decide_eq_true_iff (p:=oB _ _),hs]));clear hs;cases s
     ·go_wp2_with (first|(go_at_call 236;with_reducible refine jn (HI1.out _) fun X_=>?_))
      go_roundw
      case rel=>exact ⟨j+1,_,by omega,by omega,jj fun e f=>by
       have:=jb.out e f;have:b≠j:=fun g=>by cases HN.out.1 ⟨e,f,g⟩
       omega,rfl,World.ext_ext⟩
      case measure=>simp[intOf];omega
     ·go_wp2_with (first|(go_at_call 236;with_reducible refine jn (HI1.out _) fun X_=>?_))
      go_ret3
      obtain ⟨e1,e2,e3⟩:=HN.out.2 (by trivial);exact Ret.of' (by rw[e1,e2,e3];rfl) (by exact bl_)
    ·go_wp2;go_roundw
     case rel=>exact ⟨k+1,_,by omega,by omega,jj fun e=>by
      have:=ka.out e;have h2:=(HB.out e).2;have:a≠k:=fun f=>by have:=jb.out e f;omega
      omega,rfl,rfl⟩
     case measure=>simp[intOf];omega
  ·go_wp2
   go_ret3
   have e:o=false:=by
    cases o
    ·rfl
    ·have h1:=ka.out rfl;have h2:=(HA.out rfl).2;omega
   obtain ⟨e1,e2⟩:=HO.out e;exact Ret.of' (by rw[e,e1,e2];rfl) (by exact bl_)
theorem lU (ax ay bx y2:Int) (ha:MayP ax ay) (hb:MayP bx y2) (w:World):Calls prog 202 #[P2 ax ay,P2 bx y2] w (Ret (.bool (!decide (aB ax ay bx y2))) w):=by
 obtain ⟨a0,a1,a2,a3⟩:=ha;obtain ⟨b0,b1,b2,b3⟩:=hb
 go_enter func202,ntmps202
 go_wp2;refine jy ?_
 repeat (go_big_quiet_step ((fail)))
 refine jv fun X=>?_
 go_wp2;go_ret;exact Ret.of' (by rw[<-decide_not];refine eX ?_;unfold aB;omega) (by exact bl_)
theorem aCe (u:Int) (h0:-536870912<=u) (h1:u<=536870912) (w:World):Calls prog 233 #[u] w (Ret (.int .i64 (aD u)) w):=by
 have t:=gP u;have L:=aV u;obtain ⟨n,hn⟩:∃ n,aD u=n:=⟨_,rfl⟩;rw[hn] at L ⊢;obtain ⟨p,hp⟩:∃ p,u.tdiv 256=p:=⟨_,rfl⟩;rw[hp] at t;obtain ⟨L0,L1⟩:=L;have pb:-2097154<=p/\p<=2097154:=by omega
 have pn:p-3<=n/\n<=p+3:=by omega
 obtain ⟨pb0,pb1⟩:=pb;clear hn t
 go_enter func233,ntmps233
 go_wp2
 go_loop [3] (fun i=>∃ k:Int,p-3<=k/\k<=n/\i=.int .i64 k) (fun i=>(n-intOf i).toNat)
 case atStart=>exact ⟨p-3,by omega,by omega,rfl⟩
 case round =>
  obtain ⟨k,k0,k1,rfl⟩:=hrel
  by_cases hlt:256*k+128<u
  ·go_wp2
   go_round
   case rel=>exact ⟨k+1,by omega,by omega,rfl⟩
   case measure=>simp[intOf];omega
  ·go_wp2;go_ret;exact Ret.of' (congrArg (Value.int .i64) (by omega)) (by exact bl_)
abbrev Ln.w (l:Ln):Value:=.agg #[l.From,l.To,l.X,l.Y,.bool l.Extra]
structure Ln.Ok (l:Ln):Prop where
 f0:-8388608<=l.From
 f1:l.From<=8388608
theorem xK (l:Ln) (ok:l.Ok) (x y u:Int) (u0:-8388608<=u) (u1:u<=8388608) (w:World):Calls prog 204 #[l.w,x,y,u] w (Ret (.int .i64 (aIm l x y u)) w):=by
 obtain ⟨f0,f1⟩:=ok;obtain ⟨Z,hZ⟩:∃ Z,Z=aIm l x y u:=⟨_,rfl⟩;rw[<-hZ];unfold aIm at hZ;cases l with
 |mk F T X Y E =>
 simp only[Ln.w] at *;have HZ:=jj hZ;clear hZ
 by_cases c:T<F
 all_goals
  cases E
  ·go_enter func204,ntmps204
   go_wp2;go_ret;exact Ret.of' (congrArg (Value.int .i64) (by rw[HZ.out];simp;omega)) (by exact bl_)
  ·by_cases c1:x=X
   ·by_cases c2:y=Y
    ·have z1:(x==X)=true:=by simp[c1]
     have z2:(y==Y)=true:=by simp[c2]
     have C1:=jj c1;have C2:=jj c2;clear c1 c2
     go_enter func204,ntmps204
     go_wp2;go_ret;exact Ret.of' (congrArg (Value.int .i64) (by rw[HZ.out];simp[C1.out,C2.out])) (by exact bl_)
    ·have z1:(x==X)=true:=by simp[c1]
     have z2:(y==Y)=false:=by simp[c2]
     have C1:=jj c1;have C2:=jj c2;clear c1 c2
     go_enter func204,ntmps204
     go_wp2;go_ret;exact Ret.of' (congrArg (Value.int .i64) (by rw[HZ.out];simp[C2.out];omega)) (by exact bl_)
   ·have z1:(x==X)=false:=by simp[c1]
    have C1:=jj c1;clear c1
    go_enter func204,ntmps204
    go_wp2;go_ret;exact Ret.of' (congrArg (Value.int .i64) (by rw[HZ.out];simp[C1.out];omega)) (by exact bl_)
end Go.Proofs.YthcjfanigfgckaaGreat
end
section
namespace Go.Proofs.YthcjfanigfgckaaGreat
open Go.RowKit _root_.Go.Proofs.Tryz
theorem aPr (ax ay bx y2:Int) (ha:MayP ax ay) (hb:MayP bx y2):(ofL ax ay bx y2).Ok:=by
 have b1:=tE (decide (aB ax ay bx y2)) ha;unfold ofL
 split<;>(refine ⟨?_,?_⟩<;>(simp only[aD];omega))
theorem z7 (ax ay bx y2:Int) (ha:MayP ax ay) (hb:MayP bx y2) (w:World):Calls prog 200 #[P2 ax ay,P2 bx y2] w (Ret (ofL ax ay bx y2).w w):=by
 have HWd:=jj (fun w=>lU ax ay bx y2 ha hb w);have HAh:=jj (fun u w (h0:-536870912<=u) (h1:u<=536870912)=>aCe u h0 h1 w);have HI:=jj (fun w=>aM4 ax ay ha w);have ib:(-8388608<=inX ax ay/\inX ax ay<=8388608)/\(-8388608<=inY ax ay/\inY ax ay<=8388608):=by
  obtain ⟨a0,a1,a2,a3⟩:=ha;unfold inX inY;constructor<;>constructor<;>repeat' split
  all_goals omega
 have HE:=jj (fun w=>nC ax ay bx y2 (inX ax ay) (inY ax ay) ha hb ⟨ib.1.1,ib.1.2,ib.2.1,ib.2.2⟩ w);have fb:=tE (decide (aB ax ay bx y2)) ha;have gb:=tE (decide (aB ax ay bx y2)) hb;obtain ⟨V,hV⟩:∃ V,ofL ax ay bx y2=V:=⟨_,rfl⟩;rw[hV];unfold ofL exA at hV;obtain ⟨a0,a1,a2,a3⟩:=ha;obtain ⟨b0,b1,b2,b3⟩:=hb;obtain ⟨t,ht⟩:∃ t,decide (aB ax ay bx y2)=t:=⟨_,rfl⟩;obtain ⟨o,ho⟩:∃ t,fK ax ay=t:=⟨_,rfl⟩;obtain ⟨e,he⟩:∃ t,decide (exP ax ay bx y2 (inX ax ay) (inY ax ay))=t:=⟨_,rfl⟩;have he':exP ax ay bx y2 (inX ax ay) (inY ax ay)↔e=true:=by rw[<-he,decide_eq_true_iff]
 simp only[ht,ho,he'] at hV;have hu:=aKj t ax ay;rw[hu.1] at hV;rw[he] at HE;rw[ht] at fb gb;simp only[ht] at HWd;simp only[In3,ho] at HI;obtain ⟨i,hi⟩:∃ t,inX ax ay=t:=⟨_,rfl⟩;obtain ⟨k,hk⟩:∃ t,inY ax ay=t:=⟨_,rfl⟩;simp only[hi,hk] at HI HE hV ib;obtain ⟨F,hF⟩:∃ F,aD (uC t ax ay)=F:=⟨_,rfl⟩;obtain ⟨G,hG⟩:∃ F,aD (uC t bx y2)=F:=⟨_,rfl⟩;rw[hF,hG] at hV;have hFb:-2097154<=F/\F<=2097154:=by rw[<-hF];unfold aD;omega
 have hGb:-2097154<=G/\G<=2097154:=by rw[<-hG];unfold aD;omega
 have HV:=jj hV;have HF:=jj hF;have HG:=jj hG;obtain ⟨F0,F1⟩:=hFb;obtain ⟨G0,G1⟩:=hGb;obtain ⟨⟨i0,i1⟩,⟨k0,k1⟩⟩:=ib;clear hV hF hG ht ho he he' hu hi hk;have L1:=jj (fun w=>HAh.out ax w (by omega) (by omega));have L2:=jj (fun w=>HAh.out bx w (by omega) (by omega));have L3:=jj (fun w=>HAh.out ay w (by omega) (by omega));have L4:=jj (fun w=>HAh.out y2 w (by omega) (by omega));obtain ⟨F',hF'⟩:∃ F,aD ax=F:=⟨_,rfl⟩;obtain ⟨G',hG'⟩:∃ F,aD bx=F:=⟨_,rfl⟩;have HF':=jj hF';have HG':=jj hG';rw[hF'] at L1;rw[hG'] at L2;clear hF' hG'
 go_enter func200,ntmps200
 go_upto_region 1 with fail
 refine aP (by kernel_rfl) ?_
 repeat (first|(refine dE rfl ?_;simp only[List.nil_append,List.cons_append])|(refine bN rfl rfl rfl ?_;simp only[jw,List.nil_append,List.cons_append])|(refine dF rfl rfl ?_;intro K_ hK_;go_big_quiet_op;go_big_quiet_on;simp only[List.nil_append,List.cons_append])|(refine bX rfl rfl Tryz.zeroValue231 ?_;simp only[List.nil_append,List.cons_append])|(refine aY 7 rfl rfl rfl rfl (by simp[Value.oneCell']) (by kernel_rfl) (by simp) rfl rfl rfl rfl ?_;simp only[List.nil_append,List.cons_append])|(apply eJ rfl;(intro X_;go_simp;go_at_call 233;with_reducible exact Calls.calm_ret (L1.out _));simp only[jw,List.nil_append,List.cons_append])|(apply eJ rfl;(intro X_;go_simp;go_at_call 233;with_reducible exact Calls.calm_ret (L2.out _));simp only[jw,List.nil_append,List.cons_append]))
 refine eV (mF 7 8 ⟨by kernel_rfl,by kernel_rfl⟩ rfl rfl rfl rfl rfl (by kernel_rfl) ?_);intro X p h;have c_h:=h.cell;have f_h:=h.frozen;have g_h:=h.gap;have b_h:=jj h.block;simp only[World.size_ext,World.size_alloc,World.size_drew,World.size_setCell] at g_h;clear h;simp only[jw,ptr];go_upto_region 2 with fail
 have B:=b_h.out;refine aE (F:=fun w1=>Row w1 w.heap.size #[ax,ay] 181/\Row w1 (w.heap.size+1) #[bx,y2] 181/\Row w1 (w.heap.size+1+1) #[.int .i64 0,.int .i64 0,.int .i64 0,.int .i64 0,.bool false] 231/\Row w1 p #[F',G',.int .i64 0,.int .i64 0,.bool false] 231/\w.heap.size+3<=p/\∃ X,w1=w.ext X) ⟨by exact rx_,by exact rx_,by exact rx_,B,by simp[Xt.gapl,Xt.gap,Xt.sz] at g_h ⊢;omega,jz (by exact bl_)⟩ ?_;clear c_h f_h g_h b_h B;rintro w1 ⟨ra,rb,rs,rp,hp,hX⟩;have RA:=jj ra;have RB:=jj rb;have RS:=jj rs;have RP:=jj rp;have HX:=jj hX;have ca:=ra.cell;have fa:=ra.frozen;have la:=ra.lt;have cb:=rb.cell;have fb:=rb.frozen;have lb:=rb.lt;have cp:=rp.cell;have fp:=rp.frozen;have lp:=rp.lt;clear ra rb rs rp hX
 go_upto_if 21 with (first|(go_at_call 202;with_reducible refine jn (HWd.out _) fun X_=>?_))
 go_cut [] (fun wx=>Row wx w.heap.size #[ax,ay] 181/\Row wx (w.heap.size+1) #[bx,y2] 181/\Row wx (w.heap.size+1+1) #[.int .i64 0,.int .i64 0,.int .i64 0,.int .i64 0,.bool false] 231/\Row wx p #[F,G,.int .i64 0,.int .i64 0,.bool false] 231/\∃ X,wx=w.ext X)
 case first =>
  cases t
  ·have e1:F'=F:=by rw[<-HF.out,<-HF'.out];rfl
   have e2:G'=G:=by rw[<-HG.out,<-HG'.out];rfl
   have E1:=jj e1;have E2:=jj e2;clear e1 e2;go_wp2;go_meet;rw[<-E1.out,<-E2.out];obtain ⟨X1,hX1⟩:=HX.out;exact ⟨RA.out.ext _,RB.out.ext _,RS.out.ext _,RP.out.ext _,by subst hX1;exact ⟨_,World.ext_ext⟩⟩
  ·have e1:aD ay=F:=HF.out;have e2:aD y2=G:=HG.out;rw[e1] at L3;rw[e2] at L4;clear e1 e2;go_upto_region 3 with fail
   refine jm 7 ?_;simp only[jx]
   repeat (go_big_quiet_step ((first|(go_at_call 233;with_reducible exact Calls.quiet_ret (L3.out _))|(go_at_call 233;with_reducible exact Calls.quiet_ret (L4.out _)))))
   refine jv fun X2=>?_
   go_wp2;go_meet;obtain ⟨X1,hX1⟩:=HX.out;have ra:=RA.out;have rb:=RB.out;have rs:=RS.out;have R5:=((((RP.out.set 0 (.int .i64 F)).set 1 (.int .i64 G)).set 2 (.int .i64 0)).set 3 (.int .i64 0)).set 4 (.bool false);simp only[List.setIfInBounds_toArray,List.set_cons_zero,List.set_cons_succ] at R5;refine ⟨by exact ry_,by exact ry_,by exact ry_,by exact ry_,by subst hX1;exact jz (by exact br_)⟩
 case rest =>
  obtain ⟨ra,rb,rs,rp,hX⟩:=hcut;obtain ⟨w2,rfl⟩:∃ w2,w2=wc:=⟨_,rfl⟩;clear HX ca fa la cb fb lb cp fp lp;have RA:=jj ra;have RB:=jj rb;have RS:=jj rs;have RP:=jj rp;have HX:=jj hX;have ca:=ra.cell;have fa:=ra.frozen;have la:=ra.lt;have cb:=rb.cell;have fb:=rb.frozen;have lb:=rb.lt;have cp:=rp.cell;have fp:=rp.frozen;have lp:=rp.lt;have cs:=rs.cell;have fs:=rs.frozen;have ls:=rs.lt;clear ra rb rs rp hX L1 L2 L3 L4 HAh;cases o
  ·have E:=jj (show (⟨F,G,0,0,false⟩:Ln)=V by rw[<-HV.out];simp)
   go_wp2_with (first|(go_at_call 234;with_reducible refine jn (HI.out _) fun X_=>?_))
   refine kE (F:=fun w9=>Row w9 (w.heap.size+1+1) #[F,G,.int .i64 0,.int .i64 0,.bool false] 231/\∃ X,w9=w.ext X) ⟨?_,?_⟩ ?_
   ·have R5:=((((RS.out.set 0 (.int .i64 F)).set 1 (.int .i64 G)).set 2 (.int .i64 0)).set 3 (.int .i64 0)).set 4 (.bool false);simp only[List.setIfInBounds_toArray,List.set_cons_zero,List.set_cons_succ] at R5;exact ry_
   ·obtain ⟨X1,hX1⟩:=HX.out;subst hX1;exact jz (by exact br_)
   rintro w9 ⟨r9,X8,rfl⟩;have c9:=r9.cell;rw[<-E.out];refine bodyPost_ret (v:=Ln.w ⟨F,G,0,0,false⟩) (by simp[results,results200,go_sem,c9]) rfl ?_;exact Ret.of (by exact bl_)
  ·by_cases c:ax=bx/\ay=y2
   ·have E:=jj (show (⟨F,G,0,0,false⟩:Ln)=V by rw[<-HV.out];simp[c]);obtain ⟨rfl,rfl⟩:=c;have z1:(ax==ax)=true:=by simp
    have z2:(ay==ay)=true:=by simp
    go_wp2_with (first|(go_at_call 234;with_reducible refine jn (HI.out _) fun X_=>?_))
    refine kE (F:=fun w9=>Row w9 (w.heap.size+1+1) #[F,G,.int .i64 0,.int .i64 0,.bool false] 231/\∃ X,w9=w.ext X) ⟨?_,?_⟩ ?_
    ·have R5:=((((RS.out.set 0 (.int .i64 F)).set 1 (.int .i64 G)).set 2 (.int .i64 0)).set 3 (.int .i64 0)).set 4 (.bool false);simp only[List.setIfInBounds_toArray,List.set_cons_zero,List.set_cons_succ] at R5;exact ry_
    ·obtain ⟨X1,hX1⟩:=HX.out;subst hX1;exact jz (by exact br_)
    rintro w9 ⟨r9,X8,rfl⟩;have c9:=r9.cell;rw[<-E.out];refine bodyPost_ret (v:=Ln.w ⟨F,G,0,0,false⟩) (by simp[results,results200,go_sem,c9]) rfl ?_;exact Ret.of (by exact bl_)
   ·cases e
    ·have E:=jj (show (⟨F,G,0,0,false⟩:Ln)=V by rw[<-HV.out];simp);rcases jW c with z1|⟨z1,z2⟩
     all_goals
      clear c
      go_wp2_with (first|(go_at_call 234;with_reducible refine jn (HI.out _) fun X_=>?_)|(go_at_call 203;with_reducible refine jn (HE.out _) fun X_=>?_))
      refine kE (F:=fun w9=>Row w9 (w.heap.size+1+1) #[F,G,.int .i64 0,.int .i64 0,.bool false] 231/\∃ X,w9=w.ext X) ⟨?_,?_⟩ ?_
      ·have R5:=((((RS.out.set 0 (.int .i64 F)).set 1 (.int .i64 G)).set 2 (.int .i64 0)).set 3 (.int .i64 0)).set 4 (.bool false);simp only[List.setIfInBounds_toArray,List.set_cons_zero,List.set_cons_succ] at R5;exact ry_
      ·obtain ⟨X1,hX1⟩:=HX.out;subst hX1;exact jz (by exact br_)
      rintro w9 ⟨r9,X8,rfl⟩;have c9:=r9.cell;rw[<-E.out];refine bodyPost_ret (v:=Ln.w ⟨F,G,0,0,false⟩) (by simp[results,results200,go_sem,c9]) rfl ?_;exact Ret.of (by exact bl_)
    ·obtain ⟨u,hu⟩:∃ u,uC t i k=u:=⟨_,rfl⟩;have ub:-8388608<=u/\u<=8388608:=by rw[<-hu];unfold uC;split<;>omega
     have hV:=HV.out;rw[hu] at hV;have HU:=jj hu;clear HV hu;obtain ⟨cr,hcr⟩:∃ c,decide (crP F G u)=c:=⟨_,rfl⟩;have E:=jj (show (⟨F,G,i,k,!cr⟩:Ln)=V by rw[<-hV,<-hcr];simp[c]);have CR:=jj hcr;clear hV hcr;obtain ⟨u0,u1⟩:=ub;rcases jW c with z1|⟨z1,z2⟩
     all_goals
      clear c;go_upto_region 7 with (first|(go_at_call 234;with_reducible refine jn (HI.out _) fun X_=>?_)|(go_at_call 203;with_reducible refine jn (HE.out _) fun X_=>?_))
      go_upto_if 55 with (first|(go_at_call 202;with_reducible refine jn (HWd.out _) fun X_=>?_))
      go_cut [9] (fun t9 wx=>t9=.int .i64 u/\∃ X,wx=w2.ext X)
      case first =>
       cases t
       ·go_wp2;go_meet;exact ⟨congrArg _ HU.out,jz (by exact br_)⟩
       ·go_wp2;go_meet;exact ⟨congrArg _ HU.out,jz (by exact br_)⟩
      case rest =>
       obtain ⟨rfl,X5,rfl⟩:=hcut;have CR2:=jj (show cr=(decide (min F G<=u)&&decide (u<max F G)) by rw[<-CR.out,Bool.eq_iff_iff];simp[crP];exact decide_eq_true_iff)
       by_cases c1:min F G<=u
       ·by_cases c2:u<max F G
        ·have hcr:=CR2.out;simp only[c1,c2,decide_true,Bool.and_true] at hcr;obtain rfl:cr=true:=hcr;clear c1 c2;have d1:decide (min F G<=u)=true:=by have:=CR2.out;simp at this;simp;omega
         have d2:decide (u<max F G)=true:=by have:=CR2.out;simp at this;simp;omega
         go_wp2;have hne:w.heap.size+1+1≠p:=by omega
         have R5:=(((((((RS.out.other hne 2 (.int .i64 i)).other hne 3 (.int .i64 k)).other hne 4 (.bool false)).set 0 (.int .i64 F)).set 1 (.int .i64 G)).set 2 (.int .i64 i)).set 3 (.int .i64 k)).set 4 (.bool false);simp only[List.setIfInBounds_toArray,List.set_cons_zero,List.set_cons_succ] at R5;refine kE (F:=fun w9=>Row w9 (w.heap.size+1+1) #[F,G,i,k,.bool false] 231/\∃ X,w9=w.ext X) ⟨?_,?_⟩ ?_
         ·exact ry_
         ·obtain ⟨X1,hX1⟩:=HX.out;subst hX1;exact jz (by exact br_)
         rintro w9 ⟨r9,X8,rfl⟩;have c9:=r9.cell;rw[<-E.out];refine bodyPost_ret (v:=Ln.w ⟨F,G,i,k,false⟩) (by simp[results,results200,go_sem,c9]) rfl ?_;exact Ret.of (by exact bl_)
        ·have hcr:=CR2.out;simp only[c1,c2,decide_true,decide_false,Bool.and_false] at hcr;obtain rfl:cr=false:=hcr;have d1:decide (min F G<=u)=true:=by simp;omega
         have d2:decide (u<max F G)=false:=by simp;omega
         clear c1 c2;go_wp2;have hne:w.heap.size+1+1≠p:=by omega
         have R5:=(((((((RS.out.other hne 2 (.int .i64 i)).other hne 3 (.int .i64 k)).other hne 4 (.bool true)).set 0 (.int .i64 F)).set 1 (.int .i64 G)).set 2 (.int .i64 i)).set 3 (.int .i64 k)).set 4 (.bool true);simp only[List.setIfInBounds_toArray,List.set_cons_zero,List.set_cons_succ] at R5;refine kE (F:=fun w9=>Row w9 (w.heap.size+1+1) #[F,G,i,k,.bool true] 231/\∃ X,w9=w.ext X) ⟨?_,?_⟩ ?_
         ·exact ry_
         ·obtain ⟨X1,hX1⟩:=HX.out;subst hX1;exact jz (by exact br_)
         rintro w9 ⟨r9,X8,rfl⟩;have c9:=r9.cell;rw[<-E.out];refine bodyPost_ret (v:=Ln.w ⟨F,G,i,k,true⟩) (by simp[results,results200,go_sem,c9]) rfl ?_;exact Ret.of (by exact bl_)
       ·have hcr:=CR2.out;simp only[c1,decide_false,Bool.false_and] at hcr;obtain rfl:cr=false:=hcr;have d1:decide (min F G<=u)=false:=by simp;omega
        clear c1;go_wp2;have hne:w.heap.size+1+1≠p:=by omega
        have R5:=(((((((RS.out.other hne 2 (.int .i64 i)).other hne 3 (.int .i64 k)).other hne 4 (.bool true)).set 0 (.int .i64 F)).set 1 (.int .i64 G)).set 2 (.int .i64 i)).set 3 (.int .i64 k)).set 4 (.bool true);simp only[List.setIfInBounds_toArray,List.set_cons_zero,List.set_cons_succ] at R5;refine kE (F:=fun w9=>Row w9 (w.heap.size+1+1) #[F,G,i,k,.bool true] 231/\∃ X,w9=w.ext X) ⟨?_,?_⟩ ?_
        ·exact ry_
        ·obtain ⟨X1,hX1⟩:=HX.out;subst hX1;exact jz (by exact br_)
        rintro w9 ⟨r9,X8,rfl⟩;have c9:=r9.cell;rw[<-E.out];refine bodyPost_ret (v:=Ln.w ⟨F,G,i,k,true⟩) (by simp[results,results200,go_sem,c9]) rfl ?_;exact Ret.of (by exact bl_)
end Go.Proofs.YthcjfanigfgckaaGreat
end
section
namespace Go
section
variable {P:Program} (w:World)
theorem bT {ops:Array Oper} {o:Oper} {a:Act} {K:Act->World->Prop} {Q:Exit->Act->World->Prop} {E:Prop} (hgd:o.guard=none) (s x:Operand) (t:TypeId)
  (ho:o.op=.call { callee:=.builtin .append,args:=#[s,x],argTypes:=#[t,t] })
  (base:Nat) (e:TypeId) (i:TypeInfo) (z:Value) (size bytes:Nat) (ht:P.underlying t=some (.slice e)) (hi:P.info? e=some i) (hz:i.zero=some z)
  (hsize:i.size=size) (hby:i.bytes=bytes) (hzs:z.cells.size=size) (hsz:0<size)
  (v:Value) (n:Nat) (xs:List Value) (hs:a.eval s=v) (hown:w.ownsRow base e size v n xs)
  (ad:Addr) (m c:Nat) (news:List Value) (hx:a.eval x=.slice (some ad) m c) (hl:news.length=m*size) (hnews:∀ j u,news[j]?=some u->w.cell? (ad.add j)=some u) (h1:∀ u∈news,u.oneCell'=true)
  (h63:n+m<=maxLen) (hbytes:(n+m)*bytes<=140737488355328) (hbase:base<=w.heap.size)
  (h:∀ v' w',w'.ownsRow base e size v' (n+m) (xs++news)->w.grownBy w' v.ownBlock->K (a.put o.dst v') w') :
  if Region.wanted o (yielded ops a.tmps)=true then Oper.wp P o a w K Q else E:=by
 have hw:Region.wanted o (yielded ops a.tmps)=true:=by simp[Region.wanted,hgd]
 rw[if_pos hw];exact wp_append_own w s x t ho base e i z size bytes ht hi hz hsize hby hzs hsz v n xs hs hown ad m c news hx hl hnews h1 h63 hbytes hbase fun v' w' h2 h3 _=>h v' w' h2 h3
end
end Go
namespace Go.Proofs.YthcjfanigfgckaaGreat
open Go.RowKit _root_.Go.Proofs.Tryz
structure Rin (w wr:World) (ax ay bx y2 x0 y0 x1 y1:Int) (l:Ln) (p:Nat) (v:Value) (L:List St):Prop where
 ra:Row wr w.heap.size #[ax,ay] 181
 rb:Row wr (w.heap.size+1) #[bx,y2] 181
 rr:Row wr (w.heap.size+1+1) #[x0,y0,x1,y1] 29
 rl:Row wr p #[l.From,l.To,l.X,l.Y,.bool l.Extra] 231
 hp:w.heap.size+3<=p
 own:wr.ownsRow w.heap.size 228 3 v L.length (L.flatMap St.cells)
 ext:∃ X,wr=w.ext X
section
variable {w wr:World} {ax ay bx y2 x0 y0 x1 y1:Int} {l:Ln} {p:Nat} {v:Value} {L:List St}
theorem Rin.grow (h:Rin w wr ax ay bx y2 x0 y0 x1 y1 l p v L) (X:Xt):Rin w (wr.ext X) ax ay bx y2 x0 y0 x1 y1 l p v L :=
 ⟨h.ra.ext X,h.rb.ext X,h.rr.ext X,h.rl.ext X,h.hp,aJz h.own X,by obtain ⟨Y,rfl⟩:=h.ext;exact ⟨_,World.ext_ext⟩⟩
theorem Rin.grown {w':World} (h:Rin w wr ax ay bx y2 x0 y0 x1 y1 l p v L) (hb:Below wr.heap.size wr w'):Rin w w' ax ay bx y2 x0 y0 x1 y1 l p v L:=by
 obtain ⟨X,rfl⟩:=hb.toExt;exact h.grow X
theorem Rin.size (h:Rin w wr ax ay bx y2 x0 y0 x1 y1 l p v L):w.heap.size<=wr.heap.size:=by obtain ⟨X,rfl⟩:=h.ext;simp
theorem Rin.below (h:Rin w wr ax ay bx y2 x0 y0 x1 y1 l p v L):Below w.heap.size w wr:=by obtain ⟨X,rfl⟩:=h.ext;exact (Below.refl _ _).ext (Nat.le_refl _) X
theorem Rin.both {w0 w1 w2:World} {v0 v1 v2:Value} {L':List St} {k1:Nat} {xs1:List Value} (h:Rin w wr ax ay bx y2 x0 y0 x1 y1 l p v L) (hB:Below wr.heap.size wr w0)
  (h0:v0.ownBlock=v.ownBlock\/v0.ownBlock=none) (hg1:w0.grownBy w1 v0.ownBlock) (hown1:w1.ownsRow w.heap.size 228 3 v1 k1 xs1) (hg2:w1.grownBy w2 v1.ownBlock)
  (hown:w2.ownsRow w.heap.size 228 3 v2 L'.length (L'.flatMap St.cells)):Rin w w2 ax ay bx y2 x0 y0 x1 y1 l p v2 L':=by
 have h':=h.grown hB;have nn:∀ {b:Nat} {c:Array Value} {T:TypeId},Row w0 b c T->T≠228->some b≠v0.ownBlock:=fun hr hT=>by
  rcases h0 with e|e
  ·rw[e];exact bR hr hT h'.own
  ·rw[e];simp
 have k:∀ {b:Nat} {c:Array Value} {T:TypeId},Row w0 b c T->T≠228->Row w2 b c T:=fun hr hT=>by
  have r1:=hr.kept hg1 (nn hr hT);exact r1.kept hg2 (bR r1 hT hown1)
 refine ⟨k h'.ra (by decide),k h'.rb (by decide),k h'.rr (by decide),k h'.rl (by decide),h.hp,hown,?_⟩;have b1:Below w.heap.size w w1:=Below.grown h'.below hg1 h'.size fun b hb=>by
  rcases h0 with e|e
  ·rw[e] at hb;exact (h'.own.lt b hb).1
  ·rw[e] at hb;cases hb
 exact jz (Below.grown b1 hg2 b1.size fun b hb=>(hown1.lt b hb).1)
theorem Rin.put {w0 w1 w2:World} {v0 v1 v2:Value} {j:Nat} {s:St} (h:Rin w wr ax ay bx y2 x0 y0 x1 y1 l p v L) (hj:j<=L.length) (hB:Below wr.heap.size wr w0)
  (h0:v0.ownBlock=v.ownBlock\/v0.ownBlock=none) (hg1:w0.grownBy w1 v0.ownBlock) (hown1:w1.ownsRow w.heap.size 228 3 v1 (j+1) ((L.take j).flatMap St.cells++St.cells s)) (hg2:w1.grownBy w2 v1.ownBlock)
  (hown:w2.ownsRow w.heap.size 228 3 v2 (j+1+(L.length-j)) ((L.take j).flatMap St.cells++St.cells s++(L.drop j).flatMap St.cells)):Rin w w2 ax ay bx y2 x0 y0 x1 y1 l p v2 (putAt L j s):=by
 refine h.both hB h0 hg1 hown1 hg2 ?_;have e1:(putAt L j s).length=j+1+(L.length-j):=by
  unfold putAt;rw[List.length_append,List.length_take,List.length_cons,List.length_drop];omega
 have e2:(putAt L j s).flatMap St.cells=(L.take j).flatMap St.cells++St.cells s++(L.drop j).flatMap St.cells:=by
  unfold putAt;rw[List.flatMap_append,List.flatMap_cons,List.append_assoc]
 rw[e1,e2];exact hown
end
end Go.Proofs.YthcjfanigfgckaaGreat
end
end
namespace Go.Proofs.YthcjfanigfgckaaGreat
open Go.RowKit _root_.Go.Proofs.Tryz
theorem aNh (ax ay bx y2 x y:Int) (c:¬(ax=bx/\ay=y2)) (h:exP ax ay bx y2 x y):aIm (ofL ax ay bx y2) x y (uC (decide (aB ax ay bx y2)) x y)=wU ax ay bx y2 x y:=aFn ax ay bx y2 x y c h
end Go.Proofs.YthcjfanigfgckaaGreat
