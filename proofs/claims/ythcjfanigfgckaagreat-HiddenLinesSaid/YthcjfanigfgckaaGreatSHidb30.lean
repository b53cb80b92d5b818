import Derived.Test.YthcjfanigfgckaaGreatSHidb27
set_option linter.unusedVariables false
set_option linter.unusedSimpArgs false
set_option maxRecDepth 100000
set_option maxHeartbeats 16000000
namespace Go.Proofs.YthcjfanigfgckaaGreat
open Go.RowKit _root_.Go.Proofs.Tryz
instance jh29 : Coe Nat Value := ⟨fun n => .int .i64 n⟩
section
section
structure MkP where
 k:Int
 m:Int
 f:FrP
def MkP.lt (s t:MkP):Prop:=s.k<t.k\/s.k=t.k/\s.m<t.m
instance (s t : MkP) : Decidable (s.lt t) := by unfold MkP.lt; exact inferInstance
theorem MkP.lt_irrefl (f:MkP):¬f.lt f:=by unfold MkP.lt;omega
theorem MkP.lt_trans {f g h:MkP} (h1:f.lt g) (h2:g.lt h):f.lt h:=by unfold MkP.lt at *;omega
theorem aEk {L M:List MkP} (hL:L.Pairwise MkP.lt) (hM:M.Pairwise MkP.lt) (h:∀ f,f∈L↔f∈M):L=M:=by
 induction L generalizing M with
 |nil =>
  cases M with
  |nil=>rfl
  |cons g M=>exact absurd ((h g).2 List.mem_cons_self) (by simp)
 |cons f L ih =>
  cases M with
  |nil=>exact absurd ((h f).1 List.mem_cons_self) (by simp)
  |cons g M =>
   rw[List.pairwise_cons] at hL hM;have e:f=g:=by
    rcases List.mem_cons.1 ((h f).1 List.mem_cons_self) with e|e
    ·exact e
    ·rcases List.mem_cons.1 ((h g).2 List.mem_cons_self) with e'|e'
     ·exact e'.symm
     ·exact absurd (MkP.lt_trans (hL.1 g e') (hM.1 f e)) (MkP.lt_irrefl f)
   subst e
   congr 1
   refine ih hL.2 hM.2 fun k=>⟨fun hk=>?_,fun hk=>?_⟩
   ·rcases List.mem_cons.1 ((h k).1 (jk hk)) with e|e
    ·subst e;exact absurd (hL.1 k hk) (MkP.lt_irrefl k)
    ·exact e
   ·rcases List.mem_cons.1 ((h k).2 (jk hk)) with e|e
    ·subst e;exact absurd (hM.1 k hk) (MkP.lt_irrefl k)
    ·exact e
theorem aM3 {G:List MkP} (hG:G.Pairwise MkP.lt) {s t:MkP} (hs:s∈G) (ht:t∈G):s=t\/s.lt t\/t.lt s:=by
 induction G with
 |nil=>cases hs
 |cons g G ih =>
  rw[List.pairwise_cons] at hG;rcases List.mem_cons.1 hs with e|hs'
  ·rcases List.mem_cons.1 ht with e'|ht'
   ·exact .inl (e.trans e'.symm)
   ·exact .inr (.inl (e▸hG.1 t ht'))
  ·rcases List.mem_cons.1 ht with e'|ht'
   ·exact .inr (.inr (e'▸hG.1 s hs'))
   ·exact ih hG.2 hs' ht'
def putM (L:List MkP) (j:Nat) (s:MkP):List MkP:=L.take j++s::L.drop j
theorem aJq {L:List MkP} {j:Nat} {s q:MkP}:q∈putM L j s↔q∈L\/q=s:=by
 unfold putM;rw[List.mem_append,List.mem_cons];have e:q∈L↔q∈L.take j\/q∈L.drop j:=by rw[<-List.mem_append,List.take_append_drop]
 rw[e]
 constructor
 ·rintro (h|h|h)
  ·exact .inl (.inl h)
  ·exact .inr h
  ·exact .inl (.inr h)
 ·rintro ((h|h)|h)
  ·exact .inl h
  ·exact .inr (.inr h)
  ·exact .inr (.inl h)
theorem aCw {G:List MkP} (hG:G.Pairwise MkP.lt) (p p':MkP->Bool) (s:MkP) (hs:s∈G) (hn:p s=false) (hp:∀ q∈G,p' q=true↔(p q=true\/q=s)) (j:Nat) (hj:j<=(G.filter p).length)
  (h1:∀ i q,i<j->(G.filter p)[i]?=some q->q.lt s) (h2:∀ q,(G.filter p)[j]?=some q->¬q.lt s):G.filter p'=putM (G.filter p) j s:=by
 have hL:(G.filter p).Pairwise MkP.lt:=hG.filter _;have hm:∀ q∈G.filter p,q∈G/\q≠s:=fun q hq=>by
  obtain ⟨k1,k2⟩:=List.mem_filter.1 hq;exact ⟨k1,fun e=>by rw[e,hn] at k2;cases k2⟩
 refine aEk (hG.filter _) ?_ fun q=>?_
 ·unfold putM;rw[List.pairwise_append,List.pairwise_cons];refine ⟨hL.sublist (List.take_sublist _ _),⟨fun q hq=>?_,hL.sublist (List.drop_sublist _ _)⟩,fun t ht q hq=>?_⟩
  ·obtain ⟨i,hi⟩:=List.mem_iff_getElem?.1 hq;rw[List.getElem?_drop] at hi;have hjl:j<(G.filter p).length:=by have:=(List.getElem?_eq_some_iff.1 hi).1;omega
   obtain ⟨g,hg⟩:∃ g,(G.filter p)[j]?=some g:=⟨_,List.getElem?_eq_getElem hjl⟩;have hgl:=h2 g hg;have hgm:=hm g (List.mem_of_getElem? hg);have sg:s.lt g:=by
    rcases aM3 hG hgm.1 hs with e|e|e
    ·exact absurd e hgm.2
    ·exact absurd e hgl
    ·exact e
   cases i with
   |zero=>rw[Nat.add_zero,hg] at hi;injection hi with hi;subst hi;exact sg
   |succ i =>
    obtain ⟨h3,e3⟩:=List.getElem?_eq_some_iff.1 hi;obtain ⟨h4,e4⟩:=List.getElem?_eq_some_iff.1 hg;have:=List.pairwise_iff_getElem.1 hL j (j+(i+1)) h4 h3 (by omega);rw[e3,e4] at this;exact MkP.lt_trans sg this
  ·obtain ⟨i,hi⟩:=List.mem_iff_getElem?.1 ht;rw[List.getElem?_take] at hi
   split at hi
   ·rename_i hij
    have ts:=h1 i t hij hi;rcases List.mem_cons.1 hq with rfl|hq
    ·exact ts
    ·obtain ⟨e,he⟩:=List.mem_iff_getElem?.1 hq;rw[List.getElem?_drop] at he;obtain ⟨h3,e3⟩:=List.getElem?_eq_some_iff.1 hi;obtain ⟨h4,e4⟩:=List.getElem?_eq_some_iff.1 he;have:=List.pairwise_iff_getElem.1 hL i (j+e) h3 h4 (by omega);rw[e3,e4] at this;exact this
   ·cases hi
 ·rw[aJq,List.mem_filter,List.mem_filter]
  constructor
  ·rintro ⟨k1,k2⟩;rcases (hp q k1).1 k2 with k|k
   ·exact .inl ⟨k1,k⟩
   ·exact .inr k
  ·rintro (⟨k1,k2⟩|rfl)
   ·exact ⟨k1,(hp q k1).2 (.inl k2)⟩
   ·exact ⟨hs,(hp q hs).2 (.inr rfl)⟩
def aFs (a b:WinP) (n:Int) (s:St):List MkP:=(List.range n.toNat).map (fun m:Nat=>⟨s.K,m,dX a b s m⟩)
def iR (a b:WinP) (n:Int) (dd:Bool) (p r c x0 y0 x1 y1:Int):List MkP:=(((bS a b n).filter (kL dd p r c)).flatMap (aFs a b n)).filter (fun q=>fU x0 y0 x1 y1 q.f)
theorem qB (a b:WinP) (n:Int) (dd:Bool) (p r c x0 y0 x1 y1:Int):(iR a b n dd p r c x0 y0 x1 y1).map (·.f)=o7 a b n dd p r c x0 y0 x1 y1:=by
 unfold iR o7 mT;have:(fun q:MkP=>fU x0 y0 x1 y1 q.f)=fU x0 y0 x1 y1∘(·.f):=rfl;rw[this,<-List.filter_map,List.map_flatMap]
 congr 2
 funext s
 unfold aFs iH;rw[List.map_map];rfl
section
variable {a b:WinP} {n p r c x0 y0 x1 y1:Int} {dd:Bool}
theorem marks_mem {q:MkP}:q∈iR a b n dd p r c x0 y0 x1 y1↔∃ (s:St) (m:Nat),s∈bS a b n/\kL dd p r c s=true/\(m:Int)<n/\q=⟨s.K,m,dX a b s m⟩/\fU x0 y0 x1 y1 q.f=true:=by
 unfold iR aFs;simp only[List.mem_filter,List.mem_flatMap,List.mem_map,List.mem_range]
 constructor
 ·rintro ⟨⟨s,⟨h1,h2⟩,m,h3,rfl⟩,h4⟩;exact ⟨s,m,h1,h2,by omega,rfl,h4⟩
 ·rintro ⟨s,m,h1,h2,h3,rfl,h4⟩;exact ⟨⟨s,⟨h1,h2⟩,m,by omega,rfl⟩,h4⟩
theorem aCm:(iR a b n dd p r c x0 y0 x1 y1).Pairwise MkP.lt:=by
 unfold iR;refine List.Pairwise.filter _ ?_;rw[List.pairwise_flatMap];refine ⟨fun s _=>?_,((mO a b n).filter _).imp fun {s t} h f hf g hg=>?_⟩
 ·unfold aFs;rw[List.pairwise_map];exact List.pairwise_lt_range.imp fun {i j} h=>.inr ⟨rfl,by simp only;omega⟩
 ·unfold aFs at hf hg;obtain ⟨i,-,rfl⟩:=List.mem_map.1 hf;obtain ⟨j,-,rfl⟩:=List.mem_map.1 hg;exact .inl h
def iF (a b:WinP) (x m:Int):Int:=if aB a.x a.y b.x b.y then x-m else x
def iE (a b:WinP) (y m:Int):Int:=if aB a.x a.y b.x b.y then y else y-m
def cex (a b:WinP) (n x y:Int):Prop:=exP (aR a b n a.x) (aQ a b n a.y) (aR a b n b.x) (aQ a b n b.y) x y
def uG (a b:WinP) (n x y:Int):Int:=wU (aR a b n a.x) (aQ a b n a.y) (aR a b n b.x) (aQ a b n b.y) x y
theorem kA (s:St):s∈bS a b n↔cex a b n s.X s.Y/\s.K=uG a b n s.X s.Y:=by
 by_cases hz:aR a b n a.x=aR a b n b.x/\aQ a b n a.y=aQ a b n b.y
 ·have:bS a b n=[]:=by unfold bS;rw[hz.1,hz.2,fJ]
  rw[this]
  constructor
  ·intro h;cases h
  ·rintro ⟨h,-⟩;unfold cex at h;rw[hz.1,hz.2] at h;exact absurd h (aA4 _ _ _ _)
 ·exact mH _ _ _ _ hz s
def aIn (a b:WinP) (n x y m:Int):MkP:=⟨uG a b n (iF a b x m) (iE a b y m),m,⟨x,y,(alV a b (iF a b x m) (iE a b y m)).1,(alV a b (iF a b x m) (iE a b y m)).2.1,(alV a b (iF a b x m) (iE a b y m)).2.2.1,(alV a b (iF a b x m) (iE a b y m)).2.2.2.1,(alV a b (iF a b x m) (iE a b y m)).2.2.2.2,64⟩⟩
theorem yG {q:MkP} {x y:Int} {m:Nat} (hm:(m:Int)<n) (hx:x0<=x/\x<x1) (hy:y0<=y/\y<y1) :
  (q∈iR a b n dd p r c x0 y0 x1 y1/\q.f.x=x/\q.f.y=y/\q.m=m)↔(cex a b n (iF a b x m) (iE a b y m)/\kL dd p r c ⟨uG a b n (iF a b x m) (iE a b y m),iF a b x m,iE a b y m⟩=true/\q=aIn a b n x y m):=by
 rw[marks_mem]
 constructor
 ·rintro ⟨⟨s,j,h1,h2,h3,rfl,h4⟩,e1,e2,e3⟩;simp only at e1 e2 e3;obtain rfl:j=m:=by omega
  have k1:s.X=iF a b x j/\s.Y=iE a b y j:=by
   unfold dX at e1 e2;unfold iF iE
   by_cases t:aB a.x a.y b.x b.y
   ·simp only[if_pos t] at e1 e2 ⊢;omega
   ·simp only[if_neg t] at e1 e2 ⊢;omega
  obtain ⟨c1,c2⟩:=(kA s).1 h1;rw[k1.1,k1.2] at c1 c2;refine ⟨c1,?_,?_⟩
  ·rw[<-c2,<-k1.1,<-k1.2];exact h2
  ·unfold aIn;rw[<-c2,<-k1.1,<-k1.2];have:dX a b s j=⟨(dX a b s j).x,(dX a b s j).y,(alV a b s.X s.Y).1,(alV a b s.X s.Y).2.1,(alV a b s.X s.Y).2.2.1,(alV a b s.X s.Y).2.2.2.1,(alV a b s.X s.Y).2.2.2.2,64⟩:=rfl;rw[this,e1,e2]
 ·rintro ⟨h1,h2,rfl⟩;refine ⟨⟨⟨uG a b n (iF a b x m) (iE a b y m),iF a b x m,iE a b y m⟩,m,(kA _).2 ⟨h1,rfl⟩,h2,hm,?_,?_⟩,rfl,rfl,rfl⟩
  ·generalize hs:(⟨uG a b n (iF a b x m) (iE a b y m),iF a b x m,iE a b y m⟩:St)=s;have e0:s.X=iF a b x m/\s.Y=iE a b y m/\s.K=uG a b n (iF a b x m) (iE a b y m):=by rw[<-hs];exact ⟨rfl,rfl,rfl⟩
   have e1:(dX a b s m).x=x:=by
    unfold dX;rw[e0.1];unfold iF
    by_cases t:aB a.x a.y b.x b.y
    ·simp only[if_pos t];omega
    ·simp only[if_neg t]
   have e2:(dX a b s m).y=y:=by
    unfold dX;rw[e0.2.1];unfold iE
    by_cases t:aB a.x a.y b.x b.y
    ·simp only[if_pos t]
    ·simp only[if_neg t];omega
   have e3:dX a b s m=⟨(dX a b s m).x,(dX a b s m).y,(alV a b s.X s.Y).1,(alV a b s.X s.Y).2.1,(alV a b s.X s.Y).2.2.1,(alV a b s.X s.Y).2.2.2.1,(alV a b s.X s.Y).2.2.2.2,64⟩:=rfl;rw[e3,e1,e2,e0.1,e0.2.1,e0.2.2]
   rfl
  ·rw[frIn_iff];unfold aIn;simp only;omega
def aN6 (x y m:Int) (q:MkP):Bool:=decide (q.f.x<x\/q.f.x=x/\(q.f.y<y\/q.f.y=y/\q.m<m))
def nQ (a b:WinP) (n:Int) (dd:Bool) (p r c x0 y0 x1 y1 x y m:Int):List MkP:=(iR a b n dd p r c x0 y0 x1 y1).filter (aN6 x y m)
theorem oT {q:MkP} (h:q∈iR a b n dd p r c x0 y0 x1 y1):(x0<=q.f.x/\q.f.x<x1)/\(y0<=q.f.y/\q.f.y<y1)/\0<=q.m/\q.m<n:=by
 obtain ⟨s,m,-,-,h3,rfl,h4⟩:=marks_mem.1 h;have:=frIn_iff.1 h4;simp only at this ⊢;omega
theorem don_start:nQ a b n dd p r c x0 y0 x1 y1 x0 y0 0=[]:=by
 unfold nQ;rw[List.filter_eq_nil_iff];intro q hq;have:=oT hq;unfold aN6;rw[decide_eq_true_eq];omega
theorem aHk:nQ a b n dd p r c x0 y0 x1 y1 x1 y0 0=iR a b n dd p r c x0 y0 x1 y1:=by
 unfold nQ;rw[List.filter_eq_self];intro q hq;have:=oT hq;unfold aN6;rw[decide_eq_true_eq];omega
theorem aQg {x y:Int}:nQ a b n dd p r c x0 y0 x1 y1 x (y+1) 0=nQ a b n dd p r c x0 y0 x1 y1 x y n:=by
 unfold nQ;refine List.filter_congr fun q hq=>decide_eq_decide.2 ?_
 have:=oT hq;omega
theorem aQh {x:Int}:nQ a b n dd p r c x0 y0 x1 y1 (x+1) y0 0=nQ a b n dd p r c x0 y0 x1 y1 x y1 0:=by
 unfold nQ;refine List.filter_congr fun q hq=>decide_eq_decide.2 ?_
 have:=oT hq;omega
theorem aA8 {x y:Int} {m:Nat} (hm:(m:Int)<n) (hx:x0<=x/\x<x1) (hy:y0<=y/\y<y1) (h:¬(cex a b n (iF a b x m) (iE a b y m)/\kL dd p r c ⟨uG a b n (iF a b x m) (iE a b y m),iF a b x m,iE a b y m⟩=true)) :
  nQ a b n dd p r c x0 y0 x1 y1 x y (m+1)=nQ a b n dd p r c x0 y0 x1 y1 x y m:=by
 unfold nQ;refine List.filter_congr fun q hq=>decide_eq_decide.2 ?_
 have:¬(q.f.x=x/\q.f.y=y/\q.m=m):=fun k=>by
  obtain ⟨k1,k2,k3⟩:=k;obtain ⟨c1,c2,-⟩:=(yG hm hx hy).1 ⟨hq,k1,k2,k3⟩;exact h ⟨c1,c2⟩
 omega
theorem aHi {x y:Int} {m:Nat} (hm:(m:Int)<n) (hx:x0<=x/\x<x1) (hy:y0<=y/\y<y1) (h:cex a b n (iF a b x m) (iE a b y m)) (h':kL dd p r c ⟨uG a b n (iF a b x m) (iE a b y m),iF a b x m,iE a b y m⟩=true)
  (j:Nat) (hj:j<=(nQ a b n dd p r c x0 y0 x1 y1 x y m).length) (h1:∀ i q,i<j->(nQ a b n dd p r c x0 y0 x1 y1 x y m)[i]?=some q->q.lt (aIn a b n x y m)) (h2:∀ q,(nQ a b n dd p r c x0 y0 x1 y1 x y m)[j]?=some q->¬q.lt (aIn a b n x y m)) :
  nQ a b n dd p r c x0 y0 x1 y1 x y (m+1)=putM (nQ a b n dd p r c x0 y0 x1 y1 x y m) j (aIn a b n x y m):=by
 have hs:=(yG (q:=aIn a b n x y m) hm hx hy).2 ⟨h,h',rfl⟩;refine aCw aCm (aN6 x y m) (aN6 x y (m+1)) _ hs.1 ?_ (fun q hq=>?_) j hj h1 h2
 ·unfold aN6 aIn;simp
 ·unfold aN6;rw[decide_eq_true_eq,decide_eq_true_eq]
  constructor
  ·intro k
   by_cases e:q.f.x=x/\q.f.y=y/\q.m=m
   ·exact .inr ((yG hm hx hy).1 ⟨hq,e.1,e.2.1,e.2.2⟩).2.2
   ·exact .inl (by omega)
  ·rintro (k|rfl)
   ·omega
   ·obtain ⟨-,e1,e2,e3⟩:=hs;omega
theorem aHj {x y m:Int}:(nQ a b n dd p r c x0 y0 x1 y1 x y m).length<=(o7 a b n dd p r c x0 y0 x1 y1).length:=by
 rw[<-qB,List.length_map];exact List.length_filter_le _ _
end
end
section
abbrev MkP.cells (s:MkP):List Value:=[.int .i64 s.k,.int .i64 s.m,.int .i64 s.f.x,.int .i64 s.f.y,.int .i64 s.f.z,.int .i64 s.f.c0,.int .i64 s.f.c1,.int .i64 s.f.c2,.int .i64 s.f.c3,.int .i64 s.f.cov]
abbrev MkP.v (s:MkP):Value:=.agg #[s.k,s.m,s.f.x,s.f.y,s.f.z,s.f.c0,s.f.c1,s.f.c2,s.f.c3,s.f.cov]
def mkK:RecK MkP:=⟨10,MkP.cells,fun _=>rfl,by decide,fun a u hu=>by simp at hu;rcases hu with rfl|rfl|rfl|rfl|rfl|rfl|rfl|rfl|rfl|rfl<;>rfl⟩
theorem aNu:(prog.info? 192).map (fun i=>(i.zero,i.size,i.bytes))=some (some (.agg #[.int .i64 0,.int .i64 0,.int .i64 0,.int .i64 0,.int .i64 0,.int .i64 0,.int .i64 0,.int .i64 0,.int .i64 0,.int .i64 0]),10,80):=by kernel_rfl
section
variable {α:Type} {K:RecK α}
theorem aFc {w:World} {base n cap g j:Nat} {e:TypeId} {xs:List Value} {s:Nat} (h:w.ownsRow base e s (.slice (some ⟨g,0,none⟩) n cap) n xs) (hj:j<=n):w.ownsRow base e s (.slice (some ⟨g,0,none⟩) j cap) j (xs.take (j*s)):=by
 obtain ⟨h1,h2⟩:=h;rcases h2 with ⟨h2,_⟩|⟨g',cap',cur,e1,hb,hg,h3,h4,h5,h6⟩
 ·cases h2
 ·injection e1 with e1 _ e2
  injection e1 with e1
  injection e1 with e1 _ _
  subst e1 e2;have hjs:j*s<=n*s:=Nat.mul_le_mul_right _ hj;refine ⟨by rw[List.length_take,h1];omega,.inr ⟨g,cap,cur,rfl,hb,hg,by omega,h4,h5,?_⟩⟩;rw[<-h6,List.take_take,Nat.min_eq_left hjs]
theorem aCk {w:World} {n base s:Nat} {T:TypeId} (h:w.heap.size=n) (hb:base<=n):(w.alloc (.cells #[] T)).ownsRow base T s (.slice (some ⟨n,0,none⟩) 0 0) 0 [] :=
 ⟨by simp,.inr ⟨n,0,#[],rfl,hb,by subst h;rw[World.hp_alloc,Array.getElem?_push,if_pos rfl],Nat.le_refl _,by simp[maxLen],by simp,by simp⟩⟩
theorem aGz (K:RecK α) (L:List α) (j:Nat):(L.flatMap K.cells).take (j*K.k)=(L.take j).flatMap K.cells:=by
 induction j generalizing L with
 |zero=>simp
 |succ j ih =>
  cases L with
  |nil=>simp
  |cons a L =>
   rw[List.flatMap_cons,List.take_succ_cons,List.flatMap_cons,Nat.succ_mul,show j*K.k+K.k=(K.cells a).length+j*K.k by rw[K.len];omega,List.take_length_add_append,ih]
theorem aG0 (K:RecK α) (L:List α) (j:Nat):(L.flatMap K.cells).drop (j*K.k)=(L.drop j).flatMap K.cells:=by
 induction j generalizing L with
 |zero=>simp
 |succ j ih =>
  cases L with
  |nil=>simp
  |cons a L =>
   rw[List.flatMap_cons,List.drop_succ_cons,Nat.succ_mul,show j*K.k+K.k=(K.cells a).length+j*K.k by rw[K.len];omega,List.drop_length_add_append,ih]
theorem aFf {w:World} {base n g cap j:Nat} {T:TypeId} {L:List α} (h:w.ownsRow base T K.k (.slice (some ⟨g,0,none⟩) n cap) n (L.flatMap K.cells)) :
  ∀ i u,((L.drop j).flatMap K.cells)[i]?=some u->w.cell? ((⟨g,j*K.k,none⟩:Addr).add i)=some u:=by
 intro i u hu;rw[<-aG0,List.getElem?_drop] at hu;have:=h.cells (g:=g) rfl (j*K.k+i) u hu;rw[gB] at this ⊢;rw[Nat.zero_add] at this;exact this
theorem Hold.both {w wr w0 w1 w2:World} {E:TypeId} {R:List (Nat×Array Value×TypeId)} {v v0 v1 v2:Value} {L L':List α} {k1:Nat} {xs1:List Value} (h:Hold K w wr E R v L) (hB:Below wr.heap.size wr w0)
  (h0:v0.ownBlock=v.ownBlock\/v0.ownBlock=none) (hg1:w0.grownBy w1 v0.ownBlock) (hown1:w1.ownsRow w.heap.size E K.k v1 k1 xs1) (hg2:w1.grownBy w2 v1.ownBlock)
  (hown:w2.ownsRow w.heap.size E K.k v2 L'.length (L'.flatMap K.cells)):Hold K w w2 E R v2 L':=by
 have h':=h.grown hB;refine ⟨fun r hr=>?_,h.far,hown,?_⟩
 ·have r0:=h'.rows r hr;have nn:some r.1≠v0.ownBlock:=by
   rcases h0 with e|e
   ·rw[e];exact fR r0 (h.far r hr) h'.own
   ·rw[e];simp
  have r1:=r0.keptR hg1 nn;exact r1.keptR hg2 (fR r1 (h.far r hr) hown1)
 ·have b1:Below w.heap.size w w1:=Below.grown h'.below hg1 h'.size fun b hb=>by
   rcases h0 with e|e
   ·rw[e] at hb;exact (h'.own.lt b hb).1
   ·rw[e] at hb;cases hb
  exact jz (Below.grown b1 hg2 b1.size fun b hb=>(hown1.lt b hb).1)
end
theorem Hold.putM {w wr w0 w1 w2:World} {E:TypeId} {R:List (Nat×Array Value×TypeId)} {v v0 v1 v2:Value} {L:List MkP} {j:Nat} {s:MkP} (h:Hold mkK w wr E R v L) (hj:j<=L.length) (hB:Below wr.heap.size wr w0)
  (h0:v0.ownBlock=v.ownBlock\/v0.ownBlock=none) (hg1:w0.grownBy w1 v0.ownBlock) (hown1:w1.ownsRow w.heap.size E 10 v1 (j+1) ((L.take j).flatMap MkP.cells++MkP.cells s)) (hg2:w1.grownBy w2 v1.ownBlock)
  (hown:w2.ownsRow w.heap.size E 10 v2 (j+1+(L.length-j)) ((L.take j).flatMap MkP.cells++MkP.cells s++(L.drop j).flatMap MkP.cells)):Hold mkK w w2 E R v2 (putM L j s):=by
 refine h.both hB h0 hg1 hown1 hg2 ?_;have e1:(Go.Proofs.YthcjfanigfgckaaGreat.putM L j s).length=j+1+(L.length-j):=by
  unfold Go.Proofs.YthcjfanigfgckaaGreat.putM;rw[List.length_append,List.length_take,List.length_cons,List.length_drop];omega
 have e2:(Go.Proofs.YthcjfanigfgckaaGreat.putM L j s).flatMap MkP.cells=(L.take j).flatMap MkP.cells++MkP.cells s++(L.drop j).flatMap MkP.cells:=by
  unfold Go.Proofs.YthcjfanigfgckaaGreat.putM;rw[List.flatMap_append,List.flatMap_cons,List.append_assoc]
 show w2.ownsRow w.heap.size E 10 v2 (Go.Proofs.YthcjfanigfgckaaGreat.putM L j s).length ((Go.Proofs.YthcjfanigfgckaaGreat.putM L j s).flatMap MkP.cells)
 rw[e1,e2];exact hown
theorem nI {w0 w1:World} {X:Xt} {d:Nat} {o:Obj} {gb:Nat} {row:Option Nat} {news:List Value} (hc:∀ i u,news[i]?=some u->(w0.ext X).cell? ((⟨gb,0,none⟩:Addr).add i)=some u) (hb:gb<(w0.ext X).heap.size) (hg:((w0.ext ⟨X.objs,d⟩).alloc o).grownBy w1 row) (hr:some gb≠row) :
  ∀ i u,news[i]?=some u->w1.cell? ((⟨gb,0,none⟩:Addr).add i)=some u:=by
 intro i u hu;have c:=hc i u hu;have hb:gb<(w0.ext ⟨X.objs,d⟩).heap.size:=hb;have c:(w0.ext ⟨X.objs,d⟩).cell? ((⟨gb,0,none⟩:Addr).add i)=some u:=c;rw[gB] at c ⊢;rw[hg.cell_far _ (by rw[World.hp_alloc,Array.size_push];exact Nat.lt_succ_of_lt hb) hr,(Chg.refl (p:=fun _=>False) |>.alloc o).cell hb (fun h=>h)];exact c
theorem aFe {w:World} {base:Nat} {T:TypeId} {a:Option Addr} {cap:Nat} {L:List MkP} (h:w.ownsRow base T 10 (.slice a L.length cap) L.length (L.flatMap MkP.cells)) (j:Nat) (s:MkP) (hs:L[j]?=some s) :
  ∃ b,a=some ⟨b,0,none⟩/\b<w.heap.size/\w.cell? ⟨b,j*10,none⟩=some (.int .i64 s.k)/\w.cell? ⟨b,j*10+1,none⟩=some (.int .i64 s.m):=by
 rcases h.2 with ⟨e,e'⟩|⟨g,cap',cur,e,hb,hg,-⟩
 ·have:L=[]:=List.length_eq_zero_iff.1 e';subst this;simp at hs
 ·injection e with e1 _ e2
  subst e1 e2;have k0:=h.cells (g:=g) rfl (j*10+0) (.int .i64 s.k) (mkK.flat_at L j s 0 _ hs rfl);have k1:=h.cells (g:=g) rfl (j*10+1) (.int .i64 s.m) (mkK.flat_at L j s 1 _ hs rfl);rw[gB,Nat.zero_add] at k0 k1;exact ⟨g,rfl,(Array.getElem?_eq_some_iff.1 hg).1,k0,k1⟩
end
section
def aSz (w0 w:World) (R:List (Nat×Array Value×TypeId)) (L:List MkP) (x:MkP) (e:Ending) (w':World):Prop :=
 ∃ v' j,e=.returned v'/\j<=L.length/\(∀ i q,i<j->L[i]?=some q->q.lt x)/\(∀ q,L[j]?=some q->¬q.lt x)/\Hold mkK w0 w' 192 R v' (putM L j x)
theorem oW (x : MkP) (w0 w : World) (R : List (Nat × Array Value × TypeId)) (v : Value) (L : List MkP) (hH : Hold mkK w0 w 192 R v L) (lL : L.length ≤ 134217728) : Calls prog 152 #[v, x.v] w (aSz w0 w R L x) := by
  have H0 := jj hH
  have hO := jj (fun g (h : v.ownBlock = some g) => (hH.own.lt g h).2)
  obtain ⟨i0, hii, hi0, hi1, hi2⟩ := info_parts aNu
  obtain ⟨a, cap, rfl⟩ := eO hH.own
  obtain ⟨xk, xm, fx, fy, fz, c0, c1, c2, c3, cov⟩ := x
  have hsz := hH.size
  clear hH
  go_enter func152, ntmps152
  go_upto_region 1 with fail
  refine aE (F := fun w2 => Row w2 w.heap.size #[xk, xm, fx, fy, fz, c0, c1, c2, c3, cov] 192 ∧ Hold mkK w0 w2 192 R (.slice a L.length cap) L) ⟨by exact rx_, H0.out.grown (by exact bl_)⟩ ?_
  rintro w2 ⟨rs, h2⟩
  have HR2 := jj h2
  have cs := rs.cell
  have fs := rs.frozen
  have ls := rs.lt
  have hsz2 := h2.size
  have rD : w2.rowD w.heap.size = #[.int .i64 xk, .int .i64 xm, .int .i64 fx, .int .i64 fy, .int .i64 fz, .int .i64 c0, .int .i64 c1, .int .i64 c2, .int .i64 c3, .int .i64 cov] := World.rowD_of rs
  clear rs h2
  go_upto_block 0 with fail
  go_cut [5] (fun t5 wx => ∃ j : Nat, t5 = .int .i64 j ∧ j ≤ L.length ∧ Hid (∀ i (q : MkP), i < j → L[i]? = some q → q.lt ⟨xk, xm, ⟨fx, fy, fz, c0, c1, c2, c3, cov⟩⟩) ∧ Hid (∀ q : MkP, L[j]? = some q → ¬ q.lt ⟨xk, xm, ⟨fx, fy, fz, c0, c1, c2, c3, cov⟩⟩) ∧ ∃ X, wx = w2.ext X)
  case first =>
    go_wp2
    go_loopw [5] (fun i wq => ∃ (j : Nat), j ≤ L.length ∧ i = .int .i64 j ∧ Hid (∀ i (q : MkP), i < j → L[i]? = some q → q.lt ⟨xk, xm, ⟨fx, fy, fz, c0, c1, c2, c3, cov⟩⟩) ∧ ∃ X, wq = w2.ext X)
      (fun i _ => L.length - (intOf i).toNat)
    case atStart => exact ⟨0, by omega, rfl, jj (fun i q h => by omega), _, mM _⟩
    case round =>
      obtain ⟨j, hj, rfl, hjK, X, rfl⟩ := hrel
      by_cases hlj : j < L.length
      · obtain ⟨s, hs⟩ : ∃ s, L[j]? = some s := ⟨L[j], by simp [hlj]⟩
        obtain ⟨b, e1, hb, g0, g1⟩ := aFe HR2.out.own j s hs
        subst e1
        have hb' : b ≤ w2.heap.size := by omega
        have hlj' : (j : Int) < L.length := by omega
        have HS := jj hs
        clear hs
        by_cases hk : s.k < xk
        · have HK := jj hk
          go_wp2
          refine jy ?_
          repeat (go_big_quiet_step ((fail)))
          refine jv fun Y => ?_
          go_wp2
          go_roundw
          case rel => exact ⟨j + 1, by omega, by go_num, jj (fun i s' h1 h2 => by
            by_cases e : i = j
            · subst e; rw [HS.out] at h2; injection h2 with h2; subst h2; exact .inl HK.out
            · exact hjK.out i s' (by omega) h2), jz (by exact br_)⟩
          case measure => simp [intOf]; omega
        · have z1 : decide (s.k < xk) = false := by simp; omega
          by_cases he : s.k = xk
          · have z2 : (s.k == xk) = true := by simp [he]
            by_cases hm : s.m < xm
            · have HK := jj (And.intro he hm)
              clear hk he
              go_wp2
              refine jy ?_
              repeat (go_big_quiet_step ((fail)))
              refine jv fun Y => ?_
              go_wp2
              go_roundw
              case rel => exact ⟨j + 1, by omega, by go_num, jj (fun i s' h1 h2 => by
                by_cases e : i = j
                · subst e; rw [HS.out] at h2; injection h2 with h2; subst h2; exact .inr HK.out
                · exact hjK.out i s' (by omega) h2), jz (by exact br_)⟩
              case measure => simp [intOf]; omega
            · have z3 : decide (s.m < xm) = false := by simp; omega
              have HK := jj (show ¬ s.lt ⟨xk, xm, ⟨fx, fy, fz, c0, c1, c2, c3, cov⟩⟩ by unfold MkP.lt; simp only; omega)
              clear hk he hm
              go_wp2
              refine jy ?_
              repeat (go_big_quiet_step ((fail)))
              refine jv fun Y => ?_
              go_wp2
              go_meet
              exact ⟨j, rfl, by omega, hjK, jj (fun s' h2 => by rw [HS.out] at h2; injection h2 with h2; subst h2; exact HK.out), jz (by exact br_)⟩
          · have z2 : (s.k == xk) = false := by simp [he]
            have HK := jj (show ¬ s.lt ⟨xk, xm, ⟨fx, fy, fz, c0, c1, c2, c3, cov⟩⟩ by unfold MkP.lt; simp only; omega)
            clear hk he
            go_wp2
            refine jy ?_
            repeat (go_big_quiet_step ((fail)))
            refine jv fun Y => ?_
            go_wp2
            go_meet
            exact ⟨j, rfl, by omega, hjK, jj (fun s' h2 => by rw [HS.out] at h2; injection h2 with h2; subst h2; exact HK.out), jz (by exact br_)⟩
      · have hp2 : decide (j < L.length) = false := by simp; omega
        have hp3 : decide ((j : Int) < (L.length : Int)) = false := by simp; omega
        go_wp2
        refine jy ?_
        repeat (go_big_quiet_step ((fail)))
        refine jv fun Y => ?_
        go_wp2
        go_meet
        exact ⟨j, rfl, by omega, hjK, jj (fun s' h2 => by have := (List.getElem?_eq_some_iff.1 h2).1; omega), jz (by exact br_)⟩
  case rest =>
    obtain ⟨j, rfl, hj, hjK, hjL, X3, rfl⟩ := hcut
    go_upto_region 4 with fail
    go_cut [6] (fun t14 wx => ∃ gb c, t14 = .slice (some ⟨gb, 0, none⟩) (L.length - j) c ∧ Hid (∀ i u, ((L.drop j).flatMap MkP.cells)[i]? = some u → wx.cell? ((⟨gb, 0, none⟩ : Addr).add i) = some u) ∧ Hid (w2.heap.size ≤ gb ∧ gb < wx.heap.size) ∧ ∃ X, wx = w2.ext X)
    case first =>
      rcases HR2.out.own.2 with ⟨hv, hL0⟩ | ⟨g, cap', cur, hv, hbg, hg, hnc, -, -, -⟩
      · injection hv with e1 _ e2
        subst e1 e2
        obtain rfl : L = [] := List.eq_nil_of_length_eq_zero hL0
        obtain rfl : j = 0 := by simpa using hj
        go_wp2
        go_meet
        exact ⟨_, _, rfl, jj (fun i u h => by simp at h), jj (by first | (simp; done) | (simp; omega)), jz (by exact br_)⟩
      · injection hv with e1 _ e2
        subst e1 e2
        by_cases hjc : cap = j
        · subst hjc
          have e0 : L.length - cap = 0 := by omega
          have e1 : cap = L.length := by omega
          have e2 : L.drop cap = [] := by rw [e1]; exact List.drop_length
          have E1 := jj e1
          have E2 := jj e2
          clear e1 e2
          go_wp2
          go_meet
          exact ⟨_, _, by first | rfl | rw [e0] | simp [e0], jj (fun i u h => by rw [E2.out] at h; simp at h), jj (by first | (simp; done) | (simp; omega)), jz (by exact br_)⟩
        · have hOw := jV HR2.out.own X3
          have HOw := jj hOw
          clear hOw hg
          go_wp2_with (first
            | (at_builtin; refine wpList_append_own _ rfl (.tmp 43) (.tmp 46) 186 rfl w2.heap.size 192 i0 (.agg #[.int .i64 0, .int .i64 0, .int .i64 0, .int .i64 0, .int .i64 0, .int .i64 0, .int .i64 0, .int .i64 0, .int .i64 0, .int .i64 0]) 10 80 Tryz.underlying186 hii hi0 hi1 hi2 rfl (by decide) (.slice (some ⟨w2.heap.size + X3.sz, 0, none⟩) 0 0) 0 [] rfl (aCk (by simp) (by omega)) ⟨g, j * 10, none⟩ (L.length - j) (cap - j) ((L.drop j).flatMap MkP.cells) rfl ((mkK.flat_len _).trans (by rw [List.length_drop]; rfl)) (aFf (K := mkK) (HOw.out.alloc _)) (mkK.flat_one _) (by simp only [maxLen]; omega) (by omega) (by simp; omega) ?_; intro v' w5 hown hgrow hiff))
          go_meet
          obtain ⟨g', cap', cur', rfl, hb', hg', -, -, -, -⟩ : ∃ g' cap' cur', v' = .slice (some ⟨g', 0, none⟩) (0 + (L.length - j)) cap' ∧ w2.heap.size ≤ g' ∧ w5.heap[g']? = some (.cells cur' 192 (0, 0)) ∧ True ∧ True ∧ True ∧ True := by
            rcases hown.2 with ⟨e, e'⟩ | ⟨g', cap', cur', e, hb', hg', -⟩
            · cases (hiff.1 e).1
            · exact ⟨g', cap', cur', e, hb', hg', trivial, trivial, trivial, trivial⟩
          refine ⟨g', cap', by rw [Nat.zero_add], jj fun i u h => hown.cells (g := g') rfl i u h, jj ⟨hb', (Array.getElem?_eq_some_iff.1 hg').1⟩, ?_⟩
          refine RowKit.Below.toExt ?_
          refine Below.grown (w := (w2.ext X3).alloc (.cells #[] 192)) (by exact br_) hgrow (by simp; omega) ?_
          intro b hb
          have : w2.heap.size + X3.sz = b := by simpa [Value.ownBlock] using hb
          omega
    case rest =>
      obtain ⟨gb, c14, rfl, hcl, hab, X4, rfl⟩ := hcut
      go_upto_region 5 with fail
      rcases HR2.out.own.2 with ⟨hv, hL0⟩ | ⟨g, cap', cur, hv, hbg, hg, hnc, -, -, -⟩
      · injection hv with e1 e3 e2
        subst e1 e2
        obtain rfl : j = 0 := by omega
        clear hL0 e3
        go_region_law (first
          | (refine bT _ rfl (.tmp 50) (.tmp 52) 186 rfl w0.heap.size 192 i0 (.agg #[.int .i64 0, .int .i64 0, .int .i64 0, .int .i64 0, .int .i64 0, .int .i64 0, .int .i64 0, .int .i64 0, .int .i64 0, .int .i64 0]) 10 80 Tryz.underlying186 hii hi0 hi1 hi2 rfl (by decide) (.slice none 0 0) 0 ((L.take 0).flatMap MkP.cells) rfl ?_ ⟨w2.heap.size + X4.sz, 0, none⟩ 1 1 (MkP.cells ⟨xk, xm, ⟨fx, fy, fz, c0, c1, c2, c3, cov⟩⟩) rfl rfl ?_ ?_ (by simp only [maxLen]; omega) (by omega) ?_ ?_
             · exact World.ownsRow.alloc (World.ownsRow_nil _ _ _ _) _
             · exact cF (by first | rfl | (simp; done) | (simp; rfl)) _ _
             · exact mkK.one ⟨xk, xm, ⟨fx, fy, fz, c0, c1, c2, c3, cov⟩⟩
             · simp; omega
             intro v1 w6 hown1 hgrow1
             have GR1 := jj hgrow1
             have OW1 := jj hown1
             have hz6 := hgrow1.size
             simp at hz6
             clear hgrow1 hown1)
          | (refine bT _ rfl (.tmp 53) (.tmp 54) 186 rfl w0.heap.size 192 i0 (.agg #[.int .i64 0, .int .i64 0, .int .i64 0, .int .i64 0, .int .i64 0, .int .i64 0, .int .i64 0, .int .i64 0, .int .i64 0, .int .i64 0]) 10 80 Tryz.underlying186 hii hi0 hi1 hi2 rfl (by decide) _ (0 + 1) _ rfl OW1.out ⟨gb, 0, none⟩ (L.length - 0) c14 ((L.drop 0).flatMap MkP.cells) rfl ((mkK.flat_len _).trans (by rw [List.length_drop]; rfl)) ?_ (mkK.flat_one _) (by simp only [maxLen]; omega) (by omega) ?_ ?_
             · exact nI hcl.out hab.out.2 GR1.out (by simp [Value.ownBlock])
             · omega
             intro v2 w7 hown2 hgrow2
             have GR2 := jj hgrow2
             have OW2 := jj hown2
             clear hgrow2 hown2))
        all_goals go_wp2
        all_goals go_ret
        all_goals exact ⟨_, 0, rfl, Nat.zero_le _, hjK.out, hjL.out, HR2.out.putM (Nat.zero_le _) (by exact br_) (.inr rfl) GR1.out OW1.out GR2.out OW2.out⟩
      · injection hv with e1 _ e2
        subst e1 e2
        have hjc : j ≤ cap := by omega
        have hgs := hO.out g rfl
        clear hg
        have OWN0 := jj (fun X => show (w2.ext X).ownsRow w0.heap.size 192 10 (.slice (some ⟨g, 0, none⟩) j cap) j ((L.take j).flatMap MkP.cells) by have := aFc (jV HR2.out.own X) hj; rw [aGz mkK] at this; exact this)
        by_cases hc0 : cap = 0
        · subst hc0
          have hL0 : L.length = 0 := by omega
          obtain rfl : j = 0 := by omega
          clear hL0 hnc
          go_region_law (first
            | (refine bT _ rfl (.tmp 50) (.tmp 52) 186 rfl w0.heap.size 192 i0 (.agg #[.int .i64 0, .int .i64 0, .int .i64 0, .int .i64 0, .int .i64 0, .int .i64 0, .int .i64 0, .int .i64 0, .int .i64 0, .int .i64 0]) 10 80 Tryz.underlying186 hii hi0 hi1 hi2 rfl (by decide) (.slice (some ⟨g, 0, none⟩) 0 0) 0 ((L.take 0).flatMap MkP.cells) rfl ?_ ⟨w2.heap.size + X4.sz, 0, none⟩ 1 1 (MkP.cells ⟨xk, xm, ⟨fx, fy, fz, c0, c1, c2, c3, cov⟩⟩) rfl rfl ?_ ?_ (by simp only [maxLen]; omega) (by omega) ?_ ?_
               · exact World.ownsRow.alloc (OWN0.out _) _
               · exact cF (by first | rfl | (simp; done) | (simp; rfl)) _ _
               · exact mkK.one ⟨xk, xm, ⟨fx, fy, fz, c0, c1, c2, c3, cov⟩⟩
               · simp; omega
               intro v1 w6 hown1 hgrow1
               have GR1 := jj hgrow1
               have OW1 := jj hown1
               have hz6 := hgrow1.size
               simp at hz6
               clear hgrow1 hown1)
            | (refine bT _ rfl (.tmp 53) (.tmp 54) 186 rfl w0.heap.size 192 i0 (.agg #[.int .i64 0, .int .i64 0, .int .i64 0, .int .i64 0, .int .i64 0, .int .i64 0, .int .i64 0, .int .i64 0, .int .i64 0, .int .i64 0]) 10 80 Tryz.underlying186 hii hi0 hi1 hi2 rfl (by decide) _ (0 + 1) _ rfl OW1.out ⟨gb, 0, none⟩ (L.length - 0) c14 ((L.drop 0).flatMap MkP.cells) rfl ((mkK.flat_len _).trans (by rw [List.length_drop]; rfl)) ?_ (mkK.flat_one _) (by simp only [maxLen]; omega) (by omega) ?_ ?_
               · exact nI hcl.out hab.out.2 GR1.out (by have := hab.out.1; simp [Value.ownBlock]; omega)
               · omega
               intro v2 w7 hown2 hgrow2
               have GR2 := jj hgrow2
               have OW2 := jj hown2
               clear hgrow2 hown2))
          all_goals go_wp2
          all_goals go_ret
          all_goals exact ⟨_, 0, rfl, Nat.zero_le _, hjK.out, hjL.out, HR2.out.putM (Nat.zero_le _) (by exact br_) (.inl rfl) GR1.out OW1.out GR2.out OW2.out⟩
        have hc1 : 0 < cap := by omega
        clear hnc
        go_region_law (first
          | (refine bT _ rfl (.tmp 50) (.tmp 52) 186 rfl w0.heap.size 192 i0 (.agg #[.int .i64 0, .int .i64 0, .int .i64 0, .int .i64 0, .int .i64 0, .int .i64 0, .int .i64 0, .int .i64 0, .int .i64 0, .int .i64 0]) 10 80 Tryz.underlying186 hii hi0 hi1 hi2 rfl (by decide) (.slice (some ⟨g, 0, none⟩) j cap) j ((L.take j).flatMap MkP.cells) rfl ?_ ⟨w2.heap.size + X4.sz, 0, none⟩ 1 1 (MkP.cells ⟨xk, xm, ⟨fx, fy, fz, c0, c1, c2, c3, cov⟩⟩) rfl rfl ?_ ?_ (by simp only [maxLen]; omega) (by omega) ?_ ?_
             · exact World.ownsRow.alloc (OWN0.out _) _
             · exact cF (by first | rfl | (simp; done) | (simp; rfl)) _ _
             · exact mkK.one ⟨xk, xm, ⟨fx, fy, fz, c0, c1, c2, c3, cov⟩⟩
             · simp; omega
             intro v1 w6 hown1 hgrow1
             have GR1 := jj hgrow1
             have OW1 := jj hown1
             have hz6 := hgrow1.size
             simp at hz6
             clear hgrow1 hown1)
          | (refine bT _ rfl (.tmp 53) (.tmp 54) 186 rfl w0.heap.size 192 i0 (.agg #[.int .i64 0, .int .i64 0, .int .i64 0, .int .i64 0, .int .i64 0, .int .i64 0, .int .i64 0, .int .i64 0, .int .i64 0, .int .i64 0]) 10 80 Tryz.underlying186 hii hi0 hi1 hi2 rfl (by decide) _ (j + 1) _ rfl OW1.out ⟨gb, 0, none⟩ (L.length - j) c14 ((L.drop j).flatMap MkP.cells) rfl ((mkK.flat_len _).trans (by rw [List.length_drop]; rfl)) ?_ (mkK.flat_one _) (by simp only [maxLen]; omega) (by omega) ?_ ?_
             · exact nI hcl.out hab.out.2 GR1.out (by have := hab.out.1; simp [Value.ownBlock]; omega)
             · omega
             intro v2 w7 hown2 hgrow2
             have GR2 := jj hgrow2
             have OW2 := jj hown2
             clear hgrow2 hown2))
        all_goals go_wp2
        all_goals go_ret
        all_goals exact ⟨_, j, rfl, hj, hjK.out, hjL.out, HR2.out.putM hj (by exact br_) (.inl rfl) GR1.out OW1.out GR2.out OW2.out⟩
end
end
end Go.Proofs.YthcjfanigfgckaaGreat
