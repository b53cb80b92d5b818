import Derived.Deep.AppendSrc
import Derived.Room.Entries
import Derived.Test.YthcjfanigfgckaaGreatSHidb03
import Derived.Test.YthcjfanigfgckaaGreatSHidb05
set_option linter.unusedVariables false
set_option linter.unusedSimpArgs false
set_option maxRecDepth 100000
set_option maxHeartbeats 16000000
namespace Go.Proofs.YthcjfanigfgckaaGreat
open Go.RowKit _root_.Go.Proofs.Tryz
instance jh6 : Coe Nat Value := ⟨fun n => .int .i64 n⟩
section
def bt (l:List Int) (i:Nat):Int:=l.getD i 0
def bv:List Int->Int
 | []=>0
 |d::l=>d+2*bv l
def Bin (l:List Int):Prop:=∀ i,0<=bt l i/\bt l i<=1
theorem aMb (i:Nat):bt [] i=0:=by simp[bt]
theorem aOd (d:Int) (l:List Int):bt (d::l) 0=d:=rfl
theorem zU (d:Int) (l:List Int) (i:Nat):bt (d::l) (i+1)=bt l i:=by simp[bt]
theorem wM {l:List Int} {i:Nat} (h:l.length<=i):bt l i=0:=by simp[bt,List.getD,h]
theorem aQm (l:List Int) (d:Int) (i:Nat):bt (l++[d]) i=if i<l.length then bt l i else if i=l.length then d else 0:=by
 unfold bt;simp only[List.getD,List.getElem?_append]
 split
 ·rfl
 ·split
  ·subst_vars;simp
  ·rw[List.getElem?_eq_none (by simp;omega)];rfl
theorem Bin.tail {d:Int} {l:List Int} (h:Bin (d::l)):Bin l:=fun i=>by have:=h (i+1);rwa [zU] at this
theorem Bin.head {d:Int} {l:List Int} (h:Bin (d::l)):0<=d/\d<=1:=h 0
theorem Bin.nil:Bin []:=fun i=>by rw[aMb];decide
theorem Bin.snoc {l:List Int} (h:Bin l) {d:Int} (h0:0<=d) (h1:d<=1):Bin (l++[d]):=fun i=>by
 rw[aQm];split
 ·exact h i
 ·split<;>omega
theorem Bin.cons {l:List Int} (h:Bin l) {d:Int} (h0:0<=d) (h1:d<=1):Bin (d::l):=fun i=>by
 cases i with
 |zero=>exact ⟨h0,h1⟩
 |succ i=>rw[zU];exact h i
theorem eG (i:Nat):(2:Int)^(i+1)=2*2^i:=by rw[Int.pow_succ,Int.mul_comm]
theorem eA (i:Nat):(0:Int)<2^i:=Int.pow_pos (by decide)
theorem wL (l:List Int) (d:Int):bv (l++[d])=bv l+d*2^l.length:=by
 induction l with
 |nil=>simp[bv]
 |cons e l ih =>
  simp only[List.cons_append,bv,ih,List.length_cons,eG];have:d*(2*2^l.length)=2*(d*2^l.length):=by grind
  omega
theorem jO {l:List Int} (h:Bin l):0<=bv l/\bv l<2^l.length:=by
 induction l with
 |nil=>simp[bv]
 |cons e l ih =>
  have:=ih h.tail;have:=h.head;simp only[bv,List.length_cons,eG];omega
theorem mD {l:List Int} (h:Bin l):∀ i,bv l%2^(i+1)=bv l%2^i+bt l i*2^i:=by
 induction l with
 |nil=>intro i;simp[bv,aMb]
 |cons e l ih =>
  intro i;have he:=h.head;have hi:=ih h.tail;simp only[bv];cases i with
  |zero=>rw[aOd];simp[Int.pow_succ];omega
  |succ i =>
   rw[zU];have k:=hi i;have p:=eA i;have e1:(e+2*bv l)%2^(i+1)=e+2*(bv l%2^i):=by
    rw[eG];have m0:=Int.emod_nonneg (bv l) (show (2:Int)^i≠0 by omega);have m1:=Int.emod_lt_of_pos (bv l) p;have em:=Int.emod_add_mul_ediv (bv l) (2^i);have:e+2*bv l=(e+2*(bv l%2^i))+2*2^i*(bv l/2^i):=by
     have:2*2^i*(bv l/2^i)=2*(2^i*(bv l/2^i)):=by grind
     omega
    rw[this,Int.add_mul_emod_self_left,Int.emod_eq_of_lt (by omega) (by omega)]
   have e2:(e+2*bv l)%2^(i+1+1)=e+2*(bv l%2^(i+1)):=by
    rw[eG (i+1)];have p':=eA (i+1);have m0:=Int.emod_nonneg (bv l) (show (2:Int)^(i+1)≠0 by omega);have m1:=Int.emod_lt_of_pos (bv l) p';have em:=Int.emod_add_mul_ediv (bv l) (2^(i+1));have:e+2*bv l=(e+2*(bv l%2^(i+1)))+2*2^(i+1)*(bv l/2^(i+1)):=by
     have:2*2^(i+1)*(bv l/2^(i+1))=2*(2^(i+1)*(bv l/2^(i+1))):=by grind
     omega
    rw[this,Int.add_mul_emod_self_left,Int.emod_eq_of_lt (by omega) (by omega)]
   rw[e1,e2,k,eG];have:bt l i*(2*2^i)=2*(bt l i*2^i):=by grind
   omega
theorem tN {l:List Int} (h:Bin l) {i:Nat} (hi:l.length<=i):bv l%2^i=bv l:=by
 have:=jO h;refine Int.emod_eq_of_lt this.1 (Int.lt_of_lt_of_le this.2 ?_);obtain ⟨k,rfl⟩:=Nat.exists_eq_add_of_le hi;rw[Int.pow_add];have:=eA k;have:=eA l.length;have:=Int.mul_le_mul_of_nonneg_left (show (1:Int)<=2^k by omega) (show (0:Int)<=2^l.length by omega)
 rwa [Int.mul_one] at this
theorem aFr {a b out:List Int} {c x:Int} (ha:Bin a) (hb:Bin b) (c0:0<=c) (c1:c<=1) (h:bv out+c*2^out.length=bv a%2^out.length+bv b%2^out.length) (hx:x=bt a out.length+bt b out.length+c) :
  0<=x/2/\x/2<=1/\0<=x%2/\x%2<=1/\bv (out++[x%2])+x/2*2^(out.length+1)=bv a%2^(out.length+1)+bv b%2^(out.length+1):=by
 have h1:=ha out.length;have h2:=hb out.length;rw[wL,mD ha,mD hb,eG];refine ⟨by omega,by omega,by omega,by omega,?_⟩;have e:x%2*2^out.length+x/2*(2*2^out.length)=x*2^out.length:=by
  have:x*2^out.length=(x%2+2*(x/2))*2^out.length:=by rw[Int.emod_add_mul_ediv]
  rw[this];grind
 have e2:x*2^out.length=bt a out.length*2^out.length+bt b out.length*2^out.length+c*2^out.length:=by rw[hx];grind
 omega
theorem aF7 {a b out:List Int} {c x:Int} (ha:Bin a) (hb:Bin b) (c0:0<=c) (c1:c<=1) (h:bv out+bv b%2^out.length=bv a%2^out.length+c*2^out.length) (hx:x=2+bt a out.length-bt b out.length-c) :
  0<=x/\x<=3/\0<=1-x/2/\1-x/2<=1/\0<=x%2/\x%2<=1/\bv (out++[x%2])+bv b%2^(out.length+1)=bv a%2^(out.length+1)+(1-x/2)*2^(out.length+1):=by
 have h1:=ha out.length;have h2:=hb out.length;rw[wL,mD ha,mD hb,eG];refine ⟨by omega,by omega,by omega,by omega,by omega,by omega,?_⟩;have e:x%2*2^out.length+x/2*(2*2^out.length)=x*2^out.length:=by
  have:x*2^out.length=(x%2+2*(x/2))*2^out.length:=by rw[Int.emod_add_mul_ediv]
  rw[this];grind
 have e2:x*2^out.length=2*2^out.length+bt a out.length*2^out.length-bt b out.length*2^out.length-c*2^out.length:=by rw[hx];grind
 have e3:(1-x/2)*(2*2^out.length)=2*2^out.length-x/2*(2*2^out.length):=by grind
 omega
theorem aJ5 {a b out:List Int} {c:Int} (ha:Bin a) (hb:Bin b) (la:a.length<=out.length) (lb:b.length<=out.length) (hc:c=0) (h:bv out+c*2^out.length=bv a%2^out.length+bv b%2^out.length):bv out=bv a+bv b:=by
 rw[tN ha la,tN hb lb,hc] at h;simpa using h
theorem aKh {a b out:List Int} {c:Int} (ha:Bin a) (hb:Bin b) (ho:Bin out) (la:out.length=a.length) (c0:0<=c) (c1:c<=1) (hab:bv b<=bv a) (h:bv out+bv b%2^out.length=bv a%2^out.length+c*2^out.length):bv out=bv a-bv b:=by
 have h1:=jO ha;have h2:=jO hb;have h3:=jO ho;rw[la] at h h3;rw[tN ha (Nat.le_refl _),Int.emod_eq_of_lt h2.1 (by omega)] at h;have:c=0:=by
  apply Classical.byContradiction
  intro hn;have:c=1:=by omega
  rw[this] at h;omega
 rw[this] at h;omega
theorem fF {l:List Int} (h:Bin l) (i:Nat):bv l/2^i=2*(bv l/2^(i+1))+bt l i:=by
 have s:=mD h i;have e1:=Int.emod_add_mul_ediv (bv l) (2^i);have e2:=Int.emod_add_mul_ediv (bv l) (2^(i+1));have p:=eA i;rw[s,eG] at e2;have e3:2^i*(bv l/2^i)=2^i*(2*(bv l/(2*2^i))+bt l i):=by
  have:2^i*(2*(bv l/(2*2^i))+bt l i)=2*2^i*(bv l/(2*2^i))+bt l i*2^i:=by grind
  omega
 rw[eG];exact Int.eq_of_mul_eq_mul_left (by omega) e3
theorem jN {l:List Int} (h:Bin l) {i:Nat} (hi:l.length<=i):bv l/2^i=0:=by
 have:=tN h hi;have e1:=Int.emod_add_mul_ediv (bv l) (2^i);have p:=eA i;rw[this] at e1;have:2^i*(bv l/2^i)=0:=by omega
 rcases Int.mul_eq_zero.1 this with h|h
 ·omega
 ·exact h
theorem aIg {a b:List Int} (ha:Bin a) (hb:Bin b) (i:Nat) (h:bv a/2^(i+1)=bv b/2^(i+1)):(bt a i<bt b i->bv a<bv b)/\(bt b i<bt a i->bv b<bv a)/\(bt a i=bt b i->bv a/2^i=bv b/2^i):=by
 have h1:=fF ha i;have h2:=fF hb i;have p:=eA i;have k:∀ {u v:Int},u/2^i<v/2^i->u<v:=fun {u v} h=>by
  apply Int.not_le.1
  intro h';have:=Int.ediv_le_ediv p h';omega
 exact ⟨fun g=>k (by omega),fun g=>k (by omega),fun g=>by omega⟩
def Can (l:List Int):Prop:=Bin l/\(0<l.length->bt l (l.length-1)=1)
theorem Can.low {l:List Int} (h:Can l) (hl:0<l.length):2^(l.length-1)<=bv l:=by
 have s:=fF h.1 (l.length-1);rw[show l.length-1+1=l.length by omega,jN h.1 (Nat.le_refl _),h.2 hl] at s;have p:=eA (l.length-1);have:=(Int.le_ediv_iff_mul_le p).1 (show 1<=bv l/2^(l.length-1) by omega);omega
theorem Can.zero {l:List Int} (h:Can l):bv l=0↔l.length=0:=by
 constructor
 ·intro h0
  apply Classical.byContradiction
  intro hl;have:=h.low (by omega);have:=eA (l.length-1);omega
 ·intro h0;rw[List.length_eq_zero_iff.1 h0];rfl
theorem uP {l:List Int} (h:Bin l) {k:Nat} (hk:k<l.length) (hz:bt l k=0) (hl:k+1=l.length):bv (l.take k)=bv l/\Bin (l.take k):=by
 have e:l=l.take k++[bt l k]:=by
  rw[bt,List.getD_eq_getElem?_getD,List.getElem?_eq_getElem hk,Option.getD_some,<-List.take_succ_eq_append_getElem hk,hl,List.take_length]
 have hb:Bin (l.take k):=fun i=>by
  have:=h i
  by_cases hi:i<k
  ·simp only[bt,List.getD,List.getElem?_take,if_pos hi] at this ⊢;exact this
  ·rw[wM (by rw[List.length_take];omega)];decide
 refine ⟨?_,hb⟩;have:=wL (l.take k) (bt l k);rw[<-e,hz] at this;omega
end
section
structure Rb (w:World) (v:Value) (l:List Int):Prop where
 bin:Bin l
 len:l.length<=1048576
 form:∃ a cap,v=.slice a l.length cap/\l.length<=cap/\cap<=maxLen/\(l=[]\/∃ b off,a=some ⟨b,off,none⟩/\b<w.heap.size/\∀ i,i<l.length->w.cell? ⟨b,off+i,none⟩=some (.int .u8 (bt l i)))
theorem Rb.ext {w:World} {v:Value} {l:List Int} (h:Rb w v l) (X:Xt):Rb (w.ext X) v l:=by
 obtain ⟨h0,h1,a,cap,rfl,h2,h3,h4⟩:=h;refine ⟨h0,h1,a,cap,rfl,h2,h3,?_⟩;rcases h4 with h4|⟨b,off,rfl,hb,hc⟩
 ·exact .inl h4
 ·exact .inr ⟨b,off,rfl,by simp;omega,fun i hi=>by rw[World.cell?_ext hb];exact hc i hi⟩
theorem Rb.drew {w:World} {v:Value} {l:List Int} (h:Rb w v l):Rb w.drew v l:=⟨h.1,h.2,h.3⟩
theorem Rb.alloc {w:World} {v:Value} {l:List Int} (h:Rb w v l) (o:Obj):Rb (w.alloc o) v l:=by
 obtain ⟨h0,h1,a,cap,rfl,h2,h3,h4⟩:=h;refine ⟨h0,h1,a,cap,rfl,h2,h3,?_⟩;rcases h4 with h4|⟨b,off,rfl,hb,hc⟩
 ·exact .inl h4
 ·refine .inr ⟨b,off,rfl,by rw[World.hp_alloc,Array.size_push];omega,fun i hi=>?_⟩;rw[<-hc i hi];unfold World.cell?;rw[World.hp_alloc,Array.getElem?_push,if_neg (by simp;omega)]
theorem Rb.chg {w w1:World} {p:Nat->Prop} {v:Value} {l:List Int} (h:Rb w v l) (hc:Chg p w w1) (hp:∀ b,v.ownBlock=some b->¬p b):Rb w1 v l:=by
 obtain ⟨h0,h1,a,cap,rfl,h2,h3,h4⟩:=h;refine ⟨h0,h1,a,cap,rfl,h2,h3,?_⟩;rcases h4 with h4|⟨b,off,rfl,hb,hcell⟩
 ·exact .inl h4
 ·exact .inr ⟨b,off,rfl,Nat.lt_of_lt_of_le hb hc.size,fun i hi=>by rw[hc.cell hb (hp b rfl)];exact hcell i hi⟩
theorem Rb.nil {w:World}:Rb w (.slice none 0 0) []:=⟨Bin.nil,by simp,Option.none,0,rfl,Nat.le_refl _,by simp[maxLen],.inl rfl⟩
def MkB (P:List Int->Prop):World->Ending->World->Prop:=RetR fun v w'=>∃ l,Rb w' v l/\P l
def isSl (v:Value):Prop:=∃ a k cap,v=.slice a k cap
theorem Rb.isSl {w:World} {v:Value} {l:List Int} (h:Rb w v l):isSl v:=by
 obtain ⟨a,cap,rfl,-⟩:=h.form;exact ⟨_,_,_,rfl⟩
def srQ (P:List Int->Prop):SR gC:=⟨fun v w=>∃ l,Rb w v l/\P l,fun v w w' ⟨l,h1,h2⟩ ⟨X,e⟩=>by subst e;exact ⟨l,h1.ext X,h2⟩,isSl,.slice none 0 0,⟨_,_,_,rfl⟩,fun v w ⟨l,h1,h2⟩=>h1.isSl⟩
def srB (l:List Int):SR gC:=⟨fun v w=>Rb w v l,fun v w w' h ⟨X,e⟩=>by subst e;exact h.ext X,isSl,.slice none 0 0,⟨_,_,_,rfl⟩,fun v w h1=>h1.isSl⟩
theorem aLs {w:World} {base n:Nat} {v:Value} {l:List Int} (hb:Bin l) (hl:l.length<=1048576) (h:w.ownsRow base 5 1 v n (l.map (Value.int .u8))):Rb w v l:=by
 obtain ⟨hl',h⟩:=h;obtain rfl:n=l.length:=by simpa using hl'.symm
 rcases h with ⟨rfl,h0⟩|⟨g,cap,cur,rfl,-,hg,h1,h2,h3,h4⟩
 ·obtain rfl:l=[]:=List.length_eq_zero_iff.1 h0;exact Rb.nil
 ·refine ⟨hb,hl,_,cap,rfl,h1,by simp only[maxLen] at h2 ⊢;omega,.inr ⟨g,0,rfl,(Array.getElem?_eq_some_iff.1 hg).1,fun i hi=>?_⟩⟩;have e:cur.toList[i]?=(cur.toList.take (l.length*1))[i]?:=by rw[List.getElem?_take,if_pos (by omega)]
  rw[Nat.zero_add,World.cell?];simp only[hg];rw[<-Array.getElem?_toList,e,h4];simp[bt,hi]
theorem Rb.below {w w1:World} {v:Value} {l:List Int} (h:Rb w v l) (hb:Below w.heap.size w w1):Rb w1 v l:=by
 obtain ⟨X,rfl⟩:=hb.toExt;exact h.ext X
theorem aGs (w:World) (X:Xt):w.grownBy (w.ext X) none:=⟨rfl,rfl,rfl,by simp,fun k hk _=>World.heap_ext hk⟩
structure GB (w wr:World) (v:Value) (l:List Int):Prop where
 bel:Below w.heap.size w wr
 own:wr.ownsRow w.heap.size 5 1 v l.length (l.map (Value.int .u8))
theorem GB.nil (w:World):GB w w (.slice none 0 0) []:=⟨Below.refl _ _,World.ownsRow_nil _ _ _ _⟩
theorem GB.ext {w wr:World} {v:Value} {l:List Int} (h:GB w wr v l) (X:Xt):GB w (wr.ext X) v l :=
 ⟨h.bel.ext h.bel.size X,h.own.kept (aGs _ _) (by cases e:v.ownBlock with
  |none=>exact .inl rfl
  |some q=>exact .inr (by simp))⟩
theorem GB.snoc {w wr w1:World} {v:Value} {l:List Int} {d:Int} {g cap:Nat} {o:Obj} (h:GB w wr v l)
  (hown:w1.ownsRow w.heap.size 5 1 (.slice (some ⟨g,0,none⟩) (l.length+1) cap) (l.length+1) (l.map (Value.int .u8)++[.int .u8 d])) (hg:(wr.alloc o).grownBy w1 v.ownBlock):GB w w1 (.slice (some ⟨g,0,none⟩) (l.length+1) cap) (l++[d]):=by
 refine ⟨?_,by simpa using hown⟩;refine Below.grown (h.bel.alloc h.bel.size o) hg (by rw[World.hp_alloc,Array.size_push];have:=h.bel.size;omega) fun k hk=>?_
 have:=(h.own.lt k hk).1;omega
theorem GB.rb {w wr:World} {v:Value} {l:List Int} (h:GB w wr v l) (hb:Bin l) (hl:l.length<=1048576):Rb wr v l:=aLs hb hl h.own
theorem GB.mk' {w wr:World} {v:Value} {l:List Int} {P:List Int->Prop} (h:GB w wr v l) (hb:Bin l) (hl:l.length<=1048576) (hP:P l):MkB P w (.returned v) wr:=⟨v,rfl,⟨l,h.rb hb hl,hP⟩,h.bel.toExt⟩
theorem qY (v:Value) (l:List Int) (i:Int) (w:World) (hv:Rb w v l) (h0:0<=i):Calls prog 136 #[v,i] w (fun e w'=>e=.returned (.int .u8 (bt l i.toNat))/\w'=w):=by
 obtain ⟨-,hl,a,cap,rfl,hc,hm,h4⟩:=hv
 by_cases hi:i<l.length
 ·rcases h4 with rfl|⟨b,off,rfl,hb,hcell⟩
  ·simp at hi;omega
  have c:=hcell i.toNat (by omega);clear hcell
  go_enter func136,ntmps136
  go_wp2;go_ret;exact ⟨rfl,rfl⟩
 ·rw[wM (show l.length<=i.toNat by omega)];clear h4
  go_enter func136,ntmps136
  go_wp2;go_ret;exact ⟨rfl,rfl⟩
theorem fY (v:Value) (l:List Int) (i:Nat) (w:World) (hv:Rb w v l):Calls prog 136 #[v,i] w (fun e w'=>e=.returned (.int .u8 (bt l i))/\w'=w):=by
 have:=qY v l i w hv (by omega)
 simpa using this
theorem aOe (v:Value) (l:List Int) (i:Nat) (w:World) (hv:Rb w v l):Calls prog 136 #[v,i] w (Ret (.int .u8 (bt l i)) w) :=
 (fY v l i w hv).mono fun _ _ ⟨he,hw⟩=>⟨he,⟨#[],w.drawn⟩,by rw[hw];simp[World.ext]⟩
theorem kX:(prog.info? 5).map (fun i=>(i.zero,i.size,i.bytes))=some (some (.int .u8 0),1,1):=by kernel_rfl
theorem iP {w:World} {n:Nat} (h:w.heap.size=n) (x:Value) (t:TypeId):∀ j u,[x][j]?=some u->(w.alloc (.cells #[x] t)).cell? ((⟨n,0,none⟩:Addr).add j)=some u:=by
 subst h;exact cell_one_new _ _ _
end
section
theorem aAt (va vb:Value) (a b:List Int) (w:World) (ha:Rb w va a) (hb:Rb w vb b) (la:a.length<=1048000) (lb:b.length<=1048000) :
  Calls prog 101 #[va,vb] w (MkB (fun l=>bv l=bv a+bv b/\l.length<=max a.length b.length+1) w):=by
 obtain ⟨i0,hi,hz0,hz1,hz2⟩:=info_parts kX;have HA:=jj ha;have HB:=jj hb;obtain ⟨aa,acap,rfl,-,-,-⟩:=ha.form;obtain ⟨ba,bcap,rfl,-,-,-⟩:=hb.form;have BA:=ha.bin;have BB:=hb.bin;clear ha hb
 go_enter func101,ntmps101
 go_wp2;go_loopw [5,6,7] (fun o c i wr=>∃ (v:Value) (l:List Int) (x:Int),o=v/\i=.int .i64 l.length/\c=.int .u8 x/\0<=x/\x<=1/\GB w wr v l/\Bin l/\l.length<=max a.length b.length+1/\(l.length=max a.length b.length+1->x=0)/\bv l+x*2^l.length=bv a%2^l.length+bv b%2^l.length)
  (fun o c i _=>max a.length b.length+2-(intOf i).toNat)
 case atStart=>exact ⟨_,[],0,rfl,rfl,rfl,by omega,by omega,GB.nil w,Bin.nil,by simp,by simp,by simp[bv,Int.emod_one]⟩
 case round =>
  obtain ⟨v,l,x,rfl,rfl,rfl,x0,x1,G,hbin,hl,hx,he⟩:=hrel;have HG:=jj G;have sz:=G.bel.size;have HE:=jj he;have HX:=jj hx;have HBN:=jj hbin;clear he hx hbin
  by_cases hlt:l.length<a.length\/l.length<b.length\/0<x
  ·have hlm:l.length<=max a.length b.length:=by have:=HX.out;omega
   have RA:=jj (HA.out.below G.bel);have RB:=jj (HB.out.below G.bel);clear G;have b1:=BA l.length;have b2:=BB l.length;obtain ⟨b1,b1'⟩:=b1;obtain ⟨b2,b2'⟩:=b2;have st:=aFr (x:=bt a l.length+bt b l.length+x) BA BB x0 x1 HE.out rfl;obtain ⟨q0,q1,r0,r1,se⟩:=st;have SE:=jj se;clear se;obtain ⟨X,hX⟩:∃ X,X=bt a l.length+bt b l.length+x:=⟨_,rfl⟩;have l64:l.length<=1048577:=by omega
   have HC:(l++[(bt a l.length+bt b l.length+x)%2]).length=max a.length b.length+1->(bt a l.length+bt b l.length+x)/2=0:=fun h=>by
    simp only[List.length_append,List.length_cons,List.length_nil] at h;rw[wM (show a.length<=l.length by omega),wM (show b.length<=l.length by omega)];omega
   rcases (show l.length<a.length\/(¬l.length<a.length/\l.length<b.length)\/(¬l.length<a.length/\¬l.length<b.length/\0<x) by omega) with l1|⟨l1,l2⟩|⟨l1,l2,l3⟩
   all_goals
    clear hlt
    go_wp2_with (first
     |(go_at_call 136;(with_reducible refine (fY _ _ _ _ RA.out).mono ?_);rintro _ w4_ ⟨rfl,h4_⟩;obtain rfl:=h4_.symm)
     |(go_at_call 136;(with_reducible refine (fY _ _ _ _ RB.out).mono ?_);rintro _ w4_ ⟨rfl,h4_⟩;obtain rfl:=h4_.symm)
     |(at_builtin;refine wpList_append_lies _ rfl _ _ 99 rfl w.heap.size 5 i0 (.int .u8 0) 1 1 Tryz.underlying99 hi hz0 hz1 hz2 rfl (by decide) _ _ _ rfl (HG.out.own.alloc _) ⟨wr.heap.size,0,none⟩ 1 1 [.int .u8 ((bt a l.length+bt b l.length+x)%2)] rfl rfl (cell_one_new _ _ _) (fun x hx=>by simp at hx;subst hx;rfl) (by omega) (by unfold maxLen;omega) (by omega) (by rw[World.hp_alloc,Array.size_push];omega) (wr.heap.size+1) (by simp) ?_;intro g cap w3 hown hgrow hat hlt3;have G3:=jj (HG.out.snoc hown hgrow);clear hown hgrow hat hlt3))
    go_roundw
    case rel=>exact ⟨_,l++[(bt a l.length+bt b l.length+x)%2],(bt a l.length+bt b l.length+x)/2,rfl,by simp,rfl,q0,q1,G3.out,HBN.out.snoc r0 r1,by simp;omega,HC,by simpa using SE.out⟩
    case measure=>simp[intOf];omega
  ·obtain rfl:x=0:=by omega
   have hf:=aJ5 BA BB (by omega) (by omega) rfl HE.out;clear G;go_wp2;go_ret;exact HG.out.mk' HBN.out (by omega) ⟨hf,by omega⟩
end
section
theorem Rb.cells {w:World} {b off n cap:Nat} {l:List Int} (h:Rb w (.slice (some ⟨b,off,none⟩) n cap) l):∀ j u,(l.map (Value.int .u8))[j]?=some u->w.cell? ((⟨b,off,none⟩:Addr).add j)=some u:=by
 obtain ⟨h0,h1,a,cap',e,h2,h3,h4⟩:=h;intro j u hu;obtain ⟨d,hd,rfl⟩:∃ d,l[j]?=some d/\u=Value.int .u8 d:=by
  rw[List.getElem?_map] at hu;cases hl:l[j]? with
  |none=>rw[hl] at hu;cases hu
  |some d=>rw[hl] at hu;exact ⟨d,rfl,by simpa using hu.symm⟩
 have hj:j<l.length:=(List.getElem?_eq_some_iff.1 hd).1;rcases h4 with rfl|⟨b',off',rfl,hb,hc⟩
 ·simp at hj
 ·cases e
  have hadd:(⟨b,off,none⟩:Addr).add j=⟨b,off+j,none⟩:=by unfold Addr.add;split<;>simp_all
  rw[hadd,hc j hj,bt,List.getD_eq_getElem?_getD,hd];rfl
theorem aPq (l:List Int):∀ u∈l.map (Value.int .u8),u.oneCell'=true:=fun u hu=>by
 obtain ⟨d,-,rfl⟩:=List.mem_map.1 hu;rfl
theorem aOf {a b:List Int} (ha:Bin a) (hb:Bin b):Bin (a++b):=fun i=>by
 have h1:=ha i;have h2:=hb (i-a.length);unfold bt at *;rw[List.getD_eq_getElem?_getD,List.getElem?_append]
 split
 ·rw[List.getD_eq_getElem?_getD] at h1;exact h1
 ·rw[List.getD_eq_getElem?_getD] at h2;exact h2
theorem pI {w:World} (t ty e:TypeId) (i:TypeInfo) (ht:prog.underlying t=some (.slice e)) (hi:prog.info? e=some i) (hz:i.zero=some (.int .u8 0)) (hs:i.size=1) (hb:i.bytes=1)
  {b off n:Nat} {xv:Value} {l1 l2:List Int} (h1:Rb w (.slice (some ⟨b,off,none⟩) n n) l1) (h2:Rb w xv l2) (hl:l1.length+l2.length<=1048576) :
  ∃ v w',(Builtin.append_ #[t,t] ty #[.slice (some ⟨b,off,none⟩) n n,xv]).run prog w=.ok v w'/\Rb w' v (l1++l2)/\(∃ X,w'=w.ext X)/\∀ q,v.ownBlock=some q->q=b\/w.heap.size<=q:=by
 have B1:=h1.bin;have B2:=h2.bin;have C1:=h1.cells;obtain ⟨a1,cap1,e1,-,-,-⟩:=h1.form;obtain ⟨rfl,rfl,rfl⟩:n=l1.length/\n=cap1/\a1=some ⟨b,off,none⟩:=by cases e1;exact ⟨rfl,rfl,rfl⟩
 obtain ⟨a2,cap2,rfl,g1,g2,g3⟩:=h2.form
 by_cases hz2:l2=[]
 ·subst hz2;have S:Src prog i.size t (.slice a2 0 cap2) 0 [] w:=by
   cases a2 with
   |none=>exact Src.ofNil w ht cap2
   |some ad=>exact Src.ofSlice w ht ad 0 cap2 [] (by simp) (fun j u h=>by simp at h) (fun u h=>by cases h)
  have hr:=run_append_room_src (P:=prog) w t t ty e i ht hi b off l1.length l1.length (.slice a2 0 cap2) 0 [] S (by omega) (fun j hj=>by simp at hj) (fun j hj=>by simp at hj);refine ⟨_,_,hr,?_,⟨⟨#[],w.drawn⟩,?_⟩,fun q hq=>.inl (by cases hq;rfl)⟩
  ·have:w.setCells b (off+l1.length*i.size) []=w:=rfl;rw[this,List.append_nil];exact h1
  ·have:w.setCells b (off+l1.length*i.size) []=w:=rfl;rw[this];simp[World.ext]
 ·have hpos:0<l2.length:=List.length_pos_iff.2 hz2;rcases g3 with rfl|⟨b2,off2,rfl,hb2,hc2⟩
  ·exact absurd rfl hz2
  have S:Src prog i.size t (.slice (some ⟨b2,off2,none⟩) l2.length cap2) l2.length (l2.map (Value.int .u8)) w :=
   Src.ofSlice w ht _ _ _ _ (by simp[hs]) h2.cells (aPq l2)
  have hnx:=Room.nextslicecap_le' (need:=l1.length+l2.length) (old:=l1.length) (by omega);have hr:=run_append_grow_src (P:=prog) w t t ty e i _ ht hi hz (some ⟨b,off,none⟩) l1.length l1.length (l1.map (Value.int .u8))
   (run_firstCells_some w.drew i.size l1.length ⟨b,off,none⟩ l1.length l1.length _ (by simp[hs]) C1) (.slice (some ⟨b2,off2,none⟩) l2.length cap2) l2.length (l2.map (Value.int .u8)) S (by omega) (by omega) (by rw[hb];omega)
  refine ⟨_,_,hr,?_,?_,fun q hq=>.inr (by cases hq;exact Nat.le_refl _)⟩
  ·have hge:=grownCap_ge w (l1.length+l2.length) l1.length e;have hcm:grownCap w (l1.length+l2.length) l1.length e<=maxLen:=grownCap_le_maxLen w _ _ e (by unfold maxLen;omega);refine ⟨aOf B1 B2,by simp;omega,_,_,by rw[List.length_append],by simp;omega,hcm,.inr ⟨_,0,rfl,by simp,fun j hj=>?_⟩⟩;rw[Nat.zero_add,World.cell?];have hn:(w.drew.alloc (.cells ((l1.map (Value.int .u8)++l2.map (Value.int .u8)).toArray++Builtin.zeroCells (Value.cells (.int .u8 0)) (grownCap w (l1.length+l2.length) l1.length e-(l1.length+l2.length))) e)).heap[w.heap.size]?=some (.cells ((l1.map (Value.int .u8)++l2.map (Value.int .u8)).toArray++Builtin.zeroCells (Value.cells (.int .u8 0)) (grownCap w (l1.length+l2.length) l1.length e-(l1.length+l2.length))) e):=heap_alloc_new w.drew _;simp only[hn];rw[<-List.map_append,Array.getElem?_append_left (by simpa using hj)];simp only[List.getElem?_toArray,List.getElem?_map,bt,List.getD_eq_getElem?_getD];rw[List.getElem?_eq_getElem hj];rfl
  ·exact (Below.alloc (Below.drew (Below.refl _ _)) (Nat.le_refl _) _).toExt
theorem gL {w:World} {o:Oper} {a:Act} {K:Act->World->Prop} {Q:Exit->Act->World->Prop} (s x:Operand) (t e:TypeId) (ho:o.op=.call { callee:=.builtin .append,args:=#[s,x],argTypes:=#[t,t] })
  (i:TypeInfo) (ht:prog.underlying t=some (.slice e)) (hi:prog.info? e=some i) (hz:i.zero=some (.int .u8 0)) (hs:i.size=1) (hb:i.bytes=1)
  (b off n:Nat) (l1 l2:List Int) (es:a.eval s=.slice (some ⟨b,off,none⟩) n n) (h1:Rb w (.slice (some ⟨b,off,none⟩) n n) l1) (h2:Rb w (a.eval x) l2) (hl:l1.length+l2.length<=1048576)
  (h:∀ v w',Rb w' v (l1++l2)->(∃ X,w'=w.ext X)->(∀ q,v.ownBlock=some q->q=b\/w.heap.size<=q)->K (a.put o.dst v) w'):o.wp prog a w K Q:=by
 obtain ⟨v,w',hr,g1,g2,g3⟩:=pI t o.type e i ht hi hz hs hb h1 h2 hl;unfold Oper.wp execOp;simp only[ho,resolve,invoke,builtin,Sem.run_bind,Sem.run_pure,Result.andThen_ok,List.map_toArray,List.map_cons,List.map_nil,es,hr];exact h v w' g1 g2 g3
theorem aX {w:World} {ops:Array Oper} {rest:List Oper} {o:Oper} {a:Act} {Q:Exit->Act->World->Prop} (hgd:o.guard=none) (s x:Operand) (t e:TypeId) (ho:o.op=.call { callee:=.builtin .append,args:=#[s,x],argTypes:=#[t,t] })
  (i:TypeInfo) (ht:prog.underlying t=some (.slice e)) (hi:prog.info? e=some i) (hz:i.zero=some (.int .u8 0)) (hs:i.size=1) (hb:i.bytes=1)
  (b off n:Nat) (l1 l2:List Int) (es:a.eval s=.slice (some ⟨b,off,none⟩) n n) (h1:Rb w (.slice (some ⟨b,off,none⟩) n n) l1) (h2:Rb w (a.eval x) l2) (hl:l1.length+l2.length<=1048576)
  (h:∀ v w',Rb w' v (l1++l2)->(∃ X,w'=w.ext X)->(∀ q,v.ownBlock=some q->q=b\/w.heap.size<=q)->wpList prog ops Q rest (a.put o.dst v) w'):wpList prog ops Q (o::rest) a w :=
 wpList_plain hgd fun K hK=>gL s x t e ho i ht hi hz hs hb b off n l1 l2 es h1 h2 hl fun v w' g1 g2 g3=>hK _ _ (h v w' g1 g2 g3)
theorem j4 (va vb:Value) (a b:List Int) (w:World) (ha:Rb w va a) (hb:Rb w vb b) (la:a.length<=1048000) (hab:bv b<=bv a) :
  Calls prog 103 #[va,vb] w (MkB (fun l=>bv l=bv a-bv b/\l.length=a.length) w):=by
 obtain ⟨i0,hi,hz0,hz1,hz2⟩:=info_parts kX;have HA:=jj ha;have HB:=jj hb;obtain ⟨aa,acap,rfl,ac1,ac2,hcell⟩:=ha.form;obtain ⟨ba,bcap,rfl,-,-,-⟩:=hb.form;have HCL:=jj hcell;have BA:=ha.bin;have BB:=hb.bin;clear ha hb hcell
 go_enter func103,ntmps103
 go_wp2;go_loopw [5,6,7] (fun o c i wr=>∃ (v:Value) (l:List Int) (x:Int),o=v/\i=.int .i64 l.length/\c=.int .u8 x/\0<=x/\x<=1/\GB w wr v l/\Bin l/\l.length<=a.length/\bv l+bv b%2^l.length=bv a%2^l.length+x*2^l.length)
  (fun o c i _=>a.length-(intOf i).toNat)
 case atStart=>exact ⟨_,[],0,rfl,rfl,rfl,by omega,by omega,GB.nil w,Bin.nil,by simp,by simp[bv,Int.emod_one]⟩
 case round =>
  obtain ⟨v,l,x,rfl,rfl,rfl,x0,x1,G,hbin,hl,he⟩:=hrel;have HG:=jj G;have sz:=G.bel.size;have HE:=jj he;have HBN:=jj hbin;clear he hbin
  by_cases hlt:l.length<a.length
  ·have RB:=jj (HB.out.below G.bel);obtain ⟨b1,b1'⟩:=BA l.length;obtain ⟨b2,b2'⟩:=BB l.length;have st:=aF7 (x:=2+bt a l.length-bt b l.length-x) BA BB x0 x1 HE.out rfl;obtain ⟨y0,y1,q0,q1,r0,r1,se⟩:=st;have SE:=jj se;clear se;rcases HCL.out with h0|⟨b0,off,rfl,hb0,hcell⟩
   ·exfalso;simp[h0] at hlt
   have c0:=hcell l.length hlt;have c1:wr.cell? ⟨b0,off+l.length,none⟩=some (.int .u8 (bt a l.length)):=by
    obtain ⟨X,hX⟩:=G.bel.toExt;rw[hX,World.cell?_ext hb0];exact c0
   have hb1:b0<wr.heap.size:=by omega
   clear hcell c0;clear G;go_wp2;refine jy ?_
   repeat (go_big_quiet_step (((go_at_call 136;with_reducible exact Calls.quiet_ret (aOe _ _ _ _ (RB.out.ext _))))))
   refine jv fun X=>?_
   have HG2:=jj (HG.out.ext X)
   go_wp2_with (first
     |(at_builtin;refine wpList_append_lies _ rfl _ _ 99 rfl w.heap.size 5 i0 (.int .u8 0) 1 1 Tryz.underlying99 hi hz0 hz1 hz2 rfl (by decide) _ _ _ rfl (HG2.out.own.alloc _) ⟨wr.heap.size+X.sz,0,none⟩ 1 1 [.int .u8 ((2+bt a l.length-bt b l.length-x)%2)] rfl rfl (iP (by simp) _ _) (fun x hx=>by simp at hx;subst hx;rfl) (by omega) (by unfold maxLen;omega) (by omega) (by simp;omega) (wr.heap.size+X.sz+1) (by simp) ?_;intro g cap w3 hown hgrow hat hlt3;have G3:=jj (HG2.out.snoc hown hgrow);clear hown hgrow hat hlt3))
   go_roundw
   case rel=>exact ⟨_,l++[(2+bt a l.length-bt b l.length-x)%2],1-(2+bt a l.length-bt b l.length-x)/2,rfl,by simp,rfl,q0,q1,G3.out,HBN.out.snoc r0 r1,by simp;omega,by simpa using SE.out⟩
   case measure=>simp[intOf];omega
  ·have el:l.length=a.length:=by omega
   have hf:=aKh BA BB HBN.out el x0 x1 hab HE.out;clear G;go_wp2;go_ret;exact HG.out.mk' HBN.out (by omega) ⟨hf,el⟩
theorem mS (va vb:Value) (a b:List Int) (w:World) (ha:Rb w va a) (hb:Rb w vb b) :
  Calls prog 102 #[va,vb] w (Ret (.int .i64 (sgn (bv a-bv b))) w):=by
 have HA:=jj ha;have HB:=jj hb;have la:=ha.len;have lb:=hb.len;obtain ⟨aa,acap,rfl,-,-,-⟩:=ha.form;obtain ⟨ba,bcap,rfl,-,-,-⟩:=hb.form;have BA:=ha.bin;have BB:=hb.bin;clear ha hb
 go_enter func102,ntmps102
 go_wp2;go_loopw [5] (fun i wr=>∃ (j:Nat),i=.int .i64 ((j:Int)-1)/\wr=w/\j<=max a.length b.length/\bv a/2^j=bv b/2^j)
  (fun i _=>(intOf i+1).toNat)
 case atStart=>exact ⟨max a.length b.length,by simp;omega,rfl,Nat.le_refl _,by rw[jN BA (by omega),jN BB (by omega)]⟩
 case round =>
  obtain ⟨j,rfl,rfl,hj,he⟩:=hrel;cases j with
  |zero =>
   have e0:bv a=bv b:=by simpa using he
   clear he;go_wp2;go_ret;rw[e0];exact Ret.of' (by simp[sgn]) (by exact bl_)
  |succ j =>
   have ej:((j+1:Nat):Int)-1=(j:Int):=by omega
   obtain ⟨k1,k2,k3⟩:=aIg BA BB j he;obtain ⟨b1,b1'⟩:=BA j;obtain ⟨b2,b2'⟩:=BB j;rw[ej];rcases Int.lt_trichotomy (bt a j) (bt b j) with h|h|h
   ·have hs:=aMu (z:=bv a-bv b) (by have:=k1 h;omega);have d:(bt a j != bt b j)=true:=by simp;omega
    have ea:bt a j=0:=by omega
    have eb:bt b j=1:=by omega
    rw[hs];have CA:=jj (fY _ _ j _ HA.out);have CB:=jj (fY _ _ j _ HB.out);rw[ea] at CA d;rw[eb] at CB d;clear k1 k2 k3 he h hs
    go_wp2_with (first
     |(go_at_call 136;(with_reducible refine CA.out.mono ?_);rintro _ w4_ ⟨rfl,h4_⟩;obtain rfl:=h4_.symm)
     |(go_at_call 136;(with_reducible refine CB.out.mono ?_);rintro _ w4_ ⟨rfl,h4_⟩;obtain rfl:=h4_.symm))
    go_ret;exact Ret.of' (by simp) (by exact bl_)
   ·have d:(bt a j != bt b j)=false:=by simp[h]
    have hn:=k3 h;have CA:=jj (fY _ _ j _ HA.out);have CB:=jj (fY _ _ j _ HB.out);clear k1 k2 k3 he h
    go_wp2_with (first
     |(go_at_call 136;(with_reducible refine CA.out.mono ?_);rintro _ w4_ ⟨rfl,h4_⟩;obtain rfl:=h4_.symm)
     |(go_at_call 136;(with_reducible refine CB.out.mono ?_);rintro _ w4_ ⟨rfl,h4_⟩;obtain rfl:=h4_.symm))
    go_roundw
    case rel=>exact ⟨j,rfl,by first|rfl|trivial,by omega,hn⟩
    case measure=>(simp[intOf])<;>omega
   ·have hs:=aMt (z:=bv a-bv b) (by have:=k2 h;omega);have d:(bt a j != bt b j)=true:=by simp;omega
    have ea:bt a j=1:=by omega
    have eb:bt b j=0:=by omega
    rw[hs];have CA:=jj (fY _ _ j _ HA.out);have CB:=jj (fY _ _ j _ HB.out);rw[ea] at CA d;rw[eb] at CB d;clear k1 k2 k3 he h hs
    go_wp2_with (first
     |(go_at_call 136;(with_reducible refine CA.out.mono ?_);rintro _ w4_ ⟨rfl,h4_⟩;obtain rfl:=h4_.symm)
     |(go_at_call 136;(with_reducible refine CB.out.mono ?_);rintro _ w4_ ⟨rfl,h4_⟩;obtain rfl:=h4_.symm))
    go_ret;exact Ret.of' (by simp) (by exact bl_)
end
section
def RN (w:World) (v:Value) (z:Int) (n:Nat):Prop:=∃ m sv l,v=.agg #[.bool m,sv]/\Rb w sv l/\Can l/\(m=true->bv l≠0)/\z=pmv (bv l) m/\l.length<=n
theorem RN.ext {w:World} {v:Value} {z:Int} {n:Nat} (h:RN w v z n) (X:Xt):RN (w.ext X) v z n:=by
 obtain ⟨m,sv,l,h1,h2,h3⟩:=h;exact ⟨m,sv,l,h1,h2.ext X,h3⟩
theorem RN.below {w w1:World} {v:Value} {z:Int} {n:Nat} (h:RN w v z n) (hb:Below w.heap.size w w1):RN w1 v z n:=by
 obtain ⟨X,rfl⟩:=hb.toExt;exact h.ext X
theorem RN.mono {w:World} {v:Value} {z:Int} {n k:Nat} (h:RN w v z n) (hk:n<=k):RN w v z k:=by
 obtain ⟨m,sv,l,h1,h2,h3,h4,h5,h6⟩:=h;exact ⟨m,sv,l,h1,h2,h3,h4,h5,Nat.le_trans h6 hk⟩
def aSp (v:Value):Prop:=∃ m a k cap,v=.agg #[.bool m,.slice a k cap]
theorem RN.form {w:World} {v:Value} {z:Int} {n:Nat} (h:RN w v z n):aSp v:=by
 obtain ⟨m,sv,l,rfl,h2,h3⟩:=h;obtain ⟨a,cap,rfl,-⟩:=h2.form;exact ⟨m,_,_,_,rfl⟩
def srN (z:Int) (n:Nat):SR gC:=⟨fun v w=>RN w v z n,fun v w w' h ⟨X,e⟩=>by subst e;exact h.ext X,aSp,.agg #[.bool false,.slice none 0 0],⟨_,_,_,_,rfl⟩,fun v w h=>h.form⟩
theorem RetR.of {R:Value->World->Prop} {w w':World} {v:Value} (h:R v w') (hb:Below w.heap.size w w'):RetR R w (.returned v) w':=⟨v,rfl,h,hb.toExt⟩
theorem Rb.take {w:World} {a:Option Addr} {cap:Nat} {l:List Int} {k:Nat} (h:Rb w (.slice a l.length cap) l) (hk:k<=l.length) (hb:Bin (l.take k)):Rb w (.slice a k cap) (l.take k):=by
 obtain ⟨h0,h1,a',cap',e,h2,h3,h4⟩:=h;cases e
 refine ⟨hb,by rw[List.length_take];omega,a,cap,by rw[List.length_take,Nat.min_eq_left hk],by rw[List.length_take];omega,h3,?_⟩;rcases h4 with rfl|⟨b,off,rfl,hlt,hc⟩
 ·left;simp
 ·refine .inr ⟨b,off,rfl,hlt,fun i hi=>?_⟩;simp only[List.length_take] at hi;rw[hc i (by omega)];simp only[bt,List.getD_eq_getElem?_getD,List.getElem?_take,if_pos (show i<k by omega)]
theorem cY (m:Bool) (sv:Value) (l:List Int) (w:World) (hl:Rb w sv l):Calls prog 100 #[.agg #[.bool m,sv]] w (RetR (fun v w=>RN w v (pmv (bv l) m) l.length) w):=by
 obtain ⟨i0,hi,hz0,hz1,hz2⟩:=info_parts kX;have HL:=jj hl;have BL:=hl.bin;have ll:=hl.len;obtain ⟨a0,cap0,rfl,-,-,-⟩:=hl.form;clear hl
 go_enter func100,ntmps100
 go_wp2_with (first
  |(at_builtin;refine aX rfl _ _ 99 5 rfl i0 Tryz.underlying99 hi hz0 hz1 hz2 (w.heap.size+2) 0 0 [] l rfl ⟨Bin.nil,by simp,_,0,rfl,by simp,by simp[maxLen],.inl rfl⟩ (((HL.out.alloc _).alloc _).alloc _) (by simp;omega) ?_;rintro v1 _ g1 ⟨X1,rfl⟩ g2))
 rw[List.nil_append] at g1;refine aE (F:=fun wx=>Row wx w.heap.size #[.bool m,.slice a0 l.length cap0] 101/\Row wx (w.heap.size+1) #[.bool false,.slice none 0 0] 101/\Below w.heap.size w wx/\Rb wx v1 l/\∀ q,v1.ownBlock=some q->¬q=w.heap.size+1) ⟨?_,?_,?_,g1,fun q hq=>by rcases g2 q hq with h|h<;>first|omega|(simp at h;omega)⟩ ?_
 ·exact rx_
 ·exact rx_
 ·exact bl_
 clear g1 g2 X1;intro wx ⟨R0,R1,BW,RV,OW⟩;have sz0:=R0.lt;have sz1:=R1.lt;have c0:=R0.cell 0;have c1:=R0.cell 1;simp at c0 c1;have f10:=R1.frozen 0;have f11:=R1.frozen 1;have d10:=R1.cell 0;have d11:=R1.cell 1;simp at d10 d11;obtain ⟨a1,cap1,rfl,cl1,cl2,HC⟩:=RV.form;have HRV:=jj RV;have HOW:=jj OW;have HCL:=jj HC;have HBW:=jj BW;have HR1:=jj R1;clear RV HC R0 R1 OW;go_loopw [3] (fun b wr=>∃ (k:Nat),b=.slice a1 k cap1/\wr=wx/\k<=l.length/\bv (l.take k)=bv l/\Bin (l.take k))
  (fun b _=>match b with | .slice _ k _=>k|_=>0)
 case atStart=>exact ⟨l.length,rfl,rfl,Nat.le_refl _,by rw[List.take_length],by rw[List.take_length];exact BL⟩
 case round =>
  obtain ⟨k,rfl,rfl,hk,hv,hb⟩:=hrel
  -- what is returned
  have fin:∀ (c:Bool),c=(m&&decide (0<k))->(0<k->bt l (k-1)=1)->∀ w2,w2=(wr.setCell ⟨w.heap.size+1,0,none⟩ (.bool c)).setCell ⟨w.heap.size+1,1,none⟩ (.slice a1 k cap1)->RetR (fun v w=>RN w v (pmv (bv l) m) l.length) w (.returned (.agg #[.bool c,.slice a1 k cap1])) w2:=by
   intro c hc h1 w2 hw2;have hkl:(l.take k).length=k:=by rw[List.length_take];omega
   have can:Can (l.take k):=⟨hb,fun h=>by
    rw[hkl] at h ⊢;have:=h1 h;rw[<-this];simp only[bt,List.getD_eq_getElem?_getD,List.getElem?_take,if_pos (show k-1<k by omega)]⟩
   have cz:=can.zero;rw[hkl,hv] at cz;refine RetR.of ⟨c,_,l.take k,rfl,?_,can,fun h=>?_,?_,by rw[hkl];exact hk⟩ ?_
   ·rw[hw2];refine ((HRV.out.take hk hb).chg (Chg.one _ _ _ _) ?_).chg (Chg.one _ _ _ _) ?_
    ·exact fun q hq=>HOW.out q (by cases a1<;>exact hq)
    ·exact fun q hq=>HOW.out q (by cases a1<;>exact hq)
   ·rw[hv,ne_eq,cz];rw[hc] at h;simp at h;omega
   ·rw[hv,hc];unfold pmv
    by_cases hk0:0<k
    ·simp[hk0]
    ·have:=cz.2 (by omega);rw[this];simp
   ·rw[hw2];exact Below.setCell (Below.setCell HBW.out (by simp) _) (by simp) _
  have FIN:=jj fin;clear fin;cases k with
  |zero =>
   clear hv hb;cases m
   all_goals
    go_wp2;refine bodyPost_ret (v:=.agg #[.bool false,.slice a1 0 cap1]) (by simp[results,results100,go_sem,d10,d11,f10,f11]) rfl (FIN.out _ (by simp) (by omega) _ rfl)
  |succ k =>
   rcases HCL.out with hz|⟨b1,off,rfl,hlt,hcell⟩
   ·simp[hz] at hk
   have hc:=hcell k (by omega);have e1:((k+1:Nat):Int)=(k:Int)+1:=by omega
   obtain ⟨b01,b02⟩:=BL k;clear hcell
   by_cases hbt:bt l k=0
   ·have d:(bt l k==0)=true:=by simp[hbt]
    obtain ⟨tv,tb⟩:=uP (l:=l.take (k+1)) hb (k:=k) (by rw[List.length_take];omega) (by simp only[bt,List.getD_eq_getElem?_getD,List.getElem?_take,if_pos (show k<k+1 by omega)];simpa [bt] using hbt) (by rw[List.length_take];omega);rw[List.take_take,Nat.min_eq_left (by omega)] at tv tb;clear hbt;go_wp2;go_roundw
    case rel=>exact ⟨k,by simp,by first|rfl|trivial,by omega,tv.trans hv,tb⟩
    case measure=>(simp)<;>omega
   ·have d:(bt l k==0)=false:=by simp[hbt]
    cases m
    all_goals
     go_wp2;refine bodyPost_ret (v:=.agg #[.bool _,.slice _ _ cap1]) (by simp[results,results100,go_sem,d10,d11,f10,f11];first|done|exact ⟨rfl,rfl⟩|rfl) rfl (FIN.out _ (by simp) (fun _=>by simp;omega) _ rfl)
end
section
theorem RN.alloc {w:World} {v:Value} {z:Int} {n:Nat} (h:RN w v z n) (o:Obj):RN (w.alloc o) v z n:=by
 obtain ⟨m,sv,l,h1,h2,h3⟩:=h;exact ⟨m,sv,l,h1,h2.alloc o,h3⟩
theorem RN.drew {w:World} {v:Value} {z:Int} {n:Nat} (h:RN w v z n):RN w.drew v z n:=by
 obtain ⟨m,sv,l,h1,h2,h3⟩:=h;exact ⟨m,sv,l,h1,h2.drew,h3⟩
theorem Rb.chg2 {w w1:World} {v x y:Value} {l:List Int} {p:Nat} {T:TypeId} (h:Rb w v l) (hr:Row w p #[x,y] T) (hx:∀ d,x≠.int .u8 d) (hy:∀ d,y≠.int .u8 d) (C:Chg (fun j=>j=p) w w1):Rb w1 v l:=by
 obtain ⟨h0,h1,a,cap,rfl,h2,h3,h4⟩:=h;refine ⟨h0,h1,a,cap,rfl,h2,h3,?_⟩;rcases h4 with h4|⟨b,off,rfl,hlt,hc⟩
 ·exact .inl h4
 ·by_cases hl:l=[]
  ·exact .inl hl
  ·have hpos:0<l.length:=List.length_pos_iff.2 hl;have hne:b≠p:=fun e=>by
    subst e;have c0:=hc 0 hpos;rw[Nat.add_zero,hr.cell off] at c0;rcases off with _|_|off
    ·simp at c0;exact hx _ c0
    ·simp at c0;exact hy _ c0
    ·simp at c0
   refine .inr ⟨b,off,rfl,Nat.lt_of_lt_of_le hlt C.size,fun i hi=>?_⟩;rw[C.cell hlt hne];exact hc i hi
theorem aK4 {W:World} {o o':Obj} {X:Xt}:Chg (fun j=>j=W.heap.size) ((W.alloc o).ext X) ((W.alloc o').ext X) :=
 ⟨rfl,rfl,rfl,by simp,fun k hk hne=>by
  simp only[World.ext,World.alloc,Array.getElem?_append,Array.size_push,Array.getElem?_push,if_neg hne]⟩
theorem tU {w0 w1 w2:World} {p:Nat} {m' x:Bool} {sv' y:Value} {z:Int} {n n':Nat} {T:TypeId} (h:RN w1 (.agg #[.bool m',sv']) z n) (hr:Row w1 p #[.bool x,y] T) (hy:∀ d,y≠.int .u8 d) (C:Chg (fun j=>j=p) w1 w2) (hb:Below w0.heap.size w0 w2) (hn:n<=n') :
  RetR (fun v w=>RN w v z n') w0 (.returned (.agg #[.bool m',sv'])) w2:=by
 refine RetR.of (RN.mono (n:=n) ?_ hn) hb;obtain ⟨m,sv,l,e,h2,h3⟩:=h;exact ⟨m,sv,l,e,h2.chg2 hr (fun d=>by simp) hy C,h3⟩
theorem mK {w0 W:World} {m' m2 x:Bool} {sv' sv2:Value} {z:Int} {n n':Nat} {T:TypeId} {X:Xt} (h:RN ((W.alloc (.cells #[.bool x,.slice none 0 0] T)).ext X) (.agg #[.bool m',sv']) z n) (hb:Below w0.heap.size w0 W) (hn:n<=n') :
  RetR (fun v w=>RN w v z n') w0 (.returned (.agg #[.bool m',sv'])) ((W.alloc (.cells #[.bool m2,sv2] T)).ext X) :=
 tU h (p:=W.heap.size) (x:=x) (y:=.slice none 0 0) (T:=T) (Row.ext (dC rfl) X) (fun d=>by simp) aK4 (Below.ext (Below.alloc hb hb.size _) (by simp;have:=hb.size;omega) X) hn
def aO6 (B:Nat) (c:Array Value) (T:TypeId):SR gC:=⟨fun v w=>∃ p,v=.pointer (some ⟨p,0,none⟩)/\B<=p/\Row w p c T,fun v w w' ⟨p,h1,h2,h3⟩ ⟨X,e⟩=>by subst e;exact ⟨p,h1,h2,h3.ext X⟩,fun v=>∃ p,v=.pointer (some ⟨p,0,none⟩),.pointer (some ⟨0,0,none⟩),⟨0,rfl⟩,fun v w ⟨p,h1,_⟩=>⟨p,h1⟩⟩
theorem aSk {w:World} {B n:Nat} {c:Array Value} {T:TypeId} (hn:w.heap.size=n) (h:B<=n):(aO6 B c T).R (.pointer (some ⟨n,0,none⟩)) (w.alloc (.cells c T)):=⟨n,rfl,h,dC hn⟩
theorem aNi {w:World} {o:Obj}:∃ X,w.alloc o=w.ext X:=(Below.alloc (Below.refl _ _) (Nat.le_refl _) _).toExt
def aD4 (l:List Int):SR gC:=⟨fun v w=>(∃ g,v=.slice (some ⟨g,0,none⟩) l.length l.length)/\Rb w v l,fun v w w' ⟨h1,h2⟩ ⟨X,e⟩=>by subst e;exact ⟨h1,h2.ext X⟩,fun v=>∃ g,v=.slice (some ⟨g,0,none⟩) l.length l.length,.slice (some ⟨0,0,none⟩) l.length l.length,⟨0,rfl⟩,fun v w h=>h.1⟩
theorem aLr {w:World} {g:Nat} {l:List Int} {T:TypeId} (h:Row w g (l.map (Value.int .u8)).toArray T) (hb:Bin l) (hl:l.length<=1048576):Rb w (.slice (some ⟨g,0,none⟩) l.length l.length) l :=
 ⟨hb,hl,_,l.length,rfl,Nat.le_refl _,by unfold maxLen;omega,.inr ⟨g,0,rfl,h.lt,fun i hi=>by
  rw[Nat.zero_add,h.cell i];simp[bt,hi]⟩⟩
theorem Rb.cell {w:World} {b off n cap i:Nat} {l:List Int} (h:Rb w (.slice (some ⟨b,off,none⟩) n cap) l) (hi:i<l.length):w.cell? ⟨b,off+i,none⟩=some (.int .u8 (bt l i))/\b<w.heap.size:=by
 obtain ⟨h0,h1,a,cap',e,h2,h3,h4⟩:=h;rcases h4 with rfl|⟨b',off',rfl,hb,hc⟩
 ·simp at hi
 ·cases e
  exact ⟨hc i hi,hb⟩
theorem chg_two {w:World} {p:Nat} {u v:Value}:Chg (fun j=>j=p) w ((w.setCell ⟨p,0,none⟩ u).setCell ⟨p,1,none⟩ v):=(Chg.one w p 0 u).trans (Chg.one _ p 1 v)
theorem Chg.both {p:Nat->Prop} {w w1:World} (C:Chg p w w1) (hs:w1.heap.size=w.heap.size) (X:Xt):Chg p (w.ext X) (w1.ext X) :=
 ⟨C.os,C.tape,C.output,by simp[hs],fun k hk hp=>by
  simp only[World.ext,Array.getElem?_append,hs]
  split
  ·exact C.block k (by assumption) hp
  ·rfl⟩
theorem Chg.bothA {p:Nat->Prop} {w w1:World} (C:Chg p w w1) (hs:w1.heap.size=w.heap.size) (o:Obj):Chg p (w.alloc o) (w1.alloc o) :=
 ⟨C.os,C.tape,C.output,by simp[World.hp_alloc,hs],fun k hk hp=>by
  simp only[World.hp_alloc,Array.getElem?_push,hs]
  split
  ·rfl
  ·rw[World.hp_alloc,Array.size_push] at hk;exact C.block k (by omega) hp⟩
theorem dB (w:World) (a:Addr) (v:Value):(w.setCell a v).heap.size=w.heap.size:=by simp[World.setCell]
theorem vO (w:World) (t e:TypeId) (i:TypeInfo) (ht:prog.underlying t=some (.slice e)) (hi:prog.info? e=some i) (hz:i.zero=some (.int .u8 0)) (hs:i.size=1) (hb:i.bytes=1) (he:e=5) (n:Nat) (hn:n<=100000) :
  ∃ w',(Instr.makeSlice t (.int .i64 (n:Int)) (.int .i64 (n:Int))).run prog w=.ok (.slice (some ⟨w.heap.size,0,none⟩) n n) w'/\(aD4 (List.replicate n 0)).R (.slice (some ⟨w.heap.size,0,none⟩) n n) w'/\∃ X,w'=w.ext X:=by
 subst he;obtain ⟨w',h1,h2,h3⟩:=run_makeSlice_full (P:=prog) w 0 t 5 i _ 1 ht hi hz hs .i64 .i64 n (by omega) (by rw[hb];omega) (by unfold maxLen;omega) (by omega);refine ⟨w',h1,⟨⟨w.heap.size,by simp⟩,?_⟩,?_⟩
 ·refine aLs (base:=0) (n:=n) (fun i=>?_) (by simp;omega) ?_
  ·unfold bt;rw[List.getD_eq_getElem?_getD,List.getElem?_replicate];split<;>decide
  ·have e:(madeCells (Value.cells (.int .u8 0)) (n*1)).toList=(List.replicate n (0:Int)).map (Value.int .u8):=by
    apply List.ext_getElem
    ·simp[madeCells]
    ·intro j g1 g2;simp only[madeCells,Array.toList_map,List.getElem_map,List.getElem_replicate];show (#[Value.int .u8 0]:Array Value)[_%1]! = _
     rw[Nat.mod_one];rfl
   rw[<-e];exact h2
 ·exact (Below.grown (Below.refl _ _) h3 (Nat.le_refl _) (fun k hk=>by cases hk)).toExt
theorem tO (w:World) (t e:TypeId) (i:TypeInfo) (ht:prog.underlying t=some (.slice e)) (hi:prog.info? e=some i) (hz:i.zero=some (.int .u8 0)) (hs:i.size=1) (hb:i.bytes=1) (he:e=5) :
  ∃ X:Xt,(Instr.makeSlice t (.int .i64 128) (.int .i64 128)).run prog w=.ok (.slice (some ⟨w.heap.size,0,none⟩) 128 128) (w.ext X)/\Rb (w.ext X) (.slice (some ⟨w.heap.size,0,none⟩) 128 128) (List.replicate 128 0):=by
 obtain ⟨w',h1,h2,X,rfl⟩:=vO w t e i ht hi hz hs hb he 128 (by decide);exact ⟨X,h1,h2.2⟩
theorem aAl {w:World} {n:Nat} {T:TypeId} (hn:w.heap.size=n):Rb (w.alloc (.cells #[.int .u8 1] T)) (.slice (some ⟨n,0,none⟩) 1 1) [1] :=
 aLr (l:=[1]) (T:=T) (dC hn) (Bin.nil.cons (by decide) (by decide)) (by decide)
theorem aEy {w:World} {n:Nat} {T:TypeId} {b:Int} (h0:0<=b) (h1:b<=1) (hn:w.heap.size=n):Rb (w.alloc (.cells #[.int .u8 b] T)) (.slice (some ⟨n,0,none⟩) 1 1) [b] :=
 aLr (l:=[b]) (T:=T) (dC hn) (Bin.nil.cons h0 h1) (by simp)
theorem aDg {ops:Array Oper} {rest:List Oper} {a:Act} {Q:Exit->Act->World->Prop} {w:World} (F:World->Prop) (hF:F w) (h:∀ wx,F wx->wpList prog ops Q rest a wx):wpList prog ops Q rest a w:=h _ hF
theorem aNe {U:Int} {m:Bool}:pmv U (!m)=-pmv U m:=by cases m<;>simp[pmv]
theorem lW (v:Value) (z:Int) (n:Nat) (w:World) (hv:RN w v z n):Calls prog 104 #[v] w (RetR (fun v w=>RN w v (-z) n) w):=by
 obtain ⟨m,sv,l,rfl,hl,hcan,-,rfl,hn⟩:=hv;have HA:=jj hl;have HB:=jj hl;obtain ⟨a,cap,rfl,-⟩:=hl.form;clear hl
 go_enter func104,ntmps104
 go_wp2_with (first
  |(go_at_call 100;(with_reducible refine (cY (!m) (.slice a l.length cap) l _ ?_).mono ?_);(repeat (first|assumption|exact HA.out|exact HB.out|with_reducible refine Rb.ext ?_ _|with_reducible refine Rb.alloc ?_ _|with_reducible refine Rb.drew ?_));rintro _ _ ⟨v1,rfl,h1,⟨X,rfl⟩⟩;obtain ⟨m1,a1,k1,c1,rfl⟩:=h1.form;have H1:=jj h1;clear h1))
 refine bodyPost_ret (v:=.agg #[.bool m1,.slice a1 k1 c1]) (by simp[results,results104,go_sem]) rfl ?_;rw[<-aNe];exact mK H1.out (by exact bl_) hn
theorem aI1 (m:Bool) (va vb:Value) (a b:List Int) (w:World) (ha:Rb w va a) (hb:Rb w vb b) (la:a.length<=1048000) (lb:b.length<=1048000) :
  Calls prog 59 #[.agg #[.bool m,va],.agg #[.bool m,vb]] w (RetR (fun v w=>RN w v (pmv (bv a+bv b) m) (max a.length b.length+1)) w):=by
 have HA:=jj ha;have HB:=jj hb;obtain ⟨aa,acap,rfl,-⟩:=ha.form;obtain ⟨ba,bcap,rfl,-⟩:=hb.form;clear ha hb
 go_enter func59,ntmps59
 go_wp2;refine aJ 9 [none,none,none,none,none,none,some ([],srQ fun l=>bv l=bv a+bv b/\l.length<=max a.length b.length+1),none,some ([6],srN (pmv (bv a+bv b) m) (max a.length b.length+1))] (by kernel_rfl) (by kernel_rfl) ?_;simp only[jx]
 (repeat (first|(refine aA ?_;intro K_ hK_;go_big_quiet_op;go_big_quiet_on)|simp only[jw]))
 refine aF rfl (fun w_ hw_ hk_ K_ hK_=>?_) (fun v17 f17=>?_)
 ·obtain ⟨X_,rfl⟩:=hw_;go_simp
  go_at_call 101
  refine (aAt _ _ _ _ _ (by (repeat (first|assumption|exact HA.out|exact HB.out|with_reducible refine Rb.ext ?_ _|with_reducible refine Rb.alloc ?_ _|with_reducible refine Rb.drew ?_))) (by (repeat (first|assumption|exact HA.out|exact HB.out|with_reducible refine Rb.ext ?_ _|with_reducible refine Rb.alloc ?_ _|with_reducible refine Rb.drew ?_))) la lb).mono ?_;rintro _ _ ⟨v,rfl,h1,h2⟩;exact hK_ _ _ h1 h2
 obtain ⟨a17,k17,c17,rfl⟩:=f17
 (repeat (first|(refine aA ?_;intro K_ hK_;go_big_quiet_op;go_big_quiet_on)|simp only[jw]))
 refine aF rfl (fun w_ hw_ hk_ K_ hK_=>?_) (fun v19 f19=>?_)
 ·obtain ⟨X_,rfl⟩:=hw_;obtain ⟨l,h1,h2,h3⟩:=(hk_ (6,_) (by repeat (first|exact List.mem_cons_self|refine jk ?_))) (by simp);go_simp
  go_at_call 100
  refine (cY _ _ l _ h1).mono ?_;rintro _ _ ⟨v,rfl,h4,h5⟩;rw[h2] at h4;exact hK_ _ _ (RN.mono h4 h3) h5
 refine aT ?_;intro w_ hw_ k;obtain ⟨X,rfl⟩:=hw_;have h1:=(k (8,_) (by repeat (first|exact List.mem_cons_self|refine jk ?_)));obtain ⟨m1,a1,k1,c1,rfl⟩:=RN.form h1;have H1:=jj h1;clear h1 k;go_wp2;refine bodyPost_ret (v:=.agg #[.bool m1,.slice a1 k1 c1]) (by simp[results,results59,go_sem]) rfl ?_;exact mK H1.out (by exact bl_) (Nat.le_refl _)
end
end Go.Proofs.YthcjfanigfgckaaGreat
