import Derived.Test.YthcjfanigfgckaaGreatSHiddenOrder12
set_option linter.unusedVariables false
set_option linter.unusedSimpArgs false
set_option maxRecDepth 100000
set_option maxHeartbeats 16000000
namespace Go.Proofs.YthcjfanigfgckaaGreat
open Go.RowKit
section
section
section
variable {w wr:World} {W:Way} {p Bw Bo:Nat} {x0 y0 x1 y1:Int} {v:Value} {L:List St}
theorem Wi.grown {w':World} (h:Wi w wr W p Bw Bo x0 y0 x1 y1 v L) (hb:Below wr.heap.size wr w'):Wi w w' W p Bw Bo x0 y0 x1 y1 v L:=by
 obtain ⟨X,rfl⟩:=hb.toExt;exact h.grow X
theorem Wi.put (h:Wi w wr W p Bw Bo x0 y0 x1 y1 v L) {b:Nat} {c:Array Value} {T:TypeId} (hr:Row wr b c T) (hT:T≠228) (hb:w.heap.size+3<=b) (h1:b≠p) (h2:b≠Bw) (h3:b≠Bo) (k:Nat) (u:Value) :
  Wi w (wr.setCell ⟨b,k,none⟩ u) W p Bw Bo x0 y0 x1 y1 v L:=by
 refine ⟨h.hp,h.hw,h.ho,h.n1,h.n2,h.n3,h.way.other (Ne.symm h1) _ _,h.bw.other (Ne.symm h2) _ _,h.bo.other (Ne.symm h3) _ _,h.br.other (by omega) _ _,?_,World.setCell_new h.ext (by omega)⟩;exact h.own.kept (row:=some b) ⟨rfl,rfl,rfl,by simp[World.setCell],fun k' _ hk=>Below.heap_setCell _ _ _ k' (fun e=>hk (by rw[e]))⟩ (.inr (row_not_own hr hT h.own).symm)
theorem row_ne {b j:Nat} {c:Array Value} {T:TypeId} {o:Obj} (hr:Row wr b c T) (hl:wr.heap[j]?=some o) (ho:o.isCells=false):b≠j:=by
 intro e;subst e
 rw[show wr.heap[b]?=_ from hr] at hl;cases hl;cases ho
theorem Row.put2 {wr:World} {j b:Nat} {o o':Obj} {c:Array Value} {T:TypeId} (h:Row wr b c T) (hl:wr.heap[j]?=some o) (ho:o.isCells=false):Row (wr.putObj j o') b c T:=h.putObj (row_ne h hl ho)
theorem Wi.putObj (h:Wi w wr W p Bw Bo x0 y0 x1 y1 v L) {j:Nat} {o:Obj} (o':Obj) (hj:w.heap.size<=j) (hl:wr.heap[j]?=some o) (ho:o.isCells=false):Wi w (wr.putObj j o') W p Bw Bo x0 y0 x1 y1 v L:=by
 refine ⟨h.hp,h.hw,h.ho,h.n1,h.n2,h.n3,Row.put2 h.way hl ho,Row.put2 h.bw hl ho,Row.put2 h.bo hl ho,Row.put2 h.br hl ho,ownsRow_putObj h.own o' hl ho,?_⟩;have hc:Chg (fun k=>k=j) wr (wr.putObj j o'):=⟨rfl,rfl,rfl,by simp,fun k hk hp=>World.putObj_heap_other hp⟩;exact jz (h.below.trans (hc.below (fun k hk=>by omega) h.size))
end
theorem keeps_ext (w:World) (X:Xt):KeepsOthers w (w.ext X):=⟨by simp,fun k o h _=>(World.heap_ext (Array.getElem?_eq_some_iff.1 h).1).trans h⟩
section
variable {w wr w1:World} {W:Way} {p Bw Bo Bk B1 B2 B3:Nat} {x0 y0 x1 y1:Int} {v v':Value} {L:List St}
theorem Wi.keeps (h:Wi w wr W p Bw Bo x0 y0 x1 y1 v L) {o:Obj} (hg:(wr.alloc o).grownBy w1 v.ownBlock):KeepsOthers wr w1:=by
 refine (KeepsOthers.alloc wr o).trans (KeepsOthers.of_grownBy hg fun j o' ej hj=>?_);rcases (h.own.alloc o).2 with ⟨rfl,_⟩|⟨g,cap,cur,rfl,_,hgb,_⟩
 ·simp[Value.ownBlock] at ej
 ·obtain rfl:g=j:=by simpa [Value.ownBlock] using ej
  rw[hgb] at hj;cases hj;rfl
theorem Wi.more (h:Wi w wr W p Bw Bo x0 y0 x1 y1 v L) {kv m u:Int} {s:St} {o:Obj} (q1:Row wr Bk #[.int .i64 kv] 3) (q2:Row wr B1 #[.pointer (some ⟨p,0,none⟩)] 249) (q3:Row wr B2 #[.int .i64 u] 3) (q4:Row wr B3 #[.int .i64 m] 3)
  (n1:Bk≠Bo) (n2:B1≠Bo) (n3:B2≠Bo) (n4:B3≠Bo)
  (hown:w1.ownsRow w.heap.size 228 3 v' (L.length+1) (L.flatMap St.cells++s.cells)) (hg:(wr.alloc o).grownBy w1 v.ownBlock) :
  (Row w1 Bo #[v] 224/\Row w1 Bk #[.int .i64 kv] 3/\Row w1 B2 #[.int .i64 u] 3)/\(Wi w (w1.setCell ⟨Bo,0,none⟩ v') W p Bw Bo x0 y0 x1 y1 v' (L++[s])/\Row (w1.setCell ⟨Bo,0,none⟩ v') Bk #[.int .i64 kv] 3/\Row (w1.setCell ⟨Bo,0,none⟩ v') B1 #[.pointer (some ⟨p,0,none⟩)] 249/\Row (w1.setCell ⟨Bo,0,none⟩ v') B2 #[.int .i64 u] 3/\Row (w1.setCell ⟨Bo,0,none⟩ v') B3 #[.int .i64 m] 3)/\KeepsOthers wr (w1.setCell ⟨Bo,0,none⟩ v'):=by
 obtain ⟨a1,a2⟩:=h.snoc hown hg;have r1:=(q1.alloc o).kept hg (row_not_own q1 (by decide) h.own);have r2:=(q2.alloc o).kept hg (row_not_own q2 (by decide) h.own);have r3:=(q3.alloc o).kept hg (row_not_own q3 (by decide) h.own);have r4:=(q4.alloc o).kept hg (row_not_own q4 (by decide) h.own);exact ⟨⟨a1,r1,r3⟩,⟨a2,r1.other n1 _ _,r2.other n2 _ _,r3.other n3 _ _,r4.other n4 _ _⟩,(h.keeps hg).trans (KeepsOthers.setCell _ _ _)⟩
end
def WiL (w:World) (W:Way) (p Bw Bo Bk B1 B2 B3:Nat) (x0 y0 x1 y1 m e lo:Int) (k:Nat) (wr:World):Prop :=
 ∃ v,Wi w wr W p Bw Bo x0 y0 x1 y1 v (W.headL x0 y0 x1 y1++W.loopL x0 y0 x1 y1 k)/\Row wr Bk #[.int .i64 (e+lo+(k:Int))] 3/\Row wr B1 #[.pointer (some ⟨p,0,none⟩)] 249/\(∃ u:Int,Row wr B2 #[.int .i64 u] 3)/\Row wr B3 #[.int .i64 m] 3
theorem WiL.bears {w:World} {W:Way} {p Bw Bo Bk B1 B2 B3:Nat} {x0 y0 x1 y1 m e lo:Int} (hb:w.heap.size+3<=B2) (h1:B2≠p) (h2:B2≠Bw) (h3:B2≠Bo) (h4:B2≠Bk) (h5:B2≠B1) (h6:B2≠B3) :
  Bears W p B1 B2 B3 m (WiL w W p Bw Bo Bk B1 B2 B3 x0 y0 x1 y1 m e lo):=by
 refine ⟨?_,?_,fun k w' h=>?_,fun k w' h=>?_,fun k w' h=>?_,fun k w' h=>?_⟩
 ·rintro k w' v ⟨v0,hW,hk,r1,⟨u,r2⟩,r3⟩;refine ⟨v0,hW.put r2 (by decide) hb h1 h2 h3 _ _,hk.other (Ne.symm h4) _ _,r1.other (Ne.symm h5) _ _,⟨v,?_⟩,r3.other (Ne.symm h6) _ _⟩;have:=r2.set 0 (.int .i64 v);simpa using this
 ·rintro k w' X ⟨v0,hW,hk,r1,⟨u,r2⟩,r3⟩;exact ⟨v0,hW.grow X,hk.ext X,r1.ext X,⟨u,r2.ext X⟩,r3.ext X⟩
 ·obtain ⟨v0,hW,hk,r1,⟨u,r2⟩,r3⟩:=h;exact hW.way
 ·obtain ⟨v0,hW,hk,r1,⟨u,r2⟩,r3⟩:=h;exact r1
 ·obtain ⟨v0,hW,hk,r1,⟨u,r2⟩,r3⟩:=h;exact ⟨u,r2⟩
 ·obtain ⟨v0,hW,hk,r1,⟨u,r2⟩,r3⟩:=h;exact r3
theorem WiL.next {w wr w2:World} {W:Way} {p Bw Bo Bk B1 B2 B3:Nat} {x0 y0 x1 y1 m e lo u:Int} {k:Nat} {v:Value} {L:List St} (hL:L=W.headL x0 y0 x1 y1++W.loopL x0 y0 x1 y1 (k+1))
  (hW:Wi w wr W p Bw Bo x0 y0 x1 y1 v L) (q1:Row wr Bk #[.int .i64 (e+lo+(k:Int))] 3) (q2:Row wr B1 #[.pointer (some ⟨p,0,none⟩)] 249) (q3:Row wr B2 #[.int .i64 u] 3) (q4:Row wr B3 #[.int .i64 m] 3)
  (hb:w.heap.size+3<=Bk) (h1:Bk≠p) (h2:Bk≠Bw) (h3:Bk≠Bo) (h5:B1≠Bk) (h6:B2≠Bk) (h7:B3≠Bk) (X:Xt) (hw:w2=(wr.setCell ⟨Bk,0,none⟩ (.int .i64 (e+lo+(k:Int)+1))).ext X) :
  WiL w W p Bw Bo Bk B1 B2 B3 x0 y0 x1 y1 m e lo (k+1) w2/\w2.cell? ⟨B2,0,none⟩=some (.int .i64 u)/\KeepsOthers wr w2:=by
 subst hw hL;have r2:=(q3.other h6 0 (.int .i64 (e+lo+(k:Int)+1))).ext X;refine ⟨⟨v,(hW.put q1 (by decide) hb h1 h2 h3 _ _).grow X,?_,(q2.other h5 _ _).ext X,⟨u,r2⟩,(q4.other h7 _ _).ext X⟩,r2.cell 0,(KeepsOthers.setCell _ _ _).trans (keeps_ext _ _)⟩;have:=(q1.set 0 (.int .i64 (e+lo+(k:Int)+1))).ext X;rw[show e+lo+((k+1:Nat):Int)=e+lo+(k:Int)+1 from by omega]
 simpa using this
theorem ext_self (w:World):w=w.ext ⟨#[],w.drawn⟩:=by simp[World.ext]
theorem WiL.next0 {w wr w2:World} {W:Way} {p Bw Bo Bk B1 B2 B3:Nat} {x0 y0 x1 y1 m e lo u:Int} {k:Nat} {v:Value} {L:List St} (hL:L=W.headL x0 y0 x1 y1++W.loopL x0 y0 x1 y1 (k+1))
  (hW:Wi w wr W p Bw Bo x0 y0 x1 y1 v L) (q1:Row wr Bk #[.int .i64 (e+lo+(k:Int))] 3) (q2:Row wr B1 #[.pointer (some ⟨p,0,none⟩)] 249) (q3:Row wr B2 #[.int .i64 u] 3) (q4:Row wr B3 #[.int .i64 m] 3)
  (hb:w.heap.size+3<=Bk) (h1:Bk≠p) (h2:Bk≠Bw) (h3:Bk≠Bo) (h5:B1≠Bk) (h6:B2≠Bk) (h7:B3≠Bk) (hw:w2=wr.setCell ⟨Bk,0,none⟩ (.int .i64 (e+lo+(k:Int)+1))) :
  WiL w W p Bw Bo Bk B1 B2 B3 x0 y0 x1 y1 m e lo (k+1) w2/\w2.cell? ⟨B2,0,none⟩=some (.int .i64 u)/\KeepsOthers wr w2 :=
 WiL.next hL hW q1 q2 q3 q4 hb h1 h2 h3 h5 h6 h7 _ (hw.trans (ext_self _))
theorem WiL.putObj {w:World} {W:Way} {p Bw Bo Bk B1 B2 B3:Nat} {x0 y0 x1 y1 m e lo:Int} {k:Nat} {wr:World} (h:WiL w W p Bw Bo Bk B1 B2 B3 x0 y0 x1 y1 m e lo k wr) {j:Nat} {o:Obj} (o':Obj) (hj:w.heap.size<=j) (hl:wr.heap[j]?=some o) (ho:o.isCells=false) :
  WiL w W p Bw Bo Bk B1 B2 B3 x0 y0 x1 y1 m e lo k (wr.putObj j o'):=by
 obtain ⟨v0,hW,hk,r1,⟨u,r2⟩,r3⟩:=h;exact ⟨v0,hW.putObj o' hj hl ho,Row.put2 hk hl ho,Row.put2 r1 hl ho,⟨u,Row.put2 r2 hl ho⟩,Row.put2 r3 hl ho⟩
theorem zip_fold {t:Array Value} {p1 p2:Nat} {x y:Value}:(#[p1,p2].zip #[x,y]).foldl (fun t (p,v)=>t.setIfInBounds p v) t=(t.setIfInBounds p1 x).setIfInBounds p2 y:=by simp
theorem wpIn_range_from2 {W:Way} (ok:W.Ok) (hdu:0<W.du) (hσ:W.dv*W.step=W.bv-W.av) {p B1 B2 B3 n:Nat} (N:Nat) (u0 m:Int) (m0:0<=m) (m1:m<=8388608)
  (ub:∀ k:Int,0<=k->k<=m->-8388600<=u0+k*W.step/\u0+k*W.step<=8388600)
  (n1:B2≠p) (n2:B2≠B1) (n3:B2≠B3)
  {g:Operand} {p1 p2:Tmp} {assign body:Code} {Q:Exit->Act->World->Prop} {a:Act} {w:World}
  (hg:a.eval g=.func (.func 251) #[] #[.pointer (some ⟨B1,0,none⟩),.pointer (some ⟨B2,0,none⟩),.pointer (some ⟨B3,0,none⟩)])
  (hB:p<w.heap.size/\B1<w.heap.size/\B2<w.heap.size/\B3<w.heap.size)
  (I:Nat->World->Prop) (hI:Bears W p B1 B2 B3 m I)
  (hput:∀ k W' j o o',w.heap.size<=j->W'.heap[j]?=some o->o.isCells=false->I k W'->I k (W'.putObj j o'))
  (h0:I 0 w) (hu:w.cell? ⟨B2,0,none⟩=some (.int .i64 u0)) (s t:Nat)
  (hassign:∀ (l:Nat) (u v:Int) (W':World) (K:Act->World->Prop),K { tmps:=((((a.tmps.setIfInBounds p1 (.int .i64 u)).setIfInBounds p2 (.int .i64 v)).setIfInBounds s (.int .i64 u)).setIfInBounds t (.int .i64 v)),defers:=[] } W' ->
   assign.wpIn (Fence.wide.inRound l) N Tryz.prog (Exit.then K (fun _ _ _=>False)) { tmps:=(a.tmps.setIfInBounds p1 (.int .i64 u)).setIfInBounds p2 (.int .i64 v),defers:=[] } W')
  (hbody:∀ (l:Nat) (k:Nat) (W':World) (u v:Int),u=u0+(k:Int)*W.step->v=W.across u->I k W'->(k:Int)<m->body.wpIn (Fence.wide.inRound l) N Tryz.prog (fun e _ W2=>e=.normal/\KeepsOthers W' W2/\I (k+1) W2/\W2.cell? ⟨B2,0,none⟩=W'.cell? ⟨B2,0,none⟩)
   { tmps:=((((a.tmps.setIfInBounds p1 (.int .i64 u)).setIfInBounds p2 (.int .i64 v)).setIfInBounds s (.int .i64 u)).setIfInBounds t (.int .i64 v)),defers:=[] } W')
  (hdone:∀ (D:Nat) (W':World),w.heap.size<=D->I m.toNat W'->W'.heap[D]?=some (.deferred (some []))->Q .normal { a with defers:={ target:=.collected D,args:=#[] }::a.defers } W') :
  (Code.rangeFunc g #[p1,p2] assign body).wpIn Fence.wide n Tryz.prog Q a w :=
 wpIn_range_from ok hdu hσ (N:=N) u0 m m0 m1 ub n1 n2 n3 hg rfl hB I hI hput h0 hu (fun k=>{ tmps:=((((a.tmps.setIfInBounds p1 (.int .i64 (u0+(k:Int)*W.step))).setIfInBounds p2 (.int .i64 (W.across (u0+(k:Int)*W.step)))).setIfInBounds s (.int .i64 (u0+(k:Int)*W.step))).setIfInBounds t (.int .i64 (W.across (u0+(k:Int)*W.step)))),defers:=[] }) (fun l k W' K hK=>by rw[zip_fold];exact hassign l _ _ W' K hK) (fun l k W' hi hk=>hbody l k W' _ _ rfl rfl hi hk) hdone
theorem dv_step (W:Way) (ax ay bx y2:Int) (hW:W=mkWay ax ay bx y2) (hl:0<W.size):W.dv*W.step=W.bv-W.av:=by
 have e:W=(mkWay0 ax ay bx y2).ended ax ay bx y2:=hW;rw[ended_eq _ rfl rfl] at e;have e1:W.au=uC (decide (turnP ax ay bx y2)) ax ay:=by rw[e];rfl
 have e2:W.bu=uC (decide (turnP ax ay bx y2)) bx y2:=by rw[e];rfl
 obtain ⟨z,hz⟩:∃ z:Int,z=(if leastC (uC (decide (turnP ax ay bx y2)) bx y2)<leastC (uC (decide (turnP ax ay bx y2)) ax ay) then 1 else 0):=⟨_,rfl⟩;have e3:W.first=leastC W.au-z:=by rw[e,hz];rfl
 have e4:W.last=leastC W.bu-z:=by rw[e,hz];rfl
 clear e hz;unfold Way.size at hl;unfold Way.dv Way.step
 by_cases c:W.bu-W.au<0
 ·have:=leastC_mono (show W.bu<=W.au by omega);rw[if_pos c,if_pos (by omega)];omega
 ·have:=leastC_mono (show W.au<=W.bu by omega);rw[if_neg c,if_neg (by omega)];omega
end
section
attribute [local go_sem] Oper.semAt_some
theorem headL_len (W:Way) (x0 y0 x1 y1:Int):(W.headL x0 y0 x1 y1).length<=1:=by
 unfold Way.headL;refine Nat.le_trans (List.length_filter_le _ _) ?_
 split<;>simp
theorem walk_within_in (ax ay bx y2 x0 y0 x1 y1:Int) (ha:MayP ax ay) (hb:MayP bx y2) (c:¬(ax=bx/\ay=y2)) (rr:rightP x0 y0 x1 y1) (w:World):Calls Tryz.prog 192 #[P2 ax ay,P2 bx y2,R4 x0 y0 x1 y1] w (Lists w (withinL ax ay bx y2 x0 y0 x1 y1)):=by
 rw[withinL_mk ax ay bx y2 x0 y0 x1 y1 c rr];have hle:=mkWay_len ax ay bx y2;have hop:=mkWay_opn ax ay bx y2;have hdu:0<(mkWay ax ay bx y2).du:=by
  unfold mkWay;rw[ended_eq _ rfl rfl]
  have h:∀ z,0<(wayZ (decide (turnP ax ay bx y2)) (backOf ax ay bx y2) ax ay bx y2 z).du:=fun z=>Slope.pos (wayZ_good ax ay bx y2 z c)
  exact h 0
 obtain ⟨W,hW⟩:∃ W,W=mkWay ax ay bx y2:=⟨_,rfl⟩;have ok:W.Ok:=hW▸mkWay_ok ax ay bx y2 ha hb
 have HN:=jj (fun w=>show Calls Tryz.prog 224 #[P2 ax ay,P2 bx y2] w (Comes w W) from hW▸way_new ax ay bx y2 ha hb c w);rw[<-hW] at hle hop hdu ⊢;have hr:decide (rightP x0 y0 x1 y1)=true:=decide_eq_true rr;have HR:=jj (fun w=>hr▸rect_right x0 y0 x1 y1 w);have hz:=ne_bools c;have HW:=jj hW;clear c hr hW ha hb;obtain ⟨L,hL⟩:∃ L,W.headL x0 y0 x1 y1++W.loopL x0 y0 x1 y1 (W.hi x0 y0 x1 y1-W.lo x0 y0 x1 y1+1).toNat=L:=⟨_,rfl⟩;rw[hL];have HL:=jj hL;clear hL;refine (callsIn_wide (n:=9)).1 ?_;refine callsIn_of_wp_marks Tryz.func192 rfl trivial ?_ rfl;simp only[Tryz.ntmps192,List.size_toArray,List.length_cons,List.length_nil,Nat.reduceAdd,Nat.reduceSub,Array.replicate_succ,Array.replicate_zero,List.push_toArray,List.append_toArray,List.nil_append,List.cons_append];refine wpIn_wide.2 ?_;go_upto_region 1 with fail
 refine wp_abs (F:=fun w1=>Row w1 w.heap.size #[.int .i64 ax,.int .i64 ay] 181/\Row w1 (w.heap.size+1) #[.int .i64 bx,.int .i64 y2] 181/\Row w1 (w.heap.size+1+1) #[.int .i64 x0,.int .i64 y0,.int .i64 x1,.int .i64 y1] 29/\∃ X,w1=w.ext X) ⟨by exact rx_,by exact rx_,by exact rx_,jz (by exact bl_)⟩ ?_;rintro w1 ⟨ra,rb,rc,hX⟩;have ca:=ra.cell;have fa:=ra.frozen;have la:=ra.lt;have cb:=rb.cell;have fb:=rb.frozen;have lb:=rb.lt;have cc:=rc.cell;have fc:=rc.frozen;have lc:=rc.lt;have RC:=jj rc;have HX:=jj hX;have RR:=jj rr;have HZ:=jj hz;clear ra rb rc hX rr hz
 go_cut [29] from 22 to 30 (fun t wx=>t=.bool false/\∃ X,wx=w1.ext X)
 case first =>
  rcases HZ.out with hz1|⟨hz1,hz2⟩
  all_goals
   go_wp2_with (first|(go_at_call 46;(with_reducible refine (HR.out _).mono ?_);rintro _ _ ⟨rfl,X_,rfl⟩))
   go_meet;exact ⟨rfl,_,rfl⟩
 case rest =>
  obtain ⟨rfl,X1,rfl⟩:=hcut;go_upto_region 5 with (first|(go_at_call 224;(with_reducible refine (HN.out _).mono ?_);rintro _ w3 ⟨p,rfl,h3,hp,X3,rfl⟩;have H3:=jj h3;clear h3;have HPP:=jj hp;clear hp))
  have hsz:w.heap.size<=w1.heap.size:=by obtain ⟨X,hX⟩:=HX.out;rw[hX];simp
  refine wp_abs (F:=fun w2=>∃ Bw Bo,Bw=w1.heap.size+X1.sz+X3.sz/\Bo=w1.heap.size+X1.sz+X3.sz+1/\Wi w w2 W p Bw Bo x0 y0 x1 y1 (.slice none 0 0) []) ⟨_,_,rfl,rfl,?_⟩ ?_
  ·have hp:=HPP.out;have hp2:=H3.out.lt;simp at hp hp2;have r0:=RC.out;have r1:=H3.out;obtain ⟨X,hX⟩:=HX.out;refine ⟨by omega,by omega,by omega,by omega,by omega,by omega,by exact rx_,by exact rx_,by exact rx_,by exact rx_,World.ownsRow_nil _ _ _ _,?_⟩;rw[hX];exact jz (by exact bl_)
  rintro w2 ⟨Bw,Bo,hBw,hBo,hWi⟩;have hBo2:Bo=Bw+1:=by omega
  rw[<-hBw,<-hBo2];clear hBo2 hBw hBo ca fa la cb fb lb cc fc lc HPP H3;obtain ⟨i0,hi,hz0,hz1,hz2⟩:=info_parts info_step;have HWi:=jj hWi;have HP:=jj (fun w u v (h:WayAt w p W)=>way_pixel h u v);simp only[ptr] at HP;obtain ⟨e,he1⟩:∃ e:Int,e=if W.extra=true then 1 else 0:=⟨_,rfl⟩
  have e01:0<=e/\e<=1:=by rw[he1];split<;>simp
  obtain ⟨e00,e11⟩:=e01;have E1:=jj he1;clear he1;have hc1:=hWi.way.cell;simp only[Way.cells] at hc1;have hc2:=hWi.way.frozen;have hc3:=hWi.way.lt;have hw1:=hWi.bw.cell;have hw2:=hWi.bw.frozen;have hw3:=hWi.bw.lt;have ho1:=hWi.bo.cell;have ho2:=hWi.bo.frozen;have ho3:=hWi.bo.lt;have hr1:=hWi.br.cell;have hr2:=hWi.br.frozen;have hr3:=hWi.br.lt;clear hWi
  go_upto_if 36 with fail
  go_cut [9] from 10 to 60 (fun t9 wx=>t9=.int .i64 e/\∃ v,Wi w wx W p Bw Bo x0 y0 x1 y1 v (W.headL x0 y0 x1 y1))
  case first =>
   cases he:W.extra
   ·simp only[he] at hc1;go_wp2;go_meet;refine ⟨?_,.slice none 0 0,?_⟩
    ·rw[E1.out,he];rfl
    ·have e0:W.headL x0 y0 x1 y1=[]:=by unfold Way.headL;rw[he];rfl
     rw[e0];exact HWi.out
   ·simp only[he] at hc1;have e0:W.headL x0 y0 x1 y1=[⟨0,W.px W.u W.v,W.py W.u W.v⟩].filter (fun s=>decide (hasP x0 y0 x1 y1 s.X s.Y)):=by unfold Way.headL;rw[he];rfl
    have HP1:=jj (fun w h=>HP.out w W.u W.v h);obtain ⟨x,hx⟩:∃ x,W.px W.u W.v=x:=⟨_,rfl⟩;obtain ⟨y,hy⟩:∃ y,W.py W.u W.v=y:=⟨_,rfl⟩;rw[hx,hy] at HP1 e0;have E0:=jj e0;obtain ⟨z,hzz⟩:∃ z,decide (hasP x0 y0 x1 y1 x y)=z:=⟨_,rfl⟩;have HH:=jj (fun w=>hzz▸rect_has x0 y0 x1 y1 x y w);have HZZ:=jj hzz;have E2:=jj he;clear e0 hx hy hzz he;have hway:=HWi.out.way;go_upto_region 8 with fail
    refine wp_region_ext (by kernel_rfl) (by kernel_rfl) ?_
    repeat (go_big_quiet_step ((first|(go_at_call 226;with_reducible refine Calls.quiet_ret (HP1.out _ ?_);exact rx_))))
    refine wpQuiet_nil ?_;intro _ hw_ext;obtain ⟨X4,hw_ext⟩:=hw_ext;subst hw_ext;cases z
    ·go_wp2_with (first|(go_at_call 191;(with_reducible refine (HH.out _).mono ?_);rintro _ _ ⟨rfl,X_,rfl⟩))
     go_meet;refine ⟨?_,.slice none 0 0,?_⟩
     ·rw[E1.out,E2.out];rfl
     ·have e3:W.headL x0 y0 x1 y1=[]:=by rw[E0.out,List.filter_cons,HZZ.out];rfl
      rw[e3];exact (HWi.out.grow _).grow _
    ·go_upto_region 10 with (first|(go_at_call 191;(with_reducible refine (HH.out _).mono ?_);rintro _ _ ⟨rfl,X_,rfl⟩))
     refine wp_abs (F:=fun w4=>Wi w w4 W p Bw Bo x0 y0 x1 y1 (.slice none 0 0) []) ((HWi.out.grow _).grow _) ?_;intro w4 hW4;have HW4:=jj hW4;clear hc1 hc2 hc3 hw1 hw2 hw3 ho1 ho2 ho3 hr1 hr2 hr3;clear hway;have hc1:=hW4.way.cell;simp only[Way.cells] at hc1;have hc2:=hW4.way.frozen;have hc3:=hW4.way.lt;have hw1:=hW4.bw.cell;have hw2:=hW4.bw.frozen;have hw3:=hW4.bw.lt;have ho1:=hW4.bo.cell;have ho2:=hW4.bo.frozen;have ho3:=hW4.bo.lt;have hr1:=hW4.br.cell;have hr2:=hW4.br.frozen;have hr3:=hW4.br.lt;clear hW4;have e3:W.headL x0 y0 x1 y1=[⟨0,x,y⟩]:=by rw[E0.out,List.filter_cons,HZZ.out];rfl
     have E3:=jj e3;clear e3
     go_wp2_with (first
      |(at_builtin;refine wpList_append_own _ rfl _ _ 224 rfl w.heap.size 228 i0 (.agg #[.int .i64 0,.int .i64 0,.int .i64 0]) 3 24 Tryz.underlying224 hi hz0 hz1 hz2 rfl (by decide) _ _ _ rfl (HW4.out.own.alloc _) ⟨w4.heap.size,0,none⟩ 1 1 (St.cells ⟨0,x,y⟩) rfl rfl (cells_newS rfl _ _) (fun x hx=>by simp at hx;rcases hx with rfl|rfl|rfl<;>rfl) (by simp[maxLen]) (by simp) (by have:=HW4.out.size;simp;omega) ?_;intro v' w5 hown hgrow _;obtain ⟨g',cap',rfl⟩:=ownsRow_succ hown;obtain ⟨h51,h52⟩:=HW4.out.snoc (s:=⟨0,x,y⟩) hown hgrow;have H52:=jj h52;clear hown hgrow h52;have ho51:=h51.cell;have ho52:=h51.frozen;have ho53:=h51.lt;clear h51))
     go_meet;refine ⟨?_,.slice (some ⟨g',0,none⟩) 1 cap',?_⟩
     ·rw[E1.out,E2.out];rfl
     ·rw[E3.out];exact H52.out
  case rest =>
   obtain ⟨rfl,v0,hW3⟩:=hcut;obtain ⟨w3,rfl⟩:∃ w3,w3=wc:=⟨_,rfl⟩;clear hc1 hc2 hc3 hw1 hw2 hw3 ho1 ho2 ho3 hr1 hr2 hr3;clear HWi;have HW3:=jj hW3;have hc1:=hW3.way.cell;simp only[Way.cells] at hc1;have hc2:=hW3.way.frozen;have hc3:=hW3.way.lt;have hw1:=hW3.bw.cell;have hw2:=hW3.bw.frozen;have hw3:=hW3.bw.lt;have ho1:=hW3.bo.cell;have ho2:=hW3.bo.frozen;have ho3:=hW3.bo.lt;have hr1:=hW3.br.cell;have hr2:=hW3.br.frozen;have hr3:=hW3.br.lt;have hway:=hW3.way;clear hW3;have HSZ:=jj (fun w (h:WayAt w p W)=>way_size ok h);have HST:=jj (fun w (h:WayAt w p W)=>way_step h ok);simp only[ptr] at HSZ HST;obtain ⟨n0,hn0⟩:∃ n,W.size=n:=⟨_,rfl⟩;obtain ⟨n,hn⟩:∃ n,W.len=n:=⟨_,rfl⟩;obtain ⟨s,hs⟩:∃ s,W.step=s:=⟨_,rfl⟩;have sz0:0<=n0/\n0<=4194306:=by
    have:=ok.f0;have:=ok.f1;have:=ok.l0;have:=ok.l1
    rw[<-hn0];unfold Way.size;omega
   obtain ⟨sz0,sz1⟩:=sz0;have s01:=step_is W;have hlen:n=n0-if W.opn=true then 1 else 0:=by rw[<-hn,<-hn0];rfl
   have hn1:n<=n0:=by rw[hlen];split<;>omega
   rw[hn0] at hop HSZ;rw[hn] at hle;rw[hs] at s01 HST;have f0:=ok.f0;have f1:=ok.f1
   have HN0:=jj hn0;have HNL:=jj hn;have HS:=jj hs;have HLEN:=jj hlen;clear hn0 hn hs hlen
   go_upto_if 65 with (first|(go_at_call 227;(with_reducible refine (HSZ.out _ ?_).mono ?_);exact rx_;rintro _ _ ⟨rfl,X_,rfl⟩))
   go_cut [12] from 60 to 68 (fun t wx=>t=.int .i64 n/\Wi w wx W p Bw Bo x0 y0 x1 y1 v0 (W.headL x0 y0 x1 y1))
   case first =>
    cases ho:W.opn
    ·simp only[ho] at hc1;have e:n0=n:=by rw[HLEN.out,ho];simp
     have EE:=jj e;clear e;go_wp2;go_meet;exact ⟨by rw[EE.out],HW3.out.grow _⟩
    ·simp only[ho] at hc1;have e:n0-1=n:=by rw[HLEN.out,ho];simp
     have EE:=jj e;clear e;go_wp2;go_meet;exact ⟨by rw[EE.out],HW3.out.grow _⟩
   case rest =>
    obtain ⟨rfl,hW4⟩:=hcut;obtain ⟨w4,rfl⟩:∃ w4,w4=wc:=⟨_,rfl⟩;clear hc1 hc2 hc3 hw1 hw2 hw3 ho1 ho2 ho3 hr1 hr2 hr3;clear HW3 hway;have HW4:=jj hW4;have hc1:=hW4.way.cell;simp only[Way.cells] at hc1;have hc2:=hW4.way.frozen;have hc3:=hW4.way.lt;have hw1:=hW4.bw.cell;have hw2:=hW4.bw.frozen;have hw3:=hW4.bw.lt;have ho1:=hW4.bo.cell;have ho2:=hW4.bo.frozen;have ho3:=hW4.bo.lt;have hr1:=hW4.br.cell;have hr2:=hW4.br.frozen;have hr3:=hW4.br.lt;have hway:=hW4.way;clear hW4;obtain ⟨lw,hlw⟩:∃ lw,lw=if W.turned=true then y0 else x0:=⟨_,rfl⟩
    obtain ⟨hg,hhg⟩:∃ hg,hg=if W.turned=true then y1 else x1:=⟨_,rfl⟩
    have lb:-4194304<=lw/\lw<=4194304/\-4194304<=hg/\hg<=4194304:=by
     have r:=RR.out;unfold rightP at r
     rw[hlw,hhg];split<;>omega
    obtain ⟨lb0,lb1,lb2,lb3⟩:=lb;have LW:=jj hlw;have HG:=jj hhg;clear hlw hhg;go_upto_region 14 with fail
    refine wp_region_ext (by kernel_rfl) (by kernel_rfl) ?_
    repeat (go_big_quiet_step ((fail)))
    refine wpQuiet_nil ?_;intro _ hw_ext;obtain ⟨X4,hw_ext⟩:=hw_ext;subst hw_ext
    go_upto_if 75 with fail
    go_cut [13,14] from 68 to 80 (fun t13 t14 wx=>t13=.int .i64 lw/\t14=.int .i64 hg/\Wi w wx W p Bw Bo x0 y0 x1 y1 v0 (W.headL x0 y0 x1 y1))
    case first =>
     cases ho:W.turned
     ·simp only[ho] at hc1;have E4:=jj ho;clear ho;go_wp2;go_meet;exact ⟨by rw[LW.out,E4.out];rfl,by rw[HG.out,E4.out];rfl,HW4.out.grow _⟩
     ·simp only[ho] at hc1;have E4:=jj ho;clear ho;go_upto_region 16 with fail
      refine wp_region_ext (by kernel_rfl) (by kernel_rfl) ?_
      repeat (go_big_quiet_step ((fail)))
      refine wpQuiet_nil ?_;intro _ hw_ext;obtain ⟨X5,hw_ext⟩:=hw_ext;subst hw_ext;go_wp2;go_meet;exact ⟨by rw[LW.out,E4.out];rfl,by rw[HG.out,E4.out];rfl,(HW4.out.grow _).grow _⟩
    case rest =>
     obtain ⟨rfl,rfl,hW5⟩:=hcut;obtain ⟨w5,rfl⟩:∃ w5,w5=wc:=⟨_,rfl⟩;clear hc1 hc2 hc3 hw1 hw2 hw3 ho1 ho2 ho3 hr1 hr2 hr3;clear HW4 hway;have HW5:=jj hW5;have hc1:=hW5.way.cell;simp only[Way.cells] at hc1;have hc2:=hW5.way.frozen;have hc3:=hW5.way.lt;have hw1:=hW5.bw.cell;have hw2:=hW5.bw.frozen;have hw3:=hW5.bw.lt;have ho1:=hW5.bo.cell;have ho2:=hW5.bo.frozen;have ho3:=hW5.bo.lt;have hr1:=hW5.br.cell;have hr2:=hW5.br.frozen;have hr3:=hW5.br.lt;have hway:=hW5.way;clear hW5;obtain ⟨b0,hb0⟩:∃ b0,b0=if s<0 then W.first-hg+1 else lw-W.first:=⟨_,rfl⟩
     obtain ⟨d0,hd0⟩:∃ d0,d0=if s<0 then W.first-lw else hg-1-W.first:=⟨_,rfl⟩
     have bb:-8388608<=b0/\b0<=8388608/\-8388608<=d0/\d0<=8388608:=by
      rw[hb0,hd0];split<;>omega
     obtain ⟨bb0,bb1,bb2,bb3⟩:=bb;have B0:=jj hb0;have D0:=jj hd0;clear hb0 hd0;go_upto_region 17 with fail
     refine wp_region_ext (by kernel_rfl) (by kernel_rfl) ?_
     repeat (go_big_quiet_step ((fail)))
     refine wpQuiet_nil ?_;intro _ hw_ext;obtain ⟨X6,hw_ext⟩:=hw_ext;subst hw_ext
     go_upto_if 95 with (first|(go_at_call 228;(with_reducible refine (HST.out _ ?_).mono ?_);exact rx_;rintro _ _ ⟨rfl,X_,rfl⟩))
     go_cut [15,16] from 80 to 109 (fun t15 t16 wx=>t15=.int .i64 b0/\t16=.int .i64 d0/\Wi w wx W p Bw Bo x0 y0 x1 y1 v0 (W.headL x0 y0 x1 y1))
     case first =>
      by_cases hs0:s<0
      ·go_upto_region 19 with fail
       refine wp_region_ext (by kernel_rfl) (by kernel_rfl) ?_
       repeat (go_big_quiet_step ((fail)))
       refine wpQuiet_nil ?_;intro _ hw_ext;obtain ⟨X7,hw_ext⟩:=hw_ext;subst hw_ext;go_wp2;go_meet;exact ⟨by rw[B0.out,if_pos (by omega)],by rw[D0.out,if_pos (by omega)],((HW5.out.grow _).grow _).grow _⟩
      ·go_wp2;go_meet;exact ⟨by rw[B0.out,if_neg (by omega)],by rw[D0.out,if_neg (by omega)],(HW5.out.grow _).grow _⟩
     case rest =>
      obtain ⟨rfl,rfl,hW6⟩:=hcut;obtain ⟨w6,rfl⟩:∃ w6,w6=wc:=⟨_,rfl⟩;clear hc1 hc2 hc3 hw1 hw2 hw3 ho1 ho2 ho3 hr1 hr2 hr3;clear HW5 hway;have HW6:=jj hW6;have hc1:=hW6.way.cell;simp only[Way.cells] at hc1;have hc2:=hW6.way.frozen;have hc3:=hW6.way.lt;have hw1:=hW6.bw.cell;have hw2:=hW6.bw.frozen;have hw3:=hW6.bw.lt;have ho1:=hW6.bo.cell;have ho2:=hW6.bo.frozen;have ho3:=hW6.bo.lt;have hr1:=hW6.br.cell;have hr2:=hW6.br.frozen;have hr3:=hW6.br.lt;have hway:=hW6.way;clear hW6;obtain ⟨lo,hlo⟩:∃ lo,max b0 0=lo:=⟨_,rfl⟩;obtain ⟨hh,hhh⟩:∃ hh,min d0 (n-1)=hh:=⟨_,rfl⟩;have EL:=jj (show W.lo x0 y0 x1 y1=lo by unfold Way.lo;rw[HS.out,<-HG.out,<-LW.out,<-B0.out];exact hlo);have EH:=jj (show W.hi x0 y0 x1 y1=hh by unfold Way.hi;rw[HS.out,HNL.out,<-HG.out,<-LW.out,<-D0.out];exact hhh);have lo0:0<=lo:=by omega
      have hh0:hh<=n-1:=by omega
      go_upto_if 117 with fail
      by_cases hgt:hh<lo
      ·go_wp2;refine ⟨_,results_tmp rfl _ _ _,v0,rfl,?_,HW6.out.ext⟩;have e4:L=W.headL x0 y0 x1 y1:=by
        rw[<-HL.out,EL.out,EH.out,show (hh-lo+1).toNat=0 from by omega];simp[Way.loopL]
       rw[e4];exact own_sts HW6.out.own (by have:=headL_len W x0 y0 x1 y1;omega)
      ·have hgt:lo<=hh:=by omega
       clear hlo hhh;have hmi:=mid_in W ok lo lo0 (by rw[HN0.out];omega);rw[HS.out] at hmi;obtain ⟨mi0,mi1,mi2,mi3⟩:=hmi;go_upto_region 24 with fail
       refine wp_region_ext_tail 14 (by kernel_rfl) (by kernel_rfl) ?_;simp only[jx]
       repeat (go_big_quiet_step ((first|(go_at_call 228;with_reducible refine Calls.quiet_ret (HST.out _ ?_);exact rx_))))
       refine wpQuiet_nil ?_;intro _ hw_ext;obtain ⟨X8,hw_ext⟩:=hw_ext;subst hw_ext
       go_wp2_with (first|(go_at_call 229;(with_reducible refine (way_from _ p _ _).mono ?_);rintro _ _ ⟨rfl,rfl⟩))
       have hlt6:=HW6.out.bw.lt;have hlt7:=HW6.out.bo.lt;have hlt8:=HW6.out.way.lt;refine wp_abs (F:=fun w7=>∃ Bk B1:Nat,Bk=w6.heap.size/\B1=w6.heap.size+1+X8.sz/\WiL w W p Bw Bo Bk B1 (B1+1) (B1+1+1) x0 y0 x1 y1 (hh-lo+1) e lo 0 w7/\w7.cell? ⟨B1+1,0,none⟩=some (.int .i64 (W.first+lo*s))) ⟨_,_,rfl,rfl,?_,?_⟩ ?_
       ·refine ⟨v0,?_,?_,by exact rx_,⟨_,by exact rx_⟩,by exact rx_⟩
        ·rw[show W.loopL x0 y0 x1 y1 0=[] from rfl,List.append_nil];exact HW6.out.grown (by exact bl_)
        ·rw[show e+lo+((0:Nat):Int)=e+lo from by omega];exact rx_
       ·exact (show Row _ _ #[.int .i64 (W.first+lo*s)] 3 from by exact rx_).cell 0
       rintro w7 ⟨Bk,B1,hBk,hB1,hI7,hu7⟩;have hB2:B1=Bk+1+X8.sz:=by omega
       rw[<-hBk,<-hB2];have k1:w.heap.size+3<=Bk:=by have:=HW6.out.ho;omega
       have k2:p<Bk/\Bw<Bk/\Bo<Bk/\Bk<B1:=by omega
       obtain ⟨k2,k3,k4,k5⟩:=k2;clear hBk hB1 hB2 hlt6 hlt7 hlt8;refine (wpIn_wide (n:=9)).1 ?_;have hσ:=dv_step W ax ay bx y2 HW.out (by rw[HN0.out];omega);refine wpIn_range_from2 ok hdu hσ 7 (W.first+lo*s) (hh-lo+1) (by omega) (by omega) ?ub (by omega) (by omega) (by omega) rfl ?lts (WiL w W p Bw Bo Bk B1 (B1+1) (B1+1+1) x0 y0 x1 y1 (hh-lo+1) e lo) (WiL.bears (by omega) (by omega) (by omega) (by omega) (by omega) (by omega) (by omega))
        (fun k W' j o o' hj hl ho h=>h.putObj o' ?hjj hl ho) hI7 hu7 18 19 ?assign ?body ?done
       case ub =>
        intro k k0 k1;rw[HS.out];have:=mid_in W ok (lo+k) (by omega) (by rw[HN0.out];omega);rw[HS.out,Int.add_mul] at this;omega
       case lts =>
        obtain ⟨v7,hW7,q1,q2,⟨u7,q3⟩,q4⟩:=hI7;exact ⟨hW7.way.lt,q2.lt,q3.lt,q4.lt⟩
       case hjj =>
        obtain ⟨v7,hW7,q1,q2,⟨u7,q3⟩,q4⟩:=hI7;have:=hW7.size;omega
       case assign =>
        intro l u v W' K hK;simp only[List.setIfInBounds_toArray,List.set_cons_zero,List.set_cons_succ] at hK ⊢
        gi_wp2
        exact hK
       case body =>
        rintro l k W' u v hu hv ⟨v8,hW8,q1,q2,⟨u8,q3⟩,q4⟩ hk;simp only[List.setIfInBounds_toArray,List.set_cons_zero,List.set_cons_succ];clear hc1 hc2 hc3 hw1 hw2 hw3 ho1 ho2 ho3 hr1 hr2 hr3;clear hway;have hway:=hW8.way;have HW8:=jj hW8;have Q1:=jj q1;have Q2:=jj q2;have Q3:=jj q3;have Q4:=jj q4;have hc1:=hW8.way.cell;simp only[Way.cells] at hc1;have hc2:=hW8.way.frozen;have hc3:=hW8.way.lt;have hw1:=hW8.bw.cell;have hw2:=hW8.bw.frozen;have hw3:=hW8.bw.lt;have ho1:=hW8.bo.cell;have ho2:=hW8.bo.frozen;have ho3:=hW8.bo.lt;have hr1:=hW8.br.cell;have hr2:=hW8.br.frozen;have hr3:=hW8.br.lt;have hk1:=q1.cell;have hk2:=q1.frozen;have hk3:=q1.lt;have HL8:=jj (loopL_succ W x0 y0 x1 y1 k);have HP1:=jj (fun w h=>HP.out w u v h);obtain ⟨x,hx⟩:∃ x,W.px u v=x:=⟨_,rfl⟩;obtain ⟨y,hy⟩:∃ y,W.py u v=y:=⟨_,rfl⟩;rw[hx,hy] at HP1;have EC:=jj (show W.cell ((if W.extra=true then 1 else 0)+W.lo x0 y0 x1 y1+(k:Int)) (W.first+W.lo x0 y0 x1 y1*W.step+(k:Int)*W.step)=⟨e+lo+(k:Int),x,y⟩ by
         unfold Way.cell;rw[<-E1.out,EL.out,HS.out]
         rw[HS.out] at hu;rw[<-hu,<-hv,hx,hy])
        obtain ⟨z,hzz⟩:∃ z,decide (hasP x0 y0 x1 y1 x y)=z:=⟨_,rfl⟩;have HH:=jj (fun w=>hzz▸rect_has x0 y0 x1 y1 x y w);have HZZ:=jj hzz;have kb:(k:Int)<=8388608:=by omega
        have LB:=jj (show (W.headL x0 y0 x1 y1++W.loopL x0 y0 x1 y1 k).length<=8388609 by
         rw[List.length_append];have l1:=headL_len W x0 y0 x1 y1;have l2:(W.loopL x0 y0 x1 y1 k).length<=k:=by
          unfold Way.loopL;refine Nat.le_trans (List.length_filter_le _ _) ?_;rw[List.length_map,List.length_range];omega
         omega)
        clear hx hy hzz hu hv hW8 q1 q2 q3 q4;cases z
        ·gi_wp2_with (first
          |(refine ⟨trivial,?_⟩;gi_at_call 226;refine (CallsIn.inRound l (callsIn_wide.2 (HP1.out _ ?_))).mono ?_;exact rx_;rintro _ _ ⟨rfl,XA,rfl⟩)
          |(refine ⟨trivial,?_⟩;gi_at_call 191;refine (CallsIn.inRound l (callsIn_wide.2 (HH.out _))).mono ?_;rintro _ _ ⟨rfl,XB,rfl⟩))
         have F:=WiL.next (L:=W.headL x0 y0 x1 y1++W.loopL x0 y0 x1 y1 k) (by rw[HL8.out,EC.out,List.filter_cons];simp only[HZZ.out];simp) HW8.out Q1.out Q2.out Q3.out Q4.out k1 (by omega) (by omega) (by omega) (by omega) (by omega) (by omega) _ (World.ext_ext (X:=XA) (Y:=XB))
         exact ⟨F.2.2,F.1,by first|rfl|exact F.2.1.trans (Q3.out.cell 0).symm⟩
        ·gi_wp2_with (first
          |(refine ⟨trivial,?_⟩;gi_at_call 226;refine (CallsIn.inRound l (callsIn_wide.2 (HP1.out _ ?_))).mono ?_;exact rx_;rintro _ _ ⟨rfl,XA,rfl⟩)
          |(refine ⟨trivial,?_⟩;gi_at_call 191;refine (CallsIn.inRound l (callsIn_wide.2 (HH.out _))).mono ?_;rintro _ _ ⟨rfl,XB,rfl⟩)
          |(gi_at_builtin;refine wpListIn_append_own _ rfl _ _ 224 rfl w.heap.size 228 i0 (.agg #[.int .i64 0,.int .i64 0,.int .i64 0]) 3 24 Tryz.underlying224 hi hz0 hz1 hz2 rfl (by decide) _ _ _ rfl (((HW8.out.grow XA).grow XB).own.alloc _) ⟨W'.heap.size+XA.sz+XB.sz,0,none⟩ 1 1 (St.cells ⟨e+lo+(k:Int),x,y⟩) rfl rfl (cells_newS (by simp) _ _) (fun x hx=>by simp at hx;rcases hx with rfl|rfl|rfl<;>rfl) (by have:=LB.out;simp only[maxLen];omega) (by have:=LB.out;omega) (by have:=HW8.out.size;simp;omega) ?_;intro v' w5 hown hgrow _;obtain ⟨g',cap',rfl⟩:=ownsRow_succ hown;obtain ⟨⟨h51,h52,h55⟩,h53,h54⟩:=((HW8.out.grow XA).grow XB).more (s:=⟨e+lo+(k:Int),x,y⟩) (Row.ext (Row.ext Q1.out XA) XB) (Row.ext (Row.ext Q2.out XA) XB) (Row.ext (Row.ext Q3.out XA) XB) (Row.ext (Row.ext Q4.out XA) XB) (by omega) (by omega) (by omega) (by omega) hown hgrow;have H53:=jj h53;have H54:=jj h54;have H55:=jj h55;clear hown hgrow h53 h54 h55;have ho51:=h51.cell;have ho52:=h51.frozen;have ho53:=h51.lt;have hk51:=h52.cell;have hk52:=h52.frozen;have hk53:=h52.lt;clear h51 h52))
         have h53:=H53.out;have h54:=H54.out;rw[List.length_append] at h53 h54;obtain ⟨hW9,q1,q2,q3,q4⟩:=h53;have F:=WiL.next0 (L:=(W.headL x0 y0 x1 y1++W.loopL x0 y0 x1 y1 k)++[⟨e+lo+(k:Int),x,y⟩]) (by rw[HL8.out,EC.out,List.filter_cons];simp only[HZZ.out];simp) hW9 q1 q2 q3 q4 k1 (by omega) (by omega) (by omega) (by omega) (by omega) (by omega) rfl;exact ⟨(((keeps_ext _ XA).trans (keeps_ext _ XB)).trans h54).trans F.2.2,F.1,(H55.out.cell 0).trans (Q3.out.cell 0).symm⟩
       case done =>
        intro D W' hD hI' hK';obtain ⟨v9,hW9,-,-,-,-⟩:=hI';have ho1:=hW9.bo.cell;have ho2:=hW9.bo.frozen;have ho3:=hW9.bo.lt;have hDw:w.heap.size<=D:=by
         obtain ⟨v7,hW7,q1,q2,⟨u7,q3⟩,q4⟩:=hI7;have:=hW7.size;omega
        gi_wp2
        go_wp2;refine ⟨by simp,.inl ⟨_,_,rfl,run_takeDeferred hK',?_⟩⟩;have h10:=hW9.putObj (.deferred none) hDw hK' rfl;refine ⟨_,results_tmp rfl _ _ _,v9,rfl,?_,h10.ext⟩;rw[<-HL.out,EL.out,EH.out];refine own_sts h10.own ?_;rw[List.length_append];have l1:=headL_len W x0 y0 x1 y1;have l2:(W.loopL x0 y0 x1 y1 (hh-lo+1).toNat).length<=(hh-lo+1).toNat:=by
         unfold Way.loopL;refine Nat.le_trans (List.length_filter_le _ _) ?_;rw[List.length_map,List.length_range];omega
        omega
end
section
theorem walk_within (ax ay bx y2 x0 y0 x1 y1:Int) (ha:MayP ax ay) (hb:MayP bx y2) (w:World):Calls Tryz.prog 192 #[P2 ax ay,P2 bx y2,R4 x0 y0 x1 y1] w (Lists w (withinL ax ay bx y2 x0 y0 x1 y1)):=by
 by_cases c:(ax=bx/\ay=y2)\/¬rightP x0 y0 x1 y1
 ·rw[withinL_no _ _ _ _ _ _ _ _ c];exact walk_within_no ax ay bx y2 x0 y0 x1 y1 c w
 ·exact walk_within_in ax ay bx y2 x0 y0 x1 y1 ha hb (fun h=>c (Or.inl h)) (Classical.byContradiction (fun h=>c (Or.inr h))) w
theorem Sts.drew {w:World} {v:Value} {L:List St} (h:Sts w v L):Sts w.drew v L:=h.chg (p:=fun _=>False) Chg.refl.drew (fun _ _ _ _ h=>h)
end
end
end Go.Proofs.YthcjfanigfgckaaGreat
