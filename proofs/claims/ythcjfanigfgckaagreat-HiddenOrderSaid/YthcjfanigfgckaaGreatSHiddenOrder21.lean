import Derived.Maps.AppendAt
import Derived.Test.YthcjfanigfgckaaGreatSHiddenOrder19
import Derived.Test.YthcjfanigfgckaaGreatSHiddenOrder20
set_option linter.unusedVariables false
set_option linter.unusedSimpArgs false
set_option maxRecDepth 100000
set_option maxHeartbeats 16000000
namespace Go.Proofs.YthcjfanigfgckaaGreat
open Go.RowKit
section
structure WdH (w1 wr:World) (q:Nat) (v:Value) (L:List FrP):Prop where
 cell:Row wr q #[v] 36
 own:wr.ownsRow w1.heap.size 73 8 v L.length (L.flatMap FrP.cells)
 chg:Chg (fun b=>b=q) w1 wr
theorem WdH.grow {w1 wr w':World} {q:Nat} {v:Value} {L:List FrP} (h:WdH w1 wr q v L) (hb:Below wr.heap.size wr w'):WdH w1 w' q v L:=by
 obtain ⟨X,rfl⟩:=hb.toExt;exact ⟨h.cell.ext X,own_extR h.own X,h.chg.ext X⟩
theorem WdH.off {w1 wr:World} {q:Nat} {v:Value} {L:List FrP} (h:WdH w1 wr q v L) {b:Nat} (hb:b<w1.heap.size):some b≠v.ownBlock:=row_elder h.own hb
theorem WdH.new {w1 wr:World} {q:Nat} {v:Value} {L:List FrP} (h:WdH w1 wr q v L) {b:Nat} (hb:wr.heap.size<=b):some b≠v.ownBlock:=fun e=>by have:=(h.own.lt b e.symm).2;omega
theorem WdH.put {w1 wr:World} {q:Nat} {v:Value} {L:List FrP} (h:WdH w1 wr q v L) {b k:Nat} {u:Value} (hb:some b≠v.ownBlock) (hq:b≠q) (hw:w1.heap.size<=b):WdH w1 (wr.setCell ⟨b,k,none⟩ u) q v L:=by
 refine ⟨h.cell.other (Ne.symm hq) _ _,?_,h.chg.setCell (fun k=>by omega) _⟩;refine World.ownsRow.kept (row:=some b) h.own ⟨rfl,rfl,rfl,by simp[World.setCell],fun j hj hne=>?_⟩ (.inr hb.symm);have:¬b=j:=fun e=>hne (by rw[e])
 simp only[World.setCell,Array.getElem?_modify,if_neg this]
theorem Chg.grow_own {p:Nat->Prop} {w1 w5 w6:World} {o:Obj} {row:Option Nat} (h:Chg p w1 w5) (hg:(w5.alloc o).grownBy w6 row) (hr:∀ k,row=some k->w1.heap.size<=k):Chg p w1 w6 :=
 ⟨hg.os.trans (h.alloc o).os,hg.tape.trans (h.alloc o).tape,hg.output.trans (h.alloc o).output,Nat.le_trans (h.alloc o).size hg.size,fun k hk hp=>(hg.block k (Nat.lt_of_lt_of_le hk (h.alloc o).size) (fun e=>absurd (hr k e.symm) (by omega))).trans ((h.alloc o).block k hk hp)⟩
theorem own_slice {w:World} {base n s:Nat} {e:TypeId} {v:Value} {xs:List Value} (h:w.ownsRow base e s v n xs):∃ a cap,v=.slice a n cap:=by
 rcases h.2 with ⟨rfl,h0⟩|⟨g,cap,cur,rfl,_⟩
 ·exact ⟨none,0,by rw[h0]⟩
 ·exact ⟨_,_,rfl⟩
structure Added (w1 w:World) (q:Nat) (v v':Value) (L':List FrP) (w':World):Prop where
 hold:WdH w1 w' q v' L'
 off:∀ b,b<w.heap.size->some b≠v.ownBlock->some b≠v'.ownBlock
 row:∀ b c T,b≠q->some b≠v.ownBlock->Row w b c T->Row w' b c T
theorem add_no (f:FrP) (x0 y0 x1 y1:Int) (hr:rightP x0 y0 x1 y1) (hf:frIn x0 y0 x1 y1 f=false) (p q:Nat) (w1 w:World) (v:Value) (L:List FrP) (hH:WdH w1 w q v L) (hp:Row w p #[.int .i64 x0,.int .i64 y0,.int .i64 x1,.int .i64 y1] 29) :
  Calls Tryz.prog 190 #[f.v,.pointer (some ⟨p,0,none⟩),.pointer (some ⟨q,0,none⟩)] w (fun e w'=>e=.returned (.tuple #[])/\∃ v',Added w1 w q v v' L w'):=by
 have hh:=fun w=>rect_has x0 y0 x1 y1 f.x f.y w
 have hn:¬hasP x0 y0 x1 y1 f.x f.y:=fun k=>by
  have:=frIn_iff.2 k.2;rw[hf] at this;cases this
 rw[decide_eq_false hn] at hh;have HH:=jj hh;have H1:=jj hH;have d1:=hp.cell;have d2:=hp.frozen;have d3:=hp.lt;clear hh hn hf hr hH hp
 go_enter Tryz.func190,Tryz.ntmps190
 go_wp2_with (first|(go_at_call 191;(with_reducible refine (HH.out _).mono ?_);rintro _ _ ⟨rfl,X_,rfl⟩))
 go_end0
 exact ⟨rfl,v,⟨H1.out.grow (by exact bl_),fun b _ h=>h,fun b c T _ _ h=>by exact rx_⟩⟩
theorem add_yes (f:FrP) (x0 y0 x1 y1:Int) (hr:rightP x0 y0 x1 y1) (hf:frIn x0 y0 x1 y1 f=true) (p q:Nat) (w1 w:World) (v:Value) (L:List FrP) (hH:WdH w1 w q v L) (hp:Row w p #[.int .i64 x0,.int .i64 y0,.int .i64 x1,.int .i64 y1] 29) (hL:L.length<=134217728) (hq0:q<w1.heap.size) :
  Calls Tryz.prog 190 #[f.v,.pointer (some ⟨p,0,none⟩),.pointer (some ⟨q,0,none⟩)] w (fun e w'=>e=.returned (.tuple #[])/\∃ v',Added w1 w q v v' (L++[f]) w'):=by
 have hh:=fun w=>rect_has x0 y0 x1 y1 f.x f.y w
 rw[decide_eq_true (show hasP x0 y0 x1 y1 f.x f.y from ⟨hr,frIn_iff.1 hf⟩)] at hh;have HH:=jj hh;have H1:=jj hH;have LB1:=jj (show L.length+1<=maxLen by unfold maxLen;omega);have LB2:=jj (show (L.length+1)*64<=140737488355328 by omega);obtain ⟨i0,hii,hi0,hi1,hi2⟩:=info_parts info_fr;have d1:=hp.cell;have d2:=hp.frozen;have d3:=hp.lt;have hsz:=hH.chg.size;obtain ⟨fx,fy,fz,c0,c1,c2,c3,cov⟩:=f;clear hh hf hr hH hL hp
 go_enter Tryz.func190,Tryz.ntmps190
 go_upto_region 2 with (first|(go_at_call 191;(with_reducible refine (HH.out _).mono ?_);rintro _ _ ⟨rfl,X_,rfl⟩))
 refine wp_abs (F:=fun w5=>Row w5 w.heap.size #[.int .i64 fx,.int .i64 fy,.int .i64 fz,.int .i64 c0,.int .i64 c1,.int .i64 c2,.int .i64 c3,.int .i64 cov] 73/\WdH w1 w5 q v L/\Below w.heap.size w w5) ⟨by exact rx_,H1.out.grow (by exact bl_),by exact bl_⟩ ?_;rintro w5 ⟨r5,h5,b5⟩;have g1:=r5.cell;have g2:=r5.frozen;have g3:=r5.lt;have g3':w.heap.size<=w5.heap.size:=by omega
 have H5:=jj h5;have B5:=jj b5;have q1:=h5.cell.cell;have q2:=h5.cell.frozen;have q3:=h5.cell.lt;clear r5 h5 b5 d1 d2 d3
 go_wp2_with (first
  |(at_builtin;go_loud (refine wpList_append_own_at _ rfl _ _ 36 rfl w1.heap.size 73 i0 (.agg #[.int .i64 0,.int .i64 0,.int .i64 0,.int .i64 0,.int .i64 0,.int .i64 0,.int .i64 0,.int .i64 0]) 8 64 Tryz.underlying36 hii hi0 hi1 hi2 rfl (by decide) v L.length (L.flatMap FrP.cells) rfl (H5.out.own.alloc _) ⟨w5.heap.size,0,none⟩ 1 1 (FrP.cells ⟨fx,fy,fz,c0,c1,c2,c3,cov⟩) rfl rfl (cells_newR rfl _ _) (frK.one ⟨fx,fy,fz,c0,c1,c2,c3,cov⟩) LB1.out LB2.out (by simp;omega) ?_;intro v' w6 hown hgrow _ hblk;obtain ⟨a6,k6,rfl⟩:=own_slice hown;have H6:=jj hown;have G6:=jj hgrow;have K6:=jj hblk;have q6:Row w6 q #[v] 36:=(H5.out.cell.alloc _).keptR hgrow (H5.out.off hq0);have q1':=q6.cell;have q2':=q6.frozen;have q3':=q6.lt;have Q6:=jj q6;clear hown hgrow hblk q6)))
 go_end0
 have C6:Chg (fun b=>b=q) w1 w6:=H5.out.chg.grow_own G6.out (fun k e=>(H5.out.own.lt k e).1);have O6:w6.ownsRow w1.heap.size 73 8 (.slice a6 (L.length+1) k6) (L++([⟨fx,fy,fz,c0,c1,c2,c3,cov⟩]:List FrP)).length ((L++([⟨fx,fy,fz,c0,c1,c2,c3,cov⟩]:List FrP)).flatMap FrP.cells):=by
  have:=H6.out;rw[List.length_append,List.flatMap_append]
  simpa using this
 refine ⟨rfl,.slice a6 (L.length+1) k6,⟨⟨Q6.out.set 0 _,?_,C6.setCell (fun _=>rfl) _⟩,?_,?_⟩⟩
 ·refine World.ownsRow.kept (row:=some q) O6 ⟨rfl,rfl,rfl,by simp[World.setCell],fun j hj hne=>?_⟩ (.inr (row_elder O6 hq0).symm);have:¬q=j:=fun e=>hne (by rw[e])
  simp only[World.setCell,Array.getElem?_modify,if_neg this]
 ·intro b hb hne e;rcases K6.out with k|k
  ·rw[k] at e;exact hne e
  ·rw[k] at e;have:b=w5.heap.size+1:=by simpa [World.hp_alloc] using e
   omega
 ·intro b c T hbq hne hr;have r5:Row w5 b c T:=by obtain ⟨X,rfl⟩:=B5.out.toExt;exact hr.ext X
  exact Row.other ((r5.alloc _).keptR G6.out hne) hbq _ _
end
section
def RLine (w:World) (L:List FrP) (p r c:Int) (e:Ending) (w':World):Prop:=∃ v,e=.returned (.tuple #[v,D3 p r c])/\Recs frK w' v L/\∃ X,w'=w.ext X
def wdC (a b:WinP) (n:Int) (dd:Bool) (p r c:Int):Int:=if lineP a b n p r c then nextC dd r c (coreL a b n).length else c
theorem wline_no (a b:WinP) (n:Int) (dd:Bool) (p r c x0 y0 x1 y1:Int) (ha:a.wide) (hb:b.wide) (hp:w64 p) (hc:w64 c) (h:¬lineP a b n p r c) (w:World):Calls Tryz.prog 127 #[a.v,b.v,.int .i64 n,.bool dd,D3 p r c,R4 x0 y0 x1 y1] w (RLine w [] p r c):=by
 have R:=jj (fun w=>decide_eq_false h▸wide_right a b n p r c ha hb hp hc w);clear h ha hb hp hc
 go_enter Tryz.func127,Tryz.ntmps127
 go_upto_region 2 with (first|(go_at_call 112;(with_reducible refine (R.out _).mono ?_);rintro _ _ ⟨rfl,X_,rfl⟩))
 refine wp_region_ext_tail 2 (by kernel_rfl) (by kernel_rfl) ?_;simp only[jx]
 repeat (go_big_quiet_step ((fail)))
 refine wpQuiet_nil ?_;intro _ hw_ext;obtain ⟨X,hw_ext⟩:=hw_ext;subst hw_ext;go_wp2;refine bodyPost_ret (v:=.tuple #[.slice none 0 0,D3 p r c]) (by simp[results,Tryz.results127,go_sem];try rfl) rfl ?_;exact ⟨_,rfl,recs_nil _,jz (by exact bl_)⟩
theorem wline_noR0 (a b:WinP) (n:Int) (p r c x0 y0 x1 y1:Int) (ha:a.wide) (hb:b.wide) (hp:w64 p) (hc:w64 c) (h:lineP a b n p r c) (hr:¬rightP x0 y0 x1 y1) (w:World):Calls Tryz.prog 127 #[a.v,b.v,.int .i64 n,.bool false,D3 p r c,R4 x0 y0 x1 y1] w (RLine w [] p r c):=by
 have R:=jj (fun w=>decide_eq_true h▸wide_right a b n p r c ha hb hp hc w);have RR:=jj (fun w=>decide_eq_false hr▸rect_right x0 y0 x1 y1 w);have CO:=jj (fun w=>coreOf_any a b n h.1.f h.2.1.f h.2.2.1 w);clear h ha hb hp hc hr
 go_enter Tryz.func127,Tryz.ntmps127
 go_upto_region 8 with (first|(go_at_call 112;(with_reducible refine (R.out _).mono ?_);rintro _ _ ⟨rfl,X_,rfl⟩)|(go_at_call 187;(with_reducible refine (CO.out _).mono ?_);rintro _ _ ⟨rfl,X_,rfl⟩)|(go_at_call 46;(with_reducible refine (RR.out _).mono ?_);rintro _ _ ⟨rfl,X_,rfl⟩))
 refine wp_region_ext_tail 2 (by kernel_rfl) (by kernel_rfl) ?_;simp only[jx]
 repeat (go_big_quiet_step ((fail)))
 refine wpQuiet_nil ?_;intro _ hw_ext;obtain ⟨X,hw_ext⟩:=hw_ext;subst hw_ext;go_wp2;refine bodyPost_ret (v:=.tuple #[.slice none 0 0,D3 p r c]) (by simp[results,Tryz.results127,go_sem];try rfl) rfl ?_;exact ⟨_,rfl,recs_nil _,jz (by exact bl_)⟩
theorem wline_noR1 (a b:WinP) (n:Int) (p r c x0 y0 x1 y1:Int) (ha:a.wide) (hb:b.wide) (hp:w64 p) (hc:w64 c) (h:lineP a b n p r c) (hr:¬rightP x0 y0 x1 y1) (w:World):Calls Tryz.prog 127 #[a.v,b.v,.int .i64 n,.bool true,D3 p r c,R4 x0 y0 x1 y1] w (RLine w [] p r ((c+(coreL a b n).length)%(r*16))):=by
 have R:=jj (fun w=>decide_eq_true h▸wide_right a b n p r c ha hb hp hc w);have RR:=jj (fun w=>decide_eq_false hr▸rect_right x0 y0 x1 y1 w);have CO:=jj (fun w=>coreOf_any a b n h.1.f h.2.1.f h.2.2.1 w);obtain ⟨m1,m2⟩:=core_may h.1 h.2.1 h.2.2.1;have hcl:=core_len h.1 h.2.1 h.2.2.1;obtain ⟨m,hm⟩:∃ m:Nat,(coreL a b n).length=m:=⟨_,rfl⟩;have cn:∀ w,Calls Tryz.prog 189 #[P2 (corX a b n a.x) (corY a b n a.y),P2 (corX a b n b.x) (corY a b n b.y)] w (Ret (.int .i64 (m:Int)) w):=fun w=>by
  rw[<-hm];exact walk_count (corX a b n a.x) (corY a b n a.y) (corX a b n b.x) (corY a b n b.y) m1 m2 w
 rw[hm] at hcl ⊢;have CN:=jj cn;have NX:=jj (fun w=>dnext_any p r c (m:Int) h.2.2.2 (by omega) (by omega) w);clear h ha hb hp hc hr m1 m2 cn hm hcl
 go_enter Tryz.func127,Tryz.ntmps127
 go_upto_region 6 with (first|(go_at_call 112;(with_reducible refine (R.out _).mono ?_);rintro _ _ ⟨rfl,X_,rfl⟩)|(go_at_call 187;(with_reducible refine (CO.out _).mono ?_);rintro _ _ ⟨rfl,X_,rfl⟩))
 refine wp_region_ext_tail 7 (by kernel_rfl) (by kernel_rfl) ?_;simp only[jx]
 repeat (go_big_quiet_step ((first|(go_at_call 189;with_reducible exact Calls.quiet_ret (CN.out _))|(go_at_call 188;with_reducible exact Calls.quiet_ret (NX.out _)))))
 refine wpQuiet_nil ?_;intro _ hw_ext;obtain ⟨X6,hw_ext⟩:=hw_ext;subst hw_ext;go_upto_region 8 with (first|(go_at_call 46;(with_reducible refine (RR.out _).mono ?_);rintro _ _ ⟨rfl,X_,rfl⟩))
 refine wp_region_ext_tail 2 (by kernel_rfl) (by kernel_rfl) ?_;simp only[jx]
 repeat (go_big_quiet_step ((fail)))
 refine wpQuiet_nil ?_;intro _ hw_ext;obtain ⟨X,hw_ext⟩:=hw_ext;subst hw_ext;go_wp2;refine bodyPost_ret (v:=.tuple #[.slice none 0 0,D3 p r ((c+m)%(r*16))]) (by simp[results,Tryz.results127,go_sem];try rfl) rfl ?_;exact ⟨_,rfl,recs_nil _,jz (by exact bl_)⟩
end
section
theorem chg3 (w:World) (B:Nat) (u v x:Value) (X:Xt):Chg (fun b=>b=B) w ((((w.setCell ⟨B,0,none⟩ u).setCell ⟨B,1,none⟩ v).setCell ⟨B,2,none⟩ x).ext X):=by
 have h1:Chg (fun b=>b=B) w (w.setCell ⟨B,0,none⟩ u):=Chg.one w B 0 u;have h2:Chg (fun b=>b=B) w ((w.setCell ⟨B,0,none⟩ u).setCell ⟨B,1,none⟩ v):=h1.setCell (fun _=>rfl) v;have h3:Chg (fun b=>b=B) w (((w.setCell ⟨B,0,none⟩ u).setCell ⟨B,1,none⟩ v).setCell ⟨B,2,none⟩ x):=h2.setCell (fun _=>rfl) x;exact h3.ext X
theorem wd_mem {a b:WinP} {n x0 y0 x1 y1:Int} (h1:a.fitsP) (h2:b.fitsP) (h3:widthP n) {s:St} (hs:s∈withinL (corX a b n a.x) (corY a b n a.y) (corX a b n b.x) (corY a b n b.y) x0 y0 x1 y1):(-1048641<=s.X/\s.X<=1048576)/\(-1048641<=s.Y/\s.Y<=1048576)/\0<=s.K/\s.K<=2097220:=by
 unfold withinL at hs
 split at hs
 ·cases hs
 ·have hs1:=(List.mem_filter.1 hs).1;obtain ⟨q1,q2⟩:=core_bd h1 h2 h3 (show s∈coreL a b n from hs1);obtain ⟨i,hi⟩:=List.mem_iff_getElem?.1 (show s∈coreL a b n from hs1);have hk:=core_at hi;have hl:=core_len h1 h2 h3;have:=(List.getElem?_eq_some_iff.1 hi).1;exact ⟨q1,q2,by omega,by omega⟩
theorem sub_flat {α β:Type} (f:α->List β) {L M:List α} (h:L.Sublist M):(L.flatMap f).Sublist (M.flatMap f):=by
 induction h with
 |slnil=>simp
 |cons a h ih=>rw[List.flatMap_cons];exact ih.trans (List.sublist_append_right _ _)
 |cons_cons a h ih=>rw[List.flatMap_cons,List.flatMap_cons];exact List.Sublist.append (List.Sublist.refl _) ih
theorem wdOf_sub {a b:WinP} {n x0 y0 x1 y1:Int} {L M:List St} (h:L.Sublist M):(wdOf a b n x0 y0 x1 y1 L).length<=(wdOf a b n x0 y0 x1 y1 M).length:=by
 unfold wdOf;exact ((sub_flat (wdRow a b n) h).filter _).length_le
theorem wdOf_len {a b:WinP} {n:Int} {dd:Bool} {p r c x0 y0 x1 y1 u0 v0:Int} (h3:widthP n) (hr:rightP x0 y0 x1 y1) {L:List St} (hL:L.Sublist ((withinL (corX a b n a.x) (corY a b n a.y) (corX a b n b.x) (corY a b n b.y) u0 v0 x1 y1).filter (litB dd p r c))):(wdOf a b n x0 y0 x1 y1 L).length<=((x1-x0).toNat+(y1-y0).toNat)*64:=by
 have k1:((withinL (corX a b n a.x) (corY a b n a.y) (corX a b n b.x) (corY a b n b.y) u0 v0 x1 y1).filter (litB dd p r c)).Sublist ((coreL a b n).filter (litB dd p r c)):=by
  refine List.Sublist.filter _ ?_;unfold withinL
  split
  ·exact List.nil_sublist _
  ·exact List.filter_sublist
 have k2:=wdOf_sub (a:=a) (b:=b) (n:=n) (x0:=x0) (y0:=y0) (x1:=x1) (y1:=y1) (hL.trans k1);unfold rightP at hr;obtain ⟨n0,n1⟩:=h3;have k3:=wdTo_len (a:=a) (b:=b) (n:=n) (dd:=dd) (p:=p) (r:=r) (c:=c) (x0:=x0) (y0:=y0) (x1:=x1) (y1:=y1) (by omega) ((x1-x0).toNat+(y1-y0).toNat) (by omega) (by omega) (by omega) (by omega);have k4:((x1-x0).toNat+(y1-y0).toNat)*n.toNat<=((x1-x0).toNat+(y1-y0).toNat)*64:=Nat.mul_le_mul_left _ (by omega);exact Nat.le_trans k2 (Nat.le_trans k3 k4)
theorem take_filter_yes {α:Type} (p:α->Bool) (L:List α) (k:Nat) (s:α) (hs:L[k]?=some s) (hp:p s=true):(L.take (k+1)).filter p=(L.take k).filter p++[s]:=by
 rw[List.take_add_one,hs,List.filter_append];simp[hp]
theorem take_filter_no {α:Type} (p:α->Bool) (L:List α) (k:Nat) (s:α) (hs:L[k]?=some s) (hp:p s=false):(L.take (k+1)).filter p=(L.take k).filter p:=by
 rw[List.take_add_one,hs,List.filter_append];simp[hp]
theorem sts_at {w w':World} {a:Option Addr} {cap q:Nat} {T:TypeId} {W:List St} {k:Nat} {s:St} (h:Sts w (.slice a W.length cap) W) (hq:Row w q #[.slice none 0 0] T) (hc:Chg (fun b=>b=q) w w') (hs:W[k]?=some s) :
  ∃ b off,a=some ⟨b,off,none⟩/\w'.cell? ⟨b,off+k*3,none⟩=some (.int .i64 s.K)/\w'.cell? ⟨b,off+k*3+1,none⟩=some (.int .i64 s.X)/\w'.cell? ⟨b,off+k*3+2,none⟩=some (.int .i64 s.Y)/\b<w'.heap.size:=by
 obtain ⟨-,a',cap',e,-,hcl⟩:=h;obtain ⟨rfl,rfl⟩:a=a'/\cap=cap':=by simpa using e
 rcases hcl with rfl|⟨b,off,rfl,hb,hcl⟩
 ·simp at hs
 have h0:w.cell? ⟨b,off+k*3,none⟩=some (.int .i64 s.K):=hcl k s hs 0 _ rfl;have h1:w.cell? ⟨b,off+k*3+1,none⟩=some (.int .i64 s.X):=hcl k s hs 1 _ rfl;have h2:w.cell? ⟨b,off+k*3+2,none⟩=some (.int .i64 s.Y):=hcl k s hs 2 _ rfl;have hbq:¬b=q:=fun e=>by
  subst e;have:=hq.cell (off+k*3);rw[h0] at this;cases hz:off+k*3 with
  |zero=>rw[hz] at this;simp at this
  |succ m=>rw[hz] at this;simp at this
 exact ⟨b,off,rfl,by rw[hc.cell hb hbq];exact h0,by rw[hc.cell hb hbq];exact h1,by rw[hc.cell hb hbq];exact h2,Nat.lt_of_lt_of_le hb hc.size⟩
theorem wdFr_bd {a b:WinP} {s:St} {j:Nat} {n:Int} (hx:-1048641<=s.X/\s.X<=1048576) (hy:-1048641<=s.Y/\s.Y<=1048576) (hj:(j:Int)<n) (hn:n<=64):-1048641<=(wdFr a b s j).x/\(wdFr a b s j).x<=1048640/\-1048641<=(wdFr a b s j).y/\(wdFr a b s j).y<=1048640:=by
 unfold wdFr;simp only
 split<;>omega
theorem wdFr_next {a b:WinP} {s:St} (j:Nat):(wdFr a b s (j+1)).x=(if (!decide (turnP a.x a.y b.x b.y))=true then (wdFr a b s j).x else (wdFr a b s j).x+1)/\(wdFr a b s (j+1)).y=(if (!decide (turnP a.x a.y b.x b.y))=true then (wdFr a b s j).y+1 else (wdFr a b s j).y):=by
 unfold wdFr
 by_cases t:turnP a.x a.y b.x b.y<;>simp[t]<;>omega
end
end Go.Proofs.YthcjfanigfgckaaGreat
