import Derived.RangeFuncNested
import Derived.RangeFuncBound
import Derived.RangeFuncCalls
import Derived.RangeFuncLeaves
import Derived.Shelf.Abstract
import Derived.Shelf.RegionOpen
import Derived.OwnWalkIn
import Derived.TacticsInMore
import Derived.LoopNIn
import Derived.LoopIn
import Derived.RangeFuncFrom
import Derived.Test.YthcjfanigfgckaaGreatSHiddenOrder11
set_option linter.unusedVariables false
set_option linter.unusedSimpArgs false
set_option maxRecDepth 100000
set_option maxHeartbeats 16000000
namespace Go.Proofs.YthcjfanigfgckaaGreat
open Go.RowKit
section
section
theorem least_any (u:Int) (u0:-536870912<=u) (u1:u<=536870912) (w:World):Calls Tryz.prog 249 #[.int .i64 u] w (Ret (.int .i64 (leastC u)) w):=by
 unfold leastC
 go_enter Tryz.func249,Tryz.ntmps249
 go_wp2;go_ret;exact Ret.of' (by simp[shr8]) (by exact bl_)
def Comes (w:World) (V:Way) (e:Ending) (w':World):Prop:=∃ p,e=.returned (.pointer (some ⟨p,0,none⟩))/\WayAt w' p V/\w.heap.size<=p/\∃ X,w'=w.ext X
def wayY (t:Bool) (back ax ay bx y2:Int):Way:=⟨uC t ax ay,vC t ax ay,uC t bx y2,vC t bx y2,t,back,0,0,false,false,0,0⟩
theorem wayY_T (ax ay bx y2:Int) (h:turnP ax ay bx y2):wayY (decide (turnP ax ay bx y2)) (backOf ax ay bx y2) ax ay bx y2=⟨ay,ax,y2,bx,true,1,0,0,false,false,0,0⟩:=by
 unfold backOf;rw[decide_eq_true h,if_neg (fun q=>q.1 h)];rfl
theorem wayY_P (ax ay bx y2:Int) (h:¬turnP ax ay bx y2) (k:signP (bx-ax) (y2-ay)):wayY (decide (turnP ax ay bx y2)) (backOf ax ay bx y2) ax ay bx y2=⟨ax,ay,bx,y2,false,0,0,0,false,false,0,0⟩:=by
 unfold backOf;rw[decide_eq_false h,if_pos ⟨h,k⟩];rfl
theorem wayY_N (ax ay bx y2:Int) (h:¬turnP ax ay bx y2) (k:¬signP (bx-ax) (y2-ay)):wayY (decide (turnP ax ay bx y2)) (backOf ax ay bx y2) ax ay bx y2=⟨ax,ay,bx,y2,false,1,0,0,false,false,0,0⟩:=by
 unfold backOf;rw[decide_eq_false h,if_neg (fun q=>k q.2)];rfl
theorem way_new (ax ay bx y2:Int) (ha:MayP ax ay) (hb:MayP bx y2) (hz:¬(ax=bx/\ay=y2)) (w:World):Calls Tryz.prog 224 #[P2 ax ay,P2 bx y2] w (Comes w (mkWay ax ay bx y2)):=by
 have HA:=jj ha;have HB:=jj hb;obtain ⟨a0,a1,a2,a3⟩:=ha;obtain ⟨b0,b1,b2,b3⟩:=hb;obtain ⟨V,hV⟩:∃ V,mkWay ax ay bx y2=V:=⟨_,rfl⟩;rw[hV];have HV:=jj hV;have HZ:=jj hz;clear hV hz;obtain ⟨W1,hW1⟩:∃ W1,wayY (decide (turnP ax ay bx y2)) (backOf ax ay bx y2) ax ay bx y2=W1:=⟨_,rfl⟩;have HW1:=jj hW1;clear hW1
 go_enter Tryz.func224,Tryz.ntmps224
 go_upto_region 1 with fail
 refine wp_region_ext (by kernel_rfl) (by kernel_rfl) ?_
 repeat (go_big_quiet_step ((fail)))
 refine wpQuiet_nil ?_;intro _ hw_ext;obtain ⟨X1,hw_ext⟩:=hw_ext;subst hw_ext
 go_upto_if 36 with fail
 go_cut [7] (fun t7 wx=>∃ p,t7=ptr p/\WayAt wx p W1/\w.heap.size+2<=p/\Row wx w.heap.size #[.int .i64 ax,.int .i64 ay] 181/\Row wx (w.heap.size+1) #[.int .i64 bx,.int .i64 y2] 181/\∃ X,wx=w.ext X)
 case first =>
  go_wp2
  all_goals go_meet
  all_goals refine ⟨_,rfl,?_,by simp<;>omega,by exact rx_,by exact rx_,jz (by exact bl_)⟩
  all_goals rw[<-HW1.out]
  all_goals first
   |(rw[wayY_T _ _ _ _ (by unfold turnP;omega)];exact rx_;done)
   |(rw[wayY_P _ _ _ _ (by unfold turnP;omega) (by unfold signP;omega)];exact rx_;done)
   |(rw[wayY_N _ _ _ _ (by unfold turnP;omega) (by unfold signP;omega)];exact rx_;done)
 case rest =>
  obtain ⟨p,rfl,h1,hp,ra,rb,hX⟩:=hcut;obtain ⟨w1,rfl⟩:∃ w1,w1=wc:=⟨_,rfl⟩;have U1:-536870912<=W1.au/\W1.au<=536870912:=by rw[<-HW1.out];exact uC_bd _ HA.out
  have U2:-536870912<=W1.bu/\W1.bu<=536870912:=by rw[<-HW1.out];exact uC_bd _ HB.out
  obtain ⟨L,hL⟩:∃ L,leastC W1.au=L:=⟨_,rfl⟩;obtain ⟨M,hM⟩:∃ M,leastC W1.bu=M:=⟨_,rfl⟩;have L0:-2097152<=L/\L<=2097152:=by rw[<-hL];unfold leastC;omega
  have M0:-2097152<=M/\M<=2097152:=by rw[<-hM];unfold leastC;omega
  obtain ⟨L0,L1⟩:=L0;obtain ⟨M0,M1⟩:=M0;have C1:=jj (fun w=>hL▸least_any W1.au U1.1 U1.2 w);have C2:=jj (fun w=>hM▸least_any W1.bu U2.1 U2.2 w);have HL:=jj hL;have HM:=jj hM;have H1:=jj h1;have RA:=jj ra;have RB:=jj rb;have HX:=jj hX;have hc:=h1.cell;simp only[Way.cells] at hc;have hf:=h1.frozen;have hl:=h1.lt;clear h1 ra rb hX hL hM U1 U2;simp only[ptr];go_upto_region 7 with fail
  have S1:=jj (fun a b:Int=>show WayAt ((w1.setCell ⟨p,6,none⟩ (.int .i64 a)).setCell ⟨p,7,none⟩ (.int .i64 b)) p { W1 with first:=a,last:=b } by
   have:=(H1.out.set 6 (.int .i64 a)).set 7 (.int .i64 b)
   simpa using this)
  have KS1:=jj (fun a b:Int=>show Chg (fun k=>k=p) w1 ((w1.setCell ⟨p,6,none⟩ (.int .i64 a)).setCell ⟨p,7,none⟩ (.int .i64 b)) from
   Chg.setCell (p:=fun k=>k=p) (Chg.setCell (p:=fun k=>k=p) Chg.refl (fun _=>rfl) _) (fun _=>rfl) _)
  go_cut [] (fun wx=>WayAt wx p { W1 with first:=L,last:=M }/\Chg (fun k=>k=p) w1 wx)
  case first =>
   go_region_with (first|(go_at_call 249;(with_reducible refine (C1.out _).mono ?_);rintro _ _ ⟨rfl,X_,rfl⟩)|(go_at_call 249;(with_reducible refine (C2.out _).mono ?_);rintro _ _ ⟨rfl,X_,rfl⟩))
   all_goals go_wp2
   all_goals go_meet
   all_goals refine ⟨?_,?_⟩
   any_goals exact ((S1.out L M).ext _).ext _
   any_goals exact ((KS1.out L M).ext _).ext _
  case rest =>
   obtain ⟨h2,k2⟩:=hcut;obtain ⟨w2,rfl⟩:∃ w2,w2=wc:=⟨_,rfl⟩;have H2:=jj h2;have K2:=jj k2;clear hc hf hl k2;have hc:=h2.cell;simp only[Way.cells] at hc;have hf:=h2.frozen;have hl:=h2.lt;clear h2;have S2:=jj (fun a b:Int=>show WayAt ((w2.setCell ⟨p,6,none⟩ (.int .i64 a)).setCell ⟨p,7,none⟩ (.int .i64 b)) p { W1 with first:=a,last:=b } by
    have:=(H2.out.set 6 (.int .i64 a)).set 7 (.int .i64 b)
    simpa using this)
   -- the last step,from whatever way
   have FIN:∀ (w3:World) (z:Int),z=(if M<L then 1 else 0)->WayAt w3 p { W1 with first:=L-z,last:=M-z }->Chg (fun k=>k=p) w1 w3->∃ W0:Way,WayAt w3 p W0/\W0.Ok/\0<W0.du/\W0.ended ax ay bx y2=V/\Row w3 w.heap.size #[.int .i64 ax,.int .i64 ay] 181/\Row w3 (w.heap.size+1) #[.int .i64 bx,.int .i64 y2] 181/\∃ X,w3=w.ext X:=by
    intro w3 z hz h k;refine ⟨mkWay0 ax ay bx y2,?_,mkWay0_ok _ _ _ _ HA.out HB.out,Slope.pos (wayZ_good _ _ _ _ _ HZ.out),HV.out,k.row RA.out (by omega),k.row RB.out (by omega),?_⟩
    ·have e:({ W1 with first:=L-z,last:=M-z }:Way)=mkWay0 ax ay bx y2:=by
      rw[hz,<-HL.out,<-HM.out,<-HW1.out];rfl
     rw[<-e];exact h
    ·obtain ⟨X,hX⟩:=HX.out;exact jz ((show Below w.heap.size w w1 from hX▸(Below.refl _ _).ext (Nat.le_refl _) X).trans (k.below (fun j hj=>by omega) (by rw[hX];simp)))
   have HF:=jj FIN;clear FIN;go_upto_region 8 with fail
   refine wp_region_ext (by kernel_rfl) (by kernel_rfl) ?_
   repeat (go_big_quiet_step ((fail)))
   refine wpQuiet_nil ?_;intro _ hw_ext;obtain ⟨X3,hw_ext⟩:=hw_ext;subst hw_ext;have KS2:=jj (fun a b:Int=>show Chg (fun k=>k=p) w2 ((w2.setCell ⟨p,6,none⟩ (.int .i64 a)).setCell ⟨p,7,none⟩ (.int .i64 b)) from
    Chg.setCell (p:=fun k=>k=p) (Chg.setCell (p:=fun k=>k=p) Chg.refl (fun _=>rfl) _) (fun _=>rfl) _)
   by_cases cML:M<L
   ·go_upto_region 9 with fail
    go_cut [] (fun wx=>WayAt wx p { W1 with first:=L-1,last:=M-1 }/\Chg (fun k=>k=p) w2 wx)
    case first =>
     go_region
     all_goals go_wp2
     all_goals go_meet
     all_goals refine ⟨?_,?_⟩
     any_goals first|exact S2.out (L-1) (M-1)|exact ((S2.out (L-1) (M-1)).ext _)|exact ((S2.out (L-1) (M-1)).ext _).ext _
     any_goals first|exact KS2.out (L-1) (M-1)|exact ((KS2.out (L-1) (M-1)).ext _)|exact ((KS2.out (L-1) (M-1)).ext _).ext _
    case rest =>
    obtain ⟨h3,k3⟩:=hcut;obtain ⟨w3,rfl⟩:∃ w3,w3=wc:=⟨_,rfl⟩;have k3:=K2.out.trans k3;clear hc hf hl;obtain ⟨W0,h3,ok0,hd0,hV0,ra,rb,hX3⟩:=HF.out w3 1 (by simp[cML]) h3 k3;have HW3:=jj h3;have OK0:=jj ok0;have HD0:=jj hd0;have HV0:=jj hV0;have HX3:=jj hX3;have hc:=ra.cell;have hf:=ra.frozen;have hl:=ra.lt;have hcb:=rb.cell;have hfb:=rb.frozen;have hlb:=rb.lt;clear h3 ok0 hd0 hV0 hX3 k3 ra rb;have HE:=jj (fun (w:World) (h:WayAt w p W0)=>show Calls Tryz.prog 250 #[.pointer (some ⟨p,0,none⟩),P2 ax ay,P2 bx y2] w (Turns w p V) from HV0.out▸way_ends OK0.out h ax ay bx y2 HA.out HB.out HD0.out)
    go_wp2_with (first|(go_at_call 250;(with_reducible refine (HE.out _ HW3.out).mono ?_);rintro _ w4 ⟨rfl,h4,k4⟩))
    go_ret;refine ⟨p,rfl,h4,by omega,?_⟩;obtain ⟨X,hX⟩:=HX3.out;exact jz ((show Below w.heap.size w w3 from hX▸(Below.refl _ _).ext (Nat.le_refl _) X).trans (k4.below (fun j hj=>by omega) (by rw[hX];simp)))
   ·go_upto_region 10 with fail
    refine wp_abs (F:=fun w3=>WayAt w3 p { W1 with first:=L-0,last:=M-0 }/\Chg (fun k=>k=p) w1 w3) ⟨by rw[Int.sub_zero,Int.sub_zero];exact H2.out.ext _,K2.out.ext _⟩ ?_;rintro w3 ⟨h3,k3⟩;clear hc hf hl;obtain ⟨W0,h3,ok0,hd0,hV0,ra,rb,hX3⟩:=HF.out w3 0 (by simp[cML]) h3 k3;have HW3:=jj h3;have OK0:=jj ok0;have HD0:=jj hd0;have HV0:=jj hV0;have HX3:=jj hX3;have hc:=ra.cell;have hf:=ra.frozen;have hl:=ra.lt;have hcb:=rb.cell;have hfb:=rb.frozen;have hlb:=rb.lt;clear h3 ok0 hd0 hV0 hX3 k3 ra rb;have HE:=jj (fun (w:World) (h:WayAt w p W0)=>show Calls Tryz.prog 250 #[.pointer (some ⟨p,0,none⟩),P2 ax ay,P2 bx y2] w (Turns w p V) from HV0.out▸way_ends OK0.out h ax ay bx y2 HA.out HB.out HD0.out)
    go_wp2_with (first|(go_at_call 250;(with_reducible refine (HE.out _ HW3.out).mono ?_);rintro _ w4 ⟨rfl,h4,k4⟩))
    go_ret;refine ⟨p,rfl,h4,by omega,?_⟩;obtain ⟨X,hX⟩:=HX3.out;exact jz ((show Below w.heap.size w w3 from hX▸(Below.refl _ _).ext (Nat.le_refl _) X).trans (k4.below (fun j hj=>by omega) (by rw[hX];simp)))
end
section
theorem ne_bools {ax ay bx y2:Int} (c:¬(ax=bx/\ay=y2)):(ax==bx)=false\/(ax==bx)=true/\(ay==y2)=false:=by
 by_cases h:ax=bx
 ·right;exact ⟨by simp[h],by simp;exact fun q=>c ⟨h,q⟩⟩
 ·left;simp[h]
theorem walk_count (ax ay bx y2:Int) (ha:MayP ax ay) (hb:MayP bx y2) (w:World):Calls Tryz.prog 189 #[P2 ax ay,P2 bx y2] w (Ret (.int .i64 (((lineL ax ay bx y2).length:Nat):Int)) w):=by
 by_cases c:ax=bx/\ay=y2
 ·obtain ⟨rfl,rfl⟩:=c;rw[lineL_self];have hz1:(ax==ax)=true:=by simp
  have hz2:(ay==ay)=true:=by simp
  go_enter Tryz.func189,Tryz.ntmps189
  go_wp2;go_ret;exact Ret.of' (by simp) (by exact bl_)
 ·have hn:=mkWay_count ax ay bx y2 c;rw[<-hn];obtain ⟨W,hW⟩:∃ W,W=mkWay ax ay bx y2:=⟨_,rfl⟩;have ok:W.Ok:=hW▸mkWay_ok ax ay bx y2 ha hb
  rw[<-hW];have HN:=jj (fun w=>show Calls Tryz.prog 224 #[P2 ax ay,P2 bx y2] w (Comes w W) from hW▸way_new ax ay bx y2 ha hb c w);have hz:=ne_bools c;have OK:=jj ok;have HC:=jj (fun w p (h:WayAt w p W)=>way_count ok h);simp only[ptr] at HC;clear hn hW c ok ha hb;rcases hz with hz1|⟨hz1,hz2⟩
  all_goals
   go_enter Tryz.func189,Tryz.ntmps189
   go_wp2_with (first|(go_at_call 224;(with_reducible refine (HN.out _).mono ?_);rintro _ w3 ⟨p,rfl,h3,hp,X3,rfl⟩;have H3:=jj h3;clear h3)|(go_at_call 225;(with_reducible refine (HC.out _ _ H3.out).mono ?_);rintro _ _ ⟨rfl,X_,rfl⟩))
   go_ret;exact Ret.of' (by simp) (by exact bl_)
abbrev St.w (s:St):Value:=.agg #[.int .i64 s.K,.int .i64 s.X,.int .i64 s.Y]
end
section
theorem mid_in (W:Way) (ok:W.Ok) (n:Int) (n0:0<=n) (n1:n<=W.size):-2097153<=W.first+n*W.step/\W.first+n*W.step<=2097153/\(-4194306<=n*W.step/\n*W.step<=4194306):=by
 obtain ⟨_,_,_,_,_,_,_,_,_,_,f0,f1,l0,l1⟩:=ok;unfold Way.size at n1;unfold Way.step
 split
 ·rw[show n*(-1:Int)=-n from by omega];omega
 ·rw[Int.mul_one];omega
end
section
theorem across_rest (W:Way) (u:Int) (h:0<W.den):0<=W.num u-W.across u*W.den/\W.num u-W.across u*W.den<W.den:=by
 unfold Way.across;have h2:=Int.ediv_mul_add_emod (W.num u) W.den;have h3:=Int.emod_nonneg (W.num u) (by omega:W.den≠0);have h4:=Int.emod_lt_of_pos (W.num u) h;omega
theorem across_of (W:Way) (u v:Int) (h:0<W.den) (h0:0<=W.num u-v*W.den) (h1:W.num u-v*W.den<W.den):W.across u=v:=by
 unfold Way.across;rw[div_iff _ _ _ h,Int.add_mul];omega
theorem num_step (W:Way) (hs:W.dv*W.step=W.bv-W.av) (u:Int):W.num (u+W.step)=W.num u+256*(W.bv-W.av):=by
 unfold Way.num;rw[<-hs];grind
theorem across_next (W:Way) (hd:0<W.den) (hs:W.dv*W.step=W.bv-W.av) (u:Int) :
  (W.den<=(W.num u-W.across u*W.den)+(256*(W.bv-W.av)).tmod W.den->W.across (u+W.step)=W.across u+(256*(W.bv-W.av)).tdiv W.den+1) /\
  ((W.num u-W.across u*W.den)+(256*(W.bv-W.av)).tmod W.den<0->W.across (u+W.step)=W.across u+(256*(W.bv-W.av)).tdiv W.den-1) /\
  ((W.num u-W.across u*W.den)+(256*(W.bv-W.av)).tmod W.den<W.den->0<=(W.num u-W.across u*W.den)+(256*(W.bv-W.av)).tmod W.den->W.across (u+W.step)=W.across u+(256*(W.bv-W.av)).tdiv W.den):=by
 obtain ⟨r0,r1⟩:=across_rest W u hd;have e:=num_step W hs u;have h1:=Int.tdiv_mul_add_tmod (256*(W.bv-W.av)) W.den;have h5:-W.den<(256*(W.bv-W.av)).tmod W.den:=by
  have:=Int.tmod_lt_of_pos (-(256*(W.bv-W.av))) hd;rw[Int.neg_tmod] at this;omega
 have h6:(256*(W.bv-W.av)).tmod W.den<W.den:=Int.tmod_lt_of_pos _ hd;obtain ⟨q,hq⟩:∃ q,(256*(W.bv-W.av)).tdiv W.den=q:=⟨_,rfl⟩;obtain ⟨r,hr⟩:∃ q,(256*(W.bv-W.av)).tmod W.den=q:=⟨_,rfl⟩;obtain ⟨v,hv⟩:∃ q,W.across u=q:=⟨_,rfl⟩;rw[hq,hr] at h1;rw[hr] at h5 h6;rw[hq,hr,hv];rw[hv] at r0 r1;refine ⟨fun c=>across_of W _ _ hd ?_ ?_,fun c=>across_of W _ _ hd ?_ ?_,fun c c'=>across_of W _ _ hd ?_ ?_⟩
 all_goals rw[e]
 all_goals simp only[Int.add_mul,Int.sub_mul,Int.one_mul]
 all_goals omega
theorem way_from (w:World) (p:Nat) (u m:Int):Calls Tryz.prog 229 #[.pointer (some ⟨p,0,none⟩),.int .i64 u,.int .i64 m] w (fun e w'=>e=.returned (.func (.func 251) #[] #[.pointer (some ⟨w.heap.size,0,none⟩),.pointer (some ⟨w.heap.size+1,0,none⟩),.pointer (some ⟨w.heap.size+1+1,0,none⟩)]) /\
  w'=((w.alloc (.cells #[.pointer (some ⟨p,0,none⟩)] 249)).alloc (.cells #[.int .i64 u] 3)).alloc (.cells #[.int .i64 m] 3)):=by
 go_enter Tryz.func229,Tryz.ntmps229
 go_wp2;go_ret;exact ⟨rfl,rfl⟩
end
section
structure Bears (W:Way) (p B1 B2 B3:Nat) (m:Int) (J:Nat->World->Prop):Prop where
 put:∀ k w v,J k w->J k (w.setCell ⟨B2,0,none⟩ (.int .i64 v))
 ext:∀ k w X,J k w->J k (w.ext X)
 way:∀ k w,J k w->WayAt w p W
 box1:∀ k w,J k w->Row w B1 #[.pointer (some ⟨p,0,none⟩)] 249
 box2:∀ k w,J k w->∃ u:Int,Row w B2 #[.int .i64 u] 3
 box3:∀ k w,J k w->Row w B3 #[.int .i64 m] 3
theorem row_cell0 {w:World} {b:Nat} {u v:Int} (h:Row w b #[.int .i64 u] 3) (hc:w.cell? ⟨b,0,none⟩=some (.int .i64 v)):Row w b #[.int .i64 v] 3:=by
 have:=h.cell 0;rw[hc] at this;simp at this;rw[this];exact h
theorem way_from1 {W:Way} (ok:W.Ok) (hdu:0<W.du) (hσ:W.dv*W.step=W.bv-W.av) {p B1 B2 B3 l N:Nat} (u0 m:Int) (m0:0<=m) (m1:m<=8388608)
  (ub:∀ k:Int,0<=k->k<=m->-8388600<=u0+k*W.step/\u0+k*W.step<=8388600)
  (J:Nat->World->Prop) (hJ:Bears W p B1 B2 B3 m J) (n1:B2≠p) (n2:B2≠B1) (n3:B2≠B3)
  (hY:∀ (k:Nat) w,J k w->(k:Int)<m->w.cell? ⟨B2,0,none⟩=some (.int .i64 (u0+(k:Int)*W.step)) ->
   YieldAt Fence.wide N Tryz.prog l #[.int .i64 (u0+(k:Int)*W.step),.int .i64 (W.across (u0+(k:Int)*W.step))] w (fun e w'=>e=.returned (.bool true)/\J (k+1) w'/\w'.cell? ⟨B2,0,none⟩=w.cell? ⟨B2,0,none⟩))
  (w:World) (h0:J 0 w) (hu:w.cell? ⟨B2,0,none⟩=some (.int .i64 u0)) :
  Calls Tryz.prog 251 #[.func (.yield l) #[] #[],.pointer (some ⟨B1,0,none⟩),.pointer (some ⟨B2,0,none⟩),.pointer (some ⟨B3,0,none⟩)] w (fun e w'=>(∃ v,e=.returned v)/\J m.toNat w'):=by
 have hden:0<W.den:=by unfold Way.den;omega
 have HY:=jj hY;have HJ:=jj hJ;have H0:=jj h0;have UB:=jj ub;have OK:=jj ok;have NX:=jj (across_next W hden hσ);have NS:=jj (num_step W hσ);have RS:=jj (fun u=>across_rest W u hden);obtain ⟨s,hs⟩:∃ s,W.step=s:=⟨_,rfl⟩;have s01:=step_is W;have HS:=jj (fun w (h:WayAt w p W)=>way_step h ok);have HU:=jj (fun w u u0 u1 (h:WayAt w p W)=>way_under ok h u u0 u1);have HA:=jj (fun w u u0 u1 (h:WayAt w p W)=>way_across ok h u u0 u1 hdu);simp only[hs] at HY UB NX NS s01 HS
 -- bounds
 have db:W.den<=274877906944:=by
  have:=ok.au0;have:=ok.au1;have:=ok.bu0;have:=ok.bu1
  unfold Way.den Way.du;split<;>omega
 have w1:=hJ.way 0 w h0;have b1:=hJ.box1 0 w h0;have b2:=row_cell0 (hJ.box2 0 w h0).choose_spec hu;have b3:=hJ.box3 0 w h0;have ha0:=ok.av0;have ha1:=ok.av1;have hb0:=ok.bv0;have hb1:=ok.bv1
 have nb:∀ u,-8388608<=u->u<=8388608->-5188146770730811392<=W.num u/\W.num u<=5188146770730811392:=by
  intro u u0 u1;obtain ⟨a0,a1,a2,a3,b0,b1,b2,b3,k0,k1,f0,f1,l0,l1⟩:=ok;have d0:-1073741824<=W.du/\W.du<=1073741824:=by unfold Way.du;split<;>omega
  have d1:-1073741824<=W.dv/\W.dv<=1073741824:=by unfold Way.dv;split<;>omega
  have m1:=mul_bd2 (u:=W.av) (v:=W.du) (U:=536870912) (V:=1073741824) (by omega) (by omega) (by omega) (by omega) (by omega) (by omega);have m2:=mul_bd2 (u:=W.dv) (v:=256*u+128-W.au) (U:=1073741824) (V:=2684354688) (by omega) (by omega) (by omega) (by omega) (by omega) (by omega);unfold Way.num;omega
 have vb:∀ u,-8388608<=u->u<=8388608->-5188146770730811392-274877906944<=W.across u*W.den/\W.across u*W.den<=5188146770730811392/\-5188146770730811392-274877906944<=W.across u/\W.across u<=5188146770730811392:=by
  intro u u0 u1;have r:=across_rest W u hden;have n:=nb u u0 u1;have k:-5188146770730811392-274877906944<=W.across u*W.den/\W.across u*W.den<=5188146770730811392:=by omega
  refine ⟨k.1,k.2,?_⟩
  by_cases c:0<=W.across u
  ·have:=Int.mul_le_mul_of_nonneg_left (show (1:Int)<=W.den by omega) c;omega
  ·have:=Int.mul_le_mul_of_nonpos_left (show W.across u<=0 by omega) (show (1:Int)<=W.den by omega);omega
 have NB:=jj nb;have VB:=jj vb;have ab:-274877906944<=256*(W.bv-W.av)/\256*(W.bv-W.av)<=274877906944:=by omega
 have qb:-274877906944<=(256*(W.bv-W.av)).tdiv W.den/\(256*(W.bv-W.av)).tdiv W.den<=274877906944:=by
  have:=Int.natAbs_tdiv_le_natAbs (256*(W.bv-W.av)) W.den;omega
 have rb:-W.den<(256*(W.bv-W.av)).tmod W.den/\(256*(W.bv-W.av)).tmod W.den<W.den:=by
  refine ⟨?_,Int.tmod_lt_of_pos _ hden⟩;have:=Int.tmod_lt_of_pos (-(256*(W.bv-W.av))) hden;rw[Int.neg_tmod] at this;omega
 obtain ⟨d,hd⟩:∃ d,W.den=d:=⟨_,rfl⟩;obtain ⟨q,hq⟩:∃ q,(256*(W.bv-W.av)).tdiv W.den=q:=⟨_,rfl⟩;obtain ⟨r,hr⟩:∃ r,(256*(W.bv-W.av)).tmod W.den=r:=⟨_,rfl⟩;rw[hq] at qb NX;rw[hr] at rb NX;rw[hd] at rb db NX VB RS hden;have AQ:=jj (show q*d+r=256*(W.bv-W.av) by rw[<-hq,<-hr,<-hd];exact Int.tdiv_mul_add_tmod _ _);have hq2:(256*(W.bv-W.av)).tdiv d=q:=by rw[<-hd];exact hq
 have hr2:(256*(W.bv-W.av)).tmod d=r:=by rw[<-hd];exact hr
 simp only[hd] at HU;obtain ⟨ab0,ab1⟩:=ab;obtain ⟨qb0,qb1⟩:=qb;obtain ⟨rb0,rb1⟩:=rb;have dne:d≠0:=by omega
 have ub0:=ub 0 (by omega) m0;rw[Int.zero_mul,Int.add_zero] at ub0;obtain ⟨ub00,ub01⟩:=ub0;have nb0:=nb u0 (by omega) (by omega);have vb0:=VB.out u0 (by omega) (by omega);have HU0:=jj (fun w h=>HU.out w u0 (by omega) (by omega) h);have HA0:=jj (fun w h=>HA.out w u0 (by omega) (by omega) h);obtain ⟨nn,hnn⟩:∃ nn,W.num u0=nn:=⟨_,rfl⟩;obtain ⟨v,hv⟩:∃ v,W.across u0=v:=⟨_,rfl⟩;rw[hnn] at HU0 nb0;rw[hv] at HA0 vb0;obtain ⟨nb00,nb01⟩:=nb0;obtain ⟨vb00,vb01,vb02,vb03⟩:=vb0;have rs0:=RS.out u0;rw[hnn,hv] at rs0;have HV0:=jj hv;have HN0:=jj hnn;have HSs:=jj hs;have hc:=w1.cell;simp only[Way.cells] at hc;have hf:=w1.frozen;have hl:=w1.lt;have c1:=b1.cell;have f1:=b1.frozen;have l1:=b1.lt;have c2:=b2.cell;have f2:=b2.frozen;have l2:=b2.lt;have c3:=b3.cell;have f3:=b3.frozen;have l3:=b3.lt;have HW1:=jj w1;clear hY hJ h0 ub ok hs hnn hv hq hr hd nb vb w1 b1 b2 b3 hu hσ hdu;simp only[ptr] at HU0 HA0 HS HA
 go_enter Tryz.func251,Tryz.ntmps251
 have w1:=HW1.out;go_upto_region 3 with (first|(go_at_call 252;(with_reducible refine (HU0.out _ ?_).mono ?_);exact rx_;rintro _ _ ⟨rfl,X_,rfl⟩)|(go_at_call 253;(with_reducible refine (HA0.out _ ?_).mono ?_);exact rx_;rintro _ _ ⟨rfl,X_,rfl⟩))
 refine wp_region_ext (by kernel_rfl) (by kernel_rfl) ?_
 repeat (go_big_quiet_step ((fail)))
 refine wpQuiet_nil ?_;intro _ hw_ext;obtain ⟨X1,hw_ext⟩:=hw_ext;subst hw_ext;go_upto_region 6 with fail
 go_wp2;go_loopw [7,8,42] (fun a b c wr=>∃ k:Nat,(k:Int)<=m/\c=.int .i64 k/\a=.int .i64 (W.across (u0+(k:Int)*s))/\b=.int .i64 (W.num (u0+(k:Int)*s)-W.across (u0+(k:Int)*s)*d)/\J k wr/\wr.cell? ⟨B2,0,none⟩=some (.int .i64 (u0+(k:Int)*s)))
  (fun _ _ c _=>(m-intOf c).toNat)
 case atStart =>
  refine ⟨0,m0,rfl,?_,?_,HJ.out.ext _ _ _ (HJ.out.ext _ _ _ (HJ.out.ext _ _ _ H0.out)),?_⟩
  ·rw[Int.ofNat_zero,Int.zero_mul,Int.add_zero,HV0.out]
  ·rw[Int.ofNat_zero,Int.zero_mul,Int.add_zero,HV0.out,HN0.out]
  ·rw[Int.ofNat_zero,Int.zero_mul,Int.add_zero];rw[World.cell?_ext' (by simp;omega),World.cell?_ext' (by simp;omega),World.cell?_ext' l2];exact c2 0
 case round =>
  obtain ⟨k,hk,rfl,rfl,rfl,hJk,hu⟩:=hrel;clear hc hf hl c1 f1 l1 c2 f2 l2 c3 f3 l3 w1 HW1 X1 HU0 HA0
  by_cases hlt:(k:Int)<m
  ·obtain ⟨fn,tmps,assign,body,hy,hR⟩:=HY.out k wr hJk hlt hu;obtain ⟨U,hU⟩:∃ U,u0+(k:Int)*s=U:=⟨_,rfl⟩;rw[hU] at hy hu;obtain ⟨V,hV⟩:∃ V,W.across U=V:=⟨_,rfl⟩;obtain ⟨R,hRR⟩:∃ R,W.num U-V*d=R:=⟨_,rfl⟩;rw[hV] at hy;rw[hU,hV,hRR];have HU1:=jj hU;have HV1:=jj hV;have HR1:=jj hRR;have HJk:=jj hJk;have HR:=jj hR;clear hU hV hRR hJk hR;go_upto_region 8 with fail
   refine (wpIn_wide (n:=N+1)).1 ?_;have c2:=(row_cell0 (HJ.out.box2 _ _ HJk.out).choose_spec hu).cell
   gi_wp2
   refine HR.out.mono ?_;rintro e W3 ⟨rfl,hJ3,hk3⟩;rw[hu] at hk3;have HJ3:=jj hJ3;have r2:=row_cell0 (HJ.out.box2 _ _ hJ3).choose_spec hk3;have r1:=HJ.out.box1 _ _ hJ3;have rw1:=HJ.out.way _ _ hJ3;have R2:=jj r2;clear c2 hJ3 hk3 hu hy;have c2:=r2.cell;have f2:=r2.frozen;have l2:=r2.lt;have c1:=r1.cell;have f1:=r1.frozen;have l1:=r1.lt;clear r1 r2
   gi_wp2
   obtain ⟨uU0,uU1⟩:-8388600<=U/\U<=8388600:=by rw[<-HU1.out];exact UB.out k (by omega) hk
   have sb:-1<=s/\s<=1:=by omega
   obtain ⟨sb0,sb1⟩:=sb;obtain ⟨vV0,vV1,vV2,vV3⟩:=VB.out U (by omega) (by omega);rw[HV1.out] at vV0 vV1 vV2 vV3;have rR:=RS.out U;rw[HV1.out,HR1.out] at rR;obtain ⟨rR0,rR1⟩:=rR;have NX1:=jj (by have:=NX.out U;rw[HV1.out,HR1.out] at this;exact this);clear vV0 vV1;go_upto_region 9 with fail
   refine wp_region_ext_tail 4 (by kernel_rfl) (by kernel_rfl) ?_;simp only[jx]
   repeat (go_big_quiet_step ((first|(go_at_call 228;with_reducible refine Calls.quiet_ret (HS.out _ ?_);exact rx_))))
   refine wpQuiet_nil ?_;intro _ hw_ext;obtain ⟨X2,hw_ext⟩:=hw_ext;subst hw_ext;have FIN:∀ (V' R':Int),V'=W.across (U+s)->R'=W.num (U+s)-V'*d->∀ w',w'=(W3.setCell ⟨B2,0,none⟩ (.int .i64 (U+s))).ext X2 ->
     ∃ k':Nat,(k':Int)<=m/\((k:Int)+1)=k'/\V'=W.across (u0+(k':Int)*s)/\R'=W.num (u0+(k':Int)*s)-W.across (u0+(k':Int)*s)*d/\J k' w'/\w'.cell? ⟨B2,0,none⟩=some (.int .i64 (u0+(k':Int)*s)):=by
    intro V' R' h1 h2 w' hw;have e:u0+((k+1:Nat):Int)*s=U+s:=by rw[<-HU1.out,Int.natCast_add,Int.add_mul];simp;omega
    refine ⟨k+1,by omega,by omega,by rw[e];exact h1,by rw[e,<-h1];exact h2,?_,?_⟩
    ·rw[hw];exact HJ.out.ext _ _ _ (HJ.out.put _ _ _ HJ3.out)
    ·have r:=(R2.out.set 0 (.int .i64 (U+s))).ext X2;rw[<-hw] at r;rw[e];have:=r.cell 0
     simpa using this
   have HF:=jj FIN;clear FIN
   by_cases c1:d<=R+r
   ·have c2:R+r-d<d:=by omega
    have c3:0<=R+r-d:=by omega
    go_wp2;refine wp_loop_rounds 3 ?_
    iterate 3 try any_goals (rw[rounds_succ];go_wp2)
    refine wp_loop_rounds 3 ?_
    iterate 3 try any_goals (rw[rounds_succ];go_wp2)
    go_roundw
    case rel =>
     have e1:V+q+1=W.across (U+s):=(NX1.out.1 c1).symm;have e2:R+r-d=W.num (U+s)-(V+q+1)*d:=by
      rw[NS.out,<-AQ.out,<-HR1.out];simp only[Int.add_mul,Int.sub_mul,Int.one_mul];omega
     obtain ⟨k',h1,h2,h3,h4,h5,h6⟩:=HF.out _ _ e1 e2 _ rfl;refine ⟨k',h1,by rw[h2],by rw[h3],by rw[h4],h5,h6⟩
    case measure=>simp[intOf];omega
   ·have c1:R+r<d:=by omega
    by_cases c4:R+r<0
    ·have c2:0<=R+r+d:=by omega
     go_wp2;refine wp_loop_rounds 3 ?_
     iterate 3 try any_goals (rw[rounds_succ];go_wp2)
     refine wp_loop_rounds 3 ?_
     iterate 3 try any_goals (rw[rounds_succ];go_wp2)
     go_roundw
     case rel =>
      have e1:V+q-1=W.across (U+s):=(NX1.out.2.1 c4).symm;have e2:R+r+d=W.num (U+s)-(V+q-1)*d:=by
       rw[NS.out,<-AQ.out,<-HR1.out];simp only[Int.add_mul,Int.sub_mul,Int.one_mul];omega
      obtain ⟨k',h1,h2,h3,h4,h5,h6⟩:=HF.out _ _ e1 e2 _ rfl;refine ⟨k',h1,by rw[h2],by rw[h3],by rw[h4],h5,h6⟩
     case measure=>simp[intOf];omega
    ·have c4:0<=R+r:=by omega
     go_wp2;refine wp_loop_rounds 3 ?_
     iterate 3 try any_goals (rw[rounds_succ];go_wp2)
     refine wp_loop_rounds 3 ?_
     iterate 3 try any_goals (rw[rounds_succ];go_wp2)
     go_roundw
     case rel =>
      have e1:V+q=W.across (U+s):=(NX1.out.2.2 c1 c4).symm;have e2:R+r=W.num (U+s)-(V+q)*d:=by
       rw[NS.out,<-AQ.out,<-HR1.out];simp only[Int.add_mul,Int.sub_mul,Int.one_mul];omega
      obtain ⟨k',h1,h2,h3,h4,h5,h6⟩:=HF.out _ _ e1 e2 _ rfl;refine ⟨k',h1,by rw[h2],by rw[h3],by rw[h4],h5,h6⟩
     case measure=>simp[intOf];omega
  ·have ek:m.toNat=k:=by omega
   go_wp2
   go_end0
   exact ⟨⟨_,rfl⟩,ek▸hJk⟩
end
section
theorem cell_putObj {w:World} {j b i:Nat} {o:Obj} (h:b≠j):(w.putObj j o).cell? ⟨b,i,none⟩=w.cell? ⟨b,i,none⟩:=by
 unfold World.cell?;rw[World.putObj_heap_other h]
theorem Row.putObj {w:World} {j b:Nat} {o:Obj} {c:Array Value} {T:TypeId} (h:Row w b c T) (hj:b≠j):Row (w.putObj j o) b c T:=by
 have hc:Chg (fun k=>k=j) w (w.putObj j o):=⟨rfl,rfl,rfl,by simp,fun k hk hp=>World.putObj_heap_other hp⟩;exact hc.row h hj
theorem wpIn_range_from {W:Way} (ok:W.Ok) (hdu:0<W.du) (hσ:W.dv*W.step=W.bv-W.av) {p B1 B2 B3 N n:Nat} (u0 m:Int) (m0:0<=m) (m1:m<=8388608)
  (ub:∀ k:Int,0<=k->k<=m->-8388600<=u0+k*W.step/\u0+k*W.step<=8388600)
  (n1:B2≠p) (n2:B2≠B1) (n3:B2≠B3)
  {g:Operand} {ps:Array Tmp} {assign body:Code} {Q:Exit->Act->World->Prop} {a:Act} {w:World}
  (hg:a.eval g=.func (.func 251) #[] #[.pointer (some ⟨B1,0,none⟩),.pointer (some ⟨B2,0,none⟩),.pointer (some ⟨B3,0,none⟩)])
  (hps:ps.size=2) (hB:p<w.heap.size/\B1<w.heap.size/\B2<w.heap.size/\B3<w.heap.size)
  (I:Nat->World->Prop) (hI:Bears W p B1 B2 B3 m I)
  (hput:∀ k W' j o o',w.heap.size<=j->W'.heap[j]?=some o->o.isCells=false->I k W'->I k (W'.putObj j o'))
  (h0:I 0 w) (hu:w.cell? ⟨B2,0,none⟩=some (.int .i64 u0))
  (a₁:Nat->Act)
  (hassign:∀ (l:Nat) (k:Nat) (W':World) (K:Act->World->Prop),K (a₁ k) W' ->
   assign.wpIn (Fence.wide.inRound l) N Tryz.prog (Exit.then K (fun _ _ _=>False)) { tmps:=(ps.zip #[.int .i64 (u0+(k:Int)*W.step),.int .i64 (W.across (u0+(k:Int)*W.step))]).foldl (fun t (p,v)=>t.setIfInBounds p v) a.tmps,defers:=[] } W')
  (hbody:∀ (l:Nat) (k:Nat) (W':World),I k W'->(k:Int)<m->body.wpIn (Fence.wide.inRound l) N Tryz.prog (fun e _ W2=>e=.normal/\KeepsOthers W' W2/\I (k+1) W2/\W2.cell? ⟨B2,0,none⟩=W'.cell? ⟨B2,0,none⟩) (a₁ k) W')
  (hdone:∀ (D:Nat) (W':World),w.heap.size<=D->I m.toNat W'->W'.heap[D]?=some (.deferred (some []))->Q .normal { a with defers:={ target:=.collected D,args:=#[] }::a.defers } W') :
  (Code.rangeFunc g ps assign body).wpIn Fence.wide n Tryz.prog Q a w:=by
 refine wpIn_rangeFunc ?_;intro fn hfn;rw[show Fence.wide.round=none from rfl];obtain ⟨rec,hrec⟩:∃ rec:LoopState->Loop,rec=fun st=>{ state:=st,pending:=none,fn,tmps:=a.tmps,params:=ps,assign,body,defers:=w.heap.size }:=⟨_,rfl⟩
 obtain ⟨W1,hW1⟩:∃ W1,(w.alloc (.deferred (some []))).alloc (.loop (rec .ready))=W1:=⟨_,rfl⟩;have hL1:W1.heap[w.heap.size+1]?=some (.loop (rec .ready)):=by
  rw[<-hW1];have:=World.alloc_heap_new (w.alloc (.deferred (some []))) (.loop (rec .ready));rwa [World.size_alloc] at this
 have hK1:W1.heap[w.heap.size]?=some (.deferred (some [])):=by
  rw[<-hW1];exact (Below.heap_alloc _ _ _ (by simp)).trans (World.alloc_heap_new w _)
 have hX1:∃ X,W1=w.ext X:=by
  rw[<-hW1];exact jz (((Below.refl _ w).alloc (Nat.le_refl _) _).alloc (by simp) _)
 have hI1:I 0 W1:=by obtain ⟨X,rfl⟩:=hX1;exact hI.ext _ _ _ h0
 have hu1:W1.cell? ⟨B2,0,none⟩=some (.int .i64 u0):=by obtain ⟨X,rfl⟩:=hX1;rw[World.cell?_ext hB.2.2.1];exact hu
 refine ⟨w.heap.size+1,[{ target:=.collected w.heap.size,args:=#[] }],W1,{ target:=.fn (.func 251) #[.pointer (some ⟨B1,0,none⟩),.pointer (some ⟨B2,0,none⟩),.pointer (some ⟨B3,0,none⟩)],args:=#[.func (.yield (w.heap.size+1)) #[] #[]] },W1,251,
  #[.func (.yield (w.heap.size+1)) #[] #[],.pointer (some ⟨B1,0,none⟩),.pointer (some ⟨B2,0,none⟩),.pointer (some ⟨B3,0,none⟩)],W1,?_,?_,?_,?_,fun h=>(by cases h),?_⟩
 ·rw[<-hW1,hrec];exact run_enterLoop_outer _ _ _ _ _
 ·simp only[resolve,hg];simp[go_sem]
 ·intro f' hf';trivial
 ·have eg:=enters_of Tryz.func251 (by kernel_rfl) rfl;simp[invoke,go_sem,eg]
 ·refine callsIn_wide.2 ?_;have hJ:Bears W p B1 B2 B3 m (fun k W'=>I k W'/\W'.heap[w.heap.size+1]?=some (.loop (rec .ready))/\W'.heap[w.heap.size]?=some (.deferred (some []))):=by
   refine ⟨?_,?_,fun k w' h=>hI.way k w' h.1,fun k w' h=>hI.box1 k w' h.1,fun k w' h=>hI.box2 k w' h.1,fun k w' h=>hI.box3 k w' h.1⟩
   ·rintro k w' v ⟨h1,h2,h3⟩;exact ⟨hI.put _ _ _ h1,(KeepsOthers.setCell _ _ _).same _ _ h2 rfl,(KeepsOthers.setCell _ _ _).same _ _ h3 rfl⟩
   ·rintro k w' X ⟨h1,h2,h3⟩;exact ⟨hI.ext _ _ _ h1,(World.heap_ext (Array.getElem?_eq_some_iff.1 h2).1).trans h2,(World.heap_ext (Array.getElem?_eq_some_iff.1 h3).1).trans h3⟩
  refine (way_from1 ok hdu hσ (N:=N) u0 m m0 m1 ub _ hJ n1 n2 n3 ?_ W1 ⟨hI1,hL1,hK1⟩ hu1).mono ?_
  ·rintro k W' ⟨hi,hl,hk⟩ hkm huW;have hlt:w.heap.size+1<W'.heap.size:=(Array.getElem?_eq_some_iff.1 hl).1;have hy:=run_yield (P:=Tryz.prog) (args:=#[.int .i64 (u0+(k:Int)*W.step),.int .i64 (W.across (u0+(k:Int)*W.step))]) hl (by rw[hrec];simp[hps]);rw[hrec] at hy;refine ⟨fn,_,assign,body,hy,roundIn_of_wpIn trivial (hassign _ k W' _ ⟨_,run_beginRound hl (by rw[hrec]),?_⟩)⟩;have hl2:(W'.putObj (w.heap.size+1) (.loop { rec .ready with state:=.busy })).heap[w.heap.size+1]?=some (.loop { rec .ready with state:=.busy }):=World.putObj_heap_same hlt;have hk2:(W'.putObj (w.heap.size+1) (.loop { rec .ready with state:=.busy })).heap[w.heap.size]?=some (.deferred (some [])):=(World.putObj_heap_other (by omega)).trans hk;refine wpIn_mono (hbody _ k _ (hput _ _ _ _ _ (by omega) hl rfl hi) hkm) ?_;rintro e a3 W3 ⟨rfl,hk3,hi3,hc3⟩;have hl3:=hk3.same _ _ hl2 rfl;have hr:=run_endRound (P:=Tryz.prog) none hl3;refine ⟨_,_,hr,rfl,⟨hput _ _ _ _ _ (by omega) hl3 rfl hi3,?_,(World.putObj_heap_other (by omega)).trans (hk3.same _ _ hk2 rfl)⟩,?_⟩
   ·rw[World.putObj_heap_same (Array.getElem?_eq_some_iff.1 hl3).1,hrec];rfl
   ·rw[cell_putObj (by omega),hc3,cell_putObj (by omega)]
  ·rintro e W2 ⟨⟨v,rfl⟩,hi,hl,hk⟩;exact ⟨none,_,by have:=run_endLoop (P:=Tryz.prog) hl (by rw[hrec];simp);rw[hrec] at this;exact this,
    hdone _ _ (Nat.le_refl _) (hput _ _ _ _ _ (by omega) hl rfl hi) ((World.putObj_heap_other (by omega)).trans hk)⟩
end
section
abbrev St.cells (s:St):List Value:=[.int .i64 s.K,.int .i64 s.X,.int .i64 s.Y]
theorem info_step:(Tryz.prog.info? 228).map (fun i=>(i.zero,i.size,i.bytes))=some (some (.agg #[.int .i64 0,.int .i64 0,.int .i64 0]),3,24):=by kernel_rfl
def Sts (w:World) (v:Value) (L:List St):Prop :=
 L.length<=8388608/\∃ a cap,v=.slice a L.length cap/\L.length<=cap /\
  (L=[]\/∃ b off,a=some ⟨b,off,none⟩/\b<w.heap.size/\∀ i s,L[i]?=some s->∀ j u,s.cells[j]?=some u->w.cell? ⟨b,off+i*3+j,none⟩=some u)
theorem Sts.chg {p:Nat->Prop} {w w1:World} {v:Value} {L:List St} (h:Sts w v L) (hc:Chg p w w1) (hb:∀ b,v.ownBlock=some b->L≠[]->b<w.heap.size->¬p b):Sts w1 v L:=by
 obtain ⟨h1,a,cap,rfl,h2,h3⟩:=h;refine ⟨h1,a,cap,rfl,h2,?_⟩
 by_cases hne:L=[]
 ·exact .inl hne
 rcases h3 with h3|⟨b,off,rfl,hb',hcl⟩
 ·exact .inl h3
 ·exact .inr ⟨b,off,rfl,Nat.lt_of_lt_of_le hb' hc.size,fun i f hi j u hj=>by rw[hc.cell hb' (hb b rfl hne hb')];exact hcl i f hi j u hj⟩
theorem Sts.ext {w:World} {v:Value} {L:List St} (h:Sts w v L) (X:Xt):Sts (w.ext X) v L:=h.chg (p:=fun _=>False) (Chg.of_ext X) (fun _ _ _ _ h=>h)
theorem own_extS {w:World} {base n size:Nat} {e:TypeId} {v:Value} {xs:List Value} (h:w.ownsRow base e size v n xs) (X:Xt):(w.ext X).ownsRow base e size v n xs :=
 h.kept (row:=none) ⟨rfl,rfl,rfl,by simp,fun k hk _=>World.heap_ext hk⟩ (by cases v.ownBlock<;>simp)
theorem flat_atS:∀ (L:List St) (i:Nat) (f:St) (j:Nat) (u:Value),L[i]?=some f->f.cells[j]?=some u->(L.flatMap St.cells)[i*3+j]?=some u
 | [],_,_,_,_,h,_=>by simp at h
 |g::L,0,f,j,u,h,h'=>by
  obtain rfl:g=f:=by simpa using h
  have hj:j<(St.cells g).length:=by rw[List.getElem?_eq_some_iff] at h';exact h'.1
  rw[List.flatMap_cons,List.getElem?_append_left (by simpa using hj)]
  simpa using h'
 |g::L,i+1,f,j,u,h,h'=>by
  have e8:(St.cells g).length=3:=rfl;rw[List.flatMap_cons,List.getElem?_append_right (by rw[e8];omega),e8,show (i+1)*3+j-3=i*3+j by omega];exact flat_atS L i f j u (by simpa using h) h'
theorem own_sts {wr:World} {base:Nat} {vb:Value} {L:List St} (h:wr.ownsRow base 228 3 vb L.length (L.flatMap St.cells)) (hl:L.length<=8388608):Sts wr vb L:=by
 obtain ⟨hle,h1⟩:=h;rcases h1 with ⟨rfl,h0⟩|⟨g,cap,cur,rfl,hb,hg,h1,h2,h3,h4⟩
 ·obtain rfl:L=[]:=List.length_eq_zero_iff.1 h0;exact ⟨hl,none,0,rfl,Nat.le_refl _,.inl rfl⟩
 ·refine ⟨hl,_,cap,rfl,h1,.inr ⟨g,0,rfl,(Array.getElem?_eq_some_iff.1 hg).1,fun i f hi j u hj=>?_⟩⟩;have e:=flat_atS L i f j u hi hj;rw[<-h4,List.getElem?_take] at e;rw[Nat.zero_add,World.cell?];simp only[hg]
  split at e
  ·rw[<-Array.getElem?_toList];exact e
  ·exact absurd e (by simp)
theorem addr_addS (b o j:Nat):(⟨b,o,none⟩:Addr).add j=⟨b,o+j,none⟩:=by simp[Addr.add]
theorem cells_newS {w:World} {n:Nat} (h:w.heap.size=n) (c:Array Value) (t:TypeId):∀ j u,c.toList[j]?=some u->(w.alloc (.cells c t)).cell? ((⟨n,0,none⟩:Addr).add j)=some u:=by
 subst h;intro j u hj;rw[addr_addS,Nat.zero_add,World.cell?];simp only[World.hp_alloc,Array.getElem?_push,if_true];rw[<-Array.getElem?_toList];exact hj
def Lists (w:World) (L:List St) (e:Ending) (w':World):Prop:=∃ v,e=.returned v/\Sts w' v L/\∃ X,w'=w.ext X
structure Wi (w wr:World) (W:Way) (p Bw Bo:Nat) (x0 y0 x1 y1:Int) (v:Value) (L:List St):Prop where
 hp:w.heap.size+3<=p
 hw:w.heap.size+3<=Bw
 ho:w.heap.size+3<=Bo
 n1:p≠Bw
 n2:p≠Bo
 n3:Bw≠Bo
 way:WayAt wr p W
 bw:Row wr Bw #[.pointer (some ⟨p,0,none⟩)] 249
 bo:Row wr Bo #[v] 224
 br:Row wr (w.heap.size+1+1) #[.int .i64 x0,.int .i64 y0,.int .i64 x1,.int .i64 y1] 29
 own:wr.ownsRow w.heap.size 228 3 v L.length (L.flatMap St.cells)
 ext:∃ X,wr=w.ext X
section
variable {w wr:World} {W:Way} {p Bw Bo:Nat} {x0 y0 x1 y1:Int} {v:Value} {L:List St}
theorem Wi.grow (h:Wi w wr W p Bw Bo x0 y0 x1 y1 v L) (X:Xt):Wi w (wr.ext X) W p Bw Bo x0 y0 x1 y1 v L :=
 ⟨h.hp,h.hw,h.ho,h.n1,h.n2,h.n3,h.way.ext X,h.bw.ext X,h.bo.ext X,h.br.ext X,own_extS h.own X,by obtain ⟨Y,rfl⟩:=h.ext;exact ⟨_,World.ext_ext⟩⟩
theorem Wi.size (h:Wi w wr W p Bw Bo x0 y0 x1 y1 v L):w.heap.size<=wr.heap.size:=by obtain ⟨X,rfl⟩:=h.ext;simp
theorem Wi.below (h:Wi w wr W p Bw Bo x0 y0 x1 y1 v L):Below w.heap.size w wr:=by obtain ⟨X,rfl⟩:=h.ext;exact (Below.refl _ _).ext (Nat.le_refl _) X
theorem row_not_own {c:Array Value} {T:TypeId} {b:Nat} (h:Row wr b c T) (hT:T≠228) {base k:Nat} {xs:List Value} (hr:wr.ownsRow base 228 3 v k xs):some b≠v.ownBlock:=by
 rcases hr.2 with ⟨rfl,_⟩|⟨g,cap,cur,rfl,_,hgb,_⟩
 ·simp[Value.ownBlock]
 ·intro e';obtain rfl:b=g:=by simpa [Value.ownBlock] using e'
  have:=(show wr.heap[b]?=_ from h).symm.trans hgb;simp at this;exact hT this.2
theorem Row.kept {wr w1:World} {b:Nat} {c:Array Value} {T:TypeId} {row:Option Nat} (h:Row wr b c T) (hg:wr.grownBy w1 row) (hn:some b≠row):Row w1 b c T:=by
 unfold Row;rw[hg.block b h.lt hn];exact h
theorem Wi.snoc {w1:World} {s:St} {v':Value} {o:Obj} (h:Wi w wr W p Bw Bo x0 y0 x1 y1 v L) (hown:w1.ownsRow w.heap.size 228 3 v' (L.length+1) (L.flatMap St.cells++s.cells)) (hg:(wr.alloc o).grownBy w1 v.ownBlock) :
  Row w1 Bo #[v] 224/\Wi w (w1.setCell ⟨Bo,0,none⟩ v') W p Bw Bo x0 y0 x1 y1 v' (L++[s]):=by
 have r1:=(h.bo.alloc o).kept hg (row_not_own h.bo (by decide) h.own);have r2:=(h.bw.alloc o).kept hg (row_not_own h.bw (by decide) h.own);have r3:=(Row.alloc h.way o).kept hg (row_not_own h.way (by decide) h.own);have r4:=(h.br.alloc o).kept hg (row_not_own h.br (by decide) h.own);have hb1:Below w.heap.size w w1:=Below.grown (h.below.alloc h.size o) hg (by have:=h.size;rw[World.hp_alloc,Array.size_push];omega) fun k hk=>(h.own.lt k hk).1
 refine ⟨r1,h.hp,h.hw,h.ho,h.n1,h.n2,h.n3,r3.other h.n2 _ _,r2.other h.n3 _ _,?_,r4.other (by have:=h.ho;omega) _ _,?_,?_⟩
 ·have:=r1.set 0 v';simpa using this
 ·have e:(L++[s]).length=L.length+1:=by simp
  rw[e,List.flatMap_append];refine World.ownsRow.kept (row:=some Bo) (by simpa using hown) (grownBy_setCell' w1 Bo v') (.inr ?_);exact (row_not_own (v:=v') r1 (by decide) hown).symm
 ·exact jz (hb1.setCell (p:=⟨Bo,0,none⟩) (by have:=h.ho;show w.heap.size<=Bo;omega) _)
end
end
section
theorem withinL_mk (ax ay bx y2 x0 y0 x1 y1:Int) (c:¬(ax=bx/\ay=y2)) (r:rightP x0 y0 x1 y1):withinL ax ay bx y2 x0 y0 x1 y1 =
  (mkWay ax ay bx y2).headL x0 y0 x1 y1++(mkWay ax ay bx y2).loopL x0 y0 x1 y1 ((mkWay ax ay bx y2).hi x0 y0 x1 y1-(mkWay ax ay bx y2).lo x0 y0 x1 y1+1).toNat:=by
 unfold withinL;rw[if_neg (fun q=>q.elim c (fun q=>q r)),<-mkWay_line ax ay bx y2 c,line_filter]
theorem withinL_no (ax ay bx y2 x0 y0 x1 y1:Int) (c:(ax=bx/\ay=y2)\/¬rightP x0 y0 x1 y1):withinL ax ay bx y2 x0 y0 x1 y1=[]:=if_pos c
theorem sts_nil (w:World):Sts w (.slice none 0 0) []:=⟨by simp,none,0,rfl,Nat.le_refl _,.inl rfl⟩
theorem walk_within_no (ax ay bx y2 x0 y0 x1 y1:Int) (c:(ax=bx/\ay=y2)\/¬rightP x0 y0 x1 y1) (w:World):Calls Tryz.prog 192 #[P2 ax ay,P2 bx y2,R4 x0 y0 x1 y1] w (Lists w []):=by
 refine (callsIn_wide (n:=9)).1 ?_;refine callsIn_of_wp_marks Tryz.func192 rfl trivial ?_ rfl;simp only[Tryz.ntmps192,List.size_toArray,List.length_cons,List.length_nil,Nat.reduceAdd,Nat.reduceSub,Array.replicate_succ,Array.replicate_zero,List.push_toArray,List.append_toArray,List.nil_append,List.cons_append];refine wpIn_wide.2 ?_
 by_cases hc:ax=bx/\ay=y2
 ·obtain ⟨rfl,rfl⟩:=hc;have hz1:(ax==ax)=true:=by simp
  have hz2:(ay==ay)=true:=by simp
  go_wp2;exact ⟨_,results_tmp rfl _ _ _,_,rfl,sts_nil _,jz (by exact bl_)⟩
 ·have hr:decide (rightP x0 y0 x1 y1)=false:=decide_eq_false (c.resolve_left hc);have HR:=jj (fun w=>hr▸rect_right x0 y0 x1 y1 w);have hz:=ne_bools hc;clear c hc hr;rcases hz with hz1|⟨hz1,hz2⟩
  all_goals
   go_wp2_with (first|(go_at_call 46;(with_reducible refine (HR.out _).mono ?_);rintro _ _ ⟨rfl,X_,rfl⟩))
   exact ⟨_,results_tmp rfl _ _ _,_,rfl,sts_nil _,jz (by exact bl_)⟩
end
end
end Go.Proofs.YthcjfanigfgckaaGreat
