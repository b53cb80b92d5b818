import Derived.Test.YthcjfanigfgckaaGreatSHidb13
set_option linter.unusedVariables false
set_option linter.unusedSimpArgs false
set_option maxRecDepth 100000
set_option maxHeartbeats 16000000
namespace Go.Proofs.YthcjfanigfgckaaGreat
open Go.RowKit _root_.Go.Proofs.Tryz
instance jh13 : Coe Nat Value := ⟨fun n => .int .i64 n⟩
section
def aSv:Bool->Int->Int->Value
 |true,x,y=>.tuple #[x,y,.bool true]
 |false,_,_=>.tuple #[.int .i64 0,.int .i64 0,.bool false]
theorem xT (ax ay bx y2 u:Int) (ha:MayP ax ay) (hb:MayP bx y2) (c:¬(ax=bx/\ay=y2)) (hu:crP (aD (uC (decide (aB ax ay bx y2)) ax ay)) (aD (uC (decide (aB ax ay bx y2)) bx y2)) u) (w:World) :
  Calls prog 201 #[P2 ax ay,P2 bx y2,u] w (Ret (aSv (decide (exP ax ay bx y2 (wJ ax ay bx y2 u) (wI ax ay bx y2 u))) (wJ ax ay bx y2 u) (wI ax ay bx y2 u)) w):=by
 have HWd:=jj (fun w=>lU ax ay bx y2 ha hb w);have HE:=jj (fun x y w (hx:FarP x y)=>nC ax ay bx y2 x y ha hb hx w);have HO:=jj (fun x y (h:exP ax ay bx y2 x y)=>aBc c h);have g:(aG ax ay bx y2).Good:=dR ax ay bx y2 _ c;have hden:0<(aG ax ay bx y2).den:=by have:=Slope.pos g;unfold Way.den;omega
 have hb01:(aG ax ay bx y2).back=0\/(aG ax ay bx y2).back=1:=by
  have:=Slope.b01 g;rcases this with ⟨h,_⟩|⟨h,_⟩<;>omega
 have hdv:(aG ax ay bx y2).across u*(256*(aG ax ay bx y2).du)<=(aG ax ay bx y2).num u/\(aG ax ay bx y2).num u<((aG ax ay bx y2).across u+1)*(256*(aG ax ay bx y2).du):=(tZ _ _ _ hden).1 rfl;have hun:=wH ax ay bx y2 u;have A:=ha;have B:=hb;obtain ⟨a0,a1,a2,a3⟩:=ha;obtain ⟨b0,b1,b2,b3⟩:=hb;have La:=aV (uC (decide (aB ax ay bx y2)) ax ay);have Lb:=aV (uC (decide (aB ax ay bx y2)) bx y2);unfold crP at hu;obtain ⟨X,hX⟩:∃ X,wJ ax ay bx y2 u=X:=⟨_,rfl⟩;obtain ⟨Y,hY⟩:∃ X,wI ax ay bx y2 u=X:=⟨_,rfl⟩;obtain ⟨e,he⟩:∃ e,decide (exP ax ay bx y2 X Y)=e:=⟨_,rfl⟩;rw[hX,hY] at hun ⊢;rw[he];have HX:=jj hX;have HY:=jj hY;have HEE:=jj he;clear hX hY he
 by_cases t:aB ax ay bx y2
 ·simp only[t,decide_true,Bool.not_true] at HWd hun La Lb hu HO;have k1:(aG ax ay bx y2).du=if y2-ay<0 then -(y2-ay) else y2-ay:=by
   show Way.du (aBu (decide (aB ax ay bx y2)) _ ax ay bx y2 _)=_
   rw[decide_eq_true t];rfl
  have k2:(aG ax ay bx y2).dv=if y2-ay<0 then -(bx-ax) else bx-ax:=by
   show Way.dv (aBu (decide (aB ax ay bx y2)) _ ax ay bx y2 _)=_
   rw[decide_eq_true t];rfl
  have k3:(aG ax ay bx y2).au=ay/\(aG ax ay bx y2).av=ax:=by
   have e1:(aG ax ay bx y2).au=uC (decide (aB ax ay bx y2)) ax ay:=rfl;have e2:(aG ax ay bx y2).av=vC (decide (aB ax ay bx y2)) ax ay:=rfl;rw[e1,e2,decide_eq_true t];exact ⟨rfl,rfl⟩
  have wne:y2-ay≠0:=by unfold aB at t;omega
  have hnum:ax*(aG ax ay bx y2).du+(aG ax ay bx y2).dv*(256*u+128-ay)-(aG ax ay bx y2).back=(aG ax ay bx y2).num u:=by
   unfold Way.num;rw[k3.1,k3.2]
  have near:=aBd (M:=256*u+128-ay) (h:=bx-ax) wne k1 k2 hnum hb01 hdv.1 hdv.2;obtain ⟨u1,u2⟩:Y=u/\X=(aG ax ay bx y2).across u:=hun;rw[<-u2] at near;have La':ay<=256*aD ay+128/\256*aD ay-128<ay:=La;have Lb':y2<=256*aD y2+128/\256*aD y2-128<y2:=Lb;have hu':min (aD ay) (aD y2)<=u/\u<max (aD ay) (aD y2):=hu;have bd:=aL9 (M:=256*u+128-ay) (h:=bx-ax) wne (by omega) (by omega);obtain ⟨n,hn⟩:∃ n,(256*u+128-ay)*(bx-ax)=n:=⟨_,rfl⟩;have nb:=eU (u:=256*u+128-ay) (v:=bx-ax) (U:=1073741824) (V:=1073741824) (by omega) (by omega) (by omega) (by omega) (by omega) (by omega);rw[hn] at near bd nb;obtain ⟨r,hr⟩:∃ r,n.tdiv (y2-ay)=r:=⟨_,rfl⟩;rw[hr] at near bd;obtain ⟨p,hp⟩:∃ p,(ax+r).tdiv 256=p:=⟨_,rfl⟩;rw[hp] at near;have tn:=gP (ax+r);rw[hp] at tn;have e1:IntKind.i64.wrap ((256*u+128-ay)*(bx-ax))=n:=by rw[hn];exact IntWalk.i64_in _ (by omega)
  obtain ⟨nb0,nb1⟩:=nb;have rb:-1073741824<=r/\r<=1073741824:=by omega
  have pb:-8388600<=p/\p<=8388600:=by omega
  have ub:-2097153<=u/\u<=2097153:=by omega
  obtain ⟨rb0,rb1⟩:=rb;obtain ⟨pb0,pb1⟩:=pb;obtain ⟨ub0,ub1⟩:=ub;obtain ⟨near0,near1⟩:=near;clear k1 k2 k3 hnum hdv hb01 hden La Lb La' Lb' hu hu' tn bd hn g t;obtain rfl:=u1;clear u2;have EX:=jj (fun (j:Int) (hne:j≠X) (h:exP ax ay bx y2 j Y)=>hne ((HO.out j Y h).1.trans HX.out))
  go_enter func201,ntmps201
  go_upto_region 1 with fail
  refine jy ?_
  repeat (go_big_quiet_step ((fail)))
  refine jv fun X1=>?_
  go_upto_region 12 with (first|(go_at_call 202;with_reducible refine jn (HWd.out _) fun X_=>?_))
  refine jy ?_
  repeat (go_big_quiet_step ((fail)))
  refine jv fun X2=>?_
  go_upto_region 13 with fail
  refine aE (F:=fun w1=>Row w1 w.heap.size #[ax,ay] 181/\Row w1 (w.heap.size+1) #[bx,y2] 181/\∃ X,w1=w.ext X) ⟨by exact rx_,by exact rx_,jz (by exact br_)⟩ ?_;rintro w1 ⟨ra,rb,hX9⟩;have HX9:=jj hX9;have ca:=ra.cell;have fa:=ra.frozen;have la:=ra.lt;have cb:=rb.cell;have fb:=rb.frozen;have lb:=rb.lt;clear ra rb hX9 e1 hr;go_wp2;go_loopw [14] (fun i wr=>∃ j:Int,p-3<=j/\j<=p+4/\Hid (e=true->j<=X)/\i=.int .i64 j/\∃ X,wr=w1.ext X)
   (fun i _=>(p+4-intOf i).toNat)
  case atStart=>exact ⟨p-3,by omega,by omega,jj (fun _=>by omega),rfl,_,mM _⟩
  case round =>
   obtain ⟨j,j0,j1,jY,rfl,X3,rfl⟩:=hrel
   by_cases hlt:j<=p+3
   ·by_cases hj:j=X
    ·subst hj;have HE1:=jj (fun w=>HEE.out▸HE.out j Y w ⟨by omega,by omega,by omega,by omega⟩);cases e
     ·go_wp2_with (first|(go_at_call 203;with_reducible refine jn (HE1.out _) fun X_=>?_))
      go_roundw
      case rel=>exact ⟨j+1,by omega,by omega,jj (fun h=>by cases h),rfl,jz (by exact br_)⟩
      case measure=>simp[intOf];omega
     ·go_wp2_with (first|(go_at_call 203;with_reducible refine jn (HE1.out _) fun X_=>?_))
      go_ret3
      obtain ⟨X4,hX4⟩:=HX9.out;subst hX4;exact Ret.of' rfl (by exact br_)
    ·have HE1:=jj (fun w=>(decide_eq_false (EX.out j hj))▸HE.out j Y w ⟨by omega,by omega,by omega,by omega⟩)
     go_wp2_with (first|(go_at_call 203;with_reducible refine jn (HE1.out _) fun X_=>?_))
     go_roundw
     case rel=>exact ⟨j+1,by omega,by omega,jj (fun h=>by have:=jY.out h;omega),rfl,jz (by exact br_)⟩
     case measure=>simp[intOf];omega
   ·cases e
    ·go_wp2
     go_ret3
     obtain ⟨X4,hX4⟩:=HX9.out;subst hX4;exact Ret.of' rfl (by exact br_)
    ·exfalso
     have:=jY.out rfl;omega
 ·simp only[t,decide_false,Bool.not_false] at HWd hun La Lb hu HO;have k1:(aG ax ay bx y2).du=if bx-ax<0 then -(bx-ax) else bx-ax:=by
   show Way.du (aBu (decide (aB ax ay bx y2)) _ ax ay bx y2 _)=_
   rw[decide_eq_false t];rfl
  have k2:(aG ax ay bx y2).dv=if bx-ax<0 then -(y2-ay) else y2-ay:=by
   show Way.dv (aBu (decide (aB ax ay bx y2)) _ ax ay bx y2 _)=_
   rw[decide_eq_false t];rfl
  have k3:(aG ax ay bx y2).au=ax/\(aG ax ay bx y2).av=ay:=by
   have e1:(aG ax ay bx y2).au=uC (decide (aB ax ay bx y2)) ax ay:=rfl;have e2:(aG ax ay bx y2).av=vC (decide (aB ax ay bx y2)) ax ay:=rfl;rw[e1,e2,decide_eq_false t];exact ⟨rfl,rfl⟩
  have wne:bx-ax≠0:=by unfold aB at t;omega
  have hnum:ay*(aG ax ay bx y2).du+(aG ax ay bx y2).dv*(256*u+128-ax)-(aG ax ay bx y2).back=(aG ax ay bx y2).num u:=by
   unfold Way.num;rw[k3.1,k3.2]
  have near:=aBd (M:=256*u+128-ax) (h:=y2-ay) wne k1 k2 hnum hb01 hdv.1 hdv.2;obtain ⟨u1,u2⟩:X=u/\Y=(aG ax ay bx y2).across u:=hun;rw[<-u2] at near;have La':ax<=256*aD ax+128/\256*aD ax-128<ax:=La;have Lb':bx<=256*aD bx+128/\256*aD bx-128<bx:=Lb;have hu':min (aD ax) (aD bx)<=u/\u<max (aD ax) (aD bx):=hu;have bd:=aL9 (M:=256*u+128-ax) (h:=y2-ay) wne (by omega) (by omega);obtain ⟨n,hn⟩:∃ n,(256*u+128-ax)*(y2-ay)=n:=⟨_,rfl⟩;have nb:=eU (u:=256*u+128-ax) (v:=y2-ay) (U:=1073741824) (V:=1073741824) (by omega) (by omega) (by omega) (by omega) (by omega) (by omega);rw[hn] at near bd nb;obtain ⟨r,hr⟩:∃ r,n.tdiv (bx-ax)=r:=⟨_,rfl⟩;rw[hr] at near bd;obtain ⟨p,hp⟩:∃ p,(ay+r).tdiv 256=p:=⟨_,rfl⟩;rw[hp] at near;have tn:=gP (ay+r);rw[hp] at tn;have e1:IntKind.i64.wrap ((256*u+128-ax)*(y2-ay))=n:=by rw[hn];exact IntWalk.i64_in _ (by omega)
  obtain ⟨nb0,nb1⟩:=nb;have rb:-1073741824<=r/\r<=1073741824:=by omega
  have pb:-8388600<=p/\p<=8388600:=by omega
  have ub:-2097153<=u/\u<=2097153:=by omega
  obtain ⟨rb0,rb1⟩:=rb;obtain ⟨pb0,pb1⟩:=pb;obtain ⟨ub0,ub1⟩:=ub;obtain ⟨near0,near1⟩:=near;clear k1 k2 k3 hnum hdv hb01 hden La Lb La' Lb' hu hu' tn bd hn g t;have wz:(bx-ax != 0)=true:=by simp;omega
  obtain rfl:=u1;clear u2;have EX:=jj (fun (j:Int) (hne:j≠Y) (h:exP ax ay bx y2 X j)=>hne ((HO.out X j h).2.trans HY.out))
  go_enter func201,ntmps201
  go_upto_region 1 with fail
  refine jy ?_
  repeat (go_big_quiet_step ((fail)))
  refine jv fun X1=>?_
  go_upto_region 5 with (first|(go_at_call 202;with_reducible refine jn (HWd.out _) fun X_=>?_))
  refine jy ?_
  repeat (go_big_quiet_step ((fail)))
  refine jv fun X2=>?_
  go_upto_region 6 with fail
  refine aE (F:=fun w1=>Row w1 w.heap.size #[ax,ay] 181/\Row w1 (w.heap.size+1) #[bx,y2] 181/\∃ X,w1=w.ext X) ⟨by exact rx_,by exact rx_,jz (by exact br_)⟩ ?_;rintro w1 ⟨ra,rb,hX9⟩;have HX9:=jj hX9;have ca:=ra.cell;have fa:=ra.frozen;have la:=ra.lt;have cb:=rb.cell;have fb:=rb.frozen;have lb:=rb.lt;clear ra rb hX9 e1 hr;go_wp2;go_loopw [12] (fun i wr=>∃ j:Int,p-3<=j/\j<=p+4/\Hid (e=true->j<=Y)/\i=.int .i64 j/\∃ X,wr=w1.ext X)
   (fun i _=>(p+4-intOf i).toNat)
  case atStart=>exact ⟨p-3,by omega,by omega,jj (fun _=>by omega),rfl,_,mM _⟩
  case round =>
   obtain ⟨j,j0,j1,jY,rfl,X3,rfl⟩:=hrel
   by_cases hlt:j<=p+3
   ·by_cases hj:j=Y
    ·subst hj;have HE1:=jj (fun w=>HEE.out▸HE.out X j w ⟨by omega,by omega,by omega,by omega⟩);cases e
     ·go_wp2_with (first|(go_at_call 203;with_reducible refine jn (HE1.out _) fun X_=>?_))
      go_roundw
      case rel=>exact ⟨j+1,by omega,by omega,jj (fun h=>by cases h),rfl,jz (by exact br_)⟩
      case measure=>simp[intOf];omega
     ·go_wp2_with (first|(go_at_call 203;with_reducible refine jn (HE1.out _) fun X_=>?_))
      go_ret3
      obtain ⟨X4,hX4⟩:=HX9.out;subst hX4;exact Ret.of' rfl (by exact br_)
    ·have HE1:=jj (fun w=>(decide_eq_false (EX.out j hj))▸HE.out X j w ⟨by omega,by omega,by omega,by omega⟩)
     go_wp2_with (first|(go_at_call 203;with_reducible refine jn (HE1.out _) fun X_=>?_))
     go_roundw
     case rel=>exact ⟨j+1,by omega,by omega,jj (fun h=>by have:=jY.out h;omega),rfl,jz (by exact br_)⟩
     case measure=>simp[intOf];omega
   ·cases e
    ·go_wp2
     go_ret3
     obtain ⟨X4,hX4⟩:=HX9.out;subst hX4;exact Ret.of' rfl (by exact br_)
    ·exfalso
     have:=jY.out rfl;omega
end
section
theorem aPs (ax ay bx y2:Int) (ha:MayP ax ay) (hb:MayP bx y2):-2097154<=(ofL ax ay bx y2).From/\(ofL ax ay bx y2).From<=2097154/\-2097154<=(ofL ax ay bx y2).To/\(ofL ax ay bx y2).To<=2097154:=by
 have b1:=tE (decide (aB ax ay bx y2)) ha;have b2:=tE (decide (aB ax ay bx y2)) hb;have ft:=vI ax ay bx y2;rw[ft.1,ft.2];unfold aD;omega
theorem nD (ax ay bx y2:Int) (ha:MayP ax ay) (hb:MayP bx y2) (w:World):Calls prog 147 #[P2 ax ay,P2 bx y2] w (Ret (.int .i64 (((eP ax ay bx y2).length:Nat):Int)) w):=by
 by_cases c:ax=bx/\ay=y2
 ·obtain ⟨rfl,rfl⟩:=c;rw[fJ];have hz1:(ax==ax)=true:=by simp
  have hz2:(ay==ay)=true:=by simp
  go_enter func147,ntmps147
  go_wp2;go_ret;exact Ret.of' (by simp) (by exact bl_)
 rw[<-aEo c];have HO:=jj (fun w=>z7 ax ay bx y2 ha hb w);have HC:=jj (fun u w (hu:crP (ofL ax ay bx y2).From (ofL ax ay bx y2).To u)=>xT ax ay bx y2 u ha hb c (by have ft:=vI ax ay bx y2;rw[ft.1,ft.2] at hu;exact hu) w);have lb:=aPs ax ay bx y2 ha hb;have hz:=jW c;obtain ⟨R,hR⟩:∃ R,gD ax ay bx y2 (ofL ax ay bx y2)=R:=⟨_,rfl⟩;rw[hR];obtain ⟨l,hl⟩:∃ l,ofL ax ay bx y2=l:=⟨_,rfl⟩;rw[hl] at HO HC lb hR;clear hl ha hb c;unfold gD at hR;obtain ⟨F,G,X,Y,E⟩:=l;simp only[Ln.w] at *;obtain ⟨lb0,lb1,lb2,lb3⟩:=lb
 by_cases hm:min F G<max F G
 ·have hmm:0<jT ⟨F,G,X,Y,E⟩:=by unfold jT;simp only;omega
  have hu:crP F G (kK ⟨F,G,X,Y,E⟩ (jT ⟨F,G,X,Y,E⟩-1)):=aLn (l:=⟨F,G,X,Y,E⟩) (n:=jT ⟨F,G,X,Y,E⟩-1) (by omega) (by omega);have HC1:=jj (fun w=>HC.out _ w hu);obtain ⟨e,he⟩:∃ e,decide (exP ax ay bx y2 (wJ ax ay bx y2 (kK ⟨F,G,X,Y,E⟩ (jT ⟨F,G,X,Y,E⟩-1))) (wI ax ay bx y2 (kK ⟨F,G,X,Y,E⟩ (jT ⟨F,G,X,Y,E⟩-1))))=e:=⟨_,rfl⟩;have hR2:(max F G-min F G)-(if e=true then 0 else 1)+(if E=true then 1 else 0)=R:=by
   have hM:jT ⟨F,G,X,Y,E⟩=max F G-min F G:=rfl;cases e
   ·rw[if_pos ⟨hmm,of_decide_eq_false he⟩,hM] at hR;rw[<-hR,if_neg (by simp)]
   ·rw[if_neg (fun h=>h.2 (of_decide_eq_true he)),hM] at hR;rw[<-hR,if_pos rfl,Int.sub_zero]
  rw[he] at HC1;have hU:kK ⟨F,G,X,Y,E⟩ (jT ⟨F,G,X,Y,E⟩-1)=if G<F then G else G-1:=by
   unfold kK jT;simp only;split<;>omega
  rw[hU] at HC1;clear hU he hR hu hmm HC;generalize wJ ax ay bx y2 _=x at HC1;generalize wI ax ay bx y2 _=y at HC1;have d1:decide (0<max F G-min F G)=true:=by simp;omega
  have HR2:=jj hR2;clear hR2
  by_cases hGF:G<F
  ·simp only[if_pos hGF] at HC1;rcases hz with hz1|⟨hz1,hz2⟩
   all_goals
    cases e
    all_goals
     cases E
     all_goals
      simp only[aSv] at HC1
      go_enter func147,ntmps147
      go_wp2_with (first|(go_at_call 200;with_reducible refine jn (HO.out _) fun X_=>?_)|(go_at_call 201;with_reducible refine jn (HC1.out _) fun X_=>?_))
      go_ret;exact Ret.of' (congrArg (Value.int .i64) (by have h_:=HR2.out;simp at h_;first|exact h_|(simp;omega)|omega)) (by exact bl_)
  ·simp only[if_neg hGF] at HC1;rcases hz with hz1|⟨hz1,hz2⟩
   all_goals
    cases e
    all_goals
     cases E
     all_goals
      simp only[aSv] at HC1
      go_enter func147,ntmps147
      go_wp2_with (first|(go_at_call 200;with_reducible refine jn (HO.out _) fun X_=>?_)|(go_at_call 201;with_reducible refine jn (HC1.out _) fun X_=>?_))
      go_ret;exact Ret.of' (congrArg (Value.int .i64) (by have h_:=HR2.out;simp at h_;first|exact h_|(simp;omega)|omega)) (by exact bl_)
 ·have hmm:¬0<jT ⟨F,G,X,Y,E⟩:=by unfold jT;simp only;omega
  have hR2:(max F G-min F G)+(if E=true then 1 else 0)=R:=by
   have hM:jT ⟨F,G,X,Y,E⟩=max F G-min F G:=rfl;rw[if_neg (fun q=>hmm q.1),hM] at hR;exact hR
  have d1:decide (0<max F G-min F G)=false:=by simp;omega
  have HR2:=jj hR2;clear hR2 hR HC hmm;rcases hz with hz1|⟨hz1,hz2⟩
  all_goals
   cases E
   all_goals
    go_enter func147,ntmps147
    go_wp2_with (first|(go_at_call 200;with_reducible refine jn (HO.out _) fun X_=>?_))
    go_ret;exact Ret.of' (congrArg (Value.int .i64) (by have h_:=HR2.out;simp at h_;first|exact h_|(simp;omega)|omega)) (by exact bl_)
end
section
end
section
def srS (L:List St):SR gC:=⟨fun v w=>Sts w v L,fun v w w' h ⟨X,e⟩=>by subst e;exact h.ext X,fun v=>∃ a cap,v=.slice a L.length cap,.slice none L.length 0,⟨_,_,rfl⟩,fun v w ⟨_,a,cap,h,_⟩=>⟨a,cap,h⟩⟩
def aS4 (x y:Int):Prop:=-536870912<=x/\x<=536870912/\-536870912<=y/\y<=536870912
instance (x y : Int) : Decidable (aS4 x y) := by unfold aS4; exact inferInstance
end
end Go.Proofs.YthcjfanigfgckaaGreat
