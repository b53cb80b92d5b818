import Derived.Test.YthcjfanigfgckaaGreatSHiddenOrder29
set_option linter.unusedVariables false
set_option linter.unusedSimpArgs false
set_option maxRecDepth 100000
set_option maxHeartbeats 16000000
namespace Go.Proofs.YthcjfanigfgckaaGreat
open Go.RowKit
theorem dot_right1 (a:WinP) (h:a.wide) (w:World):Calls Tryz.prog 80 #[a.v,.int .i64 1,.int .i64 0] w (Ret (.bool (decide a.fitsP)) w):=by
 have e:decide (lineP a a 1 0 1 0)=decide a.fitsP:=decide_eq_decide.2 ⟨fun q=>q.1,fun q=>⟨q,q,by decide,by decide⟩⟩;have R:=jj (fun w=>e▸wide_right a a 1 0 1 0 h h (by unfold w64;decide) (by unfold w64;decide) w);clear e h
 go_enter Tryz.func80,Tryz.ntmps80
 go_wp2_with (first|(go_at_call 112;(with_reducible refine (R.out _).mono ?_);rintro _ _ ⟨rfl,X_,rfl⟩))
 go_ret;exact Ret.of' (by first|rfl|simp) (by exact bl_)
def mayP (L:List WinP) (B:List Bool):Prop:=3<=L.length/\B.length=L.length/\∀ a∈L,a.fitsP
instance (L : List WinP) (B : List Bool) : Decidable (mayP L B) := by unfold mayP; exact inferInstance
abbrev fcV (v ev:Value) (k:LookP) (x0 y0 x1 y1:Int):Value:=.agg #[v,ev,.int .i64 k.width,.bool k.soft,.bool k.dashed,.int .i64 k.p,.int .i64 k.r,.int .i64 k.c,.int .i64 k.size,.int .i64 k.kind,.int .i64 k.front,.int .i64 k.back,.bool k.ccw,.int .i64 k.cull,.bool k.off,.int .i64 k.factor,.int .i64 k.units,.int .i64 x0,.int .i64 y0,.int .i64 x1,.int .i64 y1]
theorem take_fits {L:List WinP} {j:Nat} {a:WinP} (h:∀ i f,i<j->L[i]?=some f->f.fitsP) (ha:L[j]?=some a) (hf:a.fitsP):∀ i f,i<j+1->L[i]?=some f->f.fitsP:=fun i f hi hf'=>by
 by_cases e:i=j
 ·subst e;rw[ha] at hf';cases hf';exact hf
 ·exact h i f (by omega) hf'
theorem all_fits {L:List WinP} (h:∀ i f,i<L.length->L[i]?=some f->f.fitsP):∀ a∈L,a.fitsP:=fun a ha=>by
 obtain ⟨i,hi,rfl⟩:=List.mem_iff_getElem.1 ha;exact h i _ hi (List.getElem?_eq_getElem hi)
theorem face_may (v ev:Value) (L:List WinP) (B:List Bool) (k:LookP) (x0 y0 x1 y1:Int) (w:World) (hv:Recs wnK w v L) (he:Recs boK w ev B) (hw:∀ a∈L,a.wide):Calls Tryz.prog 45 #[fcV v ev k x0 y0 x1 y1] w (Ret (.bool (decide (mayP L B))) w):=by
 have HV:=jj hv;have HW:=jj hw;obtain ⟨hl,av,cap,rfl,hcap,-⟩:=hv;obtain ⟨hl2,ev,ecap,rfl,-,-⟩:=he;clear hw
 by_cases h3:L.length<3
 ·have h3i:(L.length:Int)<3:=by omega
  have hf:decide (mayP L B)=false:=decide_eq_false fun q=>by unfold mayP at q;omega
  rw[hf];clear hf
  go_enter Tryz.func45,Tryz.ntmps45
  go_wp2;go_ret;exact Ret.of' rfl (by exact bl_)
 have h3i:¬((L.length:Int)<3):=by omega
 by_cases hb:B.length=L.length
 case neg =>
  have hbi:((B.length:Int) != (L.length:Int))=true:=by simp;omega
  have hf:decide (mayP L B)=false:=decide_eq_false fun q=>hb q.2.1
  rw[hf];clear hf hb
  go_enter Tryz.func45,Tryz.ntmps45
  go_wp2;go_ret;exact Ret.of' rfl (by exact bl_)
 have hbi:((B.length:Int) != (L.length:Int))=false:=by simp;omega
 have HB:=jj hb;clear hb;obtain ⟨Z,hZ⟩:∃ Z,decide (mayP L B)=Z:=⟨_,rfl⟩;rw[hZ];have HZ:=jj hZ;clear hZ;obtain ⟨nb,hnb⟩:∃ n,B.length=n:=⟨_,rfl⟩;rw[hnb] at hbi HB hl2 ⊢
 go_enter Tryz.func45,Tryz.ntmps45
 go_upto_region 3 with fail
 refine wp_abs (F:=fun w1=>Row w1 w.heap.size #[.slice av L.length cap,.slice ev nb ecap,.int .i64 k.width,.bool k.soft,.bool k.dashed,.int .i64 k.p,.int .i64 k.r,.int .i64 k.c,.int .i64 k.size,.int .i64 k.kind,.int .i64 k.front,.int .i64 k.back,.bool k.ccw,.int .i64 k.cull,.bool k.off,.int .i64 k.factor,.int .i64 k.units,.int .i64 x0,.int .i64 y0,.int .i64 x1,.int .i64 y1] 82/\Recs wnK w1 (.slice av L.length cap) L/\∃ X,w1=w.ext X) ⟨by exact rx_,by first|exact (HV.out.alloc _)|exact ((HV.out.alloc _).drew),jz (by exact bl_)⟩ ?_;rintro w1 ⟨Rl,hv1,hX⟩;have HX:=jj hX;have cl:=Rl.cell;have fl:=Rl.frozen;have ll:=Rl.lt;obtain ⟨-,av',cap',hq,-,hcl⟩:=hv1;obtain ⟨rfl,rfl⟩:av=av'/\cap=cap':=by simpa using hq
 rcases hcl with e|⟨lb,lo,rfl,hlb,hcl⟩
 ·rw[e] at h3;simp at h3
 have HCL:=jj hcl;clear hq hX hcl Rl;go_wp2;go_loopw [21] (fun i wr=>∃ (j:Nat),j<=L.length/\i=.int .i64 j/\Hid (∀ i f,i<j->L[i]?=some f->f.fitsP)/\∃ X,wr=w1.ext X)
  (fun i _=>L.length-(intOf i).toNat)
 case atStart=>exact ⟨0,by omega,rfl,jj (fun i f hi=>by omega),_,(ext_none' _).symm⟩
 case round =>
  obtain ⟨j,hj,rfl,hF,X,rfl⟩:=hrel
  by_cases hlt:j<L.length
  ·have HJ:=jj (show j+1<=L.length from hlt);have hji:(j:Int)<L.length:=by omega
   obtain ⟨a,ha⟩:∃ f,L[j]?=some f:=⟨_,List.getElem?_eq_getElem hlt⟩;have hcl:=HCL.out;have pa0:w1.cell? ⟨lb,lo+j*7,none⟩=some (.int .i64 a.x):=hcl j _ ha 0 _ rfl;have pa1:w1.cell? ⟨lb,lo+j*7+1,none⟩=some (.int .i64 a.y):=hcl j _ ha 1 _ rfl;have pa2:w1.cell? ⟨lb,lo+j*7+2,none⟩=some (.int .i64 a.z):=hcl j _ ha 2 _ rfl;have pa3:w1.cell? ⟨lb,lo+j*7+3,none⟩=some (.int .i64 a.c0):=hcl j _ ha 3 _ rfl;have pa4:w1.cell? ⟨lb,lo+j*7+4,none⟩=some (.int .i64 a.c1):=hcl j _ ha 4 _ rfl;have pa5:w1.cell? ⟨lb,lo+j*7+5,none⟩=some (.int .i64 a.c2):=hcl j _ ha 5 _ rfl;have pa6:w1.cell? ⟨lb,lo+j*7+6,none⟩=some (.int .i64 a.c3):=hcl j _ ha 6 _ rfl;have D:=fun w=>dot_right1 a (HW.out a (List.mem_of_getElem? ha)) w
   have HA:=jj ha;clear hcl ha
   by_cases hf:a.fitsP
   ·simp only[hf,decide_true] at D;have HD:=jj D;have nxt:=jj (take_fits hF.out HA.out hf);clear D hf hF HA
    go_wp2_with (first|(go_at_call 80;(with_reducible refine (HD.out _).mono ?_);rintro _ _ ⟨rfl,X_,rfl⟩))
    go_roundw
    case rel=>exact ⟨j+1,HJ.out,by go_num,nxt,jz (by exact br_)⟩
    case measure=>have:=HJ.out;simp[intOf];omega
   ·simp only[hf,decide_false] at D;have HD:=jj D;have hff:decide (mayP L B)=false:=decide_eq_false fun q=>hf (q.2.2 a (List.mem_of_getElem? HA.out))
    have e:=HZ.out;rw[hff] at e;subst e;clear D hf hF HA hff HZ
    go_wp2_with (first|(go_at_call 80;(with_reducible refine (HD.out _).mono ?_);rintro _ _ ⟨rfl,X_,rfl⟩))
    go_ret;obtain ⟨X0,hX0⟩:=HX.out;subst hX0;exact Ret.of' rfl (by exact br_)
  ·obtain rfl:j=L.length:=by omega
   have ht:decide (mayP L B)=true:=decide_eq_true ⟨by omega,by rw[hnb];exact HB.out,all_fits hF.out⟩;have e:=HZ.out;rw[ht] at e;subst e;clear ht HZ;go_wp2;go_ret;obtain ⟨X0,hX0⟩:=HX.out;subst hX0;exact Ret.of' rfl (by exact br_)
theorem wline_in0 (a b:WinP) (n p r c x0 y0 x1 y1:Int) (ha:a.wide) (hb:b.wide) (hp:w64 p) (hc:w64 c) (h:lineP a b n p r c) (hr:rightP x0 y0 x1 y1) (har:((x1-x0).toNat+(y1-y0).toNat)*64<=134217728) (w:World):Calls Tryz.prog 127 #[a.v,b.v,.int .i64 n,.bool false,D3 p r c,R4 x0 y0 x1 y1] w (RLine w (wdTo a b n false p r c x0 y0 x1 y1) p r (nextC false r c (coreL a b n).length)):=by
 have R:=jj (fun w=>decide_eq_true h▸wide_right a b n p r c ha hb hp hc w);have RR:=jj (fun w=>decide_eq_true hr▸rect_right x0 y0 x1 y1 w);obtain ⟨h1,h2,h3,h4⟩:=h;have CO:=jj (fun w=>coreOf_any a b n h1.f h2.f h3 w);obtain ⟨m1,m2⟩:=core_may h1 h2 h3;have hcl:=core_len h1 h2 h3;obtain ⟨m,hm⟩:∃ m:Nat,(coreL a b n).length=m:=⟨_,rfl⟩;have CN:∀ w,Calls Tryz.prog 189 #[P2 (corX a b n a.x) (corY a b n a.y),P2 (corX a b n b.x) (corY a b n b.y)] w (Ret (.int .i64 (m:Int)) w):=fun w=>by
  rw[<-hm];exact walk_count (corX a b n a.x) (corY a b n a.y) (corX a b n b.x) (corY a b n b.y) m1 m2 w
 rw[hm] at hcl;have HCN:=jj CN;have NX:=jj (fun w=>dnext_any p r c (m:Int) h4 (by omega) (by omega) w);rw[hm];have RE:=jj (fun w=>reach_any a b n x0 y0 x1 y1 h3 hr w);obtain ⟨W,hW⟩:∃ W,withinL (corX a b n a.x) (corY a b n a.y) (corX a b n b.x) (corY a b n b.y) (rchX a b n x0) (rchY a b n y0) x1 y1=W:=⟨_,rfl⟩;have WI:=jj (fun w=>hW▸walk_within (corX a b n a.x) (corY a b n a.y) (corX a b n b.x) (corY a b n b.y) (rchX a b n x0) (rchY a b n y0) x1 y1 m1 m2 w);have hTo:wdOf a b n x0 y0 x1 y1 (W.filter (litB false p r c))=wdTo a b n false p r c x0 y0 x1 y1:=by rw[<-hW];exact wdTo_within h1 h2 h3 hr
 have hWb:=jj (fun s (hs:s∈W)=>(by rw[<-hW] at hs;exact wd_mem h1 h2 h3 hs:(-1048641<=s.X/\s.X<=1048576)/\(-1048641<=s.Y/\s.Y<=1048576)/\0<=s.K/\s.K<=2097220));have AL:=jj (fun x y (hx:Near x y) w=>along_any a b x y h1.f h2.f hx w);have LI:=jj (fun k (k0:0<=k) (k1:k<=1099511627776) w=>dlit_any p r c k h4 k0 k1 w);have HLen:=jj (fun (L:List St) (hL:L.Sublist (W.filter (litB false p r c)))=>(by rw[<-hW] at hL;exact wdOf_len h3 hr hL:(wdOf a b n x0 y0 x1 y1 L).length<=((x1-x0).toNat+(y1-y0).toNat)*64));rw[<-hTo];obtain ⟨n0,n1⟩:=h3;obtain ⟨N,hN⟩:∃ N:Nat,n=(N:Int):=⟨n.toNat,by omega⟩;obtain ⟨lv,hlv⟩:∃ l,(!decide (turnP a.x a.y b.x b.y))=l:=⟨_,rfl⟩;unfold coreV at CO RE;rw[hlv] at CO RE;have HR:=jj hr;have HAR:=jj har;have HLV:=jj hlv;have HNN:=jj hN;unfold nextC;simp only[if_true,if_false,Bool.false_eq_true];clear ha hb hp hc h1 h2 h4 hr har m1 m2 CN hW hm hTo hlv hN
 go_enter Tryz.func127,Tryz.ntmps127
 go_upto_region 5 with (first
  |(go_at_call 112;(with_reducible refine (R.out _).mono ?_);rintro _ _ ⟨rfl,XR,rfl⟩)
  |(go_at_call 187;(with_reducible refine (CO.out _).mono ?_);rintro _ _ ⟨rfl,XC,rfl⟩))
 obtain ⟨Bt,hBt⟩:∃ B,w.heap.size+1+1+1+1+1+XR.sz+XC.sz=B:=⟨_,rfl⟩;refine wp_abs (F:=fun w5=>Row w5 w.heap.size #[.int .i64 a.x,.int .i64 a.y,.int .i64 a.z,.int .i64 a.c0,.int .i64 a.c1,.int .i64 a.c2,.int .i64 a.c3] 45/\Row w5 (w.heap.size+1) #[.int .i64 b.x,.int .i64 b.y,.int .i64 b.z,.int .i64 b.c0,.int .i64 b.c1,.int .i64 b.c2,.int .i64 b.c3] 45/\Row w5 (w.heap.size+1+1) #[.int .i64 p,.int .i64 r,.int .i64 c] 25/\Row w5 (w.heap.size+1+1+1) #[.int .i64 x0,.int .i64 y0,.int .i64 x1,.int .i64 y1] 29/\Row w5 (w.heap.size+1+1+1+1) #[.int .i64 0,.int .i64 0,.int .i64 0] 25/\Row w5 Bt #[.int .i64 (corX a b n a.x),.int .i64 (corY a b n a.y),.int .i64 (corX a b n b.x),.int .i64 (corY a b n b.y),.bool lv] 221/\Row w5 (Bt+1) #[.int .i64 p,.int .i64 r,.int .i64 c] 25/\∃ X,w5=w.ext X) ⟨by exact rx_,by exact rx_,by exact rx_,by exact rx_,by exact rx_,by rw[<-hBt];exact rx_,by rw[<-hBt];exact rx_,jz (by exact bl_)⟩ ?_;have hbt:w.heap.size+1+1+1+1+1<=Bt:=by omega
 rw[hBt];clear hBt;rintro w5 ⟨RA,RB,RD,RT,RZ,RC,RN,hX⟩;have HX:=jj hX;have cA:=RA.cell;have fA:=RA.frozen;have lA:=RA.lt;have HA:=jj RA;have cB:=RB.cell;have fB:=RB.frozen;have lB:=RB.lt;have HB:=jj RB;have cD:=RD.cell;have fD:=RD.frozen;have lD:=RD.lt;have HD:=jj RD;have cT:=RT.cell;have fT:=RT.frozen;have lT:=RT.lt;have HT:=jj RT;have cZ:=RZ.cell;have fZ:=RZ.frozen;have lZ:=RZ.lt;have HZ:=jj RZ;have cC:=RC.cell;have fC:=RC.frozen;have lC:=RC.lt;have HC:=jj RC;have cN:=RN.cell;have fN:=RN.frozen;have lN:=RN.lt;have HN:=jj RN;clear hX RA RB RD RT RZ RC RN;go_upto_region 11 with (first|(go_at_call 46;(with_reducible refine (RR.out _).mono ?_);rintro _ _ ⟨rfl,XQ,rfl⟩))
 obtain ⟨q,hq⟩:∃ q,w5.heap.size+XQ.sz=q:=⟨_,rfl⟩;refine wp_abs (F:=fun w8=>Row w8 w.heap.size #[.int .i64 a.x,.int .i64 a.y,.int .i64 a.z,.int .i64 a.c0,.int .i64 a.c1,.int .i64 a.c2,.int .i64 a.c3] 45/\Row w8 (w.heap.size+1) #[.int .i64 b.x,.int .i64 b.y,.int .i64 b.z,.int .i64 b.c0,.int .i64 b.c1,.int .i64 b.c2,.int .i64 b.c3] 45/\Row w8 (w.heap.size+1+1) #[.int .i64 p,.int .i64 r,.int .i64 c] 25/\Row w8 (w.heap.size+1+1+1) #[.int .i64 x0,.int .i64 y0,.int .i64 x1,.int .i64 y1] 29/\Row w8 (w.heap.size+1+1+1+1) #[.int .i64 0,.int .i64 0,.int .i64 0] 25/\Row w8 Bt #[.int .i64 (corX a b n a.x),.int .i64 (corY a b n a.y),.int .i64 (corX a b n b.x),.int .i64 (corY a b n b.y),.bool lv] 221/\Row w8 (Bt+1) #[.int .i64 p,.int .i64 r,.int .i64 c] 25/\Row w8 q #[.slice none 0 0] 36/\∃ X,w8=w.ext X) ⟨by (repeat (first|with_reducible exact HA.out|with_reducible refine Row.ext ?_ _|with_reducible refine row_drew ?_|with_reducible refine Row.alloc ?_ _|with_reducible refine Row.other ?_ (by omega) _ _)),by (repeat (first|with_reducible exact HB.out|with_reducible refine Row.ext ?_ _|with_reducible refine row_drew ?_|with_reducible refine Row.alloc ?_ _|with_reducible refine Row.other ?_ (by omega) _ _)),by (repeat (first|with_reducible exact HD.out|with_reducible refine Row.ext ?_ _|with_reducible refine row_drew ?_|with_reducible refine Row.alloc ?_ _|with_reducible refine Row.other ?_ (by omega) _ _)),by (repeat (first|with_reducible exact HT.out|with_reducible refine Row.ext ?_ _|with_reducible refine row_drew ?_|with_reducible refine Row.alloc ?_ _|with_reducible refine Row.other ?_ (by omega) _ _)),by (repeat (first|with_reducible exact HZ.out|with_reducible refine Row.ext ?_ _|with_reducible refine row_drew ?_|with_reducible refine Row.alloc ?_ _|with_reducible refine Row.other ?_ (by omega) _ _)),by (repeat (first|with_reducible exact HC.out|with_reducible refine Row.ext ?_ _|with_reducible refine row_drew ?_|with_reducible refine Row.alloc ?_ _|with_reducible refine Row.other ?_ (by omega) _ _)),by (repeat (first|with_reducible exact HN.out|with_reducible refine Row.ext ?_ _|with_reducible refine row_drew ?_|with_reducible refine Row.alloc ?_ _|with_reducible refine Row.other ?_ (by omega) _ _)),by rw[<-hq];exact rx_,by obtain ⟨X0,hX0⟩:=HX.out;subst hX0;exact jz (by exact br_)⟩ ?_;have hqt:Bt+1<q:=by omega
 rw[hq];clear hq;clear cA fA lA HA cB fB lB HB cD fD lD HD cT fT lT HT cZ fZ lZ HZ cC fC lC HC cN fN lN HN;clear HX;rintro w8 ⟨RA,RB,RD,RT,RZ,RC,RN,RQ,hX⟩;have HX:=jj hX;have cA:=RA.cell;have fA:=RA.frozen;have lA:=RA.lt;have HA:=jj RA;have cB:=RB.cell;have fB:=RB.frozen;have lB:=RB.lt;have HB:=jj RB;have cD:=RD.cell;have fD:=RD.frozen;have lD:=RD.lt;have HD:=jj RD;have cT:=RT.cell;have fT:=RT.frozen;have lT:=RT.lt;have HT:=jj RT;have cZ:=RZ.cell;have fZ:=RZ.frozen;have lZ:=RZ.lt;have HZ:=jj RZ;have cC:=RC.cell;have fC:=RC.frozen;have lC:=RC.lt;have HC:=jj RC;have cN:=RN.cell;have fN:=RN.frozen;have lN:=RN.lt;have HN:=jj RN;have cQ:=RQ.cell;have fQ:=RQ.frozen;have lQ:=RQ.lt;have HQ:=jj RQ;clear hX RA RB RD RT RZ RC RN RQ;refine wp_region_rel 11 [none,none,none,none,none,none,none,some ([],srV (R4 (rchX a b n x0) (rchY a b n y0) x1 y1)),some ([],srS W),some ([8],srV (.int .i64 (W.length:Int))),none] (by kernel_rfl) (by kernel_rfl) ?_;simp only[jx]
 (repeat (first|(refine rel_none ?_;intro K_ hK_;go_big_quiet_op;go_big_quiet_on)|simp only[Act.put,List.setIfInBounds_toArray,List.set_cons_zero,List.set_cons_succ]))
 refine rel_some rfl (fun w_ hw_ hk_ K_ hK_=>?_) (fun v53 f53=>?_)
 ·obtain ⟨X_,rfl⟩:=hw_;go_simp
  go_at_call 193
  refine (RE.out _).mono ?_;rintro _ _ ⟨rfl,hX⟩;exact hK_ _ _ rfl hX
 obtain rfl:=f53
 (repeat (first|(refine rel_none ?_;intro K_ hK_;go_big_quiet_op;go_big_quiet_on)|simp only[Act.put,List.setIfInBounds_toArray,List.set_cons_zero,List.set_cons_succ]))
 refine rel_some rfl (fun w_ hw_ hk_ K_ hK_=>?_) (fun v54 f54=>?_)
 ·obtain ⟨X_,rfl⟩:=hw_;go_simp
  go_at_call 192
  refine (WI.out _).mono ?_;rintro _ _ ⟨v,rfl,h1,h2⟩;exact hK_ _ _ h1 h2
 obtain ⟨a54,k54,rfl⟩:=f54
 (repeat (first|(refine rel_none ?_;intro K_ hK_;go_big_quiet_op;go_big_quiet_on)|simp only[Act.put,List.setIfInBounds_toArray,List.set_cons_zero,List.set_cons_succ]))
 refine rel_some rfl (fun w_ hw_ hk_ K_ hK_=>?_) (fun v55 f55=>?_)
 ·obtain ⟨X_,rfl⟩:=hw_;go_simp;exact hK_ _ _ rfl ⟨⟨#[],_⟩,(ext_none' _).symm⟩
 obtain rfl:=f55
 (repeat (first|(refine rel_none ?_;intro K_ hK_;go_big_quiet_op;go_big_quiet_on)|simp only[Act.put,List.setIfInBounds_toArray,List.set_cons_zero,List.set_cons_succ]))
 refine rel_nil ?_;intro w_ hw_ kk;obtain ⟨X,rfl⟩:=hw_;have g1:=(kk (8,_) (by repeat (first|exact List.mem_cons_self|refine jk ?_)));clear kk;go_upto_region 12 with fail
 refine wp_abs (F:=fun w1=>Row w1 w.heap.size #[.int .i64 a.x,.int .i64 a.y,.int .i64 a.z,.int .i64 a.c0,.int .i64 a.c1,.int .i64 a.c2,.int .i64 a.c3] 45/\Row w1 (w.heap.size+1) #[.int .i64 b.x,.int .i64 b.y,.int .i64 b.z,.int .i64 b.c0,.int .i64 b.c1,.int .i64 b.c2,.int .i64 b.c3] 45/\Row w1 (w.heap.size+1+1) #[.int .i64 p,.int .i64 r,.int .i64 c] 25/\Row w1 (w.heap.size+1+1+1) #[.int .i64 x0,.int .i64 y0,.int .i64 x1,.int .i64 y1] 29/\Row w1 (w.heap.size+1+1+1+1) #[.int .i64 0,.int .i64 0,.int .i64 0] 25/\Row w1 Bt #[.int .i64 (corX a b n a.x),.int .i64 (corY a b n a.y),.int .i64 (corX a b n b.x),.int .i64 (corY a b n b.y),.bool lv] 221/\Row w1 (Bt+1) #[.int .i64 p,.int .i64 r,.int .i64 c] 25/\Row w1 q #[.slice none 0 0] 36/\Sts w1 (.slice a54 W.length k54) W/\∃ X,w1=w.ext X) ⟨by (repeat (first|with_reducible exact HA.out|with_reducible refine Row.ext ?_ _|with_reducible refine row_drew ?_|with_reducible refine Row.alloc ?_ _|with_reducible refine Row.other ?_ (by omega) _ _)),by (repeat (first|with_reducible exact HB.out|with_reducible refine Row.ext ?_ _|with_reducible refine row_drew ?_|with_reducible refine Row.alloc ?_ _|with_reducible refine Row.other ?_ (by omega) _ _)),by (repeat (first|with_reducible exact HD.out|with_reducible refine Row.ext ?_ _|with_reducible refine row_drew ?_|with_reducible refine Row.alloc ?_ _|with_reducible refine Row.other ?_ (by omega) _ _)),by (repeat (first|with_reducible exact HT.out|with_reducible refine Row.ext ?_ _|with_reducible refine row_drew ?_|with_reducible refine Row.alloc ?_ _|with_reducible refine Row.other ?_ (by omega) _ _)),by (repeat (first|with_reducible exact HZ.out|with_reducible refine Row.ext ?_ _|with_reducible refine row_drew ?_|with_reducible refine Row.alloc ?_ _|with_reducible refine Row.other ?_ (by omega) _ _)),by (repeat (first|with_reducible exact HC.out|with_reducible refine Row.ext ?_ _|with_reducible refine row_drew ?_|with_reducible refine Row.alloc ?_ _|with_reducible refine Row.other ?_ (by omega) _ _)),by (repeat (first|with_reducible exact HN.out|with_reducible refine Row.ext ?_ _|with_reducible refine row_drew ?_|with_reducible refine Row.alloc ?_ _|with_reducible refine Row.other ?_ (by omega) _ _)),by (repeat (first|with_reducible exact HQ.out|with_reducible refine Row.ext ?_ _|with_reducible refine row_drew ?_|with_reducible refine Row.alloc ?_ _|with_reducible refine Row.other ?_ (by omega) _ _)),g1,by obtain ⟨X0,hX0⟩:=HX.out;subst hX0;exact jz (by exact br_)⟩ ?_;clear cA fA lA HA cB fB lB HB cD fD lD HD cT fT lT HT cZ fZ lZ HZ cC fC lC HC cN fN lN HN cQ fQ lQ HQ;clear HX g1;rintro w1 ⟨RA,RB,RD,RT,RZ,RC,RN,RQ,hS,hX⟩;have HX:=jj hX;have HS:=jj hS;have HA:=jj RA;have lA:=RA.lt;have HB:=jj RB;have lB:=RB.lt;have HD:=jj RD;have lD:=RD.lt;have HT:=jj RT;have lT:=RT.lt;have HZ:=jj RZ;have lZ:=RZ.lt;have HC:=jj RC;have lC:=RC.lt;have HN:=jj RN;have lN:=RN.lt;have HQ:=jj RQ;have lQ:=RQ.lt;clear hX hS RA RB RD RT RZ RC RN RQ;have hq1:q<w1.heap.size:=lQ;have hWl:W.length<=8388608:=HS.out.1;go_wp2;go_loopw [56] (fun i wr=>∃ (k:Nat) (v:Value) (L:List FrP),k<=W.length/\i=.int .i64 k/\Hid (L=wdOf a b n x0 y0 x1 y1 ((W.take k).filter (litB false p r c)))/\Hid (WdH w1 wr q v L))
  (fun i _=>W.length-(intOf i).toNat)
 case atStart=>exact ⟨0,.slice none 0 0,[],by omega,rfl,jj rfl,jj ⟨HQ.out,World.ownsRow_nil _ _ _ _,Chg.refl⟩⟩
 case round =>
  obtain ⟨k,v,L,hk,rfl,hL,hR⟩:=hrel;have rA:=hR.out.chg.row HA.out (show ¬w.heap.size=q by omega);have cA:=rA.cell;have fA:=rA.frozen;have zA:=rA.lt;have rB:=hR.out.chg.row HB.out (show ¬(w.heap.size+1)=q by omega);have cB:=rB.cell;have fB:=rB.frozen;have zB:=rB.lt;have rD:=hR.out.chg.row HD.out (show ¬(w.heap.size+1+1)=q by omega);have cD:=rD.cell;have fD:=rD.frozen;have zD:=rD.lt;have rT:=hR.out.chg.row HT.out (show ¬(w.heap.size+1+1+1)=q by omega);have cT:=rT.cell;have fT:=rT.frozen;have zT:=rT.lt;have rC:=hR.out.chg.row HC.out (show ¬Bt=q by omega);have cC:=rC.cell;have fC:=rC.frozen;have zC:=rC.lt
  by_cases hlt:k<W.length
  ·have HKL:=jj (show k+1<=W.length from hlt);obtain ⟨s,hs,hsm⟩:∃ s,W[k]?=some s/\s∈W:=⟨W[k]'hlt,List.getElem?_eq_getElem hlt,List.getElem_mem hlt⟩;obtain ⟨sb,so,e54,s0,s1,s2,hsb⟩:=sts_at HS.out HQ.out hR.out.chg hs;subst e54;obtain ⟨⟨b0,b1⟩,⟨b2,b3⟩,b4,b5⟩:=hWb.out s hsm;have hki:(k:Int)<W.length:=by omega
   have hsb':sb<=wr.heap.size:=by omega
   have hTk:=jj (show wdOf a b n x0 y0 x1 y1 ((W.take (k+1)).filter (litB false p r c))=L++(wdRow a b n s).filter (frIn x0 y0 x1 y1) by rw[take_filter_yes _ W k s hs (rfl),wdOf_append,hL.out];unfold wdOf;rw[List.flatMap_cons,List.flatMap_nil,List.append_nil]);have hLl:=jj (fun (M:List FrP) (hM:M.Sublist ((wdRow a b n s).filter (frIn x0 y0 x1 y1)))=>(by have h1:=HLen.out ((W.take (k+1)).filter (litB false p r c)) ((List.take_sublist _ _).filter _);rw[hTk.out,List.length_append] at h1;have h2:=hM.length_le;have h3:=HAR.out;rw[List.length_append];omega:(L++M).length<=134217728));have A0:=AL.out s.X s.Y ⟨by omega,by omega,by omega,by omega⟩;simp only[mixed] at A0;obtain ⟨zz,h5⟩:∃ v,mid a.z b.z (alN a b s.X s.Y) (alD a b)=v:=⟨_,rfl⟩;obtain ⟨g0,h6⟩:∃ v,mid a.c0 b.c0 (alN a b s.X s.Y) (alD a b)=v:=⟨_,rfl⟩;obtain ⟨g1,h7⟩:∃ v,mid a.c1 b.c1 (alN a b s.X s.Y) (alD a b)=v:=⟨_,rfl⟩;obtain ⟨g2,h8⟩:∃ v,mid a.c2 b.c2 (alN a b s.X s.Y) (alD a b)=v:=⟨_,rfl⟩;obtain ⟨g3,h9⟩:∃ v,mid a.c3 b.c3 (alN a b s.X s.Y) (alD a b)=v:=⟨_,rfl⟩;have hFr:=jj (fun j:Nat=>show wdFr a b s j=⟨(wdFr a b s j).x,(wdFr a b s j).y,zz,g0,g1,g2,g3,64⟩ by rw[<-h5,<-h6,<-h7,<-h8,<-h9];rfl);simp only[h5,h6,h7,h8,h9] at A0;have A1:=jj A0;clear A0 h5 h6 h7 h8 h9 hs hsm;go_upto_region 17 with (first
    |(go_at_call 195;(with_reducible refine (A1.out _).mono ?_);rintro _ _ ⟨rfl,XT,rfl⟩))
   obtain ⟨Bf,hBf⟩:∃ B,wr.heap.size+1=B:=⟨_,rfl⟩;refine wp_abs (F:=fun w3=>Row w3 Bf #[.int .i64 s.X,.int .i64 s.Y,.int .i64 zz,.int .i64 g0,.int .i64 g1,.int .i64 g2,.int .i64 g3,.int .i64 64] 73/\WdH w1 w3 q v L) ⟨?_,hR.out.grow (by exact br_)⟩ ?_
   ·rw[<-hBf];exact rx_
   have hbf:wr.heap.size<=Bf:=by omega
   rw[hBf];clear rA cA fA zA rB cB fB zB rD cD fD zD rT cT fT zT rC cC fC zC;rintro w3 ⟨RF,RH⟩;have HOff:=jj (hR.out.new hbf);have hbq:Bf≠q:=by have:=hR.out.chg.size;omega
   have hw1:w1.heap.size<=Bf:=by have:=hR.out.chg.size;omega
   have HF0:=jj RF;have HH0:=jj RH;clear RF RH hBf hR s0 s1 s2 hsb hsb';go_wp2;go_loopw [86] (fun i wq=>∃ (j:Nat) (gx gy:Int) (v:Value) (L':List FrP),j<=N/\i=.int .i64 j/\Hid ((wdFr a b s j).x=gx/\(wdFr a b s j).y=gy)/\Hid (L'=L++((List.range j).map (wdFr a b s)).filter (frIn x0 y0 x1 y1))/\Hid (WdH w1 wq q v L')/\Hid (some Bf≠v.ownBlock)/\Hid (Row wq Bf #[.int .i64 gx,.int .i64 gy,.int .i64 zz,.int .i64 g0,.int .i64 g1,.int .i64 g2,.int .i64 g3,.int .i64 64] 73))
    (fun i _=>N-(intOf i).toNat)
   case atStart=>exact ⟨0,s.X,s.Y,v,L,by omega,rfl,jj ⟨by unfold wdFr;simp,by unfold wdFr;simp⟩,jj (by simp),HH0,HOff,HF0⟩
   case round =>
    clear HH0 HOff HF0;obtain ⟨j,gx,gy,v,L',hj,rfl,hg,hL',hR,hO,hF⟩:=hrel;have hFc:=hF.out.cell;have hFf:=hF.out.frozen;have hFl:=hF.out.lt;have rC:=hR.out.chg.row HC.out (show ¬Bt=q by omega);have cC:=rC.cell;have fC:=rC.frozen;have zC:=rC.lt;have nb:=HNN.out
    by_cases hlj:j<N
    ·have HJL:=jj (show j+1<=N from hlj);have hji:(j:Int)<n:=by omega
     obtain ⟨u0,u1,u2,u3⟩:=wdFr_bd (a:=a) (b:=b) (s:=s) (j:=j) (n:=n) ⟨b0,b1⟩ ⟨b2,b3⟩ (by omega) (by omega);rw[hg.out.1] at u0 u1;rw[hg.out.2] at u2 u3;have hfr:=jj (show wdFr a b s j=⟨gx,gy,zz,g0,g1,g2,g3,64⟩ by rw[hFr.out j,hg.out.1,hg.out.2]);have hnext:=wdFr_next (a:=a) (b:=b) (s:=s) j;rw[HLV.out,hg.out.1,hg.out.2] at hnext;have HNX:=jj hnext;have hsub:=hLl.out (((List.range j).map (wdFr a b s)).filter (frIn x0 y0 x1 y1)) (by
      unfold wdRow;exact (List.Sublist.map _ (List.range_sublist.2 (by omega))).filter _)
     rw[<-hL'.out] at hsub;clear nb
     by_cases hin:frIn x0 y0 x1 y1 ⟨gx,gy,zz,g0,g1,g2,g3,64⟩=true
     ·have AD:=jj (add_yes ⟨gx,gy,zz,g0,g1,g2,g3,64⟩ x0 y0 x1 y1 HR.out hin (w.heap.size+1+1+1) q w1 wr v L' hR.out (hR.out.chg.row HT.out (by omega)) hsub hq1);have hLn:=jj (show L'++[⟨gx,gy,zz,g0,g1,g2,g3,64⟩]=L++((List.range (j+1)).map (wdFr a b s)).filter (frIn x0 y0 x1 y1) by rw[List.range_succ,List.map_append,List.filter_append,<-List.append_assoc,<-hL'.out,List.map_cons,List.map_nil,hfr.out,List.filter_cons_of_pos hin,List.filter_nil]);clear hnext hsub hin;cases lv
      ·simp only[if_neg,Bool.false_eq_true,if_false] at HNX
       go_wp2_with (go_at_call 190;(with_reducible refine AD.out.mono ?_);rintro _ w9 ⟨rfl,v9,hA⟩;have r9:=hA.row Bf _ _ hbq hO.out hF.out;have F9:=jj r9;have cF9:=r9.cell;have fF9:=r9.frozen;have lF9:=r9.lt;have q9:=hA.hold.chg.row HC.out (show ¬Bt=q by omega);have cC9:=q9.cell;have fC9:=q9.frozen;have lC9:=q9.lt;have A9:=jj hA;have O9:=jj (hA.off Bf hFl hO.out);clear r9 q9 hA)
       go_roundw
       case rel=>exact ⟨j+1,gx+1,gy,v9,_,HJL.out,by go_num,jj HNX.out,hLn,jj (A9.out.hold.put O9.out hbq hw1),O9,jj (F9.out.set 0 _)⟩
       case measure=>have:=HJL.out;simp[intOf];omega
      ·simp only[if_true] at HNX
       go_wp2_with (go_at_call 190;(with_reducible refine AD.out.mono ?_);rintro _ w9 ⟨rfl,v9,hA⟩;have r9:=hA.row Bf _ _ hbq hO.out hF.out;have F9:=jj r9;have cF9:=r9.cell;have fF9:=r9.frozen;have lF9:=r9.lt;have q9:=hA.hold.chg.row HC.out (show ¬Bt=q by omega);have cC9:=q9.cell;have fC9:=q9.frozen;have lC9:=q9.lt;have A9:=jj hA;have O9:=jj (hA.off Bf hFl hO.out);clear r9 q9 hA)
       go_roundw
       case rel=>exact ⟨j+1,gx,gy+1,v9,_,HJL.out,by go_num,jj HNX.out,hLn,jj (A9.out.hold.put O9.out hbq hw1),O9,jj (F9.out.set 1 _)⟩
       case measure=>have:=HJL.out;simp[intOf];omega
     ·have hin':frIn x0 y0 x1 y1 ⟨gx,gy,zz,g0,g1,g2,g3,64⟩=false:=by simpa using hin
      have AD:=jj (add_no ⟨gx,gy,zz,g0,g1,g2,g3,64⟩ x0 y0 x1 y1 HR.out hin' (w.heap.size+1+1+1) q w1 wr v L' hR.out (hR.out.chg.row HT.out (by omega)));have hLn:=jj (show L'=L++((List.range (j+1)).map (wdFr a b s)).filter (frIn x0 y0 x1 y1) by rw[List.range_succ,List.map_append,List.filter_append,<-List.append_assoc,<-hL'.out,List.map_cons,List.map_nil,hfr.out,List.filter_cons_of_neg hin,List.filter_nil,List.append_nil]);clear hnext hsub hin hin';cases lv
      ·simp only[if_neg,Bool.false_eq_true,if_false] at HNX
       go_wp2_with (go_at_call 190;(with_reducible refine AD.out.mono ?_);rintro _ w9 ⟨rfl,v9,hA⟩;have r9:=hA.row Bf _ _ hbq hO.out hF.out;have F9:=jj r9;have cF9:=r9.cell;have fF9:=r9.frozen;have lF9:=r9.lt;have q9:=hA.hold.chg.row HC.out (show ¬Bt=q by omega);have cC9:=q9.cell;have fC9:=q9.frozen;have lC9:=q9.lt;have A9:=jj hA;have O9:=jj (hA.off Bf hFl hO.out);clear r9 q9 hA)
       go_roundw
       case rel=>exact ⟨j+1,gx+1,gy,v9,_,HJL.out,by go_num,jj HNX.out,hLn,jj (A9.out.hold.put O9.out hbq hw1),O9,jj (F9.out.set 0 _)⟩
       case measure=>have:=HJL.out;simp[intOf];omega
      ·simp only[if_true] at HNX
       go_wp2_with (go_at_call 190;(with_reducible refine AD.out.mono ?_);rintro _ w9 ⟨rfl,v9,hA⟩;have r9:=hA.row Bf _ _ hbq hO.out hF.out;have F9:=jj r9;have cF9:=r9.cell;have fF9:=r9.frozen;have lF9:=r9.lt;have q9:=hA.hold.chg.row HC.out (show ¬Bt=q by omega);have cC9:=q9.cell;have fC9:=q9.frozen;have lC9:=q9.lt;have A9:=jj hA;have O9:=jj (hA.off Bf hFl hO.out);clear r9 q9 hA)
       go_roundw
       case rel=>exact ⟨j+1,gx,gy+1,v9,_,HJL.out,by go_num,jj HNX.out,hLn,jj (A9.out.hold.put O9.out hbq hw1),O9,jj (F9.out.set 1 _)⟩
       case measure=>have:=HJL.out;simp[intOf];omega
    ·obtain rfl:j=N:=by omega
     have hLn:=jj (show L'=wdOf a b n x0 y0 x1 y1 ((W.take (k+1)).filter (litB false p r c)) by rw[hTk.out,hL'.out];unfold wdRow;rw[show n.toNat=j by omega]);have hnj:n<=(j:Int):=by omega
     clear nb;go_wp2;go_roundw
     case rel=>exact ⟨k+1,v,L',HKL.out,by go_num,hLn,hR⟩
     case measure=>have:=HKL.out;simp[intOf];omega
  ·obtain rfl:k=W.length:=by omega
   have hfin:=hL.out;rw[List.take_length] at hfin;have HFin:=jj hfin;have hll:=HLen.out (W.filter (litB false p r c)) (List.Sublist.refl _);have hha:=HAR.out;rw[<-hfin] at hll;obtain ⟨av,kv,rfl⟩:=own_slice hR.out.own;have h1:=own_recs (K:=frK) hR.out.own (by omega);have HR1:=jj (show Recs frK wr (.slice av L.length kv) L from h1);obtain ⟨X0,hX0⟩:=HX.out;have B1:Below w.heap.size w wr:=(Chg.trans (p:=fun b=>b=q) (hX0▸Chg.of_ext X0) hR.out.chg).below (B:=w.heap.size) (fun k hk e=>by omega) (Nat.le_refl _);have HB1:=jj B1;have rZ:=hR.out.chg.row HZ.out (show ¬(w.heap.size+1+1+1+1)=q by omega);have cZ:=rZ.cell;have fZ:=rZ.frozen;have zZ:=rZ.lt;have rN:=hR.out.chg.row HN.out (show ¬(Bt+1)=q by omega);have cN:=rN.cell;have fN:=rN.frozen;have zN:=rN.lt;have rq:=hR.out.cell;have cq:=rq.cell;have fq:=rq.frozen;have zq:=rq.lt;clear rA cA fA zA rB cB fB zB rD cD fD zD rT cT fT zT rC cC fC zC;clear h1 hX0 B1 rq hfin hll hha rZ rN;go_upto_region 25 with fail
   refine wp_region_ext_tail 3 (by kernel_rfl) (by kernel_rfl) ?_;simp only[jx]
   repeat (go_big_quiet_step ((fail)))
   refine wpQuiet_nil ?_;intro _ hw_ext;obtain ⟨X25,hw_ext⟩:=hw_ext;subst hw_ext;go_wp2;refine bodyPost_ret (v:=.tuple #[.slice av L.length kv,D3 p r c]) (by simp[results,Tryz.results127,go_sem,cZ,zZ];try rfl) rfl ?_;refine ⟨_,rfl,?_,?_⟩
   ·rw[<-HFin.out];refine Recs.chg (p:=fun b=>b=w.heap.size+1+1+1+1) HR1.out ?_ ?_
    ·exact chg3 _ _ _ _ _ _
    ·intro b hb _ _ e;have:=(hR.out.own.lt b hb).1;omega
   ·have B1:=HB1.out;exact jz (by exact br_)
end Go.Proofs.YthcjfanigfgckaaGreat
