import Derived.Test.YthcjfanigfgckaaGreatSHidb31
set_option linter.unusedVariables false
set_option linter.unusedSimpArgs false
set_option maxRecDepth 100000
set_option maxHeartbeats 16000000
namespace Go.Proofs.YthcjfanigfgckaaGreat
open Go.RowKit _root_.Go.Proofs.Tryz
instance jh31 : Coe Nat Value := ⟨fun n => .int .i64 n⟩
abbrev aR3 (w:World) (a b:WinP) (n p r c x0 y0 x1 y1 m:Int) (Bp:Nat) (v:Value) (L:List MkP) (wr:World):Prop:=Hold mkK w wr 192 [(w.heap.size,#[.int .i64 a.x,.int .i64 a.y,.int .i64 a.z,.int .i64 a.c0,.int .i64 a.c1,.int .i64 a.c2,.int .i64 a.c3],45),(w.heap.size+1,#[.int .i64 b.x,.int .i64 b.y,.int .i64 b.z,.int .i64 b.c0,.int .i64 b.c1,.int .i64 b.c2,.int .i64 b.c3],45),(w.heap.size+1+1,#[.int .i64 p,.int .i64 r,.int .i64 c],25),(w.heap.size+1+1+1,#[.int .i64 x0,.int .i64 y0,.int .i64 x1,.int .i64 y1],29),(w.heap.size+1+1+1+1,#[.int .i64 0,.int .i64 0,.int .i64 0],25),(Bp,#[.int .i64 (aR a b n a.x),.int .i64 (aQ a b n a.y)],181),(Bp+1,#[.int .i64 (aR a b n b.x),.int .i64 (aQ a b n b.y)],181),(Bp+1+1,#[.int .i64 p,.int .i64 r,.int .i64 c],25)] v L
theorem aB6 (a b:WinP) (n p r c x0 y0 x1 y1:Int) (h:gM a b n p r c) (hr:aM x0 y0 x1 y1) (har:((x1-x0).toNat+(y1-y0).toNat)*64<=134217728) (w:World):Calls prog 98 #[a.v,b.v,n,.bool false,D3 p r c,R4 x0 y0 x1 y1] w (kJ w (o7 a b n false p r c x0 y0 x1 y1) p r (rP false r c (bS a b n).length)):=by
 have R:=jj (fun w=>decide_eq_true h▸fS a b n p r c w);have RR:=jj (fun w=>decide_eq_true hr▸bQ x0 y0 x1 y1 w);obtain ⟨h1,h2,h3,h4⟩:=h;have CO:=jj (fun w=>mB a b n h1.f h2.f h3 w);obtain ⟨m1,m2⟩:=kB h1 h2 h3;have hcl:=fG h1 h2 h3;obtain ⟨m,hm⟩:∃ m:Nat,(bS a b n).length=m:=⟨_,rfl⟩;have cn:∀ w,Calls prog 147 #[P2 (aR a b n a.x) (aQ a b n a.y),P2 (aR a b n b.x) (aQ a b n b.y)] w (Ret (.int .i64 (m:Int)) w):=fun w=>by
  rw[<-hm];exact nD (aR a b n a.x) (aQ a b n a.y) (aR a b n b.x) (aQ a b n b.y) m1 m2 w
 rw[hm] at hcl ⊢;have CN:=jj cn;have NX:=jj (fun w=>pL p r c (m:Int) h4 (by omega) (by omega) w);have WD:∀ w,Calls prog 148 #[P2 (aR a b n a.x) (aQ a b n a.y),P2 (aR a b n b.x) (aQ a b n b.y)] w (Ret (.bool (!decide (aB a.x a.y b.x b.y))) w):=fun w=>by
  have k:=pT (aR a b n a.x) (aQ a b n a.y) (aR a b n b.x) (aQ a b n b.y) m1 m2 w;rw[show decide (aB (aR a b n a.x) (aQ a b n a.y) (aR a b n b.x) (aQ a b n b.y))=decide (aB a.x a.y b.x b.y) from decide_eq_decide.2 (qS a b n)] at k;exact k
 have HWD:=jj WD;have NU:=jj (fun x y (hx:FarP x y) w=>pU (aR a b n a.x) (aQ a b n a.y) (aR a b n b.x) (aQ a b n b.y) x y m1 m2 hx w);have AL:=jj (fun x y (hx:Near x y) w=>sD a b x y h1.f h2.f hx w);have LI:=jj (fun k (k0:0<=k) (k1:k<=1099511627776) w=>aAj p r c k h4 k0 k1 w);have HBd:=jj (fun x y (hx:cex a b n x y)=>qT h1 h2 h3 ((kA ⟨uG a b n x y,x,y⟩).2 ⟨hx,rfl⟩));have HId:=jj (fun x y (hx:cex a b n x y)=>(by
  obtain ⟨i,hi⟩:=List.mem_iff_getElem?.1 ((kA ⟨uG a b n x y,x,y⟩).2 ⟨hx,rfl⟩);have k1:=zP hi;have k2:=fG h1 h2 h3;have k3:=(List.getElem?_eq_some_iff.1 hi).1;simp only at k1;omega:0<=uG a b n x y/\uG a b n x y<=2097220))
 have hln:=oM (a:=a) (b:=b) (n:=n) (dd:=false) (p:=p) (r:=r) (c:=c) (x0:=x0) (y0:=y0) (x1:=x1) (y1:=y1) (by have:=h3.1;omega) ((x1-x0).toNat+(y1-y0).toNat) (by unfold aM at hr;omega) (by unfold aM at hr;omega) (by omega) (by omega);have hl2:((x1-x0).toNat+(y1-y0).toNat)*n.toNat<=((x1-x0).toNat+(y1-y0).toNat)*64:=Nat.mul_le_mul_left _ (by have:=h3.2;omega);have hl3:(o7 a b n false p r c x0 y0 x1 y1).length<=134217728:=Nat.le_trans hln (Nat.le_trans hl2 har);have HL:=jj hl3;have HLen:=jj (fun x y k=>(Nat.le_trans aHj hl3:(nQ a b n false p r c x0 y0 x1 y1 x y k).length<=134217728));obtain ⟨n0,n1⟩:=h3;obtain ⟨⟨r0,r1⟩,⟨r2,r3⟩,⟨r4,r5⟩,⟨r6,r7⟩,rx,ry⟩:=hr;unfold rP;simp only[if_true,if_false,Bool.false_eq_true];clear h1 h2 h4 m1 m2 cn hm WD hln hl2 hl3 har
 go_enter func98,ntmps98
 go_upto_region 5 with (first
  |(go_at_call 144;(with_reducible refine (R.out _).mono ?_);rintro _ _ ⟨rfl,XR,rfl⟩)
  |(go_at_call 145;(with_reducible refine (CO.out _).mono ?_);rintro _ _ ⟨rfl,XC,rfl⟩))
 obtain ⟨Bp,hBp⟩:∃ B,w.heap.size+1+1+1+1+1+XR.sz+XC.sz=B:=⟨_,rfl⟩;refine aE (F:=fun w5=>Row w5 (w.heap.size) #[a.x,a.y,a.z,a.c0,a.c1,a.c2,a.c3] 45/\Row w5 (w.heap.size+1) #[b.x,b.y,b.z,b.c0,b.c1,b.c2,b.c3] 45/\Row w5 (w.heap.size+1+1) #[p,r,c] 25/\Row w5 (w.heap.size+1+1+1) #[x0,y0,x1,y1] 29/\Row w5 (w.heap.size+1+1+1+1) #[.int .i64 0,.int .i64 0,.int .i64 0] 25/\Row w5 (Bp) #[.int .i64 (aR a b n a.x),.int .i64 (aQ a b n a.y)] 181/\Row w5 (Bp+1) #[.int .i64 (aR a b n b.x),.int .i64 (aQ a b n b.y)] 181/\Row w5 (Bp+1+1) #[p,r,c] 25/\∃ X,w5=w.ext X) ⟨by exact rx_,by exact rx_,by exact rx_,by exact rx_,by exact rx_,by rw[<-hBp];exact rx_,by rw[<-hBp];exact rx_,by rw[<-hBp];exact rx_,jz (by exact bl_)⟩ ?_;have hbp:w.heap.size+1+1+1+1+1<=Bp:=by omega
 rw[hBp];clear hBp;rintro w5 ⟨RA,RB,RD,RT,RZ,RP,RQ,RN,hX⟩;have HX:=jj hX;have cA:=RA.cell;have fA:=RA.frozen;have lA:=RA.lt;have HA:=jj RA;have cB:=RB.cell;have fB:=RB.frozen;have lB:=RB.lt;have HB:=jj RB;have cD:=RD.cell;have fD:=RD.frozen;have lD:=RD.lt;have HD:=jj RD;have cT:=RT.cell;have fT:=RT.frozen;have lT:=RT.lt;have HT:=jj RT;have cZ:=RZ.cell;have fZ:=RZ.frozen;have lZ:=RZ.lt;have HZ:=jj RZ;have cP:=RP.cell;have fP:=RP.frozen;have lP:=RP.lt;have HP:=jj RP;have cQ:=RQ.cell;have fQ:=RQ.frozen;have lQ:=RQ.lt;have HQ:=jj RQ;have cN:=RN.cell;have fN:=RN.frozen;have lN:=RN.lt;have HN:=jj RN;clear hX RA RB RD RT RZ RP RQ RN;go_upto_region 9 with (first|(go_at_call 38;(with_reducible refine (RR.out _).mono ?_);rintro _ _ ⟨rfl,XQ,rfl⟩))
 refine aE (F:=aR3 w a b n p r c x0 y0 x1 y1 m Bp (.slice none 0 0) []) (Hold.start (List.forall_mem_cons.2 ⟨by (repeat (first|with_reducible exact HA.out|with_reducible refine Row.ext ?_ _|with_reducible refine aC ?_|with_reducible refine Row.other ?_ (by omega) _ _)),List.forall_mem_cons.2 ⟨by (repeat (first|with_reducible exact HB.out|with_reducible refine Row.ext ?_ _|with_reducible refine aC ?_|with_reducible refine Row.other ?_ (by omega) _ _)),List.forall_mem_cons.2 ⟨by (repeat (first|with_reducible exact HD.out|with_reducible refine Row.ext ?_ _|with_reducible refine aC ?_|with_reducible refine Row.other ?_ (by omega) _ _)),List.forall_mem_cons.2 ⟨by (repeat (first|with_reducible exact HT.out|with_reducible refine Row.ext ?_ _|with_reducible refine aC ?_|with_reducible refine Row.other ?_ (by omega) _ _)),List.forall_mem_cons.2 ⟨by (repeat (first|with_reducible exact HZ.out|with_reducible refine Row.ext ?_ _|with_reducible refine aC ?_|with_reducible refine Row.other ?_ (by omega) _ _)),List.forall_mem_cons.2 ⟨by (repeat (first|with_reducible exact HP.out|with_reducible refine Row.ext ?_ _|with_reducible refine aC ?_|with_reducible refine Row.other ?_ (by omega) _ _)),List.forall_mem_cons.2 ⟨by (repeat (first|with_reducible exact HQ.out|with_reducible refine Row.ext ?_ _|with_reducible refine aC ?_|with_reducible refine Row.other ?_ (by omega) _ _)),List.forall_mem_cons.2 ⟨by (repeat (first|with_reducible exact HN.out|with_reducible refine Row.ext ?_ _|with_reducible refine aC ?_|with_reducible refine Row.other ?_ (by omega) _ _)),by simp⟩⟩⟩⟩⟩⟩⟩⟩) (by simp) (by obtain ⟨X0,hX0⟩:=HX.out;subst hX0;exact jz (by exact br_))) ?_;intro w1 h1;have H1:=jj h1;clear h1;clear cA fA lA HA cB fB lB HB cD fD lD HD cT fT lT HT cZ fZ lZ HZ cP fP lP HP cQ fQ lQ HQ cN fN lN HN;clear HX;have d0:=H1.out.rows _ (jk (jk (jk jq)));simp only at d0;have d1:=d0.cell;have d2:=d0.frozen;have d3:=d0.lt;clear d0;go_wp2;clear d1 d2 d3;go_loopw [18,17] (fun i u wr=>∃ (x:Int) (v:Value) (L:List MkP),x0<=x/\x<=x1/\i=.int .i64 x/\u=v/\Hid (L=nQ a b n false p r c x0 y0 x1 y1 x y0 0)/\Hid (aR3 w a b n p r c x0 y0 x1 y1 m Bp v L wr))
  (fun i _ _=>(x1-intOf i).toNat)
 case atStart=>exact ⟨x0,_,[],by omega,by omega,rfl,rfl,jj don_start.symm,H1⟩
 case round =>
  clear H1;obtain ⟨x,v,L,hx0,hx1,rfl,hv,hL,hR⟩:=hrel;have hv:=hv.symm;subst hv;have d0:=hR.out.rows _ (jk (jk (jk jq)));simp only at d0;have d1:=d0.cell;have d2:=d0.frozen;have d3:=d0.lt;clear d0
  by_cases hlt:x<x1
  ·go_wp2;clear d1 d2 d3;go_loopw [19,17] (fun i u wr=>∃ (y:Int) (v:Value) (L:List MkP),y0<=y/\y<=y1/\i=.int .i64 y/\u=v/\Hid (L=nQ a b n false p r c x0 y0 x1 y1 x y 0)/\Hid (aR3 w a b n p r c x0 y0 x1 y1 m Bp v L wr))
    (fun i _ _=>(y1-intOf i).toNat)
   case atStart=>exact ⟨y0,v,L,by omega,by omega,rfl,rfl,hL,hR⟩
   case round =>
    clear hR hL;obtain ⟨y,v,L,hy0,hy1,rfl,hv,hL,hR⟩:=hrel;have hv:=hv.symm;subst hv;have d0:=hR.out.rows _ (jk (jk (jk jq)));simp only at d0;have d1:=d0.cell;have d2:=d0.frozen;have d3:=d0.lt;clear d0
    by_cases hl2:y<y1
    ·go_wp2;clear d1 d2 d3;go_loopw [20,17] (fun i u wr=>∃ (j:Nat) (v:Value) (L:List MkP),(j:Int)<=n/\i=.int .i64 j/\u=v/\Hid (L=nQ a b n false p r c x0 y0 x1 y1 x y j)/\Hid (aR3 w a b n p r c x0 y0 x1 y1 m Bp v L wr))
      (fun i _ _=>(n-intOf i).toNat)
     case atStart=>exact ⟨0,v,L,by omega,rfl,rfl,hL,hR⟩
     case round =>
      clear hR hL;obtain ⟨j,v,L,hj,rfl,hv,hL,hR⟩:=hrel;have hv:=hv.symm;subst hv
      by_cases hl3:(j:Int)<n
      ·have hl3':=hl3;have q0:=hR.out.rows _ (jk (jk (jk (jk (jk jq)))));simp only at q0;have q1:=q0.cell;have q2:=q0.frozen;have q3:=q0.lt;clear q0;have s0:=hR.out.rows _ (jk (jk (jk (jk (jk (jk jq))))));simp only at s0;have s1:=s0.cell;have s2:=s0.frozen;have s3:=s0.lt;clear s0;have t0:=hR.out.rows _ jq;simp only at t0;have t1:=t0.cell;have t2:=t0.frozen;have t3:=t0.lt;clear t0;have u0:=hR.out.rows _ (jk jq);simp only at u0;have u1:=u0.cell;have u2:=u0.frozen;have u3:=u0.lt;clear u0;have d0:=hR.out.rows _ (jk (jk jq));simp only at d0;have d1:=d0.cell;have d2:=d0.frozen;have d3:=d0.lt;clear d0;have S1:=jj (show iF a b x j=(if aB a.x a.y b.x b.y then x-j else x) from rfl);have S2:=jj (show iE a b y j=(if aB a.x a.y b.x b.y then y else y-j) from rfl);have sb:(-8388608<=iF a b x j/\iF a b x j<=8388608)/\-8388608<=iE a b y j/\iE a b y j<=8388608:=by unfold iF iE;split<;>omega
       have N0:=NU.out (iF a b x j) (iE a b y j) ⟨sb.1.1,sb.1.2,sb.2.1,sb.2.2⟩;have hbd:=HBd.out (iF a b x j) (iE a b y j);have hid:=HId.out (iF a b x j) (iE a b y j);have hsk:=jj (fun h=>aA8 (a:=a) (b:=b) (n:=n) (p:=p) (r:=r) (c:=c) (x0:=x0) (y0:=y0) (x1:=x1) (y1:=y1) (dd:=false) (x:=x) (y:=y) (m:=j) hl3 ⟨hx0,hlt⟩ ⟨hy0,hl2⟩ h);have hpt:=jj (fun h h' i hi k1 k2=>aHi (a:=a) (b:=b) (n:=n) (p:=p) (r:=r) (c:=c) (x0:=x0) (y0:=y0) (x1:=x1) (y1:=y1) (dd:=false) (x:=x) (y:=y) (m:=j) hl3 ⟨hx0,hlt⟩ ⟨hy0,hl2⟩ h h' i hi k1 k2);unfold aIn at hpt;obtain ⟨sx,hsx⟩:∃ z,iF a b x j=z:=⟨_,rfl⟩;obtain ⟨sy,hsy⟩:∃ z,iE a b y j=z:=⟨_,rfl⟩;rw[hsx] at S1;rw[hsy] at S2;simp only[hsx,hsy] at sb N0 hbd hid hsk hpt;clear hsx hsy
       by_cases hex:cex a b n sx sy
       ·have hex':exP (aR a b n a.x) (aQ a b n a.y) (aR a b n b.x) (aQ a b n b.y) sx sy:=hex;simp only[hex',if_true,decide_true] at N0;obtain ⟨b0,b1⟩:=hbd hex;obtain ⟨i0,i1⟩:=hid hex;obtain ⟨K,hK⟩:∃ K,uG a b n sx sy=K:=⟨_,rfl⟩;have hK':wU (aR a b n a.x) (aQ a b n a.y) (aR a b n b.x) (aQ a b n b.y) sx sy=K:=hK;rw[hK'] at N0;rw[hK] at i0 i1;simp only[hK] at hsk hpt;have N1:=jj N0;have HEX:=jj hex;clear N0 hex hex' hbd hid hK hK';have A0:=AL.out sx sy ⟨by omega,by omega,by omega,by omega⟩;simp only[mE] at A0;obtain ⟨zz,h5⟩:∃ v,mid a.z b.z (alN a b sx sy) (alD a b)=v:=⟨_,rfl⟩;obtain ⟨g0,h6⟩:∃ v,mid a.c0 b.c0 (alN a b sx sy) (alD a b)=v:=⟨_,rfl⟩;obtain ⟨g1,h7⟩:∃ v,mid a.c1 b.c1 (alN a b sx sy) (alD a b)=v:=⟨_,rfl⟩;obtain ⟨g2,h8⟩:∃ v,mid a.c2 b.c2 (alN a b sx sy) (alD a b)=v:=⟨_,rfl⟩;obtain ⟨g3,h9⟩:∃ v,mid a.c3 b.c3 (alN a b sx sy) (alD a b)=v:=⟨_,rfl⟩;simp only[alV,h5,h6,h7,h8,h9] at A0 hpt;have A1:=jj A0;have HPT:=jj (fun i hi k1 k2=>hpt.out HEX.out rfl i hi k1 k2);have hle:L.length<=134217728:=by rw[hL.out];exact HLen.out _ _ _
        have HLE:=jj hle;clear A0 hpt h5 h6 h7 h8 h9 hsk hle
        by_cases t:aB a.x a.y b.x b.y
        ·have W1:=HWD.out;simp only[t,decide_true,Bool.not_true] at W1;have e1:=S1.out;have e2:=S2.out;simp only[t,if_true] at e1 e2;subst e1;obtain rfl:y=sy:=e2.symm;have W2:=jj W1;clear W1 t
         go_wp2_with (first
          |(go_at_call 148;(with_reducible refine (W2.out _).mono ?_);rintro _ _ ⟨rfl,XW,rfl⟩)
          |(go_at_call 149;(with_reducible refine (N1.out _).mono ?_);rintro _ _ ⟨rfl,XN,rfl⟩)
          |(go_at_call 151;(with_reducible refine (A1.out _).mono ?_);rintro _ _ ⟨rfl,XA,rfl⟩)
          |(go_at_call 152;go_loud (with_reducible refine (oW ⟨K,j,⟨x,y,zz,g0,g1,g2,g3,64⟩⟩ w _ _ _ _ (hR.out.grown ?_) HLE.out).mono ?_);exact br_;rintro _ w9 ⟨v9,i9,rfl,k1,k2,k3,k4⟩;have K1:=jj k1;have K2:=jj k2;have K3:=jj k3;have K4:=jj k4;clear k1 k2 k3 k4))
         go_roundw
         case rel=>exact ⟨j+1,v9,_,by omega,by go_num,rfl,jj (by have:=HPT.out i9 (by rw[<-hL.out];exact K1.out) (by rw[<-hL.out];exact K2.out) (by rw[<-hL.out];exact K3.out);rw[<-hL.out] at this;exact this.symm),K4⟩
         case measure=>simp[intOf];omega
        ·have W1:=HWD.out;simp only[t,decide_false,Bool.not_false] at W1;have e1:=S1.out;have e2:=S2.out;simp only[t,if_false] at e1 e2;subst e2;obtain rfl:x=sx:=e1.symm;have W2:=jj W1;clear W1 t
         go_wp2_with (first
          |(go_at_call 148;(with_reducible refine (W2.out _).mono ?_);rintro _ _ ⟨rfl,XW,rfl⟩)
          |(go_at_call 149;(with_reducible refine (N1.out _).mono ?_);rintro _ _ ⟨rfl,XN,rfl⟩)
          |(go_at_call 151;(with_reducible refine (A1.out _).mono ?_);rintro _ _ ⟨rfl,XA,rfl⟩)
          |(go_at_call 152;go_loud (with_reducible refine (oW ⟨K,j,⟨x,y,zz,g0,g1,g2,g3,64⟩⟩ w _ _ _ _ (hR.out.grown ?_) HLE.out).mono ?_);exact br_;rintro _ w9 ⟨v9,i9,rfl,k1,k2,k3,k4⟩;have K1:=jj k1;have K2:=jj k2;have K3:=jj k3;have K4:=jj k4;clear k1 k2 k3 k4))
         go_roundw
         case rel=>exact ⟨j+1,v9,_,by omega,by go_num,rfl,jj (by have:=HPT.out i9 (by rw[<-hL.out];exact K1.out) (by rw[<-hL.out];exact K2.out) (by rw[<-hL.out];exact K3.out);rw[<-hL.out] at this;exact this.symm),K4⟩
         case measure=>simp[intOf];omega
       ·have hex':¬exP (aR a b n a.x) (aQ a b n a.y) (aR a b n b.x) (aQ a b n b.y) sx sy:=hex;simp only[hex',if_false,decide_false] at N0;have N1:=jj N0;have hnx:=jj (hsk.out (fun k=>hex k.1));clear N0 hex hex' hbd hid hsk hpt
        by_cases t:aB a.x a.y b.x b.y
        ·have W1:=HWD.out;simp only[t,decide_true,Bool.not_true] at W1;have e1:=S1.out;have e2:=S2.out;simp only[t,if_true] at e1 e2;subst e1;obtain rfl:y=sy:=e2.symm;have W2:=jj W1;clear W1 t
         go_wp2_with (first
          |(go_at_call 148;(with_reducible refine (W2.out _).mono ?_);rintro _ _ ⟨rfl,XW,rfl⟩)
          |(go_at_call 149;(with_reducible refine (N1.out _).mono ?_);rintro _ _ ⟨rfl,XN,rfl⟩))
         go_roundw
         case rel=>exact ⟨j+1,v,L,by omega,by go_num,rfl,jj (by rw[hL.out];exact hnx.out.symm),jj (hR.out.grown (by exact br_))⟩
         case measure=>simp[intOf];omega
        ·have W1:=HWD.out;simp only[t,decide_false,Bool.not_false] at W1;have e1:=S1.out;have e2:=S2.out;simp only[t,if_false] at e1 e2;subst e2;obtain rfl:x=sx:=e1.symm;have W2:=jj W1;clear W1 t
         go_wp2_with (first
          |(go_at_call 148;(with_reducible refine (W2.out _).mono ?_);rintro _ _ ⟨rfl,XW,rfl⟩)
          |(go_at_call 149;(with_reducible refine (N1.out _).mono ?_);rintro _ _ ⟨rfl,XN,rfl⟩))
         go_roundw
         case rel=>exact ⟨j+1,v,L,by omega,by go_num,rfl,jj (by rw[hL.out];exact hnx.out.symm),jj (hR.out.grown (by exact br_))⟩
         case measure=>simp[intOf];omega
      ·obtain rfl:n=j:=by omega
       go_wp2;go_roundw
       case rel=>exact ⟨y+1,v,L,by omega,by omega,rfl,rfl,jj (by rw[aQg];exact hL.out),hR⟩
       case measure=>simp[intOf];omega
    ·obtain rfl:y=y1:=by omega
     go_wp2;go_roundw
     case rel=>exact ⟨x+1,v,L,by omega,by omega,rfl,rfl,jj (by rw[aQh];exact hL.out),hR⟩
     case measure=>simp[intOf];omega
  ·obtain rfl:x=x1:=by omega
   have hG:=jj (show L=iR a b n false p r c x0 y0 x y1 by rw[hL.out,aHk]);obtain ⟨i0,hii,hi0,hi1,hi2⟩:=info_parts qG;have hll:L.length<=134217728:=by rw[hL.out];exact HLen.out _ _ _
   obtain ⟨w9,rfl⟩:∃ w9,w9=wr:=⟨_,rfl⟩;obtain ⟨av,kv,rfl⟩:=eO hR.out.own;have HO:=jj (show Hold frK w9 w9 73 [] (.slice none 0 0) [] from Hold.start (by simp) (by simp) ⟨⟨#[],w9.drawn⟩,(aN _).symm⟩);clear hL;go_wp2;clear d1 d2 d3;go_loopw [28,27] (fun i u wr=>∃ (k:Nat) (v2:Value) (M:List FrP),k<=L.length/\i=.int .i64 k/\u=v2/\Hid (M=(L.take k).map (·.f))/\Hid (Hold frK w9 wr 73 [] v2 M))
    (fun i _ _=>L.length-(intOf i).toNat)
   case atStart=>exact ⟨0,_,[],by omega,rfl,rfl,jj rfl,HO⟩
   case round =>
    clear HO;obtain ⟨k,v2,M,hk,rfl,hv,hM,hO⟩:=hrel;have hv:=hv.symm;subst hv
    by_cases hlt:k<L.length
    ·have HKL:=jj (show k+1<=L.length from hlt);obtain ⟨s,hs⟩:∃ s,L[k]?=some s:=⟨_,List.getElem?_eq_getElem hlt⟩;have hown9:wr.ownsRow w.heap.size 192 10 (.slice av L.length kv) L.length (L.flatMap MkP.cells):=by
      obtain ⟨X,hX⟩:=hO.out.ext;rw[hX];exact jV hR.out.own X
     obtain ⟨b9,e9,hb9,g0,g1,g2,g3,g4,g5,g6,g7⟩:=vF hown9 k s hs;subst e9;have hb9':b9<=wr.heap.size:=by omega
     have hki:(k:Int)<L.length:=by omega
     have hMl:M.length<=134217728:=by rw[hM.out,List.length_map];exact Nat.le_trans (List.length_take_le _ _) (by omega)
     have LB1:=jj (show M.length+1<=maxLen by unfold maxLen;omega);have LB2:=jj (show (M.length+1)*64<=140737488355328 by omega);have hMn:=jj (show M++[s.f]=(L.take (k+1)).map (·.f) by rw[List.take_add_one,hs,List.map_append,<-hM.out];rfl);obtain ⟨sk,sm,fx,fy,fz,e0,e1,e2,e3,cov⟩:=s;simp only at g0 g1 g2 g3 g4 g5 g6 g7;have hsz9:=hO.out.size;clear hown9 hs hMl
     go_wp2_with (first
      |(at_builtin;refine wpList_append_own _ rfl _ _ 36 rfl w9.heap.size 73 i0 (.agg #[.int .i64 0,.int .i64 0,.int .i64 0,.int .i64 0,.int .i64 0,.int .i64 0,.int .i64 0,.int .i64 0]) 8 64 Tryz.underlying36 hii hi0 hi1 hi2 rfl (by decide) v2 M.length (M.flatMap FrP.cells) rfl (hO.out.own.alloc _) ⟨wr.heap.size,0,none⟩ 1 1 (FrP.cells ⟨fx,fy,fz,e0,e1,e2,e3,cov⟩) rfl rfl (cF rfl _ _) (frK.one ⟨fx,fy,fz,e0,e1,e2,e3,cov⟩) LB1.out LB2.out (by simp;omega) ?_;intro v' w6 hown hgrow _;have h5:=hO.out.snoc (s:=⟨fx,fy,fz,e0,e1,e2,e3,cov⟩) hown hgrow;have H5:=jj h5;clear hown hgrow h5))
     go_roundw
     case rel=>exact ⟨k+1,_,M++[⟨fx,fy,fz,e0,e1,e2,e3,cov⟩],HKL.out,by go_num,rfl,hMn,H5⟩
     case measure=>have:=HKL.out;simp[intOf];omega
    ·obtain rfl:k=L.length:=by omega
     have hMf:=jj (show M=o7 a b n false p r c x0 y0 x y1 by rw[hM.out,List.take_length,hG.out,qB]);have hMl:M.length<=134217728:=by rw[hMf.out];exact HL.out
     obtain ⟨X,hX⟩:=hO.out.ext;subst hX;obtain ⟨au,ku,rfl⟩:=eO hO.out.own;have HR1:=jj (show Recs frK (w9.ext X) (.slice au M.length ku) M from cM hO.out.own (by omega));have H9:=jj (hR.out.grow X);have zl:=(hR.out.rows _ (jk (jk (jk (jk jq))))).lt;simp only at zl;have hsz:=hR.out.size;have B9:=jj hR.out.below;have z0:=hR.out.rows _ (jk (jk (jk (jk jq))));simp only at z0;have z1:=z0.cell;have z2:=z0.frozen;have z3:=z0.lt;clear z0;have u0:=hR.out.rows _ (jk (jk (jk (jk (jk (jk (jk jq)))))));simp only at u0;have u1:=u0.cell;have u2:=u0.frozen;have u3:=u0.lt;clear u0;clear hMl;go_upto_region 31 with fail
     refine jm 3 ?_;simp only[jx]
     repeat (go_big_quiet_step ((fail)))
     refine jv fun X31=>?_
     go_wp2;refine bodyPost_ret (v:=.tuple #[.slice au M.length ku,D3 p r c]) (by simp[results,results98,go_sem,z1,z3];try rfl) rfl ?_;refine ⟨_,rfl,?_,?_⟩
     ·rw[<-hMf.out];refine Recs.chg (p:=fun b=>b=w.heap.size+1+1+1+1) HR1.out ?_ ?_
      ·exact aS8 z3 _ _ _ _ _
      ·intro b hb _ _ e;have:=(hO.out.own.lt b hb).1;omega
     ·have B1:=B9.out;exact jz (by exact br_)
end Go.Proofs.YthcjfanigfgckaaGreat
