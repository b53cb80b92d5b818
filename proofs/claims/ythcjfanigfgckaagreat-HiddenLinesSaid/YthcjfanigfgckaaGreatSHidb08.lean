import Derived.Test.YthcjfanigfgckaaGreatSHidb07
set_option linter.unusedVariables false
set_option linter.unusedSimpArgs false
set_option maxRecDepth 100000
set_option maxHeartbeats 16000000
namespace Go.Proofs.YthcjfanigfgckaaGreat
open Go.RowKit _root_.Go.Proofs.Tryz
instance jh7 : Coe Nat Value := ⟨fun n => .int .i64 n⟩
section
section
theorem aO4 (m:Bool) (va vb:Value) (a b:List Int) (w:World) (ha:Rb w va a) (hb:Rb w vb b) (la:a.length<=1048000) (lb:b.length<=1048000) (hab:bv b<=bv a) :
  Calls prog 59 #[.agg #[.bool m,va],.agg #[.bool (!m),vb]] w (RetR (fun v w=>RN w v (pmv (bv a-bv b) m) (max a.length b.length+1)) w):=by
 have HA:=jj ha;have HB:=jj hb;obtain ⟨aa,acap,rfl,-⟩:=ha.form;obtain ⟨ba,bcap,rfl,-⟩:=hb.form;have d1:(m==!m)=false:=by cases m<;>rfl
 have d2:decide (0<=sgn (bv a-bv b))=true:=by have:=lS (bv a-bv b);simp;omega
 have HH:=jj hab;clear ha hb hab
 go_enter func59,ntmps59
 go_wp2_with (first|(go_at_call 102;(with_reducible refine (mS _ _ a b _ ?_ ?_).mono ?_);(repeat (first|assumption|exact HA.out|exact HB.out|with_reducible refine Rb.ext ?_ _|with_reducible refine Rb.alloc ?_ _|with_reducible refine Rb.drew ?_));(repeat (first|assumption|exact HA.out|exact HB.out|with_reducible refine Rb.ext ?_ _|with_reducible refine Rb.alloc ?_ _|with_reducible refine Rb.drew ?_));rintro _ _ ⟨rfl,X0,rfl⟩))
 refine aJ 9 [none,none,none,none,none,none,some ([],srQ fun l=>bv l=bv a-bv b/\l.length=a.length),none,some ([6],srN (pmv (bv a-bv b) m) (max a.length b.length+1))] (by kernel_rfl) (by kernel_rfl) ?_;simp only[jx]
 (repeat (first|(refine aA ?_;intro K_ hK_;go_big_quiet_op;go_big_quiet_on)|simp only[jw]))
 refine aF rfl (fun w_ hw_ hk_ K_ hK_=>?_) (fun v17 f17=>?_)
 ·obtain ⟨X_,rfl⟩:=hw_;go_simp
  go_at_call 103
  refine (j4 _ _ a b _ (by (repeat (first|assumption|exact HA.out|exact HB.out|with_reducible refine Rb.ext ?_ _|with_reducible refine Rb.alloc ?_ _|with_reducible refine Rb.drew ?_))) (by (repeat (first|assumption|exact HA.out|exact HB.out|with_reducible refine Rb.ext ?_ _|with_reducible refine Rb.alloc ?_ _|with_reducible refine Rb.drew ?_))) la HH.out).mono ?_;rintro _ _ ⟨v,rfl,h1,h2⟩;exact hK_ _ _ h1 h2
 obtain ⟨a17,k17,c17,rfl⟩:=f17
 (repeat (first|(refine aA ?_;intro K_ hK_;go_big_quiet_op;go_big_quiet_on)|simp only[jw]))
 refine aF rfl (fun w_ hw_ hk_ K_ hK_=>?_) (fun v19 f19=>?_)
 ·obtain ⟨X_,rfl⟩:=hw_;obtain ⟨l,h1,h2,h3⟩:=(hk_ (6,_) (by repeat (first|exact List.mem_cons_self|refine jk ?_))) (by simp);go_simp
  go_at_call 100
  refine (cY _ _ l _ h1).mono ?_;rintro _ _ ⟨v,rfl,h4,h5⟩;rw[h2] at h4;exact hK_ _ _ (RN.mono h4 (by omega)) h5
 refine aT ?_;intro w_ hw_ k;obtain ⟨X,rfl⟩:=hw_;have h1:=(k (8,_) (by repeat (first|exact List.mem_cons_self|refine jk ?_)));obtain ⟨m1,a1,k1,c1,rfl⟩:=RN.form h1;have H1:=jj h1;clear h1 k;go_wp2;refine bodyPost_ret (v:=.agg #[.bool m1,.slice a1 k1 c1]) (by simp[results,results59,go_sem]) rfl ?_;have h2:=H1.out;rw[World.ext_ext] at h2 ⊢;exact mK h2 (by exact bl_) (Nat.le_refl _)
theorem aO3 (m:Bool) (va vb:Value) (a b:List Int) (w:World) (ha:Rb w va a) (hb:Rb w vb b) (la:a.length<=1048000) (lb:b.length<=1048000) (hab:bv a<bv b) :
  Calls prog 59 #[.agg #[.bool (!m),va],.agg #[.bool m,vb]] w (RetR (fun v w=>RN w v (pmv (bv b-bv a) m) (max a.length b.length+1)) w):=by
 have HA:=jj ha;have HB:=jj hb;obtain ⟨aa,acap,rfl,-⟩:=ha.form;obtain ⟨ba,bcap,rfl,-⟩:=hb.form;have d1:((!m)==m)=false:=by cases m<;>rfl
 have d2:decide (0<=sgn (bv a-bv b))=false:=by have:=lS (bv a-bv b);simp;omega
 have HH:=jj hab;clear ha hb hab
 go_enter func59,ntmps59
 go_wp2_with (first|(go_at_call 102;(with_reducible refine (mS _ _ a b _ ?_ ?_).mono ?_);(repeat (first|assumption|exact HA.out|exact HB.out|with_reducible refine Rb.ext ?_ _|with_reducible refine Rb.alloc ?_ _|with_reducible refine Rb.drew ?_));(repeat (first|assumption|exact HA.out|exact HB.out|with_reducible refine Rb.ext ?_ _|with_reducible refine Rb.alloc ?_ _|with_reducible refine Rb.drew ?_));rintro _ _ ⟨rfl,X0,rfl⟩))
 refine aJ 9 [none,none,none,none,none,none,some ([],srQ fun l=>bv l=bv b-bv a/\l.length=b.length),none,some ([6],srN (pmv (bv b-bv a) m) (max a.length b.length+1))] (by kernel_rfl) (by kernel_rfl) ?_;simp only[jx]
 (repeat (first|(refine aA ?_;intro K_ hK_;go_big_quiet_op;go_big_quiet_on)|simp only[jw]))
 refine aF rfl (fun w_ hw_ hk_ K_ hK_=>?_) (fun v17 f17=>?_)
 ·obtain ⟨X_,rfl⟩:=hw_;go_simp
  go_at_call 103
  refine (j4 _ _ b a _ (by (repeat (first|assumption|exact HA.out|exact HB.out|with_reducible refine Rb.ext ?_ _|with_reducible refine Rb.alloc ?_ _|with_reducible refine Rb.drew ?_))) (by (repeat (first|assumption|exact HA.out|exact HB.out|with_reducible refine Rb.ext ?_ _|with_reducible refine Rb.alloc ?_ _|with_reducible refine Rb.drew ?_))) lb (by have:=HH.out;omega)).mono ?_;rintro _ _ ⟨v,rfl,h1,h2⟩;exact hK_ _ _ h1 h2
 obtain ⟨a17,k17,c17,rfl⟩:=f17
 (repeat (first|(refine aA ?_;intro K_ hK_;go_big_quiet_op;go_big_quiet_on)|simp only[jw]))
 refine aF rfl (fun w_ hw_ hk_ K_ hK_=>?_) (fun v19 f19=>?_)
 ·obtain ⟨X_,rfl⟩:=hw_;obtain ⟨l,h1,h2,h3⟩:=(hk_ (6,_) (by repeat (first|exact List.mem_cons_self|refine jk ?_))) (by simp);go_simp
  go_at_call 100
  refine (cY _ _ l _ h1).mono ?_;rintro _ _ ⟨v,rfl,h4,h5⟩;rw[h2] at h4;exact hK_ _ _ (RN.mono h4 (by omega)) h5
 refine aT ?_;intro w_ hw_ k;obtain ⟨X,rfl⟩:=hw_;have h1:=(k (8,_) (by repeat (first|exact List.mem_cons_self|refine jk ?_)));obtain ⟨m1,a1,k1,c1,rfl⟩:=RN.form h1;have H1:=jj h1;clear h1 k;go_wp2;refine bodyPost_ret (v:=.agg #[.bool m1,.slice a1 k1 c1]) (by simp[results,results59,go_sem]) rfl ?_;have h2:=H1.out;rw[World.ext_ext] at h2 ⊢;exact mK h2 (by exact bl_) (Nat.le_refl _)
theorem iI (va vb:Value) (x y:Int) (n k:Nat) (w:World) (ha:RN w va x n) (hb:RN w vb y k) (hn:n<=1048000) (hk:k<=1048000) :
  Calls prog 59 #[va,vb] w (RetR (fun v w=>RN w v (x+y) (max n k+1)) w):=by
 obtain ⟨m,sa,a,rfl,ra,-,-,rfl,la⟩:=ha;obtain ⟨m',sb,b,rfl,rb,-,-,rfl,lb⟩:=hb;have done:∀ z,z=pmv (bv a) m+pmv (bv b) m'->Calls prog 59 #[.agg #[.bool m,sa],.agg #[.bool m',sb]] w (RetR (fun v w=>RN w v z (max a.length b.length+1)) w)->Calls prog 59 #[.agg #[.bool m,sa],.agg #[.bool m',sb]] w (RetR (fun v w=>RN w v (pmv (bv a) m+pmv (bv b) m') (max n k+1)) w):=by
  intro z hz h;refine h.mono ?_;rintro _ _ ⟨v,rfl,h1,h2⟩;rw[hz] at h1;exact ⟨v,rfl,h1.mono (by omega),h2⟩
 by_cases hm:m=m'
 ·subst hm;exact done _ (by cases m<;>simp[pmv];omega) (aI1 m sa sb a b w ra rb (by omega) (by omega))
 ·have e:m'=!m:=by cases m<;>cases m'<;>simp_all
  subst e
  by_cases hab:bv b<=bv a
  ·exact done _ (by cases m<;>simp[pmv]<;>omega) (aO4 m sa sb a b w ra rb (by omega) (by omega) hab)
  ·have:=aO3 (!m) sa sb a b w ra rb (by omega) (by omega) (by omega);rw[Bool.not_not] at this;exact done _ (by cases m<;>simp[pmv]<;>omega) this
theorem RN.minus {w:World} {v:Value} {z:Int} {n:Nat} (h:RN w v z n):∃ a k cap,v=.agg #[.bool (decide (z<0)),.slice a k cap]/\(0<k↔z≠0):=by
 obtain ⟨m,sv,l,rfl,h2,h3,h4,rfl,-⟩:=h;obtain ⟨a,cap,rfl,-⟩:=h2.form;have hb:=(jO h3.1).1;have hz:=h3.zero;cases m
 ·refine ⟨a,l.length,cap,?_,?_⟩
  ·rw[show decide (pmv (bv l) false<0)=false by simp[pmv];exact hb]
  ·simp[pmv];omega
 ·refine ⟨a,l.length,cap,?_,?_⟩
  ·have:=h4 rfl;rw[show decide (pmv (bv l) true<0)=true by simp[pmv];omega]
  ·simp[pmv];omega
theorem aFg (va vb:Value) (x y:Int) (n k:Nat) (w:World) (ha:RN w va x n) (hb:RN w vb y k) (hn:n<=1048000) (hk:k<=1048000) :
  Calls prog 63 #[va,vb] w (Ret (.int .i64 (sgn (x-y))) w):=by
 have NA:=jj ha;have NB:=jj hb;obtain ⟨am,aa,ak,ac,rfl⟩:=ha.form;obtain ⟨bm,ba,bk,bc,rfl⟩:=hb.form;clear ha hb
 go_enter func63,ntmps63
 go_wp2;refine aJ 5 [none,none,some ([],srN (-y) k),some ([2],srN (x+-y) (max n k+1)),some ([],aO6 w.heap.size #[.bool false,.slice none 0 0] 101)] (by kernel_rfl) (by kernel_rfl) ?_;simp only[jx]
 (repeat (first|(refine aA ?_;intro K_ hK_;go_big_quiet_op;go_big_quiet_on)|simp only[jw]))
 refine aF rfl (fun w_ hw_ hk_ K_ hK_=>?_) (fun v8 f8=>?_)
 ·obtain ⟨X_,rfl⟩:=hw_;go_simp
  go_at_call 104
  refine (lW _ y k _ (by (repeat (first|assumption|exact NA.out|exact NB.out|with_reducible refine RN.ext ?_ _|with_reducible refine RN.alloc ?_ _|with_reducible refine RN.drew ?_)))).mono ?_;rintro _ _ ⟨v,rfl,h1,h2⟩;exact hK_ _ _ h1 h2
 obtain ⟨m8,a8,k8,c8,rfl⟩:=f8
 (repeat (first|(refine aA ?_;intro K_ hK_;go_big_quiet_op;go_big_quiet_on)|simp only[jw]))
 refine aF rfl (fun w_ hw_ hk_ K_ hK_=>?_) (fun v9 f9=>?_)
 ·obtain ⟨X_,rfl⟩:=hw_;have h0:=(hk_ (2,_) (by repeat (first|exact List.mem_cons_self|refine jk ?_))) (by simp);go_simp
  go_at_call 59
  refine (iI _ _ x (-y) n k _ (by (repeat (first|assumption|exact NA.out|exact NB.out|with_reducible refine RN.ext ?_ _|with_reducible refine RN.alloc ?_ _|with_reducible refine RN.drew ?_))) h0 hn hk).mono ?_;rintro _ _ ⟨v,rfl,h1,h2⟩;exact hK_ _ _ h1 h2
 obtain ⟨m9,a9,k9,c9,rfl⟩:=f9
 (repeat (first|(refine aA ?_;intro K_ hK_;go_big_quiet_op;go_big_quiet_on)|simp only[jw]))
 refine aF rfl (fun w_ hw_ hk_ K_ hK_=>?_) (fun v5 f5=>?_)
 ·obtain ⟨X_,rfl⟩:=hw_;go_simp;exact hK_ _ _ (aSk (by simp) (by omega)) aNi
 (repeat (first|(refine aA ?_;intro K_ hK_;go_big_quiet_op;go_big_quiet_on)|simp only[jw]))
 refine aT ?_;intro w_ hw_ hk;obtain ⟨X,rfl⟩:=hw_;have h1:=(hk (3,_) (by repeat (first|exact List.mem_cons_self|refine jk ?_)));obtain ⟨a1,k1,c1,e1,h2⟩:=RN.minus h1;cases e1
 obtain ⟨p,rfl,h3,h4⟩:=(hk (4,_) (by repeat (first|exact List.mem_cons_self|refine jk ?_)));clear hk h1 f5;have hs:=lS (x-y);have d1:=h4.lt;refine aDg (F:=fun wx=>Row wx p #[.bool false,.slice none 0 0] 101/\Below w.heap.size w wx) ⟨h4,by exact bl_⟩ ?_;clear h4 d1 X;intro wx ⟨R,BW⟩;have sz:=R.lt;have q0:=R.cell 0;have q1:=R.cell 1;have g0:=R.frozen 0;have g1:=R.frozen 1;simp at q0 q1;have HS:=jj hs;have H2:=jj h2;clear R hs h2
 by_cases hz:x+-y<0
 ·have dz:decide (x+-y<0)=true:=by simp[hz]
  go_wp2;go_ret;exact Ret.of' (congrArg (Value.int .i64) (by have:=HS.out;omega)) (by exact bx_)
 ·have dz:decide (x+-y<0)=false:=by simp[hz]
  go_wp2
  all_goals
   go_ret;exact Ret.of' (congrArg (Value.int .i64) (by have:=HS.out;have:=H2.out;omega)) (by exact bx_)
end
section
theorem s7 (i:Nat) (l:List Int):bv (List.replicate i 0++l)=bv l*2^i:=by
 induction i with
 |zero=>simp
 |succ i ih =>
  rw[List.replicate_succ,List.cons_append,bv,ih,eG]
  grind
theorem wK {l:List Int} {i:Nat} (h:i<l.length):bv (l.take (i+1))=bv (l.take i)+bt l i*2^i:=by
 have e:l.take (i+1)=l.take i++[bt l i]:=by
  rw[List.take_succ_eq_append_getElem h,bt,List.getD_eq_getElem?_getD,List.getElem?_eq_getElem h];rfl
 rw[e,wL,List.length_take,Nat.min_eq_left (by omega)]
theorem aJs (va vb:Value) (x y:Int) (n k:Nat) (w:World) (ha:RN w va x n) (hb:RN w vb y k) (hnk:n+k<=1000) :
  Calls prog 134 #[va,vb] w (RetR (fun v w=>RN w v (x*y) (n+n+k)) w):=by
 obtain ⟨i0,hi,hz0,hz1,hz2⟩:=info_parts kX;obtain ⟨m,sa,a,rfl,ra,can_a,-,rfl,la⟩:=ha;obtain ⟨m',sb,b,rfl,rb,can_b,-,rfl,lb⟩:=hb;have HA:=jj ra;have HB:=jj rb;have BA:=ra.bin;have BB:=rb.bin;obtain ⟨aa,acap,rfl,-⟩:=ra.form;obtain ⟨ba,bcap,rfl,-⟩:=rb.form;clear ra rb can_a can_b
 go_enter func134,ntmps134
 go_wp2;refine aE (F:=fun wx=>Row wx w.heap.size #[.bool m,.slice aa a.length acap] 101/\Row wx (w.heap.size+1) #[.bool m',.slice ba b.length bcap] 101/\Row wx (w.heap.size+1+1) #[.bool false,.slice none 0 0] 101/\Below w.heap.size w wx/\Rb wx (.slice aa a.length acap) a/\Rb wx (.slice ba b.length bcap) b) ⟨by exact rx_,by exact rx_,by exact rx_,by exact bl_,by (repeat (first|assumption|exact HA.out|exact HB.out|with_reducible refine Rb.ext ?_ _|with_reducible refine Rb.alloc ?_ _|with_reducible refine Rb.drew ?_)),by (repeat (first|assumption|exact HA.out|exact HB.out|with_reducible refine Rb.ext ?_ _|with_reducible refine Rb.alloc ?_ _|with_reducible refine Rb.drew ?_))⟩ ?_;clear HA HB;intro wx ⟨R0,R1,R2,BW,HA,HB⟩;have sz0:=R0.lt;have sz1:=R1.lt;have sz2:=R2.lt;have c00:=R0.cell 0;have c01:=R0.cell 1;have c10:=R1.cell 0;have c11:=R1.cell 1;have c20:=R2.cell 0;have c21:=R2.cell 1;have f20:=R2.frozen 0;have f21:=R2.frozen 1;simp at c00 c01 c10 c11 c20 c21
 replace HA:=jj HA
 replace HB:=jj HB
 have HR2:=jj R2;clear R0 R1 R2;go_loopw [5,6] (fun o i wr=>∃ (v:Value) (l:List Int) (j:Nat) (X:Xt),o=v/\i=.int .i64 j/\j<=a.length/\wr=wx.ext X/\Rb wr v l/\bv l=bv (a.take j)*bv b/\l.length<=a.length+j+b.length)
  (fun o i _=>a.length-(intOf i).toNat)
 case atStart=>exact ⟨_,[],0,_,rfl,rfl,by omega,(aN _).symm,Rb.nil,by simp[bv],by simp⟩
 case round =>
  obtain ⟨v,l,j,X,rfl,rfl,hj,rfl,hv,he,hl⟩:=hrel;obtain ⟨a1,cap1,rfl,-⟩:=hv.form;have HV:=jj hv;have HE:=jj he;clear hv he
  by_cases hlt:j<a.length
  ·have hc0:=fun b off (h:aa=some ⟨b,off,none⟩)=>(show Rb wx (.slice (some ⟨b,off,none⟩) a.length acap) a by rw[<-h];exact HA.out).cell hlt
   obtain ⟨b0,off,rfl⟩:∃ b off,aa=some ⟨b,off,none⟩:=by
    obtain ⟨-,-,a',cap',e,-,-,h4⟩:=HA.out;cases e
    rcases h4 with h|⟨b,off,h,-⟩
    ·simp[h] at hlt
    ·exact ⟨b,off,h⟩
   obtain ⟨c0,hb0⟩:=hc0 b0 off rfl;obtain ⟨b1,b2⟩:=BA j;have hts:=wK hlt;clear hc0
   by_cases h1:bt a j=1
   ·have d:(bt a j==1)=true:=by simp[h1]
    rw[h1] at hts c0 d;have hj2:j<=1000:=by omega
    clear h1;go_wp2;refine aJ 7 [none,none,some ([],aD4 (List.replicate j 0)),none,none,some ([2],srB (List.replicate j 0++b)),some ([5],srQ fun l'=>bv l'=bv l+bv b*2^j/\l'.length<=max l.length (j+b.length)+1)] (by kernel_rfl) (by kernel_rfl) ?_;simp only[jx]
    (repeat (first|(refine aA ?_;intro K_ hK_;go_big_quiet_op;go_big_quiet_on)|simp only[jw]))
    refine aF rfl (fun w_ hw_ hk_ K_ hK_=>?_) (fun v22 f22=>?_)
    ·obtain ⟨X_,rfl⟩:=hw_;go_simp;obtain ⟨w3,hr,h1,h2⟩:=vO ((wx.ext X).ext X_) 99 5 i0 Tryz.underlying99 hi hz0 hz1 hz2 rfl j (by omega);rw[hr];exact hK_ _ _ h1 h2
    obtain ⟨g22,rfl⟩:=f22;rw[List.length_replicate]
    (repeat (first|(refine aA ?_;intro K_ hK_;go_big_quiet_op;go_big_quiet_on)|simp only[jw]))
    refine aF rfl (fun w_ hw_ hk_ K_ hK_=>?_) (fun v25 f25=>?_)
    ·obtain ⟨X_,rfl⟩:=hw_;have h1:=(hk_ (2,_) (by repeat (first|exact List.mem_cons_self|refine jk ?_))) (by simp);have h9:Rb _ (.slice (some ⟨g22,0,none⟩) j j) (List.replicate j 0):=h1.2;refine gL _ _ 99 5 rfl i0 Tryz.underlying99 hi hz0 hz1 hz2 g22 0 _ (List.replicate j 0) b rfl h9 ?_ (by simp;omega) (fun v w1 h2 h3 _=>hK_ _ _ h2 h3);show Rb _ (.slice ba b.length bcap) b
     (repeat (first|assumption|exact HA.out|exact HB.out|with_reducible refine Rb.ext ?_ _|with_reducible refine Rb.alloc ?_ _|with_reducible refine Rb.drew ?_))
    obtain ⟨a25,k25,c25,rfl⟩:=f25
    (repeat (first|(refine aA ?_;intro K_ hK_;go_big_quiet_op;go_big_quiet_on)|simp only[jw]))
    refine aF rfl (fun w_ hw_ hk_ K_ hK_=>?_) (fun v26 f26=>?_)
    ·obtain ⟨X_,rfl⟩:=hw_;have h1:=(hk_ (5,_) (by repeat (first|exact List.mem_cons_self|refine jk ?_))) (by simp);go_simp
     go_at_call 101
     refine (aAt _ _ _ _ _ (HV.out.ext _) h1 (by omega) (by simp;omega)).mono ?_;rintro _ _ ⟨v,rfl,⟨l',h2,h3,h4⟩,h5⟩;rw[s7] at h3;simp only[List.length_append,List.length_replicate] at h4;exact hK_ _ _ ⟨l',h2,h3,h4⟩ h5
    obtain ⟨a26,k26,c26,rfl⟩:=f26
    (repeat (first|(refine aA ?_;intro K_ hK_;go_big_quiet_op;go_big_quiet_on)|simp only[jw]))
    refine aT ?_;intro w_ hw_ hk;obtain ⟨Y,rfl⟩:=hw_;obtain ⟨l',g1,g2,g3⟩:=(hk (6,_) (by repeat (first|exact List.mem_cons_self|refine jk ?_)));have G1:=jj g1;clear g1 hk;go_wp2;go_roundw
    case rel=>exact ⟨_,l',j+1,_,rfl,by simp,by omega,World.ext_ext,G1.out,by rw[g2,hts,HE.out];grind,by omega⟩
    case measure=>simp[intOf];omega
   ·have d:(bt a j==1)=false:=by simp[h1]
    have h0:bt a j=0:=by omega
    rw[h0] at hts c0 d;simp at hts;clear h1;go_wp2;go_roundw
    case rel=>exact ⟨_,l,j+1,_,rfl,by simp,by omega,rfl,HV.out,by rw[hts];exact HE.out,by omega⟩
    case measure=>simp[intOf];omega
  ·obtain rfl:j=a.length:=by omega
   rw[List.take_length] at HE
   go_wp2_with (first|(go_at_call 100;(with_reducible refine (cY _ _ l _ HV.out).mono ?_);rintro _ _ ⟨v1,rfl,h1,⟨Y,rfl⟩⟩;obtain ⟨m1,a2,k1,c1,rfl⟩:=h1.form;have H1:=jj h1;clear h1))
   have r2:=((((HR2.out.set 0 (.bool m1)).set 1 (.slice a2 k1 c1)).ext X).ext Y);have e0:=r2.cell 0;have e1:=r2.cell 1;simp at e0 e1;clear r2;refine bodyPost_ret (v:=.agg #[.bool m1,.slice a2 k1 c1]) (by simp[results,results134,go_sem,e0,e1]) rfl ?_;have e:pmv (bv l) (!(m==m'))=pmv (bv a) m*pmv (bv b) m':=by rw[HE.out];cases m<;>cases m'<;>simp[pmv,Int.mul_neg,Int.neg_mul]
   rw[<-e];exact tU H1.out (HR2.out.ext X |>.ext Y) (fun d=>by simp) ((chg_two.both (by simp[dB]) X).both (by simp[dB]) Y) (by exact bx_) (by omega)
end
section
theorem p64:(2:Int)^64=18446744073709551616:=by decide
theorem aFb:(2:Int)^128=340282366920938463463374607431768211456:=by decide
theorem aSh:(2:Int)^127=170141183460469231731687303715884105728:=by decide
theorem wO {l:List Int} {x L:Int} (hx:0<=x) (h:bv l+x*2^l.length=L):bv (l++[x%2])+x/2*2^(l++[x%2]).length=L:=by
 rw[wL,List.length_append,List.length_cons,List.length_nil,eG,<-h];have:x*2^l.length=(x%2+2*(x/2))*2^l.length:=by rw[Int.emod_add_mul_ediv]
 rw[this];grind
theorem aBh {l:List Int} {x L m:Int} (hb:Bin l) (hm:(2:Int)^l.length=m) (hx:0<=x) (hL:L<m) (h:bv l+x*2^l.length=L):bv l=L:=by
 have h0:=(jO hb).1;rw[hm] at h;have m0:0<m:=by rw[<-hm];exact eA _
 have:x<1:=by
  apply Int.not_le.1
  intro h1;have:=Int.mul_le_mul_of_nonneg_right h1 (show 0<=m by omega);omega
 obtain rfl:x=0:=by omega
 omega
theorem sZ (k:Nat):bv (List.replicate k 0++[1])=2^k:=by
 rw[s7];simp[bv]
theorem dI (z:Int) (hz:inR z) (w:World):Calls prog 60 #[I2 z] w (RetR (fun v w=>RN w v z 129) w):=by
 obtain ⟨i0,hi,hz0,hz1,hz2⟩:=info_parts kX;obtain ⟨e,l0,l1⟩:=jJ z;obtain ⟨h0,h1⟩:=hiR hz;have u0:0<=IntKind.u64.wrap (hiN z)/\IntKind.u64.wrap (hiN z)<18446744073709551616:=by rw[IntKind.wrap_u64];omega
 obtain ⟨U,hU⟩:∃ U,U=IntKind.u64.wrap (hiN z):=⟨_,rfl⟩;have uz:(0<=hiN z->U=hiN z)/\(hiN z<0->U=hiN z+18446744073709551616):=by rw[hU,IntKind.wrap_u64];omega
 rw[<-hU] at u0;have HUZ:=jj uz;have HE:=jj e;obtain ⟨u1,u2⟩:=u0;have HU:=jj hU;clear uz e hU
 go_enter func60,ntmps60
 go_wp2;refine jy ?_
 repeat (go_big_quiet_step ((fail)))
 refine jv fun X0=>?_
 simp only[<-HU.out];go_wp2;refine aE (F:=fun wx=>Row wx w.heap.size #[.int .i64 (hiN z),.int .u64 (loN z)] 93/\Row wx (w.heap.size+1) #[.bool false,.slice none 0 0] 101/\Below w.heap.size w wx) ⟨by exact rx_,by exact rx_,by exact bl_⟩ ?_;clear X0;intro wx ⟨R0,R1,BW⟩;have sz0:=R0.lt;have sz1:=R1.lt;have c00:=R0.cell 0;simp at c00;have c10:=R1.cell 0;have c11:=R1.cell 1;simp at c10 c11;have f10:=R1.frozen 0;have f11:=R1.frozen 1;have HR1:=jj R1;clear R0 R1;go_loopw [3,4,6] (fun b lo i wr=>∃ (v:Value) (l:List Int) (x:Int),b=v/\lo=.int .u64 x/\i=.int .i64 l.length/\l.length<=64/\0<=x/\x<18446744073709551616/\GB wx wr v l/\Bin l/\bv l+x*2^l.length=loN z)
  (fun b lo i _=>64-(intOf i).toNat)
 case atStart=>exact ⟨_,[],loN z,rfl,rfl,rfl,by simp,l0,l1,GB.nil wx,Bin.nil,by simp[bv]⟩
 case round =>
  obtain ⟨v,l,x,rfl,rfl,rfl,hl,x0,x1,G,hb,he⟩:=hrel;have HG:=jj G;have sz:=G.bel.size;have HB:=jj hb;have HX:=jj (wO x0 he);have HX0:=jj he;clear hb he
  by_cases hlt:l.length<64
  ·clear G
   go_wp2_with (first
     |(at_builtin;refine wpList_append_lies _ rfl _ _ 99 rfl wx.heap.size 5 i0 (.int .u8 0) 1 1 Tryz.underlying99 hi hz0 hz1 hz2 rfl (by decide) _ _ _ rfl (HG.out.own.alloc _) ⟨wr.heap.size,0,none⟩ 1 1 [.int .u8 (x%2)] rfl rfl (iP (by simp) _ _) (fun x hx=>by simp at hx;subst hx;rfl) (by omega) (by unfold maxLen;omega) (by omega) (by simp;omega) (wr.heap.size+1) (by simp) ?_;intro g cap w3 hown hgrow hat hlt3;have G3:=jj (HG.out.snoc hown hgrow);clear hown hgrow hat hlt3))
   go_roundw
   case rel=>exact ⟨_,l++[x%2],x/2,rfl,rfl,by simp,by simp;omega,by omega,by omega,G3.out,HB.out.snoc (by omega) (by omega),HX.out⟩
   case measure=>simp[intOf];omega
  ·have e64:l.length=64:=by omega
   have hlo:=aBh (m:=18446744073709551616) HB.out (by rw[e64];exact p64) x0 l1 HX0.out;clear HX HX0;have GX:=G.bel.toExt;clear G;go_wp2;go_loopw [3,5,7] (fun b hi i wr=>∃ (v:Value) (l:List Int) (y:Int) (k:Nat),b=v/\hi=.int .u64 y/\i=.int .i64 k/\64+k<=l.length/\l.length<=64+k/\k<=64/\0<=y/\y<18446744073709551616/\GB wx wr v l/\Bin l/\bv l+y*2^l.length=loN z+U*2^64)
    (fun b hi i _=>64-(intOf i).toNat)
   case atStart=>exact ⟨_,l,U,0,rfl,rfl,rfl,by omega,by omega,by omega,u1,u2,HG.out,HB.out,by rw[e64,hlo]⟩
   case round =>
    clear HG HB GX hlo hl hlt x0 x1 sz e64;obtain ⟨v,l,y,k,rfl,rfl,rfl,ek,ek2,hk,y0,y1,G,hb,he⟩:=hrel;have HG:=jj G;have sz:=G.bel.size;have HB:=jj hb;have HX:=jj (wO y0 he);have HX0:=jj he;clear hb he
    by_cases hlt:k<64
    ·clear G
     go_wp2_with (first
       |(at_builtin;refine wpList_append_lies _ rfl _ _ 99 rfl wx.heap.size 5 i0 (.int .u8 0) 1 1 Tryz.underlying99 hi hz0 hz1 hz2 rfl (by decide) _ _ _ rfl (HG.out.own.alloc _) ⟨wr.heap.size,0,none⟩ 1 1 [.int .u8 (y%2)] rfl rfl (iP (by simp) _ _) (fun x hx=>by simp at hx;subst hx;rfl) (by omega) (by unfold maxLen;omega) (by omega) (by simp;omega) (wr.heap.size+1) (by simp) ?_;intro g cap w3 hown hgrow hat hlt3;have G3:=jj (HG.out.snoc hown hgrow);clear hown hgrow hat hlt3))
     go_roundw
     case rel=>exact ⟨_,l++[y%2],y/2,k+1,rfl,rfl,by simp,by simp;omega,by simp;omega,by omega,by omega,by omega,G3.out,HB.out.snoc (by omega) (by omega),HX.out⟩
     case measure=>simp[intOf];omega
    ·have e128:l.length=128:=by omega
     have hbv:=aBh (m:=340282366920938463463374607431768211456) HB.out (by rw[e128];exact aFb) y0 (by rw[p64];omega) HX0.out;rw[p64] at hbv;have rb:=G.rb HB.out (by omega);obtain ⟨X,hX⟩:=G.bel.toExt;obtain ⟨av,capv,rfl,-⟩:=rb.form;have HRB:=jj rb;have E128:=jj e128;clear HX HX0 rb HG HU e128 ek ek2;have huz:=HUZ.out;have hez:=HE.out;have HBV:=jj hbv;subst hX;clear G hbv
     by_cases hs:0<=hiN z
     ·have zz:bv l=z:=by rw[HBV.out];omega
      clear huz hez
      go_wp2_with (first|(go_at_call 100;(with_reducible refine (cY _ _ l _ HRB.out).mono ?_);rintro _ _ ⟨v1,rfl,g1,⟨Y,rfl⟩⟩;obtain ⟨m1,a2,k1,c1,rfl⟩:=g1.form;have H1:=jj g1;clear g1))
      have r2:=((((HR1.out.set 0 (.bool m1)).set 1 (.slice a2 k1 c1)).ext X).ext Y);have e0:=r2.cell 0;have e1:=r2.cell 1;simp at e0 e1;clear r2;refine bodyPost_ret (v:=.agg #[.bool m1,.slice a2 k1 c1]) (by simp[results,results60,go_sem,e0,e1]) rfl ?_;have e:pmv (bv l) false=z:=by rw[zz];rfl
      have H2:=H1.out;rw[e] at H2;exact tU H2 (HR1.out.ext X |>.ext Y) (fun d=>by simp) ((chg_two.both (by simp[dB]) X).both (by simp[dB]) Y) (by exact bx_) (by have:=E128.out;omega)
     ·have zz:bv l=z+340282366920938463463374607431768211456:=by rw[HBV.out];omega
      clear huz hez;have hle:bv l<=bv (List.replicate 128 0++[1]):=by
       rw[sZ,aFb];have:=(jO HRB.out.bin).2;rw[E128.out,aFb] at this;omega
      have HLE:=jj hle;clear hle
      go_wp2_with (first
       |(obtain ⟨X3,hr,g1⟩:=tO (wx.ext X) 99 5 i0 Tryz.underlying99 hi hz0 hz1 hz2 rfl;rw[hr];clear hr;have G1:=jj g1;clear g1)
       |(at_builtin;refine aX rfl _ _ 99 5 rfl i0 Tryz.underlying99 hi hz0 hz1 hz2 (wx.ext X).heap.size 0 128 (List.replicate 128 0) [1] (by simp[Act.eval]) (G1.out.alloc _) (aAl (by simp)) (by simp) ?_;rintro v3 _ g3 ⟨X4,rfl⟩ -;obtain ⟨a3,k3,c3,rfl⟩:=g3.isSl;have G3:=jj g3;clear g3)
       |(go_at_call 103;(with_reducible refine (j4 _ _ _ l _ G3.out ?_ (by simp) HLE.out).mono ?_);exact (((HRB.out.ext _).alloc _).ext _);rintro _ _ ⟨v4,rfl,⟨l4,g4,g5,g6⟩,⟨X5,rfl⟩⟩;obtain ⟨a4,k4,c4,rfl⟩:=g4.isSl;have G4:=jj g4;have G5:=jj g5;have G6:=jj g6;clear g4 g5 g6)
       |(go_at_call 100;(with_reducible refine (cY _ _ l4 _ G4.out).mono ?_);rintro _ _ ⟨v1,rfl,g1,⟨Y,rfl⟩⟩;obtain ⟨m1,a2,k1,c1,rfl⟩:=g1.form;have H1:=jj g1;clear g1))
      have r2:=((((((HR1.out.set 0 (.bool m1)).set 1 (.slice a2 k1 c1)).ext X).ext X3).alloc (.cells #[.int .u8 1] 5)).ext X4 |>.ext X5 |>.ext Y);have e0:=r2.cell 0;have e1:=r2.cell 1;simp at e0 e1;clear r2;refine bodyPost_ret (v:=.agg #[.bool m1,.slice a2 k1 c1]) (by simp[results,results60,go_sem,e0,e1]) rfl ?_;have e:pmv (bv l4) true=z:=by
       rw[G5.out,sZ,aFb,zz];simp[pmv];omega
      have hl4:l4.length=129:=by rw[G6.out];simp
      have H2:=H1.out;rw[e] at H2;exact tU H2 (((((HR1.out.ext X).ext X3).alloc _).ext X4).ext X5 |>.ext Y) (fun d=>by simp) ((((((chg_two.both (by simp[dB]) X).both (by simp[dB]) X3).bothA (by simp[dB]) _).both (by simp[dB]) X4).both (by simp[dB]) X5).both (by simp[dB]) Y) (by exact bx_) (by omega)
theorem aAh (n:Int) (hn:sml n) (w:World):Calls prog 135 #[n] w (RetR (fun v w=>RN w v n 129) w):=by
 go_enter func135,ntmps135
 go_wp2_with (first
  |(go_at_call 61;with_reducible refine jn (kS n hn _) fun X_=>?_)
  |(go_at_call 60;(with_reducible refine (dI n (rY hn) _).mono ?_);rintro _ _ ⟨v1,rfl,g1,⟨Y,rfl⟩⟩;obtain ⟨m1,a2,k1,c1,rfl⟩:=g1.form;have H1:=jj g1;clear g1))
 refine bodyPost_ret (v:=.agg #[.bool m1,.slice a2 k1 c1]) (by simp[results,results135,go_sem]) rfl ?_;have h2:=H1.out;rw[World.ext_ext] at h2 ⊢;exact mK h2 (by exact bl_) (Nat.le_refl _)
end
section
theorem aBf (k:Nat):∀ l:List Int,bv l=bv (l.take k)+2^k*bv (l.drop k):=by
 induction k with
 |zero=>intro l;simp[bv]
 |succ k ih =>
  intro l;cases l with
  |nil=>simp[bv]
  |cons d l =>
   simp only[List.take_succ_cons,List.drop_succ_cons,bv,eG];have:=ih l;rw[this];grind
theorem aZ {l:List Int} (h:Bin l) (k:Nat):Bin (l.take k):=fun i=>by
 have:=h i
 by_cases hi:i<k
 ·simp only[bt,List.getD_eq_getElem?_getD,List.getElem?_take,if_pos hi] at this ⊢;exact this
 ·rw[wM (by rw[List.length_take];omega)];decide
theorem dJ {l:List Int} (h:Bin l) (k:Nat):Bin (l.drop k):=fun i=>by
 have:=h (k+i)
 simpa only[bt,List.getD_eq_getElem?_getD,List.getElem?_drop] using this
theorem aH1 {l:List Int} {k i:Nat} (h:i<k):bt (l.take k) i=bt l i:=by
 simp only[bt,List.getD_eq_getElem?_getD,List.getElem?_take,if_pos h]
theorem aH2 {l:List Int} {k i:Nat}:bt (l.drop k) i=bt l (k+i):=by
 simp only[bt,List.getD_eq_getElem?_getD,List.getElem?_drop]
theorem bY {l:List Int} (h:Bin l) (hl:l.length<=64) (j:Nat):0<=bv l/2^j/\bv l/2^j<18446744073709551616:=by
 have hb:=jO h;have hp:=eA j;have h1:bv l<18446744073709551616:=by
  have:(2:Int)^l.length<=2^64:=by
   obtain ⟨k,hk⟩:=Nat.exists_eq_add_of_le hl;rw[hk,Int.pow_add];have:=eA k;have:=eA l.length;have:=Int.mul_le_mul_of_nonneg_left (show (1:Int)<=2^k by omega) (show (0:Int)<=2^l.length by omega);omega
  rw[p64] at this;omega
 have:=Int.ediv_le_self (2^j) hb.1;exact ⟨Int.ediv_nonneg hb.1 (by omega),by omega⟩
theorem vV {l:List Int} (h:Bin l) (hv:bv l<340282366920938463463374607431768211456):bv l=bv ((l.drop 64).take 64)*18446744073709551616+bv (l.take 64)/\0<=bv (l.take 64)/\bv (l.take 64)<18446744073709551616/\0<=bv ((l.drop 64).take 64)/\bv ((l.drop 64).take 64)<18446744073709551616:=by
 have s1:=aBf 64 l;have s2:=aBf 64 (l.drop 64);have b1:=bY (aZ h 64) (by simp;omega) 0;have b2:=bY (aZ (dJ h 64) 64) (by simp;omega) 0;have b3:=(jO (dJ (dJ h 64) 64)).1;rw[p64] at s1 s2;simp only[Int.pow_zero,Int.ediv_one] at b1 b2;omega
theorem aO2 {B z hi lo:Int} (e:B=hi*18446744073709551616+lo) (l0:0<=lo) (l1:lo<18446744073709551616) (h0:0<=hi) (h1:hi<18446744073709551616) (hz:inR z) (h:B=z\/B=z+340282366920938463463374607431768211456):wrap64 hi=hiN z/\lo=loN z:=by
 unfold inR at hz;unfold wrap64 hiN loN;omega
theorem aMo (sv:Value) (l:List Int) (w:World) (hl:Rb w sv l) (hcan:Can l):Calls prog 88 #[.agg #[.bool false,sv]] w (Ret (I2b (bv l)) w):=by
 have HL:=jj hl;have BB:=hl.bin;obtain ⟨a0,cap0,rfl,-⟩:=hl.form;have hb0:=jO BB
 by_cases hin:inR (bv l)
 ·rw[nL hin];have len:l.length<=127:=by
   apply Classical.byContradiction
   intro hc;have:=hcan.low (by omega);have h2:(2:Int)^127<=2^(l.length-1):=by
    obtain ⟨k,hk⟩:=Nat.exists_eq_add_of_le (show 127<=l.length-1 by omega);rw[hk,Int.pow_add];have:=eA k;have:=Int.mul_le_mul_of_nonneg_left (show (1:Int)<=2^k by omega) (show (0:Int)<=2^127 by decide);omega
   rw[aSh] at h2;unfold inR at hin;omega
  obtain ⟨v1,v2,v3,v4,v5⟩:=vV BB (by unfold inR at hin;omega);obtain ⟨t1,t2⟩:=aO2 v1 v2 v3 v4 v5 hin (.inl rfl);have T1:=jj t1;have T2:=jj t2;clear hl hb0 t1 t2 v1
  go_enter func88,ntmps88
  go_wp2;refine aE (F:=fun wx=>Row wx (w.heap.size+1) #[.int .i64 0,.int .u64 0] 93/\Below w.heap.size w wx/\Rb wx (.slice a0 l.length cap0) l) ⟨by exact rx_,by exact bl_,(HL.out.alloc _).alloc _⟩ ?_;clear HL;intro wx ⟨R1,BW,RBX⟩;have sz1:=R1.lt;have c10:=R1.cell 0;have c11:=R1.cell 1;simp at c10 c11;have f10:=R1.frozen 0;have f11:=R1.frozen 1;have HRB:=jj RBX;have HR1:=jj R1;clear R1 RBX;go_loopw [5,6,7] (fun lo hi i wr=>∃ j:Nat,i=.int .i64 ((j:Int)-1)/\j<=64/\lo=.int .u64 (bv (l.take 64)/2^j)/\hi=.int .u64 (bv ((l.drop 64).take 64)/2^j)/\wr=wx)
   (fun lo hi i _=>(intOf i+1).toNat)
  case atStart=>exact ⟨64,by simp,by omega,by rw[jN (aZ BB 64) (by simp;omega)],by rw[jN (aZ (dJ BB 64) 64) (by simp;omega)],rfl⟩
  case round =>
   obtain ⟨j,rfl,hj,rfl,rfl,rfl⟩:=hrel;cases j with
   |zero =>
    simp only[Int.pow_zero,Int.ediv_one];go_wp2;simp only[T1.out,T2.out];have r2:=(HR1.out.set 0 (.int .i64 (hiN (bv l)))).set 1 (.int .u64 (loN (bv l)));have e0:=r2.cell 0;have e1:=r2.cell 1;simp at e0 e1;clear r2;refine bodyPost_ret (v:=.tuple #[I2 (bv l),.bool true]) (by simp[results,results88,go_sem,e0,e1]) rfl (Ret.of (by exact bx_))
   |succ j =>
    have ej:((j+1:Nat):Int)-1=(j:Int):=by omega
    have hj2:(j:Int)<=63:=by omega
    have s1:=fF (aZ BB 64) j;have s2:=fF (aZ (dJ BB 64) 64) j;rw[aH1 (show j<64 by omega)] at s1 s2;rw[aH2] at s2;have b1:=bY (aZ BB 64) (by simp;omega) j;have b2:=bY (aZ (dJ BB 64) 64) (by simp;omega) j;have b3:=bY (aZ BB 64) (by simp;omega) (j+1);have b4:=bY (aZ (dJ BB 64) 64) (by simp;omega) (j+1);obtain ⟨q1,q1'⟩:=BB j;obtain ⟨q2,q2'⟩:=BB (64+j);have S1:=jj s1;have S2:=jj s2;rw[s1] at b1;rw[s2] at b2;obtain ⟨b11,b12⟩:=b1;obtain ⟨b21,b22⟩:=b2;obtain ⟨b31,b32⟩:=b3;obtain ⟨b41,b42⟩:=b4;clear s1 s2;rw[ej];have C1:=jj (fun w (h:Rb w (.slice a0 l.length cap0) l)=>fY (.slice a0 l.length cap0) l j w h);have C2:=jj (fun w (h:Rb w (.slice a0 l.length cap0) l)=>show Calls prog 136 #[(.slice a0 l.length cap0),.int .i64 (64+(j:Int))] w (fun e w'=>e=.returned (.int .u8 (bt l (64+j)))/\w'=w) by have:=qY (.slice a0 l.length cap0) l (64+(j:Int)) w h (by omega);rwa [show (64+(j:Int)).toNat=64+j by omega] at this)
    go_wp2_with (first
     |(go_at_call 136;(with_reducible refine (C1.out _ HRB.out).mono ?_);rintro _ w4_ ⟨rfl,h4_⟩;obtain rfl:=h4_.symm)
     |(go_at_call 136;(with_reducible refine (C2.out _ HRB.out).mono ?_);rintro _ w4_ ⟨rfl,h4_⟩;obtain rfl:=h4_.symm))
    go_roundw
    case rel=>exact ⟨j,rfl,by omega,by simp;have:=S1.out;omega,by simp;have:=S2.out;omega,by first|rfl|trivial⟩
    case measure=>(simp[intOf])<;>omega
 ·rw[aGj hin];have len:127<l.length:=by
   apply Classical.byContradiction
   intro hc;have h2:(2:Int)^l.length<=2^127:=by
    obtain ⟨k,hk⟩:=Nat.exists_eq_add_of_le (show l.length<=127 by omega);rw[hk,Int.pow_add];have:=eA k;have:=eA l.length;have:=Int.mul_le_mul_of_nonneg_left (show (1:Int)<=2^k by omega) (show (0:Int)<=2^l.length by omega);omega
   rw[aSh] at h2;unfold inR at hin;omega
  clear hl hb0 hin
  go_enter func88,ntmps88
  go_wp2;refine bodyPost_ret (v:=.tuple #[I2 0,.bool false]) (by simp[results,results88,go_sem,hiN,loN]) rfl (Ret.of (by exact bx_))
end
section
theorem tM {a b:Nat} (h:a<=b):(2:Int)^a<=2^b:=by
 obtain ⟨k,rfl⟩:=Nat.exists_eq_add_of_le h;rw[Int.pow_add];have:=eA k;have:=eA a;have:=Int.mul_le_mul_of_nonneg_left (show (1:Int)<=2^k by omega) (show (0:Int)<=2^a by omega);omega
theorem aDx {l:List Int} (h:Bin l) (hv:bv l<340282366920938463463374607431768211456):(bt l 127=1↔170141183460469231731687303715884105728<=bv l):=by
 have s:=fF h 127;have hb:=(jO h).1;rw[show 127+1=128 from rfl,aFb,aSh,Int.ediv_eq_zero_of_lt hb hv] at s;have:=h 127;omega
theorem aIz (sv:Value) (l:List Int) (w:World) (hl:Rb w sv l) (hcan:Can l) (hne:bv l≠0):Calls prog 88 #[.agg #[.bool true,sv]] w (Ret (I2b (-(bv l))) w):=by
 obtain ⟨i0,hi,hz0,hz1,hz2⟩:=info_parts kX;have HL:=jj hl;have BB:=hl.bin;obtain ⟨a0,cap0,rfl,-⟩:=hl.form;have hb0:=jO BB
 by_cases len:l.length<=128
 ·have hb1:bv l<340282366920938463463374607431768211456:=by
   have:=tM len;rw[aFb] at this;omega
  have hle:bv l<=bv (List.replicate 128 0++[1]):=by rw[sZ,aFb];omega
  have HLE:=jj hle;have HB0:=jj hb0;clear hle hl hb0
  by_cases hin:inR (-(bv l))
  ·rw[nL hin];have TB:=jj (fun (l4:List Int) (v:Value) (w:World) (hr:Rb w v l4) (h:bv l4=bv (List.replicate 128 0++[1])-bv l)=>show Calls prog 136 #[v,.int .i64 127] w (fun e w'=>e=.returned (.int .u8 1)/\w'=w) by
    have hb:=hr.bin;have hc:=qY v l4 127 w hr (by omega);rw[show (127:Int).toNat=127 from rfl] at hc;rw[sZ,aFb] at h;have hb00:=HB0.out.1;have hb1:=(aDx hb (by omega)).2 (by unfold inR at hin;omega)
    rwa [hb1] at hc)
   have TI:=jj (fun (l4:List Int) (hb:Bin l4) (h:bv l4=bv (List.replicate 128 0++[1])-bv l)=>show wrap64 (bv ((l4.drop 64).take 64))=hiN (-(bv l))/\bv (l4.take 64)=loN (-(bv l)) by
    rw[sZ,aFb] at h;have hb00:=HB0.out.1;obtain ⟨v1,v2,v3,v4,v5⟩:=vV hb (by omega);exact aO2 v1 v2 v3 v4 v5 hin (.inr (by omega)))
   clear hin
   go_enter func88,ntmps88
   go_wp2_with (first
    |(obtain ⟨X3,hr,g1⟩:=tO ((w.alloc (.cells #[.bool true,.slice a0 l.length cap0] 101)).alloc (.cells #[.int .i64 0,.int .u64 0] 93)) 99 5 i0 Tryz.underlying99 hi hz0 hz1 hz2 rfl;rw[hr];clear hr;have G1:=jj g1;clear g1)
    |(at_builtin;refine aX rfl _ _ 99 5 rfl i0 Tryz.underlying99 hi hz0 hz1 hz2 ((w.alloc (.cells #[.bool true,.slice a0 l.length cap0] 101)).alloc (.cells #[.int .i64 0,.int .u64 0] 93)).heap.size 0 128 (List.replicate 128 0) [1] (by simp[Act.eval]) (G1.out.alloc _) (aAl (by simp)) (by simp) ?_;rintro v3 _ g3 ⟨X4,rfl⟩ -;obtain ⟨a3,k3,c3,rfl⟩:=g3.isSl;have G3:=jj g3;clear g3)
    |(go_at_call 103;(with_reducible refine (j4 _ _ _ l _ G3.out ?_ (by simp) HLE.out).mono ?_);exact (((((HL.out.alloc _).alloc _).ext _).alloc _).ext _);rintro _ _ ⟨v4,rfl,⟨l4,g4,g5,g6⟩,⟨X5,rfl⟩⟩;obtain ⟨a4,k4,c4,rfl⟩:=g4.isSl;have G4:=jj g4;have G5:=jj g5;have G6:=jj g6;clear g4 g5 g6)
    |(go_at_call 136;(with_reducible refine (TB.out l4 _ _ G4.out G5.out).mono ?_);rintro _ w4_ ⟨rfl,h4_⟩;obtain rfl:=h4_.symm))
   obtain ⟨t1,t2⟩:=TI.out l4 G4.out.bin G5.out;have T1:=jj t1;have T2:=jj t2;have BB4:=G4.out.bin;have hl4:l4.length=129:=by rw[G6.out];simp
   obtain ⟨v2,v3⟩:=bY (aZ BB4 64) (by simp;omega) 0;obtain ⟨v4,v5⟩:=bY (aZ (dJ BB4 64) 64) (by simp;omega) 0;simp only[Int.pow_zero,Int.ediv_one] at v2 v3 v4 v5;clear t1 t2 hl4;refine aE (F:=fun wx=>Row wx (w.heap.size+1) #[.int .i64 0,.int .u64 0] 93/\Below w.heap.size w wx/\Rb wx (.slice a4 k4 c4) l4) ⟨by exact rx_,by exact bl_,G4.out⟩ ?_;clear HL G1 G3 G4;intro wx ⟨R1,BW,RBX⟩;have sz1:=R1.lt;have c10:=R1.cell 0;have c11:=R1.cell 1;simp at c10 c11;have f10:=R1.frozen 0;have f11:=R1.frozen 1;have HRB:=jj RBX;have HR1:=jj R1;clear R1 RBX;go_loopw [5,6,7] (fun lo hi i wr=>∃ j:Nat,i=.int .i64 ((j:Int)-1)/\j<=64/\lo=.int .u64 (bv (l4.take 64)/2^j)/\hi=.int .u64 (bv ((l4.drop 64).take 64)/2^j)/\wr=wx)
    (fun lo hi i _=>(intOf i+1).toNat)
   case atStart=>exact ⟨64,by simp,by omega,by rw[jN (aZ BB4 64) (by simp;omega)],by rw[jN (aZ (dJ BB4 64) 64) (by simp;omega)],rfl⟩
   case round =>
    obtain ⟨j,rfl,hj,rfl,rfl,rfl⟩:=hrel;cases j with
    |zero =>
     simp only[Int.pow_zero,Int.ediv_one];go_wp2;simp only[T1.out,T2.out];have r2:=(HR1.out.set 0 (.int .i64 (hiN (-(bv l))))).set 1 (.int .u64 (loN (-(bv l))));have e0:=r2.cell 0;have e1:=r2.cell 1;simp at e0 e1;clear r2;refine bodyPost_ret (v:=.tuple #[I2 (-(bv l)),.bool true]) (by simp[results,results88,go_sem,e0,e1]) rfl (Ret.of (by exact bx_))
    |succ j =>
     have ej:((j+1:Nat):Int)-1=(j:Int):=by omega
     have hj2:(j:Int)<=63:=by omega
     have s1:=fF (aZ BB4 64) j;have s2:=fF (aZ (dJ BB4 64) 64) j;rw[aH1 (show j<64 by omega)] at s1 s2;rw[aH2] at s2;have b1:=bY (aZ BB4 64) (by simp;omega) j;have b2:=bY (aZ (dJ BB4 64) 64) (by simp;omega) j;have b3:=bY (aZ BB4 64) (by simp;omega) (j+1);have b4:=bY (aZ (dJ BB4 64) 64) (by simp;omega) (j+1);obtain ⟨q1,q1'⟩:=BB4 j;obtain ⟨q2,q2'⟩:=BB4 (64+j);have S1:=jj s1;have S2:=jj s2;rw[s1] at b1;rw[s2] at b2;obtain ⟨b11,b12⟩:=b1;obtain ⟨b21,b22⟩:=b2;obtain ⟨b31,b32⟩:=b3;obtain ⟨b41,b42⟩:=b4;clear s1 s2;rw[ej];have C1:=jj (fun w (h:Rb w (.slice a4 k4 c4) l4)=>fY (.slice a4 k4 c4) l4 j w h);have C2:=jj (fun w (h:Rb w (.slice a4 k4 c4) l4)=>show Calls prog 136 #[(.slice a4 k4 c4),.int .i64 (64+(j:Int))] w (fun e w'=>e=.returned (.int .u8 (bt l4 (64+j)))/\w'=w) by have:=qY (.slice a4 k4 c4) l4 (64+(j:Int)) w h (by omega);rwa [show (64+(j:Int)).toNat=64+j by omega] at this)
     go_wp2_with (first
      |(go_at_call 136;(with_reducible refine (C1.out _ HRB.out).mono ?_);rintro _ w4_ ⟨rfl,h4_⟩;obtain rfl:=h4_.symm)
      |(go_at_call 136;(with_reducible refine (C2.out _ HRB.out).mono ?_);rintro _ w4_ ⟨rfl,h4_⟩;obtain rfl:=h4_.symm))
     go_roundw
     case rel=>exact ⟨j,rfl,by omega,by simp;have:=S1.out;omega,by simp;have:=S2.out;omega,by first|rfl|trivial⟩
     case measure=>(simp[intOf])<;>omega
  ·rw[aGj hin];have TB:=jj (fun (l4:List Int) (v:Value) (w:World) (hr:Rb w v l4) (h:bv l4=bv (List.replicate 128 0++[1])-bv l)=>show Calls prog 136 #[v,.int .i64 127] w (fun e w'=>e=.returned (.int .u8 0)/\w'=w) by
    have hb:=hr.bin;have hc:=qY v l4 127 w hr (by omega);rw[show (127:Int).toNat=127 from rfl] at hc;rw[sZ,aFb] at h;have hb00:=HB0.out.1;have:=aDx hb (by omega);have:=hb 127;have hb1:bt l4 127=0:=by unfold inR at hin;omega
    rwa [hb1] at hc)
   clear hin
   go_enter func88,ntmps88
   go_wp2_with (first
    |(obtain ⟨X3,hr,g1⟩:=tO ((w.alloc (.cells #[.bool true,.slice a0 l.length cap0] 101)).alloc (.cells #[.int .i64 0,.int .u64 0] 93)) 99 5 i0 Tryz.underlying99 hi hz0 hz1 hz2 rfl;rw[hr];clear hr;have G1:=jj g1;clear g1)
    |(at_builtin;refine aX rfl _ _ 99 5 rfl i0 Tryz.underlying99 hi hz0 hz1 hz2 ((w.alloc (.cells #[.bool true,.slice a0 l.length cap0] 101)).alloc (.cells #[.int .i64 0,.int .u64 0] 93)).heap.size 0 128 (List.replicate 128 0) [1] (by simp[Act.eval]) (G1.out.alloc _) (aAl (by simp)) (by simp) ?_;rintro v3 _ g3 ⟨X4,rfl⟩ -;obtain ⟨a3,k3,c3,rfl⟩:=g3.isSl;have G3:=jj g3;clear g3)
    |(go_at_call 103;(with_reducible refine (j4 _ _ _ l _ G3.out ?_ (by simp) HLE.out).mono ?_);exact (((((HL.out.alloc _).alloc _).ext _).alloc _).ext _);rintro _ _ ⟨v4,rfl,⟨l4,g4,g5,g6⟩,⟨X5,rfl⟩⟩;obtain ⟨a4,k4,c4,rfl⟩:=g4.isSl;have G4:=jj g4;have G5:=jj g5;have G6:=jj g6;clear g4 g5 g6)
    |(go_at_call 136;(with_reducible refine (TB.out l4 _ _ G4.out G5.out).mono ?_);rintro _ w4_ ⟨rfl,h4_⟩;obtain rfl:=h4_.symm))
   refine bodyPost_ret (v:=.tuple #[I2 0,.bool false]) (by simp[results,results88,go_sem,hiN,loN]) rfl (Ret.of (by exact bx_))
 ·have hin:¬inR (-(bv l)):=by
   have h1:=hcan.low (by omega);have:=tM (show 128<=l.length-1 by omega);rw[aFb] at this;unfold inR;omega
  rw[aGj hin];clear hl hb0 hin
  go_enter func88,ntmps88
  go_wp2;refine bodyPost_ret (v:=.tuple #[I2 0,.bool false]) (by simp[results,results88,go_sem,hiN,loN]) rfl (Ret.of (by exact bx_))
theorem aAe (v:Value) (z:Int) (n:Nat) (w:World) (hv:RN w v z n):Calls prog 88 #[v] w (Ret (I2b z) w):=by
 obtain ⟨m,sv,l,rfl,hl,hcan,hm,rfl,-⟩:=hv;cases m
 ·exact aMo sv l w hl hcan
 ·exact aIz sv l w hl hcan (hm rfl)
end
section
def Hh (p:Nat) (w:World):Prop:=∃ m s,Row w p #[.bool m,s] 101/\isSl s
def Dd (p:Nat) (z:Int) (n:Nat) (w:World):Prop:=∃ m s,Row w p #[.bool m,s] 101/\RN w (.agg #[.bool m,s]) z n
structure LL (p1 p2:Nat) (z1 z2:Int) (n1 n2:Nat) (w w':World):Prop where
 chg:Chg (fun j=>j=p1\/j=p2) w w'
 h1:Hh p1 w->Hh p1 w'
 h2:Hh p2 w->Hh p2 w'
 d1:Hh p1 w->Hh p2 w->Dd p1 z1 n1 w->Dd p1 z1 n1 w'
 d2:Hh p1 w->Hh p2 w->Dd p2 z2 n2 w->Dd p2 z2 n2 w'
theorem isSl.noByte {s:Value} (h:isSl s):∀ d,s≠.int .u8 d:=by
 obtain ⟨a,k,c,rfl⟩:=h;exact fun d=>by simp
theorem Rb.chgs {w w1:World} {v:Value} {l:List Int} {P:Nat->Prop} (h:Rb w v l) (C:Chg P w w1) (hp:∀ p,P p->Hh p w):Rb w1 v l:=by
 obtain ⟨h0,h1,a,cap,rfl,h2,h3,h4⟩:=h;refine ⟨h0,h1,a,cap,rfl,h2,h3,?_⟩;rcases h4 with h4|⟨b,off,rfl,hlt,hc⟩
 ·exact .inl h4
 ·by_cases hl:l=[]
  ·exact .inl hl
  ·have hpos:0<l.length:=List.length_pos_iff.2 hl;have hne:¬P b:=fun e=>by
    obtain ⟨m,s,hr,hs⟩:=hp b e;have c0:=hc 0 hpos;rw[Nat.add_zero,hr.cell off] at c0;rcases off with _|_|off
    ·simp at c0
    ·simp at c0;exact hs.noByte _ c0
    ·simp at c0
   refine .inr ⟨b,off,rfl,Nat.lt_of_lt_of_le hlt C.size,fun i hi=>?_⟩;rw[C.cell hlt hne];exact hc i hi
theorem RN.chgs {w w1:World} {v:Value} {z:Int} {n:Nat} {P:Nat->Prop} (h:RN w v z n) (C:Chg P w w1) (hp:∀ p,P p->Hh p w):RN w1 v z n:=by
 obtain ⟨m,sv,l,h1,h2,h3⟩:=h;exact ⟨m,sv,l,h1,h2.chgs C hp,h3⟩
section
variable {p1 p2:Nat} {z1 z2:Int} {n1 n2:Nat} {w w':World}
theorem preLL : Pre (LL p1 p2 z1 z2 n1 n2) :=
  ⟨fun w => ⟨Chg.refl, fun h => h, fun h => h, fun _ _ h => h, fun _ _ h => h⟩,
   fun h k => ⟨h.chg.trans k.chg, fun g => k.h1 (h.h1 g), fun g => k.h2 (h.h2 g), fun a b g => k.d1 (h.h1 a) (h.h2 b) (h.d1 a b g), fun a b g => k.d2 (h.h1 a) (h.h2 b) (h.d2 a b g)⟩,
   fun w => ⟨Chg.drew Chg.refl, fun h => h, fun h => h, fun _ _ ⟨m, s, r, h⟩ => ⟨m, s, r, h.drew⟩, fun _ _ ⟨m, s, r, h⟩ => ⟨m, s, r, h.drew⟩⟩⟩
theorem Hh.ext {p:Nat} (h:Hh p w) (X:Xt):Hh p (w.ext X):=by
 obtain ⟨m,s,r,g⟩:=h;exact ⟨m,s,r.ext X,g⟩
theorem LL.ext (w:World) (X:Xt):LL p1 p2 z1 z2 n1 n2 w (w.ext X) :=
 ⟨Chg.of_ext X,fun h=>h.ext X,fun h=>h.ext X,fun _ _ ⟨m,s,r,h⟩=>⟨m,s,r.ext X,h.ext X⟩,fun _ _ ⟨m,s,r,h⟩=>⟨m,s,r.ext X,h.ext X⟩⟩
theorem LL.of (h:∃ X,w'=w.ext X):LL p1 p2 z1 z2 n1 n2 w w':=by
 obtain ⟨X,rfl⟩:=h;exact LL.ext w X
theorem aH3 (g1:Hh p1 w) (g2:Hh p2 w):∀ p,(p=p1\/p=p2)->Hh p w:=fun p h=>by
 rcases h with rfl|rfl<;>assumption
theorem RN.ll {v:Value} {z:Int} {n:Nat} (h:RN w v z n) (hL:LL p1 p2 z1 z2 n1 n2 w w') (g1:Hh p1 w) (g2:Hh p2 w):RN w' v z n:=h.chgs hL.chg (aH3 g1 g2)
theorem RN.sl {m:Bool} {s:Value} {z:Int} {n:Nat} (h:RN w (.agg #[.bool m,s]) z n):isSl s:=by
 obtain ⟨m',sv,l,e,h2,-⟩:=h;cases e
 exact h2.isSl
theorem LL.set1 {m:Bool} {s:Value} (g1:Hh p1 w) (g2:Hh p2 w) (hne:p2≠p1) (h:RN w (.agg #[.bool m,s]) z1 n1) :
  LL p1 p2 z1 z2 n1 n2 w ((w.setCell ⟨p1,0,none⟩ (.bool m)).setCell ⟨p1,1,none⟩ s)/\Dd p1 z1 n1 ((w.setCell ⟨p1,0,none⟩ (.bool m)).setCell ⟨p1,1,none⟩ s):=by
 have C:Chg (fun j=>j=p1) w ((w.setCell ⟨p1,0,none⟩ (.bool m)).setCell ⟨p1,1,none⟩ s):=chg_two;have hp:∀ p,p=p1->Hh p w:=fun p e=>by subst e;exact g1
 have hr:Row ((w.setCell ⟨p1,0,none⟩ (.bool m)).setCell ⟨p1,1,none⟩ s) p1 #[.bool m,s] 101:=by
  obtain ⟨m0,s0,r,-⟩:=g1;have:=(r.set 0 (.bool m)).set 1 s
  simpa using this
 have hD:Dd p1 z1 n1 ((w.setCell ⟨p1,0,none⟩ (.bool m)).setCell ⟨p1,1,none⟩ s):=⟨m,s,hr,h.chgs C hp⟩;refine ⟨⟨C.mono fun k _ e=>.inl e,fun _=>⟨m,s,hr,h.sl⟩,fun ⟨m',s',r,g⟩=>⟨m',s',C.row r hne,g⟩,fun _ _ _=>hD,fun _ _ ⟨m',s',r,g⟩=>⟨m',s',C.row r hne,g.chgs C hp⟩⟩,hD⟩
theorem LL.set2 {m:Bool} {s:Value} (g1:Hh p1 w) (g2:Hh p2 w) (hne:p1≠p2) (h:RN w (.agg #[.bool m,s]) z2 n2) :
  LL p1 p2 z1 z2 n1 n2 w ((w.setCell ⟨p2,0,none⟩ (.bool m)).setCell ⟨p2,1,none⟩ s)/\Dd p2 z2 n2 ((w.setCell ⟨p2,0,none⟩ (.bool m)).setCell ⟨p2,1,none⟩ s):=by
 have C:Chg (fun j=>j=p2) w ((w.setCell ⟨p2,0,none⟩ (.bool m)).setCell ⟨p2,1,none⟩ s):=chg_two;have hp:∀ p,p=p2->Hh p w:=fun p e=>by subst e;exact g2
 have hr:Row ((w.setCell ⟨p2,0,none⟩ (.bool m)).setCell ⟨p2,1,none⟩ s) p2 #[.bool m,s] 101:=by
  obtain ⟨m0,s0,r,-⟩:=g2;have:=(r.set 0 (.bool m)).set 1 s
  simpa using this
 have hD:Dd p2 z2 n2 ((w.setCell ⟨p2,0,none⟩ (.bool m)).setCell ⟨p2,1,none⟩ s):=⟨m,s,hr,h.chgs C hp⟩;refine ⟨⟨C.mono fun k _ e=>.inr e,fun ⟨m',s',r,g⟩=>⟨m',s',C.row r hne,g⟩,fun _=>⟨m,s,hr,h.sl⟩,fun _ _ ⟨m',s',r,g⟩=>⟨m',s',C.row r hne,g.chgs C hp⟩,fun _ _ _=>hD⟩,hD⟩
end
def aDc (p1 p2:Nat) (z1 z2:Int) (n1 n2:Nat) (z:Int) (n:Nat):SR (LL p1 p2 z1 z2 n1 n2):=⟨fun v w=>Hh p1 w/\Hh p2 w/\RN w v z n,fun v w w' ⟨g1,g2,h⟩ hL=>⟨hL.h1 g1,hL.h2 g2,h.ll hL g1 g2⟩,aSp,.agg #[.bool false,.slice none 0 0],⟨_,_,_,_,rfl⟩,fun v w h=>h.2.2.form⟩
def aTb (p1 p2:Nat) (z1 z2:Int) (n1 n2:Nat) (l:List Int):SR (LL p1 p2 z1 z2 n1 n2):=⟨fun v w=>Hh p1 w/\Hh p2 w/\(∃ g,v=.slice (some ⟨g,0,none⟩) l.length l.length)/\Rb w v l,fun v w w' ⟨g1,g2,h1,h2⟩ hL=>⟨hL.h1 g1,hL.h2 g2,h1,h2.chgs hL.chg (aH3 g1 g2)⟩,fun v=>∃ g,v=.slice (some ⟨g,0,none⟩) l.length l.length,.slice (some ⟨0,0,none⟩) l.length l.length,⟨0,rfl⟩,fun v w h=>h.2.2.1⟩
def aSa (p1 p2:Nat) (z1 z2:Int) (n1 n2:Nat):SR (LL p1 p2 z1 z2 n1 n2):=⟨fun v w=>Hh p1 w/\Hh p2 w/\Dd p1 z1 n1 w,fun v w w' ⟨g1,g2,h⟩ hL=>⟨hL.h1 g1,hL.h2 g2,hL.d1 g1 g2 h⟩,fun _=>True,undef,trivial,fun _ _ _=>trivial⟩
def aR9 (p1 p2:Nat) (z1 z2:Int) (n1 n2:Nat):SR (LL p1 p2 z1 z2 n1 n2):=⟨fun v w=>Hh p1 w/\Hh p2 w/\Dd p2 z2 n2 w,fun v w w' ⟨g1,g2,h⟩ hL=>⟨hL.h1 g1,hL.h2 g2,hL.d2 g1 g2 h⟩,fun _=>True,undef,trivial,fun _ _ _=>trivial⟩
theorem wZ {w w5 w7:World} {p1 p2:Nat} {z1 z2:Int} {n1 n2:Nat} {m1 m2:Bool} {s1 s2:Value} (hb:Below w.heap.size w w5) (hs:w.heap.size<=w5.heap.size) (h1:w.heap.size<=p1) (h2:w.heap.size<=p2) (hL:LL p1 p2 z1 z2 n1 n2 w5 w7) (N1:RN w7 (.agg #[.bool m1,s1]) z1 n1) (N2:RN w7 (.agg #[.bool m2,s2]) z2 n2) :
  RetR (fun v w=>∃ q r,v=.tuple #[q,r]/\RN w q z1 n1/\RN w r z2 n2) w (.returned (.tuple #[.agg #[.bool m1,s1],.agg #[.bool m2,s2]])) w7 :=
 ⟨_,rfl,⟨_,_,rfl,N1,N2⟩,(hb.trans (hL.chg.below (fun k hk hp=>by rcases hp with rfl|rfl<;>omega) hs)).toExt⟩
theorem aEn {ops:Array Oper} {L:World->World->Prop} {P:Program} {w:World} {K:Act->List (Nat×(World->Prop))->Prop} {k:Nat} {o:Oper} {os:List Oper} {T:List (Option (List Nat×SR L))} {a:Act} {kn:List (Nat×(World->Prop))}
  (h:∀ K':Act->Prop,(∀ a',cG P ops L w K (k+1) os T a' kn->K' a')->o.quiet P a (fun w'=>L w w') K') (hg:okG ops o a:=by first|exact mC rfl|(unfold okG;simp[Region.wanted,yielded];done)):cG P ops L w K k (o::os) (none::T) a kn:=⟨hg,h _ fun _ h=>h⟩
end
end
end Go.Proofs.YthcjfanigfgckaaGreat
