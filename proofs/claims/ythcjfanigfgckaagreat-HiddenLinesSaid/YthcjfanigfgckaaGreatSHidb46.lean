import Derived.Test.YthcjfanigfgckaaGreatSHidb45
set_option linter.unusedVariables false
set_option linter.unusedSimpArgs false
set_option maxRecDepth 100000
set_option maxHeartbeats 16000000
namespace Go.Proofs.YthcjfanigfgckaaGreat
open Go.RowKit _root_.Go.Proofs.Tryz
instance jh45 : Coe Nat Value := ⟨fun n => .int .i64 n⟩
abbrev SkP.v (s:SkP):Value:=.agg #[s.factor,s.units,.bool s.ccw,s.cull,s.width,s.c0,s.c1,s.c2,s.c3]
abbrev aJx (s:SkP) (m:Bool):Value:=.agg #[s.factor,s.units,.bool s.ccw,s.cull,s.width,s.c0,s.c1,s.c2,s.c3,.bool m]
structure SkP.wide (s:SkP):Prop where
 factor:w64 s.factor
 units:w64 s.units
 cull:w64 s.cull
 width:w64 s.width
 c0:w64 s.c0
 c1:w64 s.c1
 c2:w64 s.c2
 c3:w64 s.c3
theorem sL {s:SkP} (h:s.wide) (m:Bool):(cI s m).wide:=by
 obtain ⟨h1,h2,h3,h4,-,-,-,-⟩:=h;have d:∀ z:Int,-9223372036854775808<=z->z<=9223372036854775807->w64 z:=fun z h0 h1=>⟨h0,h1⟩
 cases m
 ·exact ⟨h4,d 65535 (by decide) (by decide),d 1 (by decide) (by decide),d 0 (by decide) (by decide),d 1 (by decide) (by decide),d 0 (by decide) (by decide),d 0 (by decide) (by decide),d 0 (by decide) (by decide),h3,h1,h2⟩
 ·exact ⟨h4,d 65535 (by decide) (by decide),d 1 (by decide) (by decide),d 0 (by decide) (by decide),d 1 (by decide) (by decide),d 0 (by decide) (by decide),d 1 (by decide) (by decide),d 1 (by decide) (by decide),h3,h1,h2⟩
theorem aAx (s:SkP) (m:Bool):(cI s m).ok↔s.num:=by
 unfold LookP.ok SkP.num cI aI bW;cases m<;>simp only[if_true,if_false,Bool.false_eq_true]<;>omega
theorem aP6 (s:SkP) (m:Bool) (w:World):Calls prog 105 #[aJx s m] w (Ret (cI s m).v w):=by
 cases m
 ·go_enter func105,ntmps105
  go_wp2;refine bodyPost_ret (v:=(cI s false).v) (by simp[results,results105,go_sem,cI]) rfl (Ret.of (by exact bl_))
 ·go_enter func105,ntmps105
  go_wp2;refine bodyPost_ret (v:=(cI s true).v) (by simp[results,results105,go_sem,cI]) rfl (Ret.of (by exact bl_))
theorem aS6 (s:SkP) (m:Bool) (w:World):Calls prog 73 #[aJx s m] w (Ret (iG m).v w):=by
 cases m
 ·go_enter func73,ntmps73
  go_wp2;refine bodyPost_ret (v:=(iG false).v) (by simp[results,results73,go_sem,iG]) rfl (Ret.of (by exact bl_))
 ·go_enter func73,ntmps73
  go_wp2;refine bodyPost_ret (v:=(iG true).v) (by simp[results,results73,go_sem,iG]) rfl (Ret.of (by exact bl_))
theorem aPg (s:SkP) (m:Bool) (w:World):Calls prog 79 #[s.v,.int .i64 (if m then 1 else 0)] w (Ret (cI s m).v w):=by
 cases m
 ·simp only[if_false,Bool.false_eq_true]
  go_enter func79,ntmps79
  go_wp2;refine bodyPost_ret (v:=(cI s false).v) (by simp[results,results79,go_sem,cI]) rfl (Ret.of (by exact bl_))
 ·simp only[if_true]
  go_enter func79,ntmps79
  go_wp2;refine bodyPost_ret (v:=(cI s true).v) (by simp[results,results79,go_sem,cI]) rfl (Ret.of (by exact bl_))
theorem aNv {s:SkP} (hs:s.wide) (h:s.hue):¬255<IntKind.u64.wrap s.c0/\¬255<IntKind.u64.wrap s.c1/\¬255<IntKind.u64.wrap s.c2/\¬255<IntKind.u64.wrap s.c3:=by
 have u0:=aU hs.c0 255 (by omega) (by omega);have u1:=aU hs.c1 255 (by omega) (by omega);have u2:=aU hs.c2 255 (by omega) (by omega);have u3:=aU hs.c3 255 (by omega) (by omega);unfold SkP.hue aI at h;omega
theorem aP3 {s:SkP} (hs:s.wide) (h:¬s.hue):255<IntKind.u64.wrap s.c0\/(¬255<IntKind.u64.wrap s.c0/\255<IntKind.u64.wrap s.c1)\/(¬255<IntKind.u64.wrap s.c0/\¬255<IntKind.u64.wrap s.c1/\255<IntKind.u64.wrap s.c2)\/(¬255<IntKind.u64.wrap s.c0/\¬255<IntKind.u64.wrap s.c1/\¬255<IntKind.u64.wrap s.c2/\255<IntKind.u64.wrap s.c3):=by
 have u0:=aU hs.c0 255 (by omega) (by omega);have u1:=aU hs.c1 255 (by omega) (by omega);have u2:=aU hs.c2 255 (by omega) (by omega);have u3:=aU hs.c3 255 (by omega) (by omega);unfold SkP.hue aI at h;omega
theorem aGk (v:Value) (S:List PsP) (l:List PolP) (s:SkP) (w:World) (h:PolsR w v S l) (hs:s.wide):Calls prog 67 #[v,s.v] w (Ret (.bool (decide (iZ l s))) w):=by
 have LK:=jj (fun w=>aP6 s false w);have FR0:=fun w=>jZ (cI s false) (sL hs false) w
 have HP:=jj h;obtain ⟨hl,av,cap,rfl,hcap,-⟩:=h.r
 by_cases hh:s.hue
 case neg =>
  have hf:decide (iZ l s)=false:=decide_eq_false fun q=>hh q.2.2.1
  rw[hf];have hn:=aP3 hs hh;clear hf hh LK FR0 h;rcases hn with t1|⟨t1,t2⟩|⟨t1,t2,t3⟩|⟨t1,t2,t3,t4⟩
  all_goals
   go_enter func67,ntmps67
   go_wp2;refine wp_loop_rounds 5 ?_
   iterate 5 try any_goals (rw[rounds_succ];go_wp2)
   go_ret;exact Ret.of' rfl (by exact bl_)
 obtain ⟨t1,t2,t3,t4⟩:=aNv hs hh;have HN:=jj h.n
 by_cases h64:64<S.length
 case pos =>
  have h64i:(64:Int)<S.length:=by omega
  have hf:decide (iZ l s)=false:=decide_eq_false fun q=>by have:=q.1;have:=HN.out;omega
  rw[hf];clear hf LK FR0 h hh
  go_enter func67,ntmps67
  go_wp2;refine wp_loop_rounds 5 ?_
  iterate 5 try any_goals (rw[rounds_succ];go_wp2)
  go_ret;exact Ret.of' rfl (by exact bl_)
 have h64i:¬(64:Int)<S.length:=by omega
 by_cases hm:s.num
 case neg =>
  rw[decide_eq_false fun q=>hm ((aAx s false).1 q)] at FR0;have FR:=jj FR0;have hf:decide (iZ l s)=false:=decide_eq_false fun q=>hm q.2.2.2
  rw[hf];clear hf FR0 h hh hm
  go_enter func67,ntmps67
  go_wp2;refine wp_loop_rounds 5 ?_
  iterate 5 try any_goals (rw[rounds_succ];go_wp2_with (first|(go_at_call 105;with_reducible refine jn (LK.out _) fun X_=>?_)|(go_at_call 12;with_reducible refine jn (FR.out _) fun X_=>?_)))
  go_ret;exact Ret.of' rfl (by exact bl_)
 simp only[decide_eq_true ((aAx s false).2 hm)] at FR0;have FR:=jj FR0;obtain ⟨Z,hZ⟩:∃ Z,decide (iZ l s)=Z:=⟨_,rfl⟩;rw[hZ];have HZ:=jj (show (∀ p∈l,p.ok)->Z=true from fun q=>by rw[<-hZ];exact decide_eq_true ⟨by have:=HN.out;omega,q,hh,hm⟩);have HZF:=jj (show ∀ p∈l,¬p.ok->Z=false from fun p hp q=>by rw[<-hZ];exact decide_eq_false fun k=>q (k.2.1 p hp));clear hZ hh hm FR0 h
 go_enter func67,ntmps67
 go_wp2;refine wp_loop_rounds 5 ?_
 iterate 4 (rw[rounds_succ];go_wp2)
 rw[rounds_succ];go_upto_region 9 with (first|(go_at_call 105;with_reducible refine jn (LK.out _) fun X_=>?_)|(go_at_call 12;with_reducible refine jn (FR.out _) fun X_=>?_))
 refine aE (F:=fun w1=>PolsR w1 (.slice av S.length cap) S l/\∃ X,w1=w.ext X) ⟨by exact jg HP.out,jz (by exact bx_)⟩ ?_;rintro w1 ⟨hv1,hX⟩;have HX:=jj hX;have HQ:=jj hv1;obtain ⟨-,av',cap',hq,-,hcl⟩:=hv1.r;obtain ⟨rfl,rfl⟩:av=av'/\cap=cap':=by simpa using hq
 clear hv1 hX hq HP LK FR t1 t2 t3 t4 hcap;go_wp2;go_loopw [30] (fun i wr=>∃ (j:Nat),j<=S.length/\i=.int .i64 j/\Hid (∀ i f,i<j->l[i]?=some f->f.ok)/\∃ X,wr=w1.ext X)
  (fun i _=>S.length-(intOf i).toNat)
 case atStart=>exact ⟨0,by omega,rfl,jj (fun i f hi=>by omega),_,(aN _).symm⟩
 case round =>
  obtain ⟨j,hj,rfl,hF,X,rfl⟩:=hrel
  by_cases hlt:j<S.length
  ·have HJ:=jj (show j+1<=S.length from hlt);have hji:(j:Int)<S.length:=by omega
   obtain ⟨a,ha⟩:∃ f,S[j]?=some f:=⟨_,List.getElem?_eq_getElem hlt⟩;obtain ⟨p,hp⟩:∃ f,l[j]?=some f:=⟨_,List.getElem?_eq_getElem (by rw[<-HN.out];exact hlt)⟩;rcases hcl with e|⟨lb,lo,rfl,hlb,hcl⟩
   ·rw[e] at hlt;simp at hlt
   have pa0:w1.cell? ⟨lb,lo+j*2,none⟩=some a.vs:=hcl j _ ha 0 _ rfl;have pa1:w1.cell? ⟨lb,lo+j*2+1,none⟩=some a.es:=hcl j _ ha 1 _ rfl;have HA:=jj hp;have HR:=jj (HQ.out.p j _ _ ha hp);clear hcl ha hp
   by_cases hf:p.ok
   ·have nxt:=jj (kO hF.out HA.out hf);have MY:=jj (fun w h=>(decide_eq_true hf)▸aP5 a p w h);clear hf hF HA
    go_wp2_with (first|(go_at_call 106;with_reducible refine jn (MY.out _ (by exact jg HR.out)) fun X_=>?_))
    go_roundw
    case rel=>exact ⟨j+1,HJ.out,by go_num,nxt,jz (by exact br_)⟩
    case measure=>have:=HJ.out;simp[intOf];omega
   ·have e:=HZF.out p (List.mem_of_getElem? HA.out) hf;subst e;have MY:=jj (fun w h=>(decide_eq_false hf)▸aP5 a p w h);clear hf hF HA HZ HZF
    go_wp2_with (first|(go_at_call 106;with_reducible refine jn (MY.out _ (by exact jg HR.out)) fun X_=>?_))
    go_ret;obtain ⟨X0,hX0⟩:=HX.out;subst hX0;exact Ret.of' rfl (by exact br_)
  ·obtain rfl:j=S.length:=by omega
   have e:=HZ.out (rE (fun i f hi h=>hF.out i f (by rw[HN.out];exact hi) h));subst e;clear HZ HZF hF;go_wp2;go_ret;obtain ⟨X0,hX0⟩:=HX.out;subst hX0;exact Ret.of' rfl (by exact br_)
theorem aSc (x:Int):x >>> 16=x/65536:=by rw[Int.shiftRight_eq_div_pow];rfl
theorem aLx {z:Int} (h0:0<=z) (h1:z<=65536):0<=lvl z/\lvl z<=16777215:=by unfold lvl;omega
theorem aL3 (z:Int) (h0:0<=z) (h1:z<=65536) (w:World):Calls prog 68 #[z] w (Ret (.int .i64 (lvl z)) w):=by
 go_enter func68,ntmps68
 go_wp2;go_ret;exact Ret.of' (by first|rfl|simp[aSc,lvl]) (by exact bl_)
theorem aM6 (z:Int) (h0:0<=z) (h1:z<=65536) (w:World):Calls prog 111 #[z] w (Ret (.int .i64 (lvl z)) w):=by
 have e:(16777215*z).tdiv 65536=lvl z:=by
  unfold lvl;rw[Int.tdiv_eq_ediv_of_nonneg (by omega)]
 have b:=aLx h0 h1;have k:IntKind.i64.wrap ((16777215*z).tdiv 65536)=lvl z:=by rw[e];exact IntWalk.i64_in _ (by omega)
 go_enter func111,ntmps111
 go_wp2;go_ret;exact Ret.of' (by first|rfl|simp[e]) (by exact bl_)
theorem sM:(prog.info? 45).map (fun i=>(i.zero,i.size,i.bytes))=some (some (.agg #[.int .i64 0,.int .i64 0,.int .i64 0,.int .i64 0,.int .i64 0,.int .i64 0,.int .i64 0]),7,56):=by kernel_rfl
theorem aF0 (n:Nat) (N:Int) (hN:N=n) (hn:n<=4096) (w:World):∃ w' c,(Instr.makeSlice 22 (.int .i64 N) (.int .i64 N)).run prog w=.ok (.slice (some ⟨w.heap.size,0,none⟩) n n) w'/\Row w' w.heap.size c 45/\c.size=n*7/\∃ X,w'=w.ext X:=by
 subst hN;obtain ⟨i,hi,hz,hs,hb⟩:=info_parts sM;obtain ⟨w',h1,h2,h3⟩:=run_makeSlice_full (P:=prog) (w:=w) w.heap.size 22 45 i _ 7 Tryz.underlying22 hi hz hs .i64 .i64 n (by omega) (by rw[hb];omega) (by unfold maxLen;omega) (Nat.le_refl _);have h6:=jz (Below.grown (Below.refl _ w) h3 (Nat.le_refl _) (fun k hk=>by cases hk));rcases h2.2 with ⟨e,-⟩|⟨g,cap,cur,e,hb,hg,hc,hm,hsz,-⟩
 ·cases e
 ·injection e with e1 e2 e3
  injection e1 with e1
  injection e1 with e1
  subst e1;subst e3;exact ⟨w',cur,h1,hg,hsz,h6⟩
def aLk (c:Array Value) (o:Nat) (u0 u1 u2 u3 u4 u5 u6:Value):Array Value:=((((((c.setIfInBounds o u0).setIfInBounds (o+1) u1).setIfInBounds (o+2) u2).setIfInBounds (o+3) u3).setIfInBounds (o+4) u4).setIfInBounds (o+5) u5).setIfInBounds (o+6) u6
theorem aEd (c:Array Value) (o:Nat) (u0 u1 u2 u3 u4 u5 u6:Value):(aLk c o u0 u1 u2 u3 u4 u5 u6).size=c.size:=by unfold aLk;simp
theorem aJc (c:Array Value) (o i:Nat) (u0 u1 u2 u3 u4 u5 u6:Value) (h:i<o\/o+7<=i):(aLk c o u0 u1 u2 u3 u4 u5 u6)[i]?=c[i]?:=by
 unfold aLk;rw[Array.getElem?_setIfInBounds_ne (by omega),Array.getElem?_setIfInBounds_ne (by omega),Array.getElem?_setIfInBounds_ne (by omega),Array.getElem?_setIfInBounds_ne (by omega),Array.getElem?_setIfInBounds_ne (by omega),Array.getElem?_setIfInBounds_ne (by omega),Array.getElem?_setIfInBounds_ne (by omega)]
theorem aMw (c:Array Value) (o:Nat) (u0 u1 u2 u3 u4 u5 u6:Value) (h:o+7<=c.size) (q:Nat) (u:Value) (hq:[u0,u1,u2,u3,u4,u5,u6][q]?=some u):(aLk c o u0 u1 u2 u3 u4 u5 u6)[o+q]?=some u:=by
 have hl:q<7:=by
  have:=(List.getElem?_eq_some_iff.1 hq).1
  simpa using this
 unfold aLk;rcases (by omega:q=0\/q=1\/q=2\/q=3\/q=4\/q=5\/q=6) with rfl|rfl|rfl|rfl|rfl|rfl|rfl
 all_goals
  simp only[List.getElem?_cons_zero,List.getElem?_cons_succ,Option.some.injEq] at hq;subst hq;simp only[Array.getElem?_setIfInBounds];simp;omega
def Wins (c:Array Value) (L:List WinP) (j:Nat):Prop:=∀ i f,i<j->L[i]?=some f->∀ q u,(wnK.cells f)[q]?=some u->c[i*7+q]?=some u
theorem Wins.next {c:Array Value} {L:List WinP} {j:Nat} (h:Wins c L j) (hs:(j+1)*7<=c.size) (a:WinP) (ha:L[j]?=some a):Wins (aLk c (j*7) (.int .i64 a.x) (.int .i64 a.y) (.int .i64 a.z) (.int .i64 a.c0) (.int .i64 a.c1) (.int .i64 a.c2) (.int .i64 a.c3)) L (j+1):=fun i f hi hf q u hq=>by
 by_cases e:i=j
 ·subst e;rw[ha] at hf;cases hf
  exact aMw _ _ _ _ _ _ _ _ _ (by omega) q u hq
 ·have hl:q<7:=by
   have:=(List.getElem?_eq_some_iff.1 hq).1
   simpa [wnK] using this
  rw[aJc _ _ _ _ _ _ _ _ _ _ (.inl (by omega))];exact h i f (by omega) hf q u hq
theorem Wins.recs {w:World} {g n:Nat} {c:Array Value} {L:List WinP} (h:Wins c L L.length) (hr:Row w g c 45) (hn:n=L.length) (hl:L.length<=1099511627776):Recs wnK w (.slice (some ⟨g,0,none⟩) n n) L:=by
 subst hn;refine ⟨hl,_,_,rfl,Nat.le_refl _,.inr ⟨g,0,rfl,hr.lt,fun i f hi q u hq=>?_⟩⟩;rw[hr.cell,Nat.zero_add];exact h i f (List.getElem?_eq_some_iff.1 hi).1 hi q u hq
theorem aHd {p:PolP} {k:SkP} {j:Nat} {a:V3P} (h:p.v[j]?=some a):(dW p k)[j]?=some (a.win k):=by
 unfold dW;rw[List.getElem?_map,h];rfl
theorem j6 (p:PolP) (k:SkP):(dW p k).length=p.v.length:=by unfold dW;simp
theorem aSr (s:PsP) (p:PolP) (k:SkP) (w:World) (h:PolR w s p) (hok:p.ok):Calls prog 108 #[.agg #[s.vs,s.es],.agg #[k.c0,k.c1,k.c2,k.c3]] w (cS wnK w (dW p k)):=by
 have HV:=jj h.v;have HOK:=jj hok.2.2;obtain ⟨n1,n2⟩:=h.len;obtain ⟨va,vn,vc,ea,en,ec⟩:=s;simp only at n1 n2;subst n1;have h3:3<=p.v.length:=hok.1.1;have h64:p.v.length<=64:=hok.1.2;have FL:=jj (j6 p k);obtain ⟨T,hT⟩:∃ T,dW p k=T:=⟨_,rfl⟩;have FA:=jj (fun j a (q:p.v[j]?=some a)=>hT▸aHd (k:=k) q);rw[hT] at FL ⊢;clear h hok hT n2
 go_enter func108,ntmps108
 go_upto_region 1 with fail
 refine aE (F:=fun w1=>Row w1 w.heap.size #[.slice va p.v.length vc,.slice ea en ec] 68/\Row w1 (w.heap.size+1) #[k.c0,k.c1,k.c2,k.c3] 43/\∃ X,w1=w.ext X) ⟨by exact rx_,by exact rx_,jz (by exact bl_)⟩ ?_;rintro w1 ⟨Rp,Rc,hX⟩;have HX:=jj hX;have HRp:=jj Rp;have HRc:=jj Rc;obtain ⟨X0,hX0⟩:=hX;have HV1:=jj (by rw[hX0];exact HV.out.ext X0:Recs v3K w1 (.slice va p.v.length vc) p.v);have cp:=Rp.cell;have fp:=Rp.frozen;have lp:=Rp.lt;clear hX0 Rp Rc;go_wp2;obtain ⟨w2,c0,e1,R0,hs0,X1,hX1⟩:=aF0 p.v.length p.v.length rfl (by omega) w1;rw[e1];clear e1 cp fp lp;obtain ⟨Bm,hBm⟩:∃ b,w1.heap.size=b:=⟨_,rfl⟩;have hb2:w.heap.size+1<Bm:=by have:=HRc.out.lt;omega
 have Rp:=jj (by rw[hX1];exact HRp.out.ext X1:Row w2 w.heap.size #[.slice va p.v.length vc,.slice ea en ec] 68);have Rc:=jj (by rw[hX1];exact HRc.out.ext X1:Row w2 (w.heap.size+1) #[k.c0,k.c1,k.c2,k.c3] 43);have HX2:=jj (show ∃ X,w2=w.ext X by
  obtain ⟨X0,hX0⟩:=HX.out;rw[hX1,hX0];exact ⟨_,World.ext_ext ..⟩)
 rw[hBm] at R0 ⊢;have HR0:=jj R0;clear HX hX1 HRp HRc HV1 R0 hBm;have cp:=Rp.out.cell;have fp:=Rp.out.frozen;have lp:=Rp.out.lt;go_upto_region 3 with fail
 clear cp fp lp Rp;obtain ⟨-,av',cap',hq,hcap,hcl⟩:=HV.out;obtain ⟨rfl,rfl⟩:va=av'/\vc=cap':=by simpa using hq
 rcases hcl with e|⟨lb,lo,rfl,hlb,hcl⟩
 ·rw[e] at h3;simp at h3
 have HCL:=jj hcl;clear hq hcl hcap;go_loopw [15] (fun i wr=>∃ (j:Nat) (c:Array Value),j<=p.v.length/\i=.int .i64 j/\Hid (c.size=p.v.length*7/\Wins c T j)/\Hid (Row wr Bm c 45)/\Hid (Row wr (w.heap.size+1) #[k.c0,k.c1,k.c2,k.c3] 43)/\Hid (∃ X,wr=w.ext X))
  (fun i _=>p.v.length-(intOf i).toNat)
 case atStart=>exact ⟨0,c0,by omega,rfl,jj ⟨hs0,fun i f hi=>by omega⟩,HR0,Rc,HX2⟩
 case round =>
  obtain ⟨j,c,hj,rfl,hW,hR,hC,hX⟩:=hrel
  by_cases hlt:j<p.v.length
  ·have HJ:=jj (show j+1<=p.v.length from hlt);have hji:(j:Int)<p.v.length:=by omega
   obtain ⟨a,ha⟩:∃ f,p.v[j]?=some f:=⟨_,List.getElem?_eq_getElem hlt⟩;have ce:∀ i,wr.cell? ⟨lb,i,none⟩=w.cell? ⟨lb,i,none⟩:=fun i=>by obtain ⟨X,hX⟩:=hX.out;rw[hX];exact (Chg.of_ext (p:=fun _=>False) X).cell hlb (fun h=>h)
   have pa0:wr.cell? ⟨lb,lo+j*3,none⟩=some (.int .i64 a.x):=by rw[ce];exact HCL.out j _ ha 0 _ rfl
   have pa1:wr.cell? ⟨lb,lo+j*3+1,none⟩=some (.int .i64 a.y):=by rw[ce];exact HCL.out j _ ha 1 _ rfl
   have pa2:wr.cell? ⟨lb,lo+j*3+2,none⟩=some (.int .i64 a.z):=by rw[ce];exact HCL.out j _ ha 2 _ rfl
   have HA:=jj (FA.out j a ha);have hao:=HOK.out a (List.mem_of_getElem? ha);have DP:=jj (fun w=>aL3 a.z hao.2.2.1 hao.2.2.2 w);have cc:=hC.out.cell;have fc:=hC.out.frozen;have lc:=hC.out.lt;have fm:=hR.out.frozen;have lm:=hR.out.lt;have hcs:(j+1)*7<=c.size:=by have:=hW.out.1;omega
   have hq:∀ q,q<7->∃ v,wr.cell? ⟨Bm,j*7+q,none⟩=some v:=fun q hq=>⟨_,by rw[hR.out.cell];exact Array.getElem?_eq_getElem (by omega)⟩
   obtain ⟨v0,d0⟩:=hq 0 (by omega);obtain ⟨v1,d1⟩:=hq 1 (by omega);obtain ⟨v2,d2⟩:=hq 2 (by omega);obtain ⟨v3,d3⟩:=hq 3 (by omega);obtain ⟨v4,d4⟩:=hq 4 (by omega);obtain ⟨v5,d5⟩:=hq 5 (by omega);obtain ⟨v6,d6⟩:=hq 6 (by omega);simp only[Nat.add_zero] at d0;have lc2:w.heap.size+1<wr.heap.size+1:=by omega
   have lm2:Bm<wr.heap.size+1:=by omega
   clear ha ce hao hq;go_upto_region 5 with fail
   refine jm 12 ?_;simp only[jx]
   repeat (go_big_quiet_step (((go_at_call 68;with_reducible exact Calls.quiet_ret (DP.out _)))))
   refine jv fun X=>?_
   go_wp2;go_roundw
   case measure=>have:=HJ.out;simp[intOf];omega
   case rel =>
    have hne:w.heap.size+1≠Bm:=by omega
    have hwB:w.heap.size<=Bm:=by omega
    have Rm:=(((((((hR.out.set (j*7) (.int .i64 a.x)).set (j*7+1) (.int .i64 a.y)).set (j*7+2) (.int .i64 (lvl a.z))).set (j*7+3) (.int .i64 k.c0)).set (j*7+4) (.int .i64 k.c1)).set (j*7+5) (.int .i64 k.c2)).set (j*7+6) (.int .i64 k.c3));have Ro:=(((((((hC.out.other hne (j*7) (.int .i64 a.x)).other hne (j*7+1) (.int .i64 a.y)).other hne (j*7+2) (.int .i64 (lvl a.z))).other hne (j*7+3) (.int .i64 k.c0)).other hne (j*7+4) (.int .i64 k.c1)).other hne (j*7+5) (.int .i64 k.c2)).other hne (j*7+6) (.int .i64 k.c3));obtain ⟨X9,hX9⟩:=hX.out;subst hX9;exact ⟨j+1,aLk c (j*7) (.int .i64 a.x) (.int .i64 a.y) (.int .i64 (lvl a.z)) (.int .i64 k.c0) (.int .i64 k.c1) (.int .i64 k.c2) (.int .i64 k.c3),HJ.out,by go_num,jj ⟨by rw[aEd];exact hW.out.1,hW.out.2.next hcs (a.win k) HA.out⟩,jj ((Rm.alloc _).ext _),jj ((Ro.alloc _).ext _),jj (jz (by exact br_))⟩
  ·obtain rfl:j=p.v.length:=by omega
   go_wp2;go_ret;refine ⟨_,rfl,Wins.recs (by rw[FL.out];exact hW.out.2) hR.out FL.out.symm (by rw[FL.out];omega),?_⟩;obtain ⟨X9,hX9⟩:=hX.out;subst hX9;exact jz (by exact br_)
end Go.Proofs.YthcjfanigfgckaaGreat
