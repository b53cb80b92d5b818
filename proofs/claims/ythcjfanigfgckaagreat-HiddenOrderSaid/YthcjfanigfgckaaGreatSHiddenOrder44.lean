import Derived.Test.YthcjfanigfgckaaGreatSHiddenOrder42
set_option linter.unusedVariables false
set_option linter.unusedSimpArgs false
set_option maxRecDepth 100000
set_option maxHeartbeats 16000000
namespace Go.Proofs.YthcjfanigfgckaaGreat
open Go.RowKit
theorem shr16 (x:Int):x >>> 16=x/65536:=by rw[Int.shiftRight_eq_div_pow];rfl
theorem lvl_in {z:Int} (h0:0<=z) (h1:z<=65536):0<=lvl z/\lvl z<=16777215:=by unfold lvl;omega
theorem hdepth (z:Int) (h0:0<=z) (h1:z<=65536) (w:World):Calls Tryz.prog 68 #[.int .i64 z] w (Ret (.int .i64 (lvl z)) w):=by
 go_enter Tryz.func68,Tryz.ntmps68
 go_wp2;go_ret;exact Ret.of' (by first|rfl|simp[shr16,lvl]) (by exact bl_)
theorem info_win27:(Tryz.prog.info? 45).map (fun i=>(i.zero,i.size,i.bytes))=some (some (.agg #[.int .i64 0,.int .i64 0,.int .i64 0,.int .i64 0,.int .i64 0,.int .i64 0,.int .i64 0]),7,56):=by kernel_rfl
theorem make_wins (n:Nat) (N:Int) (hN:N=n) (hn:n<=4096) (w:World):∃ w' c,(Instr.makeSlice 22 (.int .i64 N) (.int .i64 N)).run Tryz.prog w=.ok (.slice (some ⟨w.heap.size,0,none⟩) n n) w'/\Row w' w.heap.size c 45/\c.size=n*7/\∃ X,w'=w.ext X:=by
 subst hN;obtain ⟨i,hi,hz,hs,hb⟩:=info_parts info_win27;obtain ⟨w',h1,h2,h3⟩:=run_makeSlice_full (P:=Tryz.prog) (w:=w) w.heap.size 22 45 i _ 7 Tryz.underlying22 hi hz hs .i64 .i64 n (by omega) (by rw[hb];omega) (by unfold maxLen;omega) (Nat.le_refl _);have h6:=jz (Below.grown (Below.refl _ w) h3 (Nat.le_refl _) (fun k hk=>by cases hk));rcases h2.2 with ⟨e,-⟩|⟨g,cap,cur,e,hb,hg,hc,hm,hsz,-⟩
 ·cases e
 ·injection e with e1 e2 e3
  injection e1 with e1
  injection e1 with e1
  subst e1;subst e3;exact ⟨w',cur,h1,hg,hsz,h6⟩
def set7 (c:Array Value) (o:Nat) (u0 u1 u2 u3 u4 u5 u6:Value):Array Value:=((((((c.setIfInBounds o u0).setIfInBounds (o+1) u1).setIfInBounds (o+2) u2).setIfInBounds (o+3) u3).setIfInBounds (o+4) u4).setIfInBounds (o+5) u5).setIfInBounds (o+6) u6
theorem set7_size (c:Array Value) (o:Nat) (u0 u1 u2 u3 u4 u5 u6:Value):(set7 c o u0 u1 u2 u3 u4 u5 u6).size=c.size:=by unfold set7;simp
theorem set7_off (c:Array Value) (o i:Nat) (u0 u1 u2 u3 u4 u5 u6:Value) (h:i<o\/o+7<=i):(set7 c o u0 u1 u2 u3 u4 u5 u6)[i]?=c[i]?:=by
 unfold set7;rw[Array.getElem?_setIfInBounds_ne (by omega),Array.getElem?_setIfInBounds_ne (by omega),Array.getElem?_setIfInBounds_ne (by omega),Array.getElem?_setIfInBounds_ne (by omega),Array.getElem?_setIfInBounds_ne (by omega),Array.getElem?_setIfInBounds_ne (by omega),Array.getElem?_setIfInBounds_ne (by omega)]
theorem set7_at (c:Array Value) (o:Nat) (u0 u1 u2 u3 u4 u5 u6:Value) (h:o+7<=c.size) (q:Nat) (u:Value) (hq:[u0,u1,u2,u3,u4,u5,u6][q]?=some u):(set7 c o u0 u1 u2 u3 u4 u5 u6)[o+q]?=some u:=by
 have hl:q<7:=by
  have:=(List.getElem?_eq_some_iff.1 hq).1
  simpa using this
 unfold set7;rcases (by omega:q=0\/q=1\/q=2\/q=3\/q=4\/q=5\/q=6) with rfl|rfl|rfl|rfl|rfl|rfl|rfl
 all_goals
  simp only[List.getElem?_cons_zero,List.getElem?_cons_succ,Option.some.injEq] at hq;subst hq;simp only[Array.getElem?_setIfInBounds];simp;omega
def Wins (c:Array Value) (L:List WinP) (j:Nat):Prop:=∀ i f,i<j->L[i]?=some f->∀ q u,(wnK.cells f)[q]?=some u->c[i*7+q]?=some u
theorem Wins.next {c:Array Value} {L:List WinP} {j:Nat} (h:Wins c L j) (hs:(j+1)*7<=c.size) (a:WinP) (ha:L[j]?=some a):Wins (set7 c (j*7) (.int .i64 a.x) (.int .i64 a.y) (.int .i64 a.z) (.int .i64 a.c0) (.int .i64 a.c1) (.int .i64 a.c2) (.int .i64 a.c3)) L (j+1):=fun i f hi hf q u hq=>by
 by_cases e:i=j
 ·subst e;rw[ha] at hf;cases hf
  exact set7_at _ _ _ _ _ _ _ _ _ (by omega) q u hq
 ·have hl:q<7:=by
   have:=(List.getElem?_eq_some_iff.1 hq).1
   simpa [wnK] using this
  rw[set7_off _ _ _ _ _ _ _ _ _ _ (.inl (by omega))];exact h i f (by omega) hf q u hq
theorem Wins.recs {w:World} {g n:Nat} {c:Array Value} {L:List WinP} (h:Wins c L L.length) (hr:Row w g c 45) (hn:n=L.length) (hl:L.length<=1099511627776):Recs wnK w (.slice (some ⟨g,0,none⟩) n n) L:=by
 subst hn;refine ⟨hl,_,_,rfl,Nat.le_refl _,.inr ⟨g,0,rfl,hr.lt,fun i f hi q u hq=>?_⟩⟩;rw[hr.cell,Nat.zero_add];exact h i f (List.getElem?_eq_some_iff.1 hi).1 hi q u hq
theorem face_at {p:PolP} {k:SkP} {j:Nat} {a:V3P} (h:p.v[j]?=some a):(faceW p k)[j]?=some (a.win k):=by
 unfold faceW;rw[List.getElem?_map,h];rfl
theorem face_len (p:PolP) (k:SkP):(faceW p k).length=p.v.length:=by unfold faceW;simp
theorem hface (s:PsP) (p:PolP) (k:SkP) (w:World) (h:PolR w s p) (hok:p.ok):Calls Tryz.prog 108 #[.agg #[s.vs,s.es],.agg #[.int .i64 k.c0,.int .i64 k.c1,.int .i64 k.c2,.int .i64 k.c3]] w (RLists wnK w (faceW p k)):=by
 have HV:=jj h.v;have HOK:=jj hok.2.2;obtain ⟨n1,n2⟩:=h.len;obtain ⟨va,vn,vc,ea,en,ec⟩:=s;simp only at n1 n2;subst n1;have h3:3<=p.v.length:=hok.1.1;have h64:p.v.length<=64:=hok.1.2;have FL:=jj (face_len p k);obtain ⟨T,hT⟩:∃ T,faceW p k=T:=⟨_,rfl⟩;have FA:=jj (fun j a (q:p.v[j]?=some a)=>hT▸face_at (k:=k) q);rw[hT] at FL ⊢;clear h hok hT n2
 go_enter Tryz.func108,Tryz.ntmps108
 go_upto_region 1 with fail
 refine wp_abs (F:=fun w1=>Row w1 w.heap.size #[.slice va p.v.length vc,.slice ea en ec] 68/\Row w1 (w.heap.size+1) #[.int .i64 k.c0,.int .i64 k.c1,.int .i64 k.c2,.int .i64 k.c3] 43/\∃ X,w1=w.ext X) ⟨by exact rx_,by exact rx_,jz (by exact bl_)⟩ ?_;rintro w1 ⟨Rp,Rc,hX⟩;have HX:=jj hX;have HRp:=jj Rp;have HRc:=jj Rc;obtain ⟨X0,hX0⟩:=hX;have HV1:=jj (by rw[hX0];exact HV.out.ext X0:Recs v3K w1 (.slice va p.v.length vc) p.v);have cp:=Rp.cell;have fp:=Rp.frozen;have lp:=Rp.lt;clear hX0 Rp Rc;go_wp2;obtain ⟨w2,c0,e1,R0,hs0,X1,hX1⟩:=make_wins p.v.length p.v.length rfl (by omega) w1;rw[e1];clear e1 cp fp lp;obtain ⟨Bm,hBm⟩:∃ b,w1.heap.size=b:=⟨_,rfl⟩;have hb2:w.heap.size+1<Bm:=by have:=HRc.out.lt;omega
 have Rp:=jj (by rw[hX1];exact HRp.out.ext X1:Row w2 w.heap.size #[.slice va p.v.length vc,.slice ea en ec] 68);have Rc:=jj (by rw[hX1];exact HRc.out.ext X1:Row w2 (w.heap.size+1) #[.int .i64 k.c0,.int .i64 k.c1,.int .i64 k.c2,.int .i64 k.c3] 43);have HX2:=jj (show ∃ X,w2=w.ext X by
  obtain ⟨X0,hX0⟩:=HX.out;rw[hX1,hX0];exact ⟨_,World.ext_ext ..⟩)
 rw[hBm] at R0 ⊢;have HR0:=jj R0;clear HX hX1 HRp HRc HV1 R0 hBm;have cp:=Rp.out.cell;have fp:=Rp.out.frozen;have lp:=Rp.out.lt;go_upto_region 3 with fail
 clear cp fp lp Rp;obtain ⟨-,av',cap',hq,hcap,hcl⟩:=HV.out;obtain ⟨rfl,rfl⟩:va=av'/\vc=cap':=by simpa using hq
 rcases hcl with e|⟨lb,lo,rfl,hlb,hcl⟩
 ·rw[e] at h3;simp at h3
 have HCL:=jj hcl;clear hq hcl hcap;go_loopw [15] (fun i wr=>∃ (j:Nat) (c:Array Value),j<=p.v.length/\i=.int .i64 j/\Hid (c.size=p.v.length*7/\Wins c T j)/\Hid (Row wr Bm c 45)/\Hid (Row wr (w.heap.size+1) #[.int .i64 k.c0,.int .i64 k.c1,.int .i64 k.c2,.int .i64 k.c3] 43)/\Hid (∃ X,wr=w.ext X))
  (fun i _=>p.v.length-(intOf i).toNat)
 case atStart=>exact ⟨0,c0,by omega,rfl,jj ⟨hs0,fun i f hi=>by omega⟩,HR0,Rc,HX2⟩
 case round =>
  obtain ⟨j,c,hj,rfl,hW,hR,hC,hX⟩:=hrel
  by_cases hlt:j<p.v.length
  ·have HJ:=jj (show j+1<=p.v.length from hlt);have hji:(j:Int)<p.v.length:=by omega
   obtain ⟨a,ha⟩:∃ f,p.v[j]?=some f:=⟨_,List.getElem?_eq_getElem hlt⟩;have ce:∀ i,wr.cell? ⟨lb,i,none⟩=w.cell? ⟨lb,i,none⟩:=fun i=>by obtain ⟨X,hX⟩:=hX.out;rw[hX];exact (Chg.of_ext (p:=fun _=>False) X).cell hlb (fun h=>h)
   have pa0:wr.cell? ⟨lb,lo+j*3,none⟩=some (.int .i64 a.x):=by rw[ce];exact HCL.out j _ ha 0 _ rfl
   have pa1:wr.cell? ⟨lb,lo+j*3+1,none⟩=some (.int .i64 a.y):=by rw[ce];exact HCL.out j _ ha 1 _ rfl
   have pa2:wr.cell? ⟨lb,lo+j*3+2,none⟩=some (.int .i64 a.z):=by rw[ce];exact HCL.out j _ ha 2 _ rfl
   have HA:=jj (FA.out j a ha);have hao:=HOK.out a (List.mem_of_getElem? ha);have DP:=jj (fun w=>hdepth a.z hao.2.2.1 hao.2.2.2 w);have cc:=hC.out.cell;have fc:=hC.out.frozen;have lc:=hC.out.lt;have fm:=hR.out.frozen;have lm:=hR.out.lt;have hcs:(j+1)*7<=c.size:=by have:=hW.out.1;omega
   have hq:∀ q,q<7->∃ v,wr.cell? ⟨Bm,j*7+q,none⟩=some v:=fun q hq=>⟨_,by rw[hR.out.cell];exact Array.getElem?_eq_getElem (by omega)⟩
   obtain ⟨v0,d0⟩:=hq 0 (by omega);obtain ⟨v1,d1⟩:=hq 1 (by omega);obtain ⟨v2,d2⟩:=hq 2 (by omega);obtain ⟨v3,d3⟩:=hq 3 (by omega);obtain ⟨v4,d4⟩:=hq 4 (by omega);obtain ⟨v5,d5⟩:=hq 5 (by omega);obtain ⟨v6,d6⟩:=hq 6 (by omega);simp only[Nat.add_zero] at d0;have lc2:w.heap.size+1<wr.heap.size+1:=by omega
   have lm2:Bm<wr.heap.size+1:=by omega
   clear ha ce hao hq;go_upto_region 5 with fail
   refine wp_region_ext_tail 12 (by kernel_rfl) (by kernel_rfl) ?_;simp only[jx]
   repeat (go_big_quiet_step (((go_at_call 68;with_reducible exact Calls.quiet_ret (DP.out _)))))
   refine wpQuiet_nil ?_;intro _ hw_ext;obtain ⟨X,hw_ext⟩:=hw_ext;subst hw_ext;go_wp2;go_roundw
   case measure=>have:=HJ.out;simp[intOf];omega
   case rel =>
    have hne:w.heap.size+1≠Bm:=by omega
    have hwB:w.heap.size<=Bm:=by omega
    have Rm:=(((((((hR.out.set (j*7) (.int .i64 a.x)).set (j*7+1) (.int .i64 a.y)).set (j*7+2) (.int .i64 (lvl a.z))).set (j*7+3) (.int .i64 k.c0)).set (j*7+4) (.int .i64 k.c1)).set (j*7+5) (.int .i64 k.c2)).set (j*7+6) (.int .i64 k.c3));have Ro:=(((((((hC.out.other hne (j*7) (.int .i64 a.x)).other hne (j*7+1) (.int .i64 a.y)).other hne (j*7+2) (.int .i64 (lvl a.z))).other hne (j*7+3) (.int .i64 k.c0)).other hne (j*7+4) (.int .i64 k.c1)).other hne (j*7+5) (.int .i64 k.c2)).other hne (j*7+6) (.int .i64 k.c3));obtain ⟨X9,hX9⟩:=hX.out;subst hX9;exact ⟨j+1,set7 c (j*7) (.int .i64 a.x) (.int .i64 a.y) (.int .i64 (lvl a.z)) (.int .i64 k.c0) (.int .i64 k.c1) (.int .i64 k.c2) (.int .i64 k.c3),HJ.out,by go_num,jj ⟨by rw[set7_size];exact hW.out.1,hW.out.2.next hcs (a.win k) HA.out⟩,jj ((Rm.alloc _).ext _),jj ((Ro.alloc _).ext _),jj (jz (by exact br_))⟩
  ·obtain rfl:j=p.v.length:=by omega
   go_wp2;go_ret;refine ⟨_,rfl,Wins.recs (by rw[FL.out];exact hW.out.2) hR.out FL.out.symm (by rw[FL.out];omega),?_⟩;obtain ⟨X9,hX9⟩:=hX.out;subst hX9;exact jz (by exact br_)
end Go.Proofs.YthcjfanigfgckaaGreat
