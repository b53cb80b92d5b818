import Derived.Test.YthcjfanigfgckaaGreatSHiddenOrder50
set_option linter.unusedVariables false
set_option linter.unusedSimpArgs false
set_option maxRecDepth 100000
set_option maxHeartbeats 16000000
namespace Go.Proofs.YthcjfanigfgckaaGreat
open Go.RowKit
abbrev opsB (m s0 s1 s2 s3 d1 d2:Tmp) (q0 q1 q2 q3 q4 q5 q6 q7:String):Array Oper :=
 #[{ dst:=some s0,op:=.load 50 (.tmp m),type:=50,pos:=q0,after:=#[],guard:=none },
  { dst:=some s1,op:=.call { callee:=.value (.func 26),args:=#[.tmp s0],argTypes:=#[50] },type:=54,pos:=q1,after:=#[{ on:=0,ground:=.data }],guard:=none },
  { dst:=some s2,op:=.load 50 (.tmp m),type:=50,pos:=q2,after:=#[],guard:=none },
  { dst:=some s3,op:=.call { callee:=.value (.func 26),args:=#[.tmp s2],argTypes:=#[50] },type:=54,pos:=q3,after:=#[{ on:=2,ground:=.data },{ on:=1,ground:=.chain }],guard:=none },
  { dst:=some d1,op:=.alloc 54,type:=0,pos:=q4,after:=#[],guard:=none },
  { dst:=some d2,op:=.alloc 54,type:=0,pos:=q5,after:=#[],guard:=none },
  { dst:=none,op:=.store 54 (.tmp d1) (.tmp s1),type:=0,pos:=q6,after:=#[{ on:=4,ground:=.data },{ on:=1,ground:=.data },{ on:=3,ground:=.chain },{ on:=0,ground:=.phase },{ on:=1,ground:=.phase },{ on:=2,ground:=.textOnly .lateStores },{ on:=3,ground:=.phase },{ on:=4,ground:=.phase },{ on:=5,ground:=.phase }],guard:=none },
  { dst:=none,op:=.store 54 (.tmp d2) (.tmp s3),type:=0,pos:=q7,after:=#[{ on:=5,ground:=.data },{ on:=3,ground:=.data },{ on:=6,ground:=.chain },{ on:=0,ground:=.phase },{ on:=1,ground:=.phase },{ on:=2,ground:=.phase },{ on:=3,ground:=.phase },{ on:=4,ground:=.phase },{ on:=5,ground:=.phase },{ on:=6,ground:=.phase }],guard:=none }]
theorem wp_blanks2 {id:Nat} {Q:Exit->Act->World->Prop} {a:Act} {w:World} {W H:Int} {C Z:List Int} {v:Value} {s:SkP} {aW aH far:Int} {m s0 s1 s2 s3 d1 d2:Tmp} {q0 q1 q2 q3 q4 q5 q6 q7:String} (bm:Nat) (hok:ImOk W H C Z) (hcl:∀ X,Calls Tryz.prog 26 #[artV v s aW aH far] (w.ext X) (Copies W H C Z (w.ext X)))
  (hmv:a.tmps[m]?=some (.pointer (some ⟨bm,0,none⟩))) (hrow:Row w bm #[v,.int .i64 s.factor,.int .i64 s.units,.bool s.ccw,.int .i64 s.cull,.int .i64 s.width,.int .i64 s.c0,.int .i64 s.c1,.int .i64 s.c2,.int .i64 s.c3,.int .u8 aW,.int .u8 aH,.int .i64 far] 50)
  (hinj:∀ i,i<6->∀ j,j<6->sg s0 s1 s2 s3 d1 d2 i=sg s0 s1 s2 s3 d1 d2 j->i=j) (hlt:∀ i,i<6->sg s0 s1 s2 s3 d1 d2 i<a.tmps.size) (hmo:∀ i,i<6->sg s0 s1 s2 s3 d1 d2 i≠m)
  (h:∀ X pa g1 k1 g2 k2 pb g3 k3 g4 k4,Two w (w.ext X) W H C Z pa g1 k1 g2 k2 pb g3 k3 g4 k4 ->
   Q .normal ((((((a.put (some s0) (artV v s aW aH far)).put (some s1) (.agg (IC W H C.length g1 k1 g2 k2))).put (some s2) (artV v s aW aH far)).put (some s3) (.agg (IC W H C.length g3 k3 g4 k4))).put (some d1) (ptr pa)).put (some d2) (ptr pb)) (w.ext X)) :
  (Code.region id (opsB m s0 s1 s2 s3 d1 d2 q0 q1 q2 q3 q4 q5 q6 q7) true).wp Tryz.prog Q a w:=by
 have hinj':∀ i j,i<6->j<6->sg s0 s1 s2 s3 d1 d2 i=sg s0 s1 s2 s3 d1 d2 j->i=j:=fun i j hi hj=>hinj i hi j hj
 refine wp_region_inv (fun d a' w'=>(∃ e k,CI w a W H C Z (artV v s aW aH far) (sg s0 s1 s2 s3 d1 d2) e k d a' w')/\(d 6=true->∀ j,j<6->d j=true)/\(d 7=true->∀ j,j<6->d j=true)/\(d 3=true->d 2=true)) (by kernel_rfl) (by kernel_rfl) ?_ ?_ ?_
 ·have no:∀ {p:Prop},(false=true)->p:=fun h=>Bool.noConfusion h
  exact ⟨⟨fun _=>0,fun _=>0,⟨rfl,rfl,fun _ _=>rfl,fun _ _ h=>no h,⟨⟨#[],w.drawn+1⟩,by show ({ w with drawn:=w.drawn+1 }:World)=_;simp[World.ext]⟩,fun _ _ h=>no h,fun _ _ _ _ h=>no h,fun h=>no h,fun h=>no h,fun h=>no h,fun h=>no h⟩⟩,fun h=>no h,fun h=>no h,fun h=>no h⟩
 ·intro i o ho d a' w' ⟨⟨e,k,inv⟩,h6,h7,h32⟩ hd hw;have hi:i<8:=by simpa using (Array.getElem?_eq_some_iff.1 ho).1
  obtain ⟨X0,hX0⟩:=inv.world;have l32:i≠3->upd d i 3=true->upd d i 2=true:=fun hi3 h=>(upd_eq _ _ _).2 (.inr (h32 (by rwa [upd_ne _ (Ne.symm hi3)] at h)))
  have late:∀ t,t≠i->(d t=true->∀ j,j<6->d j=true)->upd d i t=true->∀ j,j<6->upd d i j=true:=fun t ht h1 h2 j hj=>by
   rw[upd_ne _ ht] at h2;exact (upd_eq _ _ _).2 (.inr (h1 h2 j hj))
  have hmv':a'.eval (.tmp m)=.pointer (some ⟨bm,0,none⟩):=by
   have:=inv.off m hmo;simp[Act.eval,Array.getD_eq_getD_getElem?,this,hmv]
  have hev:∀ j,j<6->d j=true->a'.eval (.tmp (sg s0 s1 s2 s3 d1 d2 j))=vv W H C.length (artV v s aW aH far) e k j:=fun j hj hdj=>by
   simp[Act.eval,Array.getD_eq_getD_getElem?,inv.on j hj hdj]
  have no6:∀ j,j<6->d j=false->d 6=false:=fun j hj hdj=>by
   cases h:d 6 with
   |false=>rfl
   |true=>have:=h6 h j hj;rw[this] at hdj;cases hdj
  have no7:∀ j,j<6->d j=false->d 7=false:=fun j hj hdj=>by
   cases h:d 7 with
   |false=>rfl
   |true=>have:=h7 h j hj;rw[this] at hdj;cases hdj
  have hrow':Row w' bm #[v,.int .i64 s.factor,.int .i64 s.units,.bool s.ccw,.int .i64 s.cull,.int .i64 s.width,.int .i64 s.c0,.int .i64 s.c1,.int .i64 s.c2,.int .i64 s.c3,.int .u8 aW,.int .u8 aH,.int .i64 far] 50:=by rw[hX0];exact hrow.ext X0
  have hcase:i=0\/i=1\/i=2\/i=3\/i=4\/i=5\/i=6\/i=7:=by omega
  rcases hcase with rfl|rfl|rfl|rfl|rfl|rfl|rfl|rfl
  ·simp at ho;subst ho
   refine wp_load_row 50 (.tmp m) rfl bm hmv' 50 _ (0,0) _ hrow' Tryz.underlying50 rfl (by kernel_rfl) ?_;exact ⟨⟨e,k,inv.load hinj' hlt 0 (.inl rfl)⟩,late 6 (by decide) h6,late 7 (by decide) h7,l32 (by decide)⟩
  ·simp at ho;subst ho
   have d0:d 0=true:=hw { on:=0,ground:=.data } (by simp) rfl;have hv:=hev 0 (by decide) d0;simp only[sg,vv,Nat.reduceEqDiff,reduceIte] at hv;have hcall:(execOp a'.eval { dst:=some s1,op:=.call { callee:=.value (.func 26),args:=#[.tmp s0],argTypes:=#[50] },type:=54,pos:=q1,after:=#[{ on:=0,ground:=.data }],guard:=none }).run Tryz.prog w'=.ok (.enter 26 #[artV v s aW aH far]) w':=by
    simp only[execOp,resolve,List.map_toArray,List.map_cons,List.map_nil,hv]
    kernel_rfl
   unfold Oper.wp;rw[hcall,Oper.upon_enter];refine (show Calls Tryz.prog 26 #[artV v s aW aH far] w' (Copies W H C Z w') by rw[hX0];exact hcl X0).mono ?_;rintro _ w2 ⟨g1,k1,g2,k2,rfl,⟨X,rfl⟩,A1,A2,b1,b2,ne⟩;obtain ⟨e',k',inv'⟩:=inv.call hinj' hlt 0 (.inl rfl) hd (no6 1 (by decide) hd) g1 k1 g2 k2 X A1 A2 b1 b2 ne;exact ⟨⟨e',k',inv'⟩,late 6 (by decide) h6,late 7 (by decide) h7,l32 (by decide)⟩
  ·simp at ho;subst ho
   refine wp_load_row 50 (.tmp m) rfl bm hmv' 50 _ (0,0) _ hrow' Tryz.underlying50 rfl (by kernel_rfl) ?_;exact ⟨⟨e,k,inv.load hinj' hlt 2 (.inr rfl)⟩,late 6 (by decide) h6,late 7 (by decide) h7,l32 (by decide)⟩
  ·simp at ho;subst ho
   have d0:d 2=true:=hw { on:=2,ground:=.data } (by simp) rfl;have hv:=hev 2 (by decide) d0;simp only[sg,vv,Nat.reduceEqDiff,reduceIte] at hv;have hcall:(execOp a'.eval { dst:=some s3,op:=.call { callee:=.value (.func 26),args:=#[.tmp s2],argTypes:=#[50] },type:=54,pos:=q3,after:=#[{ on:=2,ground:=.data },{ on:=1,ground:=.chain }],guard:=none }).run Tryz.prog w'=.ok (.enter 26 #[artV v s aW aH far]) w':=by
    simp only[execOp,resolve,List.map_toArray,List.map_cons,List.map_nil,hv]
    kernel_rfl
   unfold Oper.wp;rw[hcall,Oper.upon_enter];refine (show Calls Tryz.prog 26 #[artV v s aW aH far] w' (Copies W H C Z w') by rw[hX0];exact hcl X0).mono ?_;rintro _ w2 ⟨g1,k1,g2,k2,rfl,⟨X,rfl⟩,A1,A2,b1,b2,ne⟩;obtain ⟨e',k',inv'⟩:=inv.call hinj' hlt 2 (.inr rfl) hd (no7 3 (by decide) hd) g1 k1 g2 k2 X A1 A2 b1 b2 ne;exact ⟨⟨e',k',inv'⟩,late 6 (by decide) h6,late 7 (by decide) h7,(fun _=>(upd_eq _ _ _).2 (.inr d0))⟩
  ·simp at ho;subst ho
   obtain ⟨e',k',inv'⟩:=inv.alloc hinj' hlt 4 (.inl rfl) hd (no6 4 (by decide) hd);unfold Oper.wp;have:(execOp a'.eval { dst:=some d1,op:=.alloc 54,type:=0,pos:=q4,after:=#[],guard:=none }).run Tryz.prog w'=.ok (.value (ptr w'.heap.size)) (w'.alloc (.cells c0I 54)):=by
    simp[execOp,Instr.alloc,newVar,Tryz.zeroValue54,Sem.run_bind,Result.andThen,Value.cells,ptr,newRow,newObj,Sem.run]
   rw[this];exact ⟨⟨e',k',inv'⟩,late 6 (by decide) h6,late 7 (by decide) h7,l32 (by decide)⟩
  ·simp at ho;subst ho
   obtain ⟨e',k',inv'⟩:=inv.alloc hinj' hlt 5 (.inr rfl) hd (no7 5 (by decide) hd);unfold Oper.wp;have:(execOp a'.eval { dst:=some d2,op:=.alloc 54,type:=0,pos:=q5,after:=#[],guard:=none }).run Tryz.prog w'=.ok (.value (ptr w'.heap.size)) (w'.alloc (.cells c0I 54)):=by
    simp[execOp,Instr.alloc,newVar,Tryz.zeroValue54,Sem.run_bind,Result.andThen,Value.cells,ptr,newRow,newObj,Sem.run]
   rw[this];exact ⟨⟨e',k',inv'⟩,late 6 (by decide) h6,late 7 (by decide) h7,l32 (by decide)⟩
  ·simp at ho;subst ho
   have hall:∀ j,j<6->d j=true:=six (hw { on:=0,ground:=.phase } (by simp) rfl) (hw { on:=1,ground:=.phase } (by simp) rfl) (h32 (hw { on:=3,ground:=.phase } (by simp) rfl)) (hw { on:=3,ground:=.phase } (by simp) rfl) (hw { on:=4,ground:=.phase } (by simp) rfl) (hw { on:=5,ground:=.phase } (by simp) rfl);have hv:=hev 1 (by decide) (hall _ (by decide));have hp:=hev 4 (by decide) (hall _ (by decide));simp only[sg,vv,Nat.reduceEqDiff,reduceIte] at hv hp;have hrt:=inv.r4 (hall _ (by decide));rw[if_neg (by rw[hd];decide)] at hrt;have h1:=run_storeVar_row (P:=Tryz.prog) w' (e 4) 54 54 c0I (IC W H C.length (e 0) (k 0) (e 1) (k 1)) hrt (by kernel_rfl) rfl (by simp[Value.oneCell']);have hrun:∀ aft ps,(execOp a'.eval { dst:=none,op:=.store 54 (.tmp d1) (.tmp s1),type:=0,pos:=ps,after:=aft,guard:=none }).run Tryz.prog w'=.ok .skip (w'.setRow (e 4) (IC W H C.length (e 0) (k 0) (e 1) (k 1))):=fun aft ps=>by
    simp only[execOp,hv,hp,ptr,Instr.storeAt,Instr.sureAddr,Sem.run_bind,Sem.run_pure,Result.andThen];rw[h1]
   unfold Oper.wp;rw[hrun];have inv':=inv.store 6 (.inl rfl) hall;exact ⟨⟨e,k,inv'⟩,fun _ j hj=>(upd_eq _ _ _).2 (.inr (hall j hj)),fun _ j hj=>(upd_eq _ _ _).2 (.inr (hall j hj)),l32 (by decide)⟩
  ·simp at ho;subst ho
   have hall:∀ j,j<6->d j=true:=six (hw { on:=0,ground:=.phase } (by simp) rfl) (hw { on:=1,ground:=.phase } (by simp) rfl) (h32 (hw { on:=3,ground:=.phase } (by simp) rfl)) (hw { on:=3,ground:=.phase } (by simp) rfl) (hw { on:=4,ground:=.phase } (by simp) rfl) (hw { on:=5,ground:=.phase } (by simp) rfl);have hv:=hev 3 (by decide) (hall _ (by decide));have hp:=hev 5 (by decide) (hall _ (by decide));simp only[sg,vv,Nat.reduceEqDiff,reduceIte] at hv hp;have hrt:=inv.r5 (hall _ (by decide));rw[if_neg (by rw[hd];decide)] at hrt;have h1:=run_storeVar_row (P:=Tryz.prog) w' (e 5) 54 54 c0I (IC W H C.length (e 2) (k 2) (e 3) (k 3)) hrt (by kernel_rfl) rfl (by simp[Value.oneCell']);have hrun:∀ aft ps,(execOp a'.eval { dst:=none,op:=.store 54 (.tmp d2) (.tmp s3),type:=0,pos:=ps,after:=aft,guard:=none }).run Tryz.prog w'=.ok .skip (w'.setRow (e 5) (IC W H C.length (e 2) (k 2) (e 3) (k 3))):=fun aft ps=>by
    simp only[execOp,hv,hp,ptr,Instr.storeAt,Instr.sureAddr,Sem.run_bind,Sem.run_pure,Result.andThen];rw[h1]
   unfold Oper.wp;rw[hrun];have inv':=inv.store 7 (.inr rfl) hall;exact ⟨⟨e,k,inv'⟩,fun _ j hj=>(upd_eq _ _ _).2 (.inr (hall j hj)),fun _ j hj=>(upd_eq _ _ _).2 (.inr (hall j hj)),l32 (by decide)⟩
 ·intro d a' w' ⟨⟨e,k,inv⟩,h6,h7,h32⟩ hall;have hall':∀ j,j<8->d j=true:=fun j hj=>hall j (by simpa using hj)
  obtain ⟨X0,rfl⟩:=inv.world;have hn:=fun i j hi hj hij=>inv.ne i j hi hj (hall' _ (by unfold ow;split<;>(try split)<;>omega)) (hall' _ (by unfold ow;split<;>(try split)<;>omega)) hij
  have hl:=fun j hj=>inv.lo j hj (hall' _ (by unfold ow;split<;>(try split)<;>omega))
  have r4:=inv.r4 (hall' 4 (by decide));have r5:=inv.r5 (hall' 5 (by decide));rw[if_pos (hall' 6 (by decide))] at r4;rw[if_pos (hall' 7 (by decide))] at r5;have c0:=inv.c0 (hall' 1 (by decide));have c1:=inv.c1 (hall' 3 (by decide));have HH:=h X0 (e 4) (e 0) (k 0) (e 1) (k 1) (e 5) (e 2) (k 2) (e 3) (k 3) ⟨⟨hok,r4,c0.1,c0.2,hn _ _ (by decide) (by decide) (by decide),hn _ _ (by decide) (by decide) (by decide),hn _ _ (by decide) (by decide) (by decide)⟩,
   ⟨hok,r5,c1.1,c1.2,hn _ _ (by decide) (by decide) (by decide),hn _ _ (by decide) (by decide) (by decide),hn _ _ (by decide) (by decide) (by decide)⟩,
   ⟨(hl 4 (by decide)).1,(hl 0 (by decide)).1,(hl 1 (by decide)).1,(hl 5 (by decide)).1,(hl 2 (by decide)).1,(hl 3 (by decide)).1⟩,
   ⟨⟨hn _ _ (by decide) (by decide) (by decide),hn _ _ (by decide) (by decide) (by decide),hn _ _ (by decide) (by decide) (by decide),hn _ _ (by decide) (by decide) (by decide),hn _ _ (by decide) (by decide) (by decide),hn _ _ (by decide) (by decide) (by decide)⟩,
    ⟨hn _ _ (by decide) (by decide) (by decide),hn _ _ (by decide) (by decide) (by decide)⟩,hn _ _ (by decide) (by decide) (by decide)⟩⟩
  have heq:a'=((((((a.put (some s0) (artV v s aW aH far)).put (some s1) (.agg (IC W H C.length (e 0) (k 0) (e 1) (k 1)))).put (some s2) (artV v s aW aH far)).put (some s3) (.agg (IC W H C.length (e 2) (k 2) (e 3) (k 3)))).put (some d1) (ptr (e 4))).put (some d2) (ptr (e 5))):=by
   have n01:¬s0=s1:=fun e=>absurd (hinj 0 (by decide) 1 (by decide) e) (by decide)
   have n02:¬s0=s2:=fun e=>absurd (hinj 0 (by decide) 2 (by decide) e) (by decide)
   have n03:¬s0=s3:=fun e=>absurd (hinj 0 (by decide) 3 (by decide) e) (by decide)
   have n04:¬s0=d1:=fun e=>absurd (hinj 0 (by decide) 4 (by decide) e) (by decide)
   have n05:¬s0=d2:=fun e=>absurd (hinj 0 (by decide) 5 (by decide) e) (by decide)
   have n10:¬s1=s0:=fun e=>absurd (hinj 1 (by decide) 0 (by decide) e) (by decide)
   have n12:¬s1=s2:=fun e=>absurd (hinj 1 (by decide) 2 (by decide) e) (by decide)
   have n13:¬s1=s3:=fun e=>absurd (hinj 1 (by decide) 3 (by decide) e) (by decide)
   have n14:¬s1=d1:=fun e=>absurd (hinj 1 (by decide) 4 (by decide) e) (by decide)
   have n15:¬s1=d2:=fun e=>absurd (hinj 1 (by decide) 5 (by decide) e) (by decide)
   have n20:¬s2=s0:=fun e=>absurd (hinj 2 (by decide) 0 (by decide) e) (by decide)
   have n21:¬s2=s1:=fun e=>absurd (hinj 2 (by decide) 1 (by decide) e) (by decide)
   have n23:¬s2=s3:=fun e=>absurd (hinj 2 (by decide) 3 (by decide) e) (by decide)
   have n24:¬s2=d1:=fun e=>absurd (hinj 2 (by decide) 4 (by decide) e) (by decide)
   have n25:¬s2=d2:=fun e=>absurd (hinj 2 (by decide) 5 (by decide) e) (by decide)
   have n30:¬s3=s0:=fun e=>absurd (hinj 3 (by decide) 0 (by decide) e) (by decide)
   have n31:¬s3=s1:=fun e=>absurd (hinj 3 (by decide) 1 (by decide) e) (by decide)
   have n32:¬s3=s2:=fun e=>absurd (hinj 3 (by decide) 2 (by decide) e) (by decide)
   have n34:¬s3=d1:=fun e=>absurd (hinj 3 (by decide) 4 (by decide) e) (by decide)
   have n35:¬s3=d2:=fun e=>absurd (hinj 3 (by decide) 5 (by decide) e) (by decide)
   have n40:¬d1=s0:=fun e=>absurd (hinj 4 (by decide) 0 (by decide) e) (by decide)
   have n41:¬d1=s1:=fun e=>absurd (hinj 4 (by decide) 1 (by decide) e) (by decide)
   have n42:¬d1=s2:=fun e=>absurd (hinj 4 (by decide) 2 (by decide) e) (by decide)
   have n43:¬d1=s3:=fun e=>absurd (hinj 4 (by decide) 3 (by decide) e) (by decide)
   have n45:¬d1=d2:=fun e=>absurd (hinj 4 (by decide) 5 (by decide) e) (by decide)
   have n50:¬d2=s0:=fun e=>absurd (hinj 5 (by decide) 0 (by decide) e) (by decide)
   have n51:¬d2=s1:=fun e=>absurd (hinj 5 (by decide) 1 (by decide) e) (by decide)
   have n52:¬d2=s2:=fun e=>absurd (hinj 5 (by decide) 2 (by decide) e) (by decide)
   have n53:¬d2=s3:=fun e=>absurd (hinj 5 (by decide) 3 (by decide) e) (by decide)
   have n54:¬d2=d1:=fun e=>absurd (hinj 5 (by decide) 4 (by decide) e) (by decide)
   refine act_ext (by simp[Act.put,inv.size]) (by simp[Act.put,inv.defers]) fun s=>?_
   simp only[put_some]
   by_cases q0:s0=s
   ·subst q0;simp only[if_true,n10,if_false,n20,if_false,n30,if_false,n40,if_false,n50,if_false];have h1:=inv.on 0 (by decide) (hall' 0 (by decide));have h2:=hlt 0 (by decide);simp only[sg,vv,Nat.reduceEqDiff,reduceIte] at h1 h2;rw[h1];simp[h2]
   by_cases q1:s1=s
   ·subst q1;simp only[if_true,n01,if_false,n21,if_false,n31,if_false,n41,if_false,n51,if_false];have h1:=inv.on 1 (by decide) (hall' 1 (by decide));have h2:=hlt 1 (by decide);simp only[sg,vv,Nat.reduceEqDiff,reduceIte] at h1 h2;rw[h1];simp[h2]
   by_cases q2:s2=s
   ·subst q2;simp only[if_true,n02,if_false,n12,if_false,n32,if_false,n42,if_false,n52,if_false];have h1:=inv.on 2 (by decide) (hall' 2 (by decide));have h2:=hlt 2 (by decide);simp only[sg,vv,Nat.reduceEqDiff,reduceIte] at h1 h2;rw[h1];simp[h2]
   by_cases q3:s3=s
   ·subst q3;simp only[if_true,n03,if_false,n13,if_false,n23,if_false,n43,if_false,n53,if_false];have h1:=inv.on 3 (by decide) (hall' 3 (by decide));have h2:=hlt 3 (by decide);simp only[sg,vv,Nat.reduceEqDiff,reduceIte] at h1 h2;rw[h1];simp[h2]
   by_cases q4:d1=s
   ·subst q4;simp only[if_true,n04,if_false,n14,if_false,n24,if_false,n34,if_false,n54,if_false];have h1:=inv.on 4 (by decide) (hall' 4 (by decide));have h2:=hlt 4 (by decide);simp only[sg,vv,Nat.reduceEqDiff,reduceIte] at h1 h2;rw[h1];simp[h2]
   by_cases q5:d2=s
   ·subst q5;simp only[if_true,n05,if_false,n15,if_false,n25,if_false,n35,if_false,n45,if_false];have h1:=inv.on 5 (by decide) (hall' 5 (by decide));have h2:=hlt 5 (by decide);simp only[sg,vv,Nat.reduceEqDiff,reduceIte] at h1 h2;rw[h1];simp[h2]
   simp only[q0,q1,q2,q3,q4,q5,if_false];exact inv.off s (six q0 q1 q2 q3 q4 q5)
  rw[heq];exact HH
end Go.Proofs.YthcjfanigfgckaaGreat
