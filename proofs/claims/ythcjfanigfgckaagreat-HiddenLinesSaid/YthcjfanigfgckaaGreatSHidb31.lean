import Derived.Test.YthcjfanigfgckaaGreatSHidb30
set_option linter.unusedVariables false
set_option linter.unusedSimpArgs false
set_option maxRecDepth 100000
set_option maxHeartbeats 16000000
namespace Go.Proofs.YthcjfanigfgckaaGreat
open Go.RowKit _root_.Go.Proofs.Tryz
instance jh30 : Coe Nat Value := ⟨fun n => .int .i64 n⟩
theorem vF {w:World} {base:Nat} {T:TypeId} {a:Option Addr} {cap:Nat} {L:List MkP} (h:w.ownsRow base T 10 (.slice a L.length cap) L.length (L.flatMap MkP.cells)) (j:Nat) (s:MkP) (hs:L[j]?=some s) :
  ∃ b,a=some ⟨b,0,none⟩/\b<w.heap.size/\(w.cell? ⟨b,j*10+2,none⟩=some (.int .i64 s.f.x)/\w.cell? ⟨b,j*10+3,none⟩=some (.int .i64 s.f.y)/\w.cell? ⟨b,j*10+4,none⟩=some (.int .i64 s.f.z)/\w.cell? ⟨b,j*10+5,none⟩=some (.int .i64 s.f.c0)/\w.cell? ⟨b,j*10+6,none⟩=some (.int .i64 s.f.c1)/\w.cell? ⟨b,j*10+7,none⟩=some (.int .i64 s.f.c2)/\w.cell? ⟨b,j*10+8,none⟩=some (.int .i64 s.f.c3)/\w.cell? ⟨b,j*10+9,none⟩=some (.int .i64 s.f.cov)):=by
 rcases h.2 with ⟨e,e'⟩|⟨g,cap',cur,e,hb,hg,-⟩
 ·have:L=[]:=List.length_eq_zero_iff.1 e';subst this;simp at hs
 ·injection e with e1 _ e2
  subst e1 e2;have k:∀ i u,(MkP.cells s)[i]?=some u->w.cell? ⟨g,j*10+i,none⟩=some u:=fun i u hu=>by
   have:=h.cells (g:=g) rfl (j*10+i) u (mkK.flat_at L j s i u hs hu);rw[gB,Nat.zero_add] at this;exact this
  exact ⟨g,rfl,(Array.getElem?_eq_some_iff.1 hg).1,k 2 _ rfl,k 3 _ rfl,k 4 _ rfl,k 5 _ rfl,k 6 _ rfl,k 7 _ rfl,k 8 _ rfl,k 9 _ rfl⟩
theorem aEe (a b:WinP) (n:Int) (dd:Bool) (p r c x0 y0 x1 y1:Int) (h:¬gM a b n p r c) (w:World):Calls prog 98 #[a.v,b.v,n,.bool dd,D3 p r c,R4 x0 y0 x1 y1] w (kJ w [] p r c):=by
 have R:=jj (fun w=>decide_eq_false h▸fS a b n p r c w);clear h
 go_enter func98,ntmps98
 go_upto_region 2 with (first|(go_at_call 144;with_reducible refine jn (R.out _) fun X_=>?_))
 refine jm 2 ?_;simp only[jx]
 repeat (go_big_quiet_step ((fail)))
 refine jv fun X=>?_
 go_wp2;refine bodyPost_ret (v:=.tuple #[.slice none 0 0,D3 p r c]) (by simp[results,results98,go_sem];try rfl) rfl ?_;exact ⟨_,rfl,bJ _,jz (by exact bl_)⟩
theorem xJ (a b:WinP) (n:Int) (p r c x0 y0 x1 y1:Int) (h:gM a b n p r c) (hr:¬aM x0 y0 x1 y1) (w:World):Calls prog 98 #[a.v,b.v,n,.bool false,D3 p r c,R4 x0 y0 x1 y1] w (kJ w [] p r c):=by
 have R:=jj (fun w=>decide_eq_true h▸fS a b n p r c w);have RR:=jj (fun w=>decide_eq_false hr▸bQ x0 y0 x1 y1 w);have CO:=jj (fun w=>mB a b n h.1.f h.2.1.f h.2.2.1 w);clear h hr
 go_enter func98,ntmps98
 go_upto_region 8 with (first|(go_at_call 144;with_reducible refine jn (R.out _) fun X_=>?_)|(go_at_call 145;with_reducible refine jn (CO.out _) fun X_=>?_)|(go_at_call 38;with_reducible refine jn (RR.out _) fun X_=>?_))
 refine jm 2 ?_;simp only[jx]
 repeat (go_big_quiet_step ((fail)))
 refine jv fun X=>?_
 go_wp2;refine bodyPost_ret (v:=.tuple #[.slice none 0 0,D3 p r c]) (by simp[results,results98,go_sem];try rfl) rfl ?_;exact ⟨_,rfl,bJ _,jz (by exact bl_)⟩
theorem xI (a b:WinP) (n:Int) (p r c x0 y0 x1 y1:Int) (h:gM a b n p r c) (hr:¬aM x0 y0 x1 y1) (w:World):Calls prog 98 #[a.v,b.v,n,.bool true,D3 p r c,R4 x0 y0 x1 y1] w (kJ w [] p r ((c+(bS a b n).length)%(r*16))):=by
 have R:=jj (fun w=>decide_eq_true h▸fS a b n p r c w);have RR:=jj (fun w=>decide_eq_false hr▸bQ x0 y0 x1 y1 w);have CO:=jj (fun w=>mB a b n h.1.f h.2.1.f h.2.2.1 w);obtain ⟨m1,m2⟩:=kB h.1 h.2.1 h.2.2.1;have hcl:=fG h.1 h.2.1 h.2.2.1;obtain ⟨m,hm⟩:∃ m:Nat,(bS a b n).length=m:=⟨_,rfl⟩;have cn:∀ w,Calls prog 147 #[P2 (aR a b n a.x) (aQ a b n a.y),P2 (aR a b n b.x) (aQ a b n b.y)] w (Ret (.int .i64 (m:Int)) w):=fun w=>by
  rw[<-hm];exact nD (aR a b n a.x) (aQ a b n a.y) (aR a b n b.x) (aQ a b n b.y) m1 m2 w
 rw[hm] at hcl ⊢;have CN:=jj cn;have NX:=jj (fun w=>pL p r c (m:Int) h.2.2.2 (by omega) (by omega) w);clear h hr m1 m2 cn hm hcl
 go_enter func98,ntmps98
 go_upto_region 6 with (first|(go_at_call 144;with_reducible refine jn (R.out _) fun X_=>?_)|(go_at_call 145;with_reducible refine jn (CO.out _) fun X_=>?_))
 refine jm 5 ?_;simp only[jx]
 repeat (go_big_quiet_step ((first|(go_at_call 147;with_reducible exact Calls.quiet_ret (CN.out _))|(go_at_call 146;with_reducible exact Calls.quiet_ret (NX.out _)))))
 refine jv fun X6=>?_
 go_upto_region 8 with (first|(go_at_call 38;with_reducible refine jn (RR.out _) fun X_=>?_))
 refine jm 2 ?_;simp only[jx]
 repeat (go_big_quiet_step ((fail)))
 refine jv fun X=>?_
 go_wp2;refine bodyPost_ret (v:=.tuple #[.slice none 0 0,D3 p r ((c+m)%(r*16))]) (by simp[results,results98,go_sem];try rfl) rfl ?_;exact ⟨_,rfl,bJ _,jz (by exact bl_)⟩
end Go.Proofs.YthcjfanigfgckaaGreat
