/- HiddenOrder: whatever the input, the law returns true and leaves its arguments as they read. No condition. -/
import Derived.Test.YthcjfanigfgckaaGreatSHiddenOrder51
import Derived.Test.YthcjfanigfgckaaGreatSHiddenOrder52
import Derived.Test.YthcjfanigfgckaaGreatSHiddenOrder53
set_option linter.unusedVariables false
set_option linter.unusedSimpArgs false
set_option maxRecDepth 100000
set_option maxHeartbeats 16000000
namespace Go.Proofs.YthcjfanigfgckaaGreat
open Go.RowKit
section
open Go.RowKit Go.ChangeShapes Go.WideShapes
def HiddenOrder_stmt:Prop:=∀ (aL:Value) (aSFactor:Int) (aSUnits:Int) (aSCcw:Bool) (aSCull:Int) (aSWidth:Int) (aSLine0:Int) (aSLine1:Int) (aSLine2:Int) (aSLine3:Int) (aW:Int) (aH:Int) (aFar:Int) (b:Int) (w:World),((∃ zaL,Sls w 2 (fun r=>∃ (eaLV:Value) (eaLE:Value),r=[eaLV,eaLE]/\(∃ zeaLV,Sls w 3 (fun r=>∃ (eeaLV0:Int) (eeaLV1:Int) (eeaLV2:Int),r=[.int .i64 eeaLV0,.int .i64 eeaLV1,.int .i64 eeaLV2]/\(-9223372036854775808<=eeaLV0/\eeaLV0<=9223372036854775807)/\(-9223372036854775808<=eeaLV1/\eeaLV1<=9223372036854775807)/\(-9223372036854775808<=eeaLV2/\eeaLV2<=9223372036854775807)) eaLV zeaLV)/\(∃ zeaLE,Sls w 1 (fun r=>∃ (eeaLE:Bool),r=[.bool eeaLE]/\True) eaLE zeaLE)) aL zaL)/\(-9223372036854775808<=aSFactor/\aSFactor<=9223372036854775807)/\(-9223372036854775808<=aSUnits/\aSUnits<=9223372036854775807)/\(-9223372036854775808<=aSCull/\aSCull<=9223372036854775807)/\(-9223372036854775808<=aSWidth/\aSWidth<=9223372036854775807)/\(-9223372036854775808<=aSLine0/\aSLine0<=9223372036854775807)/\(-9223372036854775808<=aSLine1/\aSLine1<=9223372036854775807)/\(-9223372036854775808<=aSLine2/\aSLine2<=9223372036854775807)/\(-9223372036854775808<=aSLine3/\aSLine3<=9223372036854775807)/\(0<=aW/\aW<=255)/\(0<=aH/\aH<=255)/\(-9223372036854775808<=aFar/\aFar<=9223372036854775807))->((0<=b/\b<=255))->Calls Tryz.prog 8 #[.agg #[aL,.int .i64 aSFactor,.int .i64 aSUnits,.bool aSCcw,.int .i64 aSCull,.int .i64 aSWidth,.int .i64 aSLine0,.int .i64 aSLine1,.int .i64 aSLine2,.int .i64 aSLine3,.int .u8 aW,.int .u8 aH,.int .i64 aFar],.int .u8 b] w (Ret (.bool true) w)
theorem HiddenOrder_end (hw:HiddenOrder_stmt):Rows.HiddenOrderSaid :=
 OpenClaim.holds_of_wide 8 Tryz.f8 rfl rfl rfl rfl rfl rfl rfl ⟨rfl,rfl,rfl,rfl,rfl⟩ rfl rfl rfl rfl rfl (by kernel_rfl) Tryz.func8 (by kernel_rfl) (of_decide_eq_true (by kernel_rfl))
  (by unfold Func.isWrapper;rw[if_neg (of_decide_eq_false (by kernel_rfl))];exact ⟨rfl,rfl⟩)
  (fun os started H enc _=>law_lifted Rows.hiddenOrderSpec 8 Tryz.f8 (by kernel_rfl) Tryz.func8 rfl rfl
   (fun H ds hl=>by
    rw[Tryz.params8] at hl;obtain ⟨d0,d1,rfl⟩:=list_2 ds hl;exact ⟨rfl,rfl,rfl⟩) (by kernel_rfl)
   (fun W args h=>by
    obtain ⟨H,enc,ds,ps,base,hA,hval,hlt,hfz⟩:=h;rw[Tryz.params8] at hA hval;obtain ⟨v0,vs0,d0,ds0,p0,q0,e0,-,-,h0,r0⟩:=trodAll_cons hA;obtain ⟨v1,vs1,d1,ds1,p1,q1,e1,-,-,h1,r1⟩:=trodAll_cons r0;obtain ⟨e2,-,-⟩:=trodAll_nil r1;obtain rfl:args=#[v0,v1]:=by rw[<-Array.toArray_toList (xs:=args),e0,e1,e2]
    obtain ⟨aL,aSFactor,aSUnits,aSCcw,aSCull,aSWidth,aSLine0,aSLine1,aSLine2,aSLine3,aW,aH,aFar,rfl,f0⟩:=arg_rastrumlaw27_Art (hval 0 _ v0 rfl rfl) h0;obtain ⟨b,rfl,f1⟩:=arg_uint8 (hval 1 _ v1 rfl rfl) h1;exact hw aL aSFactor aSUnits aSCcw aSCull aSWidth aSLine0 aSLine1 aSLine2 aSLine3 aW aH aFar b W f0 f1)
   os started H enc (ChangeSpec.witness6 (enc:=enc) (C:=Tryz.checked) false ⟨#[],#[.agg #[.slice none 0 0,.int .i64 0,.int .i64 0,.bool false,.int .i64 0,.int .i64 0,.int .i64 0,.int .i64 0,.int .i64 0,.int .i64 0,.int .u8 0,.int .u8 0,.int .i64 0],.int .u8 0],[]⟩ 8 (by kernel_rfl) (by kernel_rfl) (by kernel_rfl) (by kernel_rfl)))
end
/- HiddenOrder: whatever the input,the law returns true and leaves its arguments as they read. No condition. -/
theorem order27_no (av:Option Addr) (n cap:Nat) (s:SkP) (aW aH far bb:Int) (w:World) (my:∀ X,Calls Tryz.prog 24 #[artV (.slice av n cap) s aW aH far] (w.ext X) (Ret (.bool false) (w.ext X))):Calls Tryz.prog 8 #[artV (.slice av n cap) s aW aH far,.int .u8 bb] w (Ret (.bool true) w):=by
 have MY:=jj my;have AW:=jj (fun w=>awake27 w);clear my
 go_enter Tryz.func8,Tryz.ntmps8
 go_upto_region 1 with fail
 refine wp_abs (F:=fun w1=>Row w1 w.heap.size #[.slice av n cap,.int .i64 s.factor,.int .i64 s.units,.bool s.ccw,.int .i64 s.cull,.int .i64 s.width,.int .i64 s.c0,.int .i64 s.c1,.int .i64 s.c2,.int .i64 s.c3,.int .u8 aW,.int .u8 aH,.int .i64 far] 50/\∃ X,w1=w.ext X) ⟨by exact rx_,jz (by exact bx_)⟩ ?_;rintro w1 ⟨Ra,X1,hX1⟩;have MY0:=jj (by rw[hX1];exact MY.out X1:Calls Tryz.prog 24 #[artV (.slice av n cap) s aW aH far] w1 (Ret (.bool false) w1));have HX:=jj (show ∃ X,w1=w.ext X from ⟨X1,hX1⟩);have ca:=Ra.cell;have fa:=Ra.frozen;have la:=Ra.lt;have da:=World.rowD_of Ra;clear Ra hX1 MY
 go_wp2_with (first|(go_at_call 24;(with_reducible refine (MY0.out).mono ?_);rintro _ _ ⟨rfl,X_,rfl⟩)|(go_at_call 25;(with_reducible refine (AW.out _).mono ?_);rintro _ _ ⟨rfl,X_,rfl⟩))
 go_ret;obtain ⟨X0,hX0⟩:=HX.out;subst hX0;exact Ret.of' rfl (by exact br_)
theorem order27_not (v:Value) (S:List PsP) (l:List PolP) (s:SkP) (aW aH far bb:Int) (w:World) (hp:PolsR w v S l) (hh:¬hidP l s) (my:∀ X,Calls Tryz.prog 24 #[artV v s aW aH far] (w.ext X) (Ret (.bool true) (w.ext X))):Calls Tryz.prog 8 #[artV v s aW aH far,.int .u8 bb] w (Ret (.bool true) w):=by
 have MY:=jj my;have AW:=jj (fun w=>awake27 w);have RI:=jj (fun v S w h=>decide_eq_false hh▸rhright v S l s w h);have HP:=jj hp;obtain ⟨-,av,cap,rfl,-,-⟩:=hp.r;clear my hp hh
 go_enter Tryz.func8,Tryz.ntmps8
 go_upto_region 1 with fail
 refine wp_abs (F:=fun w1=>Row w1 w.heap.size #[.slice av S.length cap,.int .i64 s.factor,.int .i64 s.units,.bool s.ccw,.int .i64 s.cull,.int .i64 s.width,.int .i64 s.c0,.int .i64 s.c1,.int .i64 s.c2,.int .i64 s.c3,.int .u8 aW,.int .u8 aH,.int .i64 far] 50/\∃ X,w1=w.ext X) ⟨by exact rx_,jz (by exact bx_)⟩ ?_;rintro w1 ⟨Ra,X1,hX1⟩;have MY0:=jj (by rw[hX1];exact MY.out X1:Calls Tryz.prog 24 #[artV (.slice av S.length cap) s aW aH far] w1 (Ret (.bool true) w1));have HP1:=jj (by rw[hX1];exact HP.out.ext X1:PolsR w1 (.slice av S.length cap) S l);have HX:=jj (show ∃ X,w1=w.ext X from ⟨X1,hX1⟩);have ca:=Ra.cell;have fa:=Ra.frozen;have la:=Ra.lt;have da:=World.rowD_of Ra;clear Ra hX1 MY HP
 go_wp2_with (first|(go_at_call 24;(with_reducible refine (MY0.out).mono ?_);rintro _ _ ⟨rfl,X_,rfl⟩)|(go_at_call 34;(with_reducible refine (RI.out _ S _ (by repeat (first|with_reducible exact HP1.out|with_reducible refine PolsR.ext ?_ _|with_reducible refine PolsR.alloc ?_ _|with_reducible refine PolsR.drew ?_))).mono ?_);rintro _ _ ⟨rfl,X_,rfl⟩)|(go_at_call 25;(with_reducible refine (AW.out _).mono ?_);rintro _ _ ⟨rfl,X_,rfl⟩))
 go_ret;obtain ⟨X0,hX0⟩:=HX.out;subst hX0;exact Ret.of' rfl (by exact br_)
theorem order27_nil (v:Value) (S:List PsP) (l:List PolP) (s:SkP) (aW aH far bb:Int) (w:World) (hp:PolsR w v S l) (hh:hidP l s) (h0:S.length=0) (my:∀ X,Calls Tryz.prog 24 #[artV v s aW aH far] (w.ext X) (Ret (.bool true) (w.ext X))):Calls Tryz.prog 8 #[artV v s aW aH far,.int .u8 bb] w (Ret (.bool true) w):=by
 have MY:=jj my;have AW:=jj (fun w=>awake27 w);have RI:=jj (fun v S w h=>decide_eq_true hh▸rhright v S l s w h);have HP:=jj hp;obtain ⟨-,av,cap,rfl,-,-⟩:=hp.r;clear my hp hh;have h0i:((S.length:Int)==0)=true:=by simp[h0]
 clear h0
 go_enter Tryz.func8,Tryz.ntmps8
 go_upto_region 1 with fail
 refine wp_abs (F:=fun w1=>Row w1 w.heap.size #[.slice av S.length cap,.int .i64 s.factor,.int .i64 s.units,.bool s.ccw,.int .i64 s.cull,.int .i64 s.width,.int .i64 s.c0,.int .i64 s.c1,.int .i64 s.c2,.int .i64 s.c3,.int .u8 aW,.int .u8 aH,.int .i64 far] 50/\∃ X,w1=w.ext X) ⟨by exact rx_,jz (by exact bx_)⟩ ?_;rintro w1 ⟨Ra,X1,hX1⟩;have MY0:=jj (by rw[hX1];exact MY.out X1:Calls Tryz.prog 24 #[artV (.slice av S.length cap) s aW aH far] w1 (Ret (.bool true) w1));have HP1:=jj (by rw[hX1];exact HP.out.ext X1:PolsR w1 (.slice av S.length cap) S l);have HX:=jj (show ∃ X,w1=w.ext X from ⟨X1,hX1⟩);have ca:=Ra.cell;have fa:=Ra.frozen;have la:=Ra.lt;have da:=World.rowD_of Ra;clear Ra hX1 MY HP
 go_wp2_with (first|(go_at_call 24;(with_reducible refine (MY0.out).mono ?_);rintro _ _ ⟨rfl,X_,rfl⟩)|(go_at_call 34;(with_reducible refine (RI.out _ S _ (by repeat (first|with_reducible exact HP1.out|with_reducible refine PolsR.ext ?_ _|with_reducible refine PolsR.alloc ?_ _|with_reducible refine PolsR.drew ?_))).mono ?_);rintro _ _ ⟨rfl,X_,rfl⟩)|(go_at_call 25;(with_reducible refine (AW.out _).mono ?_);rintro _ _ ⟨rfl,X_,rfl⟩))
 go_ret;obtain ⟨X0,hX0⟩:=HX.out;subst hX0;exact Ret.of' rfl (by exact br_)
def ordL {α:Type} (L:List α) (k:Nat):List α:=(L.drop k++L.take k).reverse
theorem ord_len {α:Type} (L:List α) (k:Nat) (hk:k<L.length):(ordL L k).length=L.length:=by
 unfold ordL;simp only[List.length_reverse,List.length_append,List.length_drop,List.length_take];omega
theorem ord_get {α:Type} (L:List α) (k j:Nat) (hk:k<L.length) (hj:j<L.length):(ordL L k)[j]?=L[(L.length-1-j+k)%L.length]?:=by
 have e:(L.drop k++L.take k).length=L.length:=by simp only[List.length_append,List.length_drop,List.length_take];omega
 unfold ordL;rw[List.getElem?_reverse (by omega),e]
 by_cases h:L.length-1-j<L.length-k
 ·rw[List.getElem?_append_left (by simpa using h),List.getElem?_drop,Nat.mod_eq_of_lt (by omega),Nat.add_comm]
 ·rw[List.getElem?_append_right (by simpa using h),List.length_drop,List.getElem?_take,if_pos (by omega)]
  congr 1
  rw[Nat.mod_eq_sub_mod (by omega),Nat.mod_eq_of_lt (by omega)];omega
theorem ord_mem {α:Type} (L:List α) (k:Nat) (p:α):p∈ordL L k↔p∈L:=by
 unfold ordL;rw[List.mem_reverse,List.mem_append,Or.comm,<-List.mem_append,List.take_append_drop]
theorem ord_hid {l:List PolP} {s:SkP} {k:Nat} (hk:k<l.length) (h:hidP l s):hidP (ordL l k) s:=by
 obtain ⟨h1,h2,h3⟩:=h;exact ⟨by rw[ord_len l k hk];exact h1,fun p hp=>h2 p ((ord_mem l k p).1 hp),h3⟩
theorem ord_pols {w:World} {v v':Value} {S:List PsP} {l:List PolP} {k:Nat} (hp:PolsR w v S l) (hk:k<S.length) (hr:Recs psK w v' (ordL S k)):PolsR w v' (ordL S k) (ordL l k):=by
 have hn:=hp.n;refine ⟨hr,by rw[ord_len S k hk,ord_len l k (by omega)];exact hn,fun i q p h1 h2=>?_⟩;have hi:i<S.length:=by
  have:=(List.getElem?_eq_some_iff.1 h1).1
  rwa [ord_len S k hk] at this
 rw[ord_get S k i hk hi] at h1;rw[ord_get l k i (by omega) (by omega),<-hn] at h2;exact hp.p _ q p h1 h2
theorem info_poly27:(Tryz.prog.info? 68).map (fun i=>(i.zero,i.size,i.bytes))=some (some (.agg #[.slice none 0 0,.slice none 0 0]),2,48):=by kernel_rfl
theorem order27_yes (v:Value) (S:List PsP) (l:List PolP) (s:SkP) (aW aH far bb:Int) (w:World) (h12:S.length<=12) (h1:1<=S.length) (hp:PolsR w v S l) (hs:s.wide) (hh:hidP l s) (hW:0<=aW/\aW<=255) (hH:0<=aH/\aH<=255) (hb:0<=bb/\bb<=255) (f0:0<=far) (f1:far<=16777215) (my:∀ X,Calls Tryz.prog 24 #[artV v s aW aH far] (w.ext X) (Ret (.bool true) (w.ext X))):Calls Tryz.prog 8 #[artV v s aW aH far,.int .u8 bb] w (Ret (.bool true) w):=by
 obtain ⟨n,hn,n1,n2⟩:=blank_bd (W:=1+aW%12) (H:=1+aH%12) (by omega) (by omega) (by omega) (by omega);have okI:ImOk (1+aW%12) (1+aH%12) (List.replicate n 0) (List.replicate n far):=blank_ok (by omega) (by omega) (by omega) (by omega) hn f0 f1;have MY:=jj my;have AW:=jj (fun w=>awake27 w);have RI:=jj (fun v S w h=>decide_eq_true hh▸rhright v S l s w h);have BK:=jj (fun w=>hblankC v s aW aH far n w hW hH hn f0 f1);have hN:=hp.n
 -- the number by which it turns
 have e0:=Int.emod_nonneg bb (show (S.length:Int)≠0 by omega);have e1:=Int.emod_lt_of_pos bb (show 0<(S.length:Int) by omega);obtain ⟨k,hk⟩:∃ k:Nat,bb%(S.length:Int)=k:=⟨(bb%(S.length:Int)).toNat,by omega⟩;have hkS:k<S.length:=by omega
 have hm2:bb.tmod (S.length:Int)=bb%(S.length:Int):=Int.tmod_eq_emod_of_nonneg hb.1;have D1:=fun wb w {bm g1 k1 g2 k2:Nat} hp hx hg hI=>hdraw v S l s wb w (bm:=bm) (g1:=g1) (k1:=k1) (g2:=g2) (k2:=k2) (W:=1+aW%12) (H:=1+aH%12) (C:=List.replicate n 0) (Z:=List.replicate n far) hp hx hg hI hs hh
 have D2:=fun v' wb w {bm g1 k1 g2 k2:Nat} hp hx hg hI=>hdraw v' (ordL S k) (ordL l k) s wb w (bm:=bm) (g1:=g1) (k1:=k1) (g2:=g2) (k2:=k2) (W:=1+aW%12) (H:=1+aH%12) (C:=List.replicate n 0) (Z:=List.replicate n far) hp hx hg hI hs (ord_hid (by omega) hh)
 rw[hid_same (l:=ordL l k) (l':=l) (ord_mem l k) okI] at D2;have okD:=hid_ok (l:=l) (s:=s) okI;obtain ⟨D,hD⟩:∃ D,hidImg l s (1+aW%12) (1+aH%12) (List.replicate n 0) (List.replicate n far)=D:=⟨_,rfl⟩;rw[hD] at D1 D2 okD;obtain ⟨W,hWe⟩:∃ W,1+aW%12=W:=⟨_,rfl⟩;obtain ⟨H,hHe⟩:∃ H,1+aH%12=H:=⟨_,rfl⟩;rw[hWe,hHe] at BK D1 D2 okI okD;have OP:=jj (fun (wr:World) v' (hp:PolsR wr v S l) hr=>ord_pols (k:=k) (v':=v') hp hkS hr);obtain ⟨SO,hSO⟩:∃ SO,ordL S k=SO:=⟨_,rfl⟩;obtain ⟨LO,hLO⟩:∃ LO,ordL l k=LO:=⟨_,rfl⟩;have OG:=jj (fun j (hj:j<S.length)=>hSO▸ord_get S k j hkS hj);have OL:=jj (hSO▸ord_len S k hkS);rw[hSO,hLO] at D2 OP;have HD1:=jj @D1;have HD2:=jj @D2;have HOK:=jj okI;have HOD:=jj okD;have HP:=jj hp;obtain ⟨-,av,cap,rfl,-,-⟩:=hp.r;obtain ⟨i0,hii,hz0,hz1,hz2⟩:=info_parts info_poly27;have HK:=jj hk;have h0i:((S.length:Int)==0)=false:=beq_eq_false_iff_ne.2 (by omega);have h0n:¬(S.length:Int)=0:=by omega
 clear my hp hs hh hW hH f0 f1 D1 D2 okI okD hD hWe hHe hSO hLO hN hn
 go_enter Tryz.func8,Tryz.ntmps8
 go_upto_region 1 with fail
 refine wp_abs (F:=fun w1=>Row w1 w.heap.size #[.slice av S.length cap,.int .i64 s.factor,.int .i64 s.units,.bool s.ccw,.int .i64 s.cull,.int .i64 s.width,.int .i64 s.c0,.int .i64 s.c1,.int .i64 s.c2,.int .i64 s.c3,.int .u8 aW,.int .u8 aH,.int .i64 far] 50/\∃ X,w1=w.ext X) ⟨by exact rx_,jz (by exact bx_)⟩ ?_;rintro w1 ⟨Ra,X1,hX1⟩;have MY0:=jj (by rw[hX1];exact MY.out X1:Calls Tryz.prog 24 #[artV (.slice av S.length cap) s aW aH far] w1 (Ret (.bool true) w1));have HP1:=jj (by rw[hX1];exact HP.out.ext X1:PolsR w1 (.slice av S.length cap) S l);have HX:=jj (show ∃ X,w1=w.ext X from ⟨X1,hX1⟩);have HRa:=jj Ra;have ca:=Ra.cell;have fa:=Ra.frozen;have la:=Ra.lt;have da:=World.rowD_of Ra;clear Ra hX1 MY;go_upto_region 3 with (first|(go_at_call 24;(with_reducible refine (MY0.out).mono ?_);rintro _ _ ⟨rfl,X_,rfl⟩)|(go_at_call 34;(with_reducible refine (RI.out _ S _ (by repeat (first|with_reducible exact HP1.out|with_reducible refine PolsR.ext ?_ _|with_reducible refine PolsR.alloc ?_ _|with_reducible refine PolsR.drew ?_))).mono ?_);rintro _ _ ⟨rfl,X_,rfl⟩))
 go_upto_region 4 with fail
 refine wp_abs (F:=fun w2=>Hid (Hold psK w w2 68 [(w.heap.size,#[.slice av S.length cap,.int .i64 s.factor,.int .i64 s.units,.bool s.ccw,.int .i64 s.cull,.int .i64 s.width,.int .i64 s.c0,.int .i64 s.c1,.int .i64 s.c2,.int .i64 s.c3,.int .u8 aW,.int .u8 aH,.int .i64 far],50)] (.slice none 0 0) [])) (jj (Hold.start (List.forall_mem_cons.2 ⟨by repeat (first|with_reducible exact HRa.out|with_reducible refine Row.ext ?_ _|with_reducible refine row_drew ?_|with_reducible refine Row.alloc ?_ _),by simp⟩) (by simp) (by obtain ⟨X0,hX0⟩:=HX.out;subst hX0;exact jz (by exact br_)))) ?_;clear HX HRa HP1 MY0 RI ca fa la da;intro w2 H2;have Ra:=H2.out.rows _ jq;have ca:=Ra.cell;have fa:=Ra.frozen;have la:=Ra.lt;clear Ra;go_upto_region 6 with fail
 clear ca fa la;go_loopw [7,6] (fun i o wr=>∃ (j:Nat) (vo:Value) (M:List PsP),j<=S.length/\i=.int .i64 ((S.length:Int)-1-j)/\o=vo/\Hid (SO.take j=M)/\Hid (Hold psK w wr 68 [(w.heap.size,#[.slice av S.length cap,.int .i64 s.factor,.int .i64 s.units,.bool s.ccw,.int .i64 s.cull,.int .i64 s.width,.int .i64 s.c0,.int .i64 s.c1,.int .i64 s.c2,.int .i64 s.c3,.int .u8 aW,.int .u8 aH,.int .i64 far],50)] vo M))
  (fun i _ _=>(intOf i+1).toNat)
 case atStart=>exact ⟨0,_,[],by omega,by simp,rfl,jj rfl,H2⟩
 case round =>
  clear H2;obtain ⟨j,vo,M,hj,rfl,hv,hM,hR⟩:=hrel;have hv:=hv.symm;subst hv;have Ra:=hR.out.rows _ jq;have ca:=Ra.cell;have fa:=Ra.frozen;have la:=Ra.lt;have da:=World.rowD_of Ra;clear Ra
  by_cases hlt:j<S.length
  ·have HJ:=jj (show j+1<=S.length from hlt);have hji:(0:Int)<=(S.length:Int)-1-j:=by omega
   obtain ⟨x,hx⟩:∃ x,(S.length-1-j+k)%S.length=x:=⟨_,rfl⟩;have hxl:x<S.length:=by rw[<-hx];exact Nat.mod_lt _ (by omega)
   have hxi:((S.length:Int)-1-j+k)%(S.length:Int)=x:=by
    rw[show (S.length:Int)-1-j+k=((S.length-1-j+k:Nat):Int) by omega,<-hx];simp
   obtain ⟨q,hq⟩:∃ f,S[x]?=some f:=⟨_,List.getElem?_eq_getElem hxl⟩;have og:=OG.out j hlt;rw[hx,hq] at og;obtain ⟨X0,hX0⟩:=hR.out.ext;have HPW:PolsR wr (.slice av S.length cap) S l:=by rw[hX0];exact HP.out.ext X0
   obtain ⟨-,av',cap',he,-,hcl⟩:=HPW.r;obtain ⟨rfl,rfl⟩:av=av'/\cap=cap':=by simpa using he
   rcases hcl with e|⟨lb,lo,rfl,hlb,hcl⟩
   ·rw[e] at hlt;simp at hlt
   have pa0:wr.cell? ⟨lb,lo+x*2,none⟩=some q.vs:=hcl x _ hq 0 _ rfl;have pa1:wr.cell? ⟨lb,lo+x*2+1,none⟩=some q.es:=hcl x _ hq 1 _ rfl;have E1:=jj (show SO.take (j+1)=M++[q] by rw[<-hM.out];exact take_next og);obtain ⟨SS,hS⟩:∃ SS,SS=[q]:=⟨_,rfl⟩;rw[<-hS] at E1;have hl1:SS.length=1:=by rw[hS];rfl
   have ES:=jj hS;have hml:M.length<=64:=by rw[<-hM.out,List.length_take];omega
   have LB1:=jj (show M.length+SS.length<=maxLen by unfold maxLen;omega);have LB2:=jj (show (M.length+SS.length)*48<=140737488355328 by omega);have LS:=jj hl1;have HXI:=jj hxi;have hxi2:((x:Int)).toNat=x:=by simp
   clear hcl hq he hX0 hS hl1 hml og HPW hx;obtain ⟨qva,qvn,qvc,qea,qen,qec⟩:=q;go_upto_region 8 with fail
   refine wp_region_rel 13 [none,none,none,none,none,none,none,none,some ([],srV (.int .i64 S.length)),none,none,none,some ([],srR psK SS)] (by kernel_rfl) (by kernel_rfl) ?_;simp only[jx]
   (repeat (first|(refine rel_none ?_;intro K_ hK_;go_big_quiet_op;go_big_quiet_on)|simp only[Act.put,List.setIfInBounds_toArray,List.set_cons_zero,List.set_cons_succ]))
   refine rel_some rfl (fun w_ hw_ hk_ K_ hK_=>?_) (fun e8 f8=>?_)
   ·obtain ⟨X_,rfl⟩:=hw_;have h_:=hK_ (.int .i64 (S.length:Int)) (wr.ext X_) rfl ⟨⟨#[],_⟩,(ext_none' _).symm⟩
    revert h_
    go_simp
    try exact id
   obtain rfl:=f8
   (repeat (first|(refine rel_none ?_;intro K_ hK_;go_big_quiet_op;go_big_quiet_on)|simp only[Act.put,List.setIfInBounds_toArray,List.set_cons_zero,List.set_cons_succ]))
   refine rel_some rfl (fun w_ hw_ hk_ K_ hK_=>?_) (fun e12 f12=>?_)
   ·obtain ⟨X_,rfl⟩:=hw_;have h_:=hK_ (.slice (some ⟨(wr.ext X_).heap.size,0,none⟩) 1 1) ((wr.ext X_).alloc (.cells #[.slice qva qvn qvc,.slice qea qen qec] 68)) (one_R ES.out rfl rfl) bk_X
    revert h_
    go_simp
    try exact id
   obtain ⟨ga,gc,rfl⟩:=f12
   (repeat (first|(refine rel_none ?_;intro K_ hK_;go_big_quiet_op;go_big_quiet_on)|simp only[Act.put,List.setIfInBounds_toArray,List.set_cons_zero,List.set_cons_succ]))
   refine rel_nil ?_;intro w_ hw_ kk;obtain ⟨X5,rfl⟩:=hw_;have hq:Recs psK _ (.slice ga SS.length gc) SS:=(kk (12,_) (by repeat (first|exact List.mem_cons_self|refine jk ?_)));have HQ:=jj hq;have hR5:=jj (hR.out.grow X5);have hsz:=hR5.out.size;clear hq kk ca fa la da
   go_wp2_with (first
    |(at_builtin;refine wpList_append_recs (K:=psK) rfl _ _ 46 rfl w.heap.size 68 i0 (.agg #[.slice none 0 0,.slice none 0 0]) 48 Tryz.underlying46 hii hz0 hz1 hz2 rfl vo M rfl hR5.out.own (.slice ga SS.length gc) SS rfl HQ.out LB1.out LB2.out (by omega) ?_;intro v' w5 hown hgrow;have h5:=jj (hR5.out.more hown hgrow)))
   go_roundw
   case rel=>exact ⟨j+1,_,M++SS,HJ.out,by go_num,rfl,E1,h5⟩
   case measure=>have:=HJ.out;simp[intOf];omega
  ·obtain rfl:j=S.length:=by omega
   have hm:SO=M:=by
    have e:SO.take S.length=SO:=by rw[<-OL.out];exact List.take_length
    rw[<-e];exact hM.out
   have hjn:¬(0:Int)<=(S.length:Int)-1-(S.length:Int):=by omega
   have hlb:M.length<=1099511627776:=by rw[<-hm,OL.out];omega
   have hrc:Recs psK wr vo SO:=by rw[hm];exact own_recs hR.out.own hlb
   have HRC:=jj hrc;clear hm hlb hrc hM;go_upto_region 9 with fail
   refine wp_abs (F:=fun w6=>Row w6 w.heap.size #[.slice av S.length cap,.int .i64 s.factor,.int .i64 s.units,.bool s.ccw,.int .i64 s.cull,.int .i64 s.width,.int .i64 s.c0,.int .i64 s.c1,.int .i64 s.c2,.int .i64 s.c3,.int .u8 aW,.int .u8 aH,.int .i64 far] 50/\Recs psK w6 vo SO/\∃ X,w6=w.ext X) ⟨by first|exact hR.out.rows _ jq|exact (hR.out.rows _ jq).ext _,by first|exact HRC.out|exact HRC.out.ext _,by obtain ⟨X0,hX0⟩:=hR.out.ext;rw[hX0];exact jz (by exact br_)⟩ ?_;clear ca fa la da hR HRC hjn;rintro w6 ⟨Ra,hrc,X6,hX6⟩;have hp6:PolsR w6 (.slice av S.length cap) S l:=by rw[hX6];exact HP.out.ext X6
   have HP6:=jj hp6;have HO6:=jj (OP.out w6 vo hp6 hrc);have B0:=jj (show Below w.heap.size w w6 by rw[hX6];exact (Below.refl _ _).ext (Nat.le_refl _) X6);have HRa:=jj Ra;have lra:=Ra.lt;clear Ra hrc hX6 hp6 HP OP;refine wp_blanks2 w.heap.size HOK.out (fun X=>BK.out (w6.ext X)) rfl HRa.out (by decide) (six (by simp[sg]) (by simp[sg]) (by simp[sg]) (by simp[sg]) (by simp[sg]) (by simp[sg])) (by decide) ?_;intro X qa g1 k1 g2 k2 qb g3 k3 g4 k4 T;simp only[Act.put,List.setIfInBounds_toArray,List.set_cons_zero,List.set_cons_succ,ptr];go_wp2;refine wp_abs (F:=fun wx=>Pair w6 wx W H (List.replicate n 0) (List.replicate n far) (List.replicate n 0) (List.replicate n far) qa g1 k1 g2 k2 qb g3 k3 g4 k4/\Row wx w.heap.size #[.slice av S.length cap,.int .i64 s.factor,.int .i64 s.units,.bool s.ccw,.int .i64 s.cull,.int .i64 s.width,.int .i64 s.c0,.int .i64 s.c1,.int .i64 s.c2,.int .i64 s.c3,.int .u8 aW,.int .u8 aH,.int .i64 far] 50) ⟨⟨T.a,T.b,T.lo,T.ap,(Below.refl _ _).ext (Nat.le_refl _) X⟩,by repeat (first|with_reducible exact HRa.out|with_reducible refine Row.ext ?_ _|with_reducible refine row_drew ?_|with_reducible refine Row.alloc ?_ _)⟩ ?_;clear T HRa BK;rintro wx ⟨PR,PM⟩;have p0:=PM.cell 0;have p1:=PM.cell 1;have p2:=PM.cell 2;have p3:=PM.cell 3;have p4:=PM.cell 4;have p5:=PM.cell 5;have p6:=PM.cell 6;have p7:=PM.cell 7;have p8:=PM.cell 8;have p9:=PM.cell 9;simp at p0 p1 p2 p3 p4 p5 p6 p7 p8 p9
   go_region_held3 (fun w'=>w'.cell? ⟨w.heap.size,0,none⟩=some (.slice av S.length cap)/\w'.cell? ⟨w.heap.size,1,none⟩=some (.int .i64 s.factor)/\w'.cell? ⟨w.heap.size,2,none⟩=some (.int .i64 s.units)/\w'.cell? ⟨w.heap.size,3,none⟩=some (.bool s.ccw)/\w'.cell? ⟨w.heap.size,4,none⟩=some (.int .i64 s.cull)/\w'.cell? ⟨w.heap.size,5,none⟩=some (.int .i64 s.width)/\w'.cell? ⟨w.heap.size,6,none⟩=some (.int .i64 s.c0)/\w'.cell? ⟨w.heap.size,7,none⟩=some (.int .i64 s.c1)/\w'.cell? ⟨w.heap.size,8,none⟩=some (.int .i64 s.c2)/\w'.cell? ⟨w.heap.size,9,none⟩=some (.int .i64 s.c3)) (go_simp) ((first
    |(go_at_call 31;(with_reducible refine (HD1.out w6 _ HP6.out PR.drew.bel.toExt ⟨PR.lo.2.1,PR.lo.2.2.1⟩ PR.a.drew).mono ?_);rintro _ w1 ⟨rfl,IA,CH⟩;have PR1:=PR.drew.stepA CH (fun k h=>h) IA;have PM1:=PR.drew.keep CH (fun k h=>by omega) (row_drew PM) (by omega);have r0:=PM1.cell 0;have r1:=PM1.cell 1;have r2:=PM1.cell 2;have r3:=PM1.cell 3;have r4:=PM1.cell 4;have r5:=PM1.cell 5;have r6:=PM1.cell 6;have r7:=PM1.cell 7;have r8:=PM1.cell 8;have r9:=PM1.cell 9;simp at r0 r1 r2 r3 r4 r5 r6 r7 r8 r9)
    |(go_at_call 31;(with_reducible refine (HD2.out vo w6 _ HO6.out PR1.bel.toExt ⟨PR1.lo.2.2.2.2.1,PR1.lo.2.2.2.2.2⟩ PR1.b).mono ?_);rintro _ w2 ⟨rfl,IB,CH2⟩;have PR2:=PR1.stepB CH2 (fun k h=>h) IB;have PM2:=PR1.keep CH2 (fun k h=>by omega) PM1 (by omega);have t0:=PM2.cell 0;have t1:=PM2.cell 1;have t2:=PM2.cell 2;have t3:=PM2.cell 3;have t4:=PM2.cell 4;have t5:=PM2.cell 5;have t6:=PM2.cell 6;have t7:=PM2.cell 7;have t8:=PM2.cell 8;have t9:=PM2.cell 9;simp at t0 t1 t2 t3 t4 t5 t6 t7 t8 t9)))
   have okD:=HOD.out;obtain ⟨ra,rz⟩:=PR2.a.rds;obtain ⟨rb,rbz⟩:=PR2.b.rds;have lcA:=okD.bd.2;have lzA:=okD.bz;have c0:=PR2.a.row.cell 0;have c1:=PR2.a.row.cell 1;have c2:=PR2.a.row.cell 2;have c3:=PR2.a.row.cell 3;have d0:=PR2.b.row.cell 0;have d1:=PR2.b.row.cell 1;have d2:=PR2.b.row.cell 2;have d3:=PR2.b.row.cell 3;simp at c0 c1 c2 c3 d0 d1 d2 d3;have ma:=PR2.a.row.lt;have mb:=PR2.b.row.lt;have ma':qa<=w2.heap.size:=by omega
   have mb':qb<=w2.heap.size:=by omega
   have BF:Below w.heap.size w w2:=B0.out.trans (PR2.bel.mono (by omega));have zf:w.heap.size<=w2.heap.size:=BF.size;clear p0 p1 p2 p3 p4 p5 p6 p7 p8 p9 r0 r1 r2 r3 r4 r5 r6 r7 r8 r9 t0 t1 t2 t3 t4 t5 t6 t7 t8 t9 okD
   go_wp2_with (first
    |(go_at_call 25;(with_reducible refine (AW.out _).mono ?_);rintro _ _ ⟨rfl,X_,rfl⟩)
    |(go_at_call 33;(with_reducible refine (same_yes W H _ _ _ _ D.1 D.2 _ ?_ ?_ ?_ ?_ lcA lzA).mono ?_);(repeat (first|assumption|with_reducible refine Rd.ext ?_ _|with_reducible refine Rd.alloc ?_ _|with_reducible refine Rd.drew ?_));(repeat (first|assumption|with_reducible refine Rd.ext ?_ _|with_reducible refine Rd.alloc ?_ _|with_reducible refine Rd.drew ?_));(repeat (first|assumption|with_reducible refine Rd.ext ?_ _|with_reducible refine Rd.alloc ?_ _|with_reducible refine Rd.drew ?_));(repeat (first|assumption|with_reducible refine Rd.ext ?_ _|with_reducible refine Rd.alloc ?_ _|with_reducible refine Rd.drew ?_));rintro _ _ ⟨rfl,X_,rfl⟩))
   go_ret;exact Ret.of' (by simp) (by repeat (first|exact BF|(with_reducible refine Below.ext ?_ (by first|omega|(simp;omega)) _)))
theorem HiddenOrder_holds:Rows.HiddenOrderSaid:=HiddenOrder_end fun aL f u c k wd c0 c1 c2 c3 aW aH far bb w h hb=>by
 obtain ⟨hL,hf,hu,hk,hwd,h0,h1,h2,h3,hW,hH,hF⟩:=h;rcases art_cases aL ⟨f,u,c,k,wd,c0,c1,c2,c3⟩ aW aH far w hL with ⟨a,n,cap,rfl,hn,my⟩|⟨S,l,h12,hp,f0,f1,my⟩
 ·exact order27_no a n cap ⟨f,u,c,k,wd,c0,c1,c2,c3⟩ aW aH far bb w my
 ·by_cases hh:hidP l ⟨f,u,c,k,wd,c0,c1,c2,c3⟩
  ·by_cases hz:S.length=0
   ·exact order27_nil aL S l ⟨f,u,c,k,wd,c0,c1,c2,c3⟩ aW aH far bb w hp hh hz my
   ·exact order27_yes aL S l ⟨f,u,c,k,wd,c0,c1,c2,c3⟩ aW aH far bb w h12 (by omega) hp ⟨hf,hu,hk,hwd,h0,h1,h2,h3⟩ hh hW hH hb f0 f1 my
  ·exact order27_not aL S l ⟨f,u,c,k,wd,c0,c1,c2,c3⟩ aW aH far bb w hp hh my
end Go.Proofs.YthcjfanigfgckaaGreat
