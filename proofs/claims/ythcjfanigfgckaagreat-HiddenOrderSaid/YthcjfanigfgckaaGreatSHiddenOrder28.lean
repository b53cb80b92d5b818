import Derived.Test.YthcjfanigfgckaaGreatSHiddenOrder22
import Derived.Test.YthcjfanigfgckaaGreatSHiddenOrder27
set_option linter.unusedVariables false
set_option linter.unusedSimpArgs false
set_option maxRecDepth 100000
set_option maxHeartbeats 16000000
namespace Go.Proofs.YthcjfanigfgckaaGreat
open Go.RowKit
theorem info_span:(Tryz.prog.info? 166).map (fun i=>(i.zero,i.size,i.bytes))=some (some (.agg #[.int .i64 0,.int .i64 0,.int .i64 0]),3,24):=by kernel_rfl
theorem spans_no0 (a b c:WinP) (x0 y0 x1 y1:Int) (ha:a.fits) (hb:b.fits) (hc:c.fits) (h:ar a b c=0) (w:World):Calls Tryz.prog 121 #[a.v,b.v,c.v,R4 x0 y0 x1 y1] w (RLists spK w (spansL a b c x0 y0 x1 y1)):=by
 have e:spansL a b c x0 y0 x1 y1=[]:=if_pos (.inl h);rw[e];have S:=jj (fun w=>sides_no a b c ha hb hc h w);clear ha hb hc h e
 go_enter Tryz.func121,Tryz.ntmps121
 go_wp2_with (first|(go_at_call 178;(with_reducible refine (S.out _).mono ?_);rintro _ _ ⟨rfl,X_,rfl⟩))
 go_ret;exact ⟨_,rfl,recs_nil _,jz (by exact bl_)⟩
theorem spans_noR (a b c:WinP) (x0 y0 x1 y1:Int) (ha:a.fits) (hb:b.fits) (hc:c.fits) (h:ar a b c≠0) (hr:¬rightP x0 y0 x1 y1) (w:World):Calls Tryz.prog 121 #[a.v,b.v,c.v,R4 x0 y0 x1 y1] w (RLists spK w (spansL a b c x0 y0 x1 y1)):=by
 have e:spansL a b c x0 y0 x1 y1=[]:=if_pos (.inr hr);rw[e];have S:=jj (fun w=>sides_any a b c ha hb hc h w);have HR:=jj (fun w=>decide_eq_false hr▸rect_right x0 y0 x1 y1 w);clear ha hb hc h hr e
 go_enter Tryz.func121,Tryz.ntmps121
 go_wp2_with (first|(go_at_call 178;(with_reducible refine (S.out _).mono ?_);rintro _ _ ⟨g,rfl,⟨X_,rfl⟩,hg,hrow⟩)|(go_at_call 46;(with_reducible refine (HR.out _).mono ?_);rintro _ _ ⟨rfl,X_,rfl⟩))
 go_ret;exact ⟨_,rfl,recs_nil _,jz (by exact bl_)⟩
abbrev SpH (w:World) (a b c B C:WinP) (g:Nat) (x0 y0 x1 y1:Int) (v:Value) (L:List SpP) (wr:World):Prop:=Hold spK w wr 166 [(w.heap.size,#[.int .i64 a.x,.int .i64 a.y,.int .i64 a.z,.int .i64 a.c0,.int .i64 a.c1,.int .i64 a.c2,.int .i64 a.c3],45),(w.heap.size+1,#[.int .i64 b.x,.int .i64 b.y,.int .i64 b.z,.int .i64 b.c0,.int .i64 b.c1,.int .i64 b.c2,.int .i64 b.c3],45),(w.heap.size+1+1,#[.int .i64 c.x,.int .i64 c.y,.int .i64 c.z,.int .i64 c.c0,.int .i64 c.c1,.int .i64 c.c2,.int .i64 c.c3],45),(w.heap.size+1+1+1,#[.int .i64 x0,.int .i64 y0,.int .i64 x1,.int .i64 y1],29),(g,#[.int .i64 a.x,.int .i64 a.y,.int .i64 (B.x-a.x),.int .i64 (B.y-a.y),.int .i64 (leastS a B),.int .i64 B.x,.int .i64 B.y,.int .i64 (C.x-B.x),.int .i64 (C.y-B.y),.int .i64 (leastS B C),.int .i64 C.x,.int .i64 C.y,.int .i64 (a.x-C.x),.int .i64 (a.y-C.y),.int .i64 (leastS C a)],210)] v L
theorem spans_in (a b c:WinP) (x0 y0 x1 y1:Int) (ha:a.fits) (hb:b.fits) (hc:c.fits) (h:ar a b c≠0) (hr:rightP x0 y0 x1 y1) (w:World):Calls Tryz.prog 121 #[a.v,b.v,c.v,R4 x0 y0 x1 y1] w (RLists spK w (spansL a b c x0 y0 x1 y1)):=by
 have e:spansL a b c x0 y0 x1 y1=spansTo a b c x0 x1 y0 y1:=if_neg (fun h'=>h'.elim h (fun k=>k hr));rw[e];clear e;have S:=jj (fun w=>sides_any a b c ha hb hc h w);have HR:=jj (fun w=>decide_eq_true hr▸rect_right x0 y0 x1 y1 w);obtain ⟨fb,fc⟩:=triB_fits (a:=a) hb hc;obtain ⟨⟨r0,r1⟩,⟨r2,r3⟩,⟨r4,r5⟩,⟨r6,r7⟩,rx,ry⟩:=hr;have RW:=jj (fun (y:Int) (hy:Near 0 y)=>And.intro (fun w=>row20_any a (triB a b c) y x0 x1 ha fb hy w) (And.intro (fun w=>row20_any (triB a b c) (triC a b c) y (rowF a (triB a b c) y x0) (rowT a (triB a b c) y x0 x1) fb fc hy w) (fun w=>row20_any (triC a b c) a y (rowF (triB a b c) (triC a b c) y (rowF a (triB a b c) y x0)) (rowT (triB a b c) (triC a b c) y (rowF a (triB a b c) y x0) (rowT a (triB a b c) y x0 x1)) fc ha hy w)));have SP:=jj (fun y=>show spanAt a b c x0 x1 y=if rowF (triC a b c) a y (rowF (triB a b c) (triC a b c) y (rowF a (triB a b c) y x0))<rowT (triC a b c) a y (rowF (triB a b c) (triC a b c) y (rowF a (triB a b c) y x0)) (rowT (triB a b c) (triC a b c) y (rowF a (triB a b c) y x0) (rowT a (triB a b c) y x0 x1)) then [⟨y,rowF (triC a b c) a y (rowF (triB a b c) (triC a b c) y (rowF a (triB a b c) y x0)),rowT (triC a b c) a y (rowF (triB a b c) (triC a b c) y (rowF a (triB a b c) y x0)) (rowT (triB a b c) (triC a b c) y (rowF a (triB a b c) y x0) (rowT a (triB a b c) y x0 x1))⟩] else [] from rfl);have SN:=jj (fun y (hy:y0<=y)=>spansTo_snoc a b c x0 x1 y0 y hy);have SL:=jj (fun y=>spansTo_len a b c x0 x1 y0 y);have SS:=spans_start h x0 x1 y0;have SE:=spans_end h x0 x1 y0 y1;have lob:-268435456<=min a.y (min b.y c.y)/\min a.y (min b.y c.y)<=max a.y (max b.y c.y)/\max a.y (max b.y c.y)<=268435456:=by have:=ha.y0;have:=ha.y1;have:=hb.y0;have:=hb.y1;have:=hc.y0;have:=hc.y1;omega
 obtain ⟨lo,hlo⟩:∃ l,min a.y (min b.y c.y)=l:=⟨_,rfl⟩;obtain ⟨hi,hhi⟩:∃ l,max a.y (max b.y c.y)=l:=⟨_,rfl⟩;rw[hlo,hhi] at lob;rw[hlo] at SS;rw[hlo,hhi] at SE;obtain ⟨lo0,lo1,hi1⟩:=lob;have YB:=And.intro ha.y0 (And.intro ha.y1 (And.intro hb.y0 (And.intro hb.y1 (And.intro hc.y0 hc.y1))));obtain ⟨ya0,ya1,yb0,yb1,yc0,yc1⟩:=YB;obtain ⟨B,hB⟩:∃ B,triB a b c=B:=⟨_,rfl⟩;obtain ⟨C,hC⟩:∃ B,triC a b c=B:=⟨_,rfl⟩;simp only[hB,hC] at S RW SP;obtain ⟨T,hT⟩:∃ T,T=spansTo a b c x0 x1 y0:=⟨_,rfl⟩;obtain ⟨D,hD⟩:∃ D,D=spanAt a b c x0 x1:=⟨_,rfl⟩;simp only[<-hT,<-hD] at SP SN SL SS SE ⊢;have HS:=jj SS;have HE:=jj SE;clear hT hD ha hb hc fb fc h hB hC SS SE;have HLO:=jj hlo;have HHI:=jj hhi;clear hlo hhi
 go_enter Tryz.func121,Tryz.ntmps121
 go_upto_region 4 with (first|(go_at_call 178;(with_reducible refine (S.out _).mono ?_);rintro _ _ ⟨g,rfl,⟨XA,rfl⟩,hg,hrow⟩;have HG:=jj hg;have HRW:=jj hrow;clear hg hrow)|(go_at_call 46;(with_reducible refine (HR.out _).mono ?_);rintro _ _ ⟨rfl,X_,rfl⟩))
 refine wp_abs (F:=fun w1=>SpH w a b c B C g x0 y0 x1 y1 (.slice none 0 0) [] w1) (Hold.start (List.forall_mem_cons.2 ⟨by exact rx_,List.forall_mem_cons.2 ⟨by exact rx_,List.forall_mem_cons.2 ⟨by exact rx_,List.forall_mem_cons.2 ⟨by exact rx_,List.forall_mem_cons.2 ⟨HRW.out.ext _,by simp⟩⟩⟩⟩⟩) (by simp) (jz (by exact bl_))) ?_;intro w1 h1;have H1:=jj h1;clear h1;have a0:=H1.out.rows _ jq;simp only at a0;have a1:=a0.cell;have a2:=a0.frozen;have a3:=a0.lt;clear a0;have b0:=H1.out.rows _ (jk jq);simp only at b0;have b1:=b0.cell;have b2:=b0.frozen;have b3:=b0.lt;clear b0;have c0:=H1.out.rows _ (jk (jk jq));simp only at c0;have c1:=c0.cell;have c2:=c0.frozen;have c3:=c0.lt;clear c0;have d0:=H1.out.rows _ (jk (jk (jk jq)));simp only at d0;have d1:=d0.cell;have d2:=d0.frozen;have d3:=d0.lt;clear d0;go_upto_region 6 with fail
 clear a1 a2 a3 b1 b2 b3 c1 c2 c3 d1 d2 d3;rw[HLO.out,HHI.out];obtain ⟨LO,hLO⟩:∃ L,max y0 (lo/256-1)=L:=⟨_,rfl⟩;obtain ⟨HI,hHI⟩:∃ L,min y1 (hi/256+2)=L:=⟨_,rfl⟩;rw[hLO,hHI];rw[hLO] at HS;rw[hLO,hHI] at HE;have LO0:y0<=LO:=by omega
 have LO1:LO<=4194304:=by omega
 have HI1:HI<=y1:=by omega
 have HI0:-4194304<=HI:=by omega
 clear hLO hHI lo0 lo1 hi1 ya0 ya1 yb0 yb1 yc0 yc1 HLO HHI;obtain ⟨i0,hii,hz0,hz1,hz2⟩:=info_parts info_span;go_wp2;go_loopw [13,12] (fun i o wr=>∃ (y:Int) (v:Value) (L:List SpP),LO<=y/\y<=max LO HI/\i=.int .i64 y/\o=v/\Hid (L=T y)/\Hid (SpH w a b c B C g x0 y0 x1 y1 v L wr))
  (fun i _ _=>(HI-intOf i).toNat)
 case atStart=>exact ⟨LO,_,[],by omega,by omega,rfl,rfl,jj HS.out.symm,H1⟩
 case round =>
  clear H1;obtain ⟨y,v,L,hy0,hy1,rfl,hv,hL,hR⟩:=hrel;have hv:=hv.symm;subst hv
  by_cases hlt:y<HI
  ·obtain ⟨R1,R2,R3⟩:=RW.out y ⟨by omega,by omega,by omega,by omega⟩;have P1:=jj R1;have P2:=jj R2;have P3:=jj R3;have sp:=SP.out y;clear R1 R2 R3;have SQ:=jj sp;clear sp;obtain ⟨F1,hF1⟩:∃ F,rowF a B y x0=F:=⟨_,rfl⟩;obtain ⟨T1,hT1⟩:∃ F,rowT a B y x0 x1=F:=⟨_,rfl⟩;simp only[hF1,hT1] at P1 P2 P3 SQ;obtain ⟨F2,hF2⟩:∃ F,rowF B C y F1=F:=⟨_,rfl⟩;obtain ⟨T2,hT2⟩:∃ F,rowT B C y F1 T1=F:=⟨_,rfl⟩;simp only[hF2,hT2] at P2 P3 SQ;obtain ⟨F3,hF3⟩:∃ F,rowF C a y F2=F:=⟨_,rfl⟩;obtain ⟨T3,hT3⟩:∃ F,rowT C a y F2 T2=F:=⟨_,rfl⟩;simp only[hF3,hT3] at P3 SQ;clear hF1 hT1 hF2 hT2 hF3 hT3;have d0:=hR.out.rows _ (jk (jk (jk jq)));simp only at d0;have d1:=d0.cell;have d2:=d0.frozen;have d3:=d0.lt;clear d0;have s0:=hR.out.rows _ (jk (jk (jk (jk jq))));simp only at s0;have s1:=s0.cell;have s2:=s0.frozen;have s3:=s0.lt;clear s0;go_wp2;refine wp_region_ext (by kernel_rfl) (by kernel_rfl) ?_
   repeat (go_big_quiet_step ((fail)))
   refine wpQuiet_nil ?_;intro _ hw_ext;obtain ⟨X,hw_ext⟩:=hw_ext;subst hw_ext;go_wp2;refine wp_loop_rounds 4 ?_;rw[rounds_succ];go_wp2_with (first|(go_at_call 179;(with_reducible refine (P1.out _).mono ?_);rintro _ _ ⟨rfl,X_,rfl⟩))
   refine rounds_abs (F:=SpH w a b c B C g x0 y0 x1 y1 v L) (hR.out.grown (by exact bl_)) ?_;clear hR d1 d2 d3 s1 s2 s3;refine fun w2 h2=>?_
   have hR:=jj h2;clear h2;have s0:=hR.out.rows _ (jk (jk (jk (jk jq))));simp only at s0;have s1:=s0.cell;have s2:=s0.frozen;have s3:=s0.lt;clear s0;have d0:=hR.out.rows _ (jk (jk (jk jq)));simp only at d0;have d1:=d0.cell;have d2:=d0.frozen;have d3:=d0.lt;clear d0;rw[rounds_succ];go_wp2_with (first|(go_at_call 179;(with_reducible refine (P2.out _).mono ?_);rintro _ _ ⟨rfl,X_,rfl⟩))
   refine rounds_abs (F:=SpH w a b c B C g x0 y0 x1 y1 v L) (hR.out.grown (by exact bl_)) ?_;clear hR d1 d2 d3 s1 s2 s3;refine fun w2 h2=>?_
   have hR:=jj h2;clear h2;have s0:=hR.out.rows _ (jk (jk (jk (jk jq))));simp only at s0;have s1:=s0.cell;have s2:=s0.frozen;have s3:=s0.lt;clear s0;have d0:=hR.out.rows _ (jk (jk (jk jq)));simp only at d0;have d1:=d0.cell;have d2:=d0.frozen;have d3:=d0.lt;clear d0;rw[rounds_succ];go_wp2_with (first|(go_at_call 179;(with_reducible refine (P3.out _).mono ?_);rintro _ _ ⟨rfl,X_,rfl⟩))
   refine rounds_abs (F:=SpH w a b c B C g x0 y0 x1 y1 v L) (hR.out.grown (by exact bl_)) ?_;clear hR d1 d2 d3 s1 s2 s3;refine fun w2 h2=>?_
   have hR:=jj h2;clear h2;rw[rounds_succ]
   by_cases hft:F3<T3
   ·have e1:T (y+1)=L++[⟨y,F3,T3⟩]:=by rw[SN.out y (by omega),SQ.out,if_pos hft,<-hL.out]
    have E1:=jj e1;clear e1 SP SN SQ;have hsz:=hR.out.size;have hlb:L.length<=8388608:=by rw[hL.out];have:=SL y;omega
    have LB1:=jj (show L.length+1<=maxLen by unfold maxLen;omega);have LB2:=jj (show (L.length+1)*24<=140737488355328 by omega);clear hlb
    go_wp2_with (first
     |(at_builtin;refine wpList_append_own _ rfl _ _ 155 rfl w.heap.size 166 i0 (.agg #[.int .i64 0,.int .i64 0,.int .i64 0]) 3 24 Tryz.underlying155 hii hz0 hz1 hz2 rfl (by decide) v L.length (L.flatMap SpP.cells) rfl (hR.out.own.alloc _) ⟨w2.heap.size,0,none⟩ 1 1 (SpP.cells ⟨y,F3,T3⟩) rfl rfl (cells_newR rfl _ _) (spK.one ⟨y,F3,T3⟩) LB1.out LB2.out (by simp;omega) ?_;intro v' w5 hown hgrow _;have h5:=hR.out.snoc (s:=⟨y,F3,T3⟩) hown hgrow;have H5:=jj h5;clear hown hgrow h5))
    go_roundw
    case rel=>exact ⟨y+1,_,L++[⟨y,F3,T3⟩],by omega,by omega,rfl,rfl,jj E1.out.symm,H5⟩
    case measure=>simp[intOf];omega
   ·have e1:T (y+1)=L:=by rw[SN.out y (by omega),SQ.out,if_neg hft,List.append_nil,<-hL.out]
    have E1:=jj e1;clear e1 SP SN SQ;go_wp2;go_roundw
    case rel=>exact ⟨y+1,_,L,by omega,by omega,rfl,rfl,jj E1.out.symm,hR⟩
    case measure=>simp[intOf];omega
  ·clear SP SN;have e:=HE.out y (by omega) (by omega) (by omega) (by omega);have hL2:=jj (hL.out.trans e);clear e hL;go_wp2;go_ret;refine ⟨_,rfl,?_,hR.out.ext⟩;rw[<-hL2.out];exact own_recs hR.out.own (by rw[hL2.out];have:=SL y1;omega)
end Go.Proofs.YthcjfanigfgckaaGreat
