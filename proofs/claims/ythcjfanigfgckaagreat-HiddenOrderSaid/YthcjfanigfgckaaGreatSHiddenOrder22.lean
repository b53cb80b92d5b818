import Derived.Test.YthcjfanigfgckaaGreatSHiddenOrder08
import Derived.Test.YthcjfanigfgckaaGreatSHiddenOrder21
set_option linter.unusedVariables false
set_option linter.unusedSimpArgs false
set_option maxRecDepth 100000
set_option maxHeartbeats 16000000
namespace Go.Proofs.YthcjfanigfgckaaGreat
open Go.RowKit
section
end
section
def srV (c:Value):SR Grows:=⟨fun v w=>v=c,fun v w w' h _=>h,fun v=>v=c,c,rfl,fun v w h=>h⟩
end
section
end
section
end
section
structure SumI (w:World) (V0:Value) (dd Z R:Int) (nz nr:Nat) (val:Nat->Value) (d:Nat->Bool) (w':World):Prop where
 ext:∃ X,w'=w.ext X
 c5:d 5=true->d 4=true
 f0:d 0=true->val 0=V0
 f1:d 1=true->val 1=.int .i64 dd
 f2:d 2=true->val 2=I2 dd
 f3:d 3=true->RN w' (val 3) dd 129
 f4:d 4=true->∃ q r,val 4=.tuple #[q,r]/\RN w' q Z nz/\RN w' r R nr
 f5:d 5=true->val 5=val 4
 f6:d 6=true->∃ q r,val 4=.tuple #[q,r]/\val 6=q
 f7:d 7=true->∃ q r,val 4=.tuple #[q,r]/\val 7=r
 f8:d 8=true->∃ p,val 8=.pointer (some ⟨p,0,none⟩)/\w.heap.size<=p/\p<w'.heap.size/\Hh p w'/\(d 10=true->Dd p Z nz w')
 f9:d 9=true->∃ p,val 9=.pointer (some ⟨p,0,none⟩)/\w.heap.size<=p/\p<w'.heap.size/\Hh p w'
 ne:d 8=true->d 9=true->val 8≠val 9
section
variable {w w':World} {V0:Value} {dd Z R:Int} {nz nr:Nat} {val:Nat->Value} {d:Nat->Bool}
theorem Dd.ext {p:Nat} {z:Int} {n:Nat} {w:World} (h:Dd p z n w) (X:Xt):Dd p z n (w.ext X):=by
 obtain ⟨m,s,r,g⟩:=h;exact ⟨m,s,r.ext X,g.ext X⟩
theorem SumI.grow (h:SumI w V0 dd Z R nz nr val d w') (X:Xt):SumI w V0 dd Z R nz nr val d (w'.ext X):=by
 obtain ⟨X0,hX0⟩:=h.ext;refine ⟨⟨_,by rw[hX0,World.ext_ext]⟩,h.c5,h.f0,h.f1,h.f2,fun k=>(h.f3 k).ext X,fun k=>?_,h.f5,h.f6,h.f7,fun k=>?_,fun k=>?_,h.ne⟩
 ·obtain ⟨q,r,e,g1,g2⟩:=h.f4 k;exact ⟨q,r,e,g1.ext X,g2.ext X⟩
 ·obtain ⟨p,e,l,l2,g,g2⟩:=h.f8 k;exact ⟨p,e,l,by simp;omega,g.ext X,fun k=>(g2 k).ext X⟩
 ·obtain ⟨p,e,l,l2,g⟩:=h.f9 k;exact ⟨p,e,l,by simp;omega,g.ext X⟩
theorem SumI.grown {w2:World} (h:SumI w V0 dd Z R nz nr val d w') (hb:∃ X,w2=w'.ext X):SumI w V0 dd Z R nz nr val d w2:=by
 obtain ⟨X,rfl⟩:=hb;exact h.grow X
end
end
section
attribute [local go_sem ↓] Go.wp_at_zero Go.wp_at_succ
theorem rounds_abs {b:Code} {Q:Exit->Act->World->Prop} {n:Nat} {a:Act} {w:World} (F:World->Prop) (hF:F w) (h:∀ wx,F wx->Code.rounds Tryz.prog b Q n a wx):Code.rounds Tryz.prog b Q n a w:=h _ hF
end
section
attribute [local go_sem ↓] Go.wp_at_zero Go.wp_at_succ
end
section
section
theorem mid_mm (p q n d:Int):min p q<=mid p q n d/\mid p q n d<=max p q:=by
 have:=mid_between p q n d;omega
end
section
end
section
end
section
attribute [local go_sem ↓] Go.wp_at_zero Go.wp_at_succ
end
end
section
section
structure MkP where
 k:Int
 m:Int
 f:FrP
def MkP.lt (s t:MkP):Prop:=s.k<t.k\/s.k=t.k/\s.m<t.m
instance (s t : MkP) : Decidable (s.lt t) := by unfold MkP.lt; exact inferInstance
section
variable {a b:WinP} {n p r c x0 y0 x1 y1:Int} {dd:Bool}
end
end
section
abbrev MkP.cells (s:MkP):List Value:=[.int .i64 s.k,.int .i64 s.m,.int .i64 s.f.x,.int .i64 s.f.y,.int .i64 s.f.z,.int .i64 s.f.c0,.int .i64 s.f.c1,.int .i64 s.f.c2,.int .i64 s.f.c3,.int .i64 s.f.cov]
abbrev MkP.v (s:MkP):Value:=.agg #[.int .i64 s.k,.int .i64 s.m,.int .i64 s.f.x,.int .i64 s.f.y,.int .i64 s.f.z,.int .i64 s.f.c0,.int .i64 s.f.c1,.int .i64 s.f.c2,.int .i64 s.f.c3,.int .i64 s.f.cov]
section
variable {α:Type} {K:RecK α}
theorem Hold.both {w wr w0 w1 w2:World} {E:TypeId} {R:List (Nat×Array Value×TypeId)} {v v0 v1 v2:Value} {L L':List α} {k1:Nat} {xs1:List Value} (h:Hold K w wr E R v L) (hB:Below wr.heap.size wr w0)
  (h0:v0.ownBlock=v.ownBlock\/v0.ownBlock=none) (hg1:w0.grownBy w1 v0.ownBlock) (hown1:w1.ownsRow w.heap.size E K.k v1 k1 xs1) (hg2:w1.grownBy w2 v1.ownBlock)
  (hown:w2.ownsRow w.heap.size E K.k v2 L'.length (L'.flatMap K.cells)):Hold K w w2 E R v2 L':=by
 have h':=h.grown hB;refine ⟨fun r hr=>?_,h.far,hown,?_⟩
 ·have r0:=h'.rows r hr;have nn:some r.1≠v0.ownBlock:=by
   rcases h0 with e|e
   ·rw[e];exact row_apart r0 (h.far r hr) h'.own
   ·rw[e];simp
  have r1:=r0.keptR hg1 nn;exact r1.keptR hg2 (row_apart r1 (h.far r hr) hown1)
 ·have b1:Below w.heap.size w w1:=Below.grown h'.below hg1 h'.size fun b hb=>by
   rcases h0 with e|e
   ·rw[e] at hb;exact (h'.own.lt b hb).1
   ·rw[e] at hb;cases hb
  exact jz (Below.grown b1 hg2 b1.size fun b hb=>(hown1.lt b hb).1)
end
end
section
end
end
end Go.Proofs.YthcjfanigfgckaaGreat
