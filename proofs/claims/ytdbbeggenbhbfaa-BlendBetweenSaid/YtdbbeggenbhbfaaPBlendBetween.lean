/- BlendBetween: whatever the input, the law returns true and leaves its arguments as they read. No condition. -/
import Derived.Test.YtdbbeggenbhbfaaBlendL
import Derived.Test.YtdbbeggenbhbfaaEBlendBetween
namespace Go.Proofs.Ytdbbeggenbhbfaa
theorem BlendBetween_all : BlendBetween_stmt := by
  intro a0 a1 a2 a3 b0 b1 b2 b3 w _ _
  by_cases hs : May a0 a1 a2 a3
  · by_cases hd : May b0 b1 b2 b3
    · have hb := fun w => blend_any 6 7 (by decide) (by decide) (by decide) (by decide) _ _ _ _ _ _ _ _ hs hd w
      refine between_in _ _ _ _ _ _ _ _ _ _ _ _ hs hd (mix_67 hs.at0 hd.at0 hs.at3) (mix_67 hs.at1 hd.at1 hs.at3) (mix_67 hs.at2 hd.at2 hs.at3) (mix_67 hs.at3 hd.at3 hs.at3) ?_ hb w
      by_cases h1 : a3 = 255
      · subst h1
        exact .inr (.inl ⟨rfl, blv_67s hs.at0, blv_67s hs.at1, blv_67s hs.at2, blv_67s hs.at3⟩)
      · by_cases h2 : a3 = 0
        · subst h2
          exact .inr (.inr ⟨rfl, blv_67d hd.at0, blv_67d hd.at1, blv_67d hd.at2, blv_67d hd.at3⟩)
        · exact .inl ⟨h1, h2⟩
    · exact blendbetween_out2 _ _ _ _ _ _ _ _ hs hd w
  · exact blendbetween_out1 _ _ _ _ _ _ _ _ hs w
theorem BlendBetween_holds : Rows.BlendBetweenSaid := BlendBetween_end BlendBetween_all
end Go.Proofs.Ytdbbeggenbhbfaa
