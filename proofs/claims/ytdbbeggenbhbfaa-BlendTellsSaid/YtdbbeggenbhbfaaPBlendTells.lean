/- BlendTells: whatever the input, the law returns true and leaves its arguments as they read. No condition. -/
import Derived.Test.YtdbbeggenbhbfaaBlendL
import Derived.Test.YtdbbeggenbhbfaaEBlendTells
namespace Go.Proofs.Ytdbbeggenbhbfaa
set_option linter.unusedVariables false
set_option linter.unusedSimpArgs false
theorem BlendTells_all : BlendTells_stmt := by
  intro a0 a1 a2 a3 b0 b1 b2 b3 k0 k1 k2 w _ _ hk
  by_cases hs : May a0 a1 a2 a3
  · by_cases hd : May b0 b1 b2 b3
    · exact tells_in _ _ _ _ _ _ _ _ _ _ _ hs hd hk.1.1 hk.1.2 hk.2.1.1 hk.2.1.2 hk.2.2.1 hk.2.2.2 w
    · exact blendtells_out2 _ _ _ _ _ _ _ _ _ _ _ hs hd w
  · exact blendtells_out1 _ _ _ _ _ _ _ _ _ _ _ hs w
theorem BlendTells_holds : Rows.BlendTellsSaid := BlendTells_end BlendTells_all
end Go.Proofs.Ytdbbeggenbhbfaa
