/- BlendEnds: whatever the input, the law returns true and leaves its arguments as they read. No condition. -/
import Derived.Test.YtdbbeggenbhbfaaBlendL
import Derived.Test.YtdbbeggenbhbfaaEBlendEnds
namespace Go.Proofs.Ytdbbeggenbhbfaa
set_option linter.unusedVariables false
set_option linter.unusedSimpArgs false
theorem BlendEnds_all : BlendEnds_stmt := by
  intro a0 a1 a2 a3 b0 b1 b2 b3 w _ _
  by_cases hs : May a0 a1 a2 a3
  · by_cases hd : May b0 b1 b2 b3
    · exact ends_in _ _ _ _ _ _ _ _ hs hd w
    · exact blendends_out2 _ _ _ _ _ _ _ _ hs hd w
  · exact blendends_out1 _ _ _ _ _ _ _ _ hs w
theorem BlendEnds_holds : Rows.BlendEndsSaid := BlendEnds_end BlendEnds_all
end Go.Proofs.Ytdbbeggenbhbfaa
