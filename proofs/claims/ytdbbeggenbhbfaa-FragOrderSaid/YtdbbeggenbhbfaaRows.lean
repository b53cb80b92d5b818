/-
  No cell of these rows narrows 'for every input' (looked for: loops, veiled, ifaces, maps, wideKeys, modest, calm, conditions, laid).
  DERIVED. THE GIVEN ROWS OF THIS SEAT. 14 by the template 'for every input the law returns true; each argument reads behind the call as it read before'; 0 by the template 'total and deterministic' (their statements: YtdbbeggenbhbfaaTotals.lean).
  GIVEN WITH THE SEED: the statements are not yours to turn. If you find one false, say at which input.
  Laid BY PROGRAM, IN A SANDBOX (cutbox-rows.mjs): the forced cells as the released guide's own fill.sh prints them over the translation 1807b2d466b402d4… (all of the seat's roots in one cut). By AI agents, Wed Nov 11 2026. No macro, syntax, notation, axiom, sorry.
-/
import Derived.Test.YtdbbeggenbhbfaaChecked
import GoSem.Claim
import GoSem.ClaimJoined
import GoSem.ClaimMapViews
import Derived.JoinedTies
import Derived.KernelRfl
namespace Go.Proofs.Ytdbbeggenbhbfaa
/- THE CELL 'sum', in the pinned program and in every row, IS THE sha256 OF THE DUMP (.gsa) THAT YtdbbeggenbhbfaaProg.lean LOADS. Nothing in Lean hashes anything: it is a label: what it is worth is what the hold of that sum in a sandbox is worth. -/
noncomputable def Try.pinned : Pinned := { name := "ytdbbeggenbhbfaa", sum := "1807b2d466b402d43dbb819e7bcf69e2f194c858b06c7130ce15ec75eae4972d", checked := Try.checked }
namespace Rows
def none {H : Type} : Left H := { results := [], args := [] }

/-- 'rastrumlaw24.BlendTells': WHATEVER THE INPUT: true; the input reads as it did. -/
def blendTellsSpec : ChangeSpec := { name := "blendTells", fn := fun _ => fun
  | [d1, d2, d3] => { results := [.lit (.bool true)], args := [d1, d2, d3] }
  | _ => none }
def blendTellsRow : OpenClaim := { program := "ytdbbeggenbhbfaa", sum := "1807b2d466b402d43dbb819e7bcf69e2f194c858b06c7130ce15ec75eae4972d", func := "rastrum/rastrumlaw24.BlendTells", spec := "blendTells", apart := false }
def BlendTellsSaid : Prop := blendTellsRow.holds Try.pinned (OpenSpec.ofChange blendTellsSpec)

/-- ITS FALSE NEIGHBOUR: 'it returns false'. Refute it at one input. -/
def blendTellsWrong : ChangeSpec := { name := "blendTells", fn := fun _ => fun
  | [d1, d2, d3] => { results := [.lit (.bool false)], args := [d1, d2, d3] }
  | _ => none }
def BlendTellsWrongFalsely : Prop := blendTellsRow.holds Try.pinned (OpenSpec.ofChange blendTellsWrong)

/-- 'rastrumlaw24.BlendEnds': WHATEVER THE INPUT: true; the input reads as it did. -/
def blendEndsSpec : ChangeSpec := { name := "blendEnds", fn := fun _ => fun
  | [d1, d2] => { results := [.lit (.bool true)], args := [d1, d2] }
  | _ => none }
def blendEndsRow : OpenClaim := { program := "ytdbbeggenbhbfaa", sum := "1807b2d466b402d43dbb819e7bcf69e2f194c858b06c7130ce15ec75eae4972d", func := "rastrum/rastrumlaw24.BlendEnds", spec := "blendEnds", apart := false }
def BlendEndsSaid : Prop := blendEndsRow.holds Try.pinned (OpenSpec.ofChange blendEndsSpec)

/-- ITS FALSE NEIGHBOUR: 'it returns false'. Refute it at one input. -/
def blendEndsWrong : ChangeSpec := { name := "blendEnds", fn := fun _ => fun
  | [d1, d2] => { results := [.lit (.bool false)], args := [d1, d2] }
  | _ => none }
def BlendEndsWrongFalsely : Prop := blendEndsRow.holds Try.pinned (OpenSpec.ofChange blendEndsWrong)

/-- 'rastrumlaw24.BlendBetween': WHATEVER THE INPUT: true; the input reads as it did. -/
def blendBetweenSpec : ChangeSpec := { name := "blendBetween", fn := fun _ => fun
  | [d1, d2] => { results := [.lit (.bool true)], args := [d1, d2] }
  | _ => none }
def blendBetweenRow : OpenClaim := { program := "ytdbbeggenbhbfaa", sum := "1807b2d466b402d43dbb819e7bcf69e2f194c858b06c7130ce15ec75eae4972d", func := "rastrum/rastrumlaw24.BlendBetween", spec := "blendBetween", apart := false }
def BlendBetweenSaid : Prop := blendBetweenRow.holds Try.pinned (OpenSpec.ofChange blendBetweenSpec)

/-- ITS FALSE NEIGHBOUR: 'it returns false'. Refute it at one input. -/
def blendBetweenWrong : ChangeSpec := { name := "blendBetween", fn := fun _ => fun
  | [d1, d2] => { results := [.lit (.bool false)], args := [d1, d2] }
  | _ => none }
def BlendBetweenWrongFalsely : Prop := blendBetweenRow.holds Try.pinned (OpenSpec.ofChange blendBetweenWrong)

/-- 'rastrumlaw24.BlendCovers': WHATEVER THE INPUT: true; the input reads as it did. -/
def blendCoversSpec : ChangeSpec := { name := "blendCovers", fn := fun _ => fun
  | [d1, d2, d3] => { results := [.lit (.bool true)], args := [d1, d2, d3] }
  | _ => none }
def blendCoversRow : OpenClaim := { program := "ytdbbeggenbhbfaa", sum := "1807b2d466b402d43dbb819e7bcf69e2f194c858b06c7130ce15ec75eae4972d", func := "rastrum/rastrumlaw24.BlendCovers", spec := "blendCovers", apart := false }
def BlendCoversSaid : Prop := blendCoversRow.holds Try.pinned (OpenSpec.ofChange blendCoversSpec)

/-- ITS FALSE NEIGHBOUR: 'it returns false'. Refute it at one input. -/
def blendCoversWrong : ChangeSpec := { name := "blendCovers", fn := fun _ => fun
  | [d1, d2, d3] => { results := [.lit (.bool false)], args := [d1, d2, d3] }
  | _ => none }
def BlendCoversWrongFalsely : Prop := blendCoversRow.holds Try.pinned (OpenSpec.ofChange blendCoversWrong)

/-- 'rastrumlaw23.StorePacks': WHATEVER THE INPUT: true; the input reads as it did. -/
def storePacksSpec : ChangeSpec := { name := "storePacks", fn := fun _ => fun
  | [d1, d2] => { results := [.lit (.bool true)], args := [d1, d2] }
  | _ => none }
def storePacksRow : OpenClaim := { program := "ytdbbeggenbhbfaa", sum := "1807b2d466b402d43dbb819e7bcf69e2f194c858b06c7130ce15ec75eae4972d", func := "rastrum/rastrumlaw23.StorePacks", spec := "storePacks", apart := false }
def StorePacksSaid : Prop := storePacksRow.holds Try.pinned (OpenSpec.ofChange storePacksSpec)

/-- ITS FALSE NEIGHBOUR: 'it returns false'. Refute it at one input. -/
def storePacksWrong : ChangeSpec := { name := "storePacks", fn := fun _ => fun
  | [d1, d2] => { results := [.lit (.bool false)], args := [d1, d2] }
  | _ => none }
def StorePacksWrongFalsely : Prop := storePacksRow.holds Try.pinned (OpenSpec.ofChange storePacksWrong)

/-- 'rastrumlaw23.StoreMakes': WHATEVER THE INPUT: true; the input reads as it did. -/
def storeMakesSpec : ChangeSpec := { name := "storeMakes", fn := fun _ => fun
  | [d1, d2, d3] => { results := [.lit (.bool true)], args := [d1, d2, d3] }
  | _ => none }
def storeMakesRow : OpenClaim := { program := "ytdbbeggenbhbfaa", sum := "1807b2d466b402d43dbb819e7bcf69e2f194c858b06c7130ce15ec75eae4972d", func := "rastrum/rastrumlaw23.StoreMakes", spec := "storeMakes", apart := false }
def StoreMakesSaid : Prop := storeMakesRow.holds Try.pinned (OpenSpec.ofChange storeMakesSpec)

/-- ITS FALSE NEIGHBOUR: 'it returns false'. Refute it at one input. -/
def storeMakesWrong : ChangeSpec := { name := "storeMakes", fn := fun _ => fun
  | [d1, d2, d3] => { results := [.lit (.bool false)], args := [d1, d2, d3] }
  | _ => none }
def StoreMakesWrongFalsely : Prop := storeMakesRow.holds Try.pinned (OpenSpec.ofChange storeMakesWrong)

/-- 'rastrumlaw23.StorePuts': WHATEVER THE INPUT: true; the input reads as it did. -/
def storePutsSpec : ChangeSpec := { name := "storePuts", fn := fun _ => fun
  | [d1, d2] => { results := [.lit (.bool true)], args := [d1, d2] }
  | _ => none }
def storePutsRow : OpenClaim := { program := "ytdbbeggenbhbfaa", sum := "1807b2d466b402d43dbb819e7bcf69e2f194c858b06c7130ce15ec75eae4972d", func := "rastrum/rastrumlaw23.StorePuts", spec := "storePuts", apart := false }
def StorePutsSaid : Prop := storePutsRow.holds Try.pinned (OpenSpec.ofChange storePutsSpec)

/-- ITS FALSE NEIGHBOUR: 'it returns false'. Refute it at one input. -/
def storePutsWrong : ChangeSpec := { name := "storePuts", fn := fun _ => fun
  | [d1, d2] => { results := [.lit (.bool false)], args := [d1, d2] }
  | _ => none }
def StorePutsWrongFalsely : Prop := storePutsRow.holds Try.pinned (OpenSpec.ofChange storePutsWrong)

/-- 'rastrumlaw23.StoreAlone': WHATEVER THE INPUT: true; the input reads as it did. -/
def storeAloneSpec : ChangeSpec := { name := "storeAlone", fn := fun _ => fun
  | [d1, d2] => { results := [.lit (.bool true)], args := [d1, d2] }
  | _ => none }
def storeAloneRow : OpenClaim := { program := "ytdbbeggenbhbfaa", sum := "1807b2d466b402d43dbb819e7bcf69e2f194c858b06c7130ce15ec75eae4972d", func := "rastrum/rastrumlaw23.StoreAlone", spec := "storeAlone", apart := false }
def StoreAloneSaid : Prop := storeAloneRow.holds Try.pinned (OpenSpec.ofChange storeAloneSpec)

/-- ITS FALSE NEIGHBOUR: 'it returns false'. Refute it at one input. -/
def storeAloneWrong : ChangeSpec := { name := "storeAlone", fn := fun _ => fun
  | [d1, d2] => { results := [.lit (.bool false)], args := [d1, d2] }
  | _ => none }
def StoreAloneWrongFalsely : Prop := storeAloneRow.holds Try.pinned (OpenSpec.ofChange storeAloneWrong)

/-- 'rastrumlaw23.StoreClears': WHATEVER THE INPUT: true; the input reads as it did. -/
def storeClearsSpec : ChangeSpec := { name := "storeClears", fn := fun _ => fun
  | [d] => { results := [.lit (.bool true)], args := [d] }
  | _ => none }
def storeClearsRow : OpenClaim := { program := "ytdbbeggenbhbfaa", sum := "1807b2d466b402d43dbb819e7bcf69e2f194c858b06c7130ce15ec75eae4972d", func := "rastrum/rastrumlaw23.StoreClears", spec := "storeClears", apart := false }
def StoreClearsSaid : Prop := storeClearsRow.holds Try.pinned (OpenSpec.ofChange storeClearsSpec)

/-- ITS FALSE NEIGHBOUR: 'it returns false'. Refute it at one input. -/
def storeClearsWrong : ChangeSpec := { name := "storeClears", fn := fun _ => fun
  | [d] => { results := [.lit (.bool false)], args := [d] }
  | _ => none }
def StoreClearsWrongFalsely : Prop := storeClearsRow.holds Try.pinned (OpenSpec.ofChange storeClearsWrong)

/-- 'rastrumlaw25.FragTells': WHATEVER THE INPUT: true; the input reads as it did. -/
def fragTellsSpec : ChangeSpec := { name := "fragTells", fn := fun _ => fun
  | [d1, d2, d3] => { results := [.lit (.bool true)], args := [d1, d2, d3] }
  | _ => none }
def fragTellsRow : OpenClaim := { program := "ytdbbeggenbhbfaa", sum := "1807b2d466b402d43dbb819e7bcf69e2f194c858b06c7130ce15ec75eae4972d", func := "rastrum/rastrumlaw25.FragTells", spec := "fragTells", unfollowed := true, recurses := true, apart := false }
def FragTellsSaid : Prop := fragTellsRow.holds Try.pinned (OpenSpec.ofChange fragTellsSpec)

/-- ITS FALSE NEIGHBOUR: 'it returns false'. Refute it at one input. -/
def fragTellsWrong : ChangeSpec := { name := "fragTells", fn := fun _ => fun
  | [d1, d2, d3] => { results := [.lit (.bool false)], args := [d1, d2, d3] }
  | _ => none }
def FragTellsWrongFalsely : Prop := fragTellsRow.holds Try.pinned (OpenSpec.ofChange fragTellsWrong)

/-- 'rastrumlaw25.FragAlone': WHATEVER THE INPUT: true; the input reads as it did. -/
def fragAloneSpec : ChangeSpec := { name := "fragAlone", fn := fun _ => fun
  | [d1, d2, d3] => { results := [.lit (.bool true)], args := [d1, d2, d3] }
  | _ => none }
def fragAloneRow : OpenClaim := { program := "ytdbbeggenbhbfaa", sum := "1807b2d466b402d43dbb819e7bcf69e2f194c858b06c7130ce15ec75eae4972d", func := "rastrum/rastrumlaw25.FragAlone", spec := "fragAlone", unfollowed := true, recurses := true, apart := false }
def FragAloneSaid : Prop := fragAloneRow.holds Try.pinned (OpenSpec.ofChange fragAloneSpec)

/-- ITS FALSE NEIGHBOUR: 'it returns false'. Refute it at one input. -/
def fragAloneWrong : ChangeSpec := { name := "fragAlone", fn := fun _ => fun
  | [d1, d2, d3] => { results := [.lit (.bool false)], args := [d1, d2, d3] }
  | _ => none }
def FragAloneWrongFalsely : Prop := fragAloneRow.holds Try.pinned (OpenSpec.ofChange fragAloneWrong)

/-- 'rastrumlaw25.FragComes': WHATEVER THE INPUT: true; the input reads as it did. -/
def fragComesSpec : ChangeSpec := { name := "fragComes", fn := fun _ => fun
  | [d1, d2, d3] => { results := [.lit (.bool true)], args := [d1, d2, d3] }
  | _ => none }
def fragComesRow : OpenClaim := { program := "ytdbbeggenbhbfaa", sum := "1807b2d466b402d43dbb819e7bcf69e2f194c858b06c7130ce15ec75eae4972d", func := "rastrum/rastrumlaw25.FragComes", spec := "fragComes", unfollowed := true, recurses := true, apart := false }
def FragComesSaid : Prop := fragComesRow.holds Try.pinned (OpenSpec.ofChange fragComesSpec)

/-- ITS FALSE NEIGHBOUR: 'it returns false'. Refute it at one input. -/
def fragComesWrong : ChangeSpec := { name := "fragComes", fn := fun _ => fun
  | [d1, d2, d3] => { results := [.lit (.bool false)], args := [d1, d2, d3] }
  | _ => none }
def FragComesWrongFalsely : Prop := fragComesRow.holds Try.pinned (OpenSpec.ofChange fragComesWrong)

/-- 'rastrumlaw25.FragLeast': WHATEVER THE INPUT: true; the input reads as it did. -/
def fragLeastSpec : ChangeSpec := { name := "fragLeast", fn := fun _ => fun
  | [d1, d2, d3] => { results := [.lit (.bool true)], args := [d1, d2, d3] }
  | _ => none }
def fragLeastRow : OpenClaim := { program := "ytdbbeggenbhbfaa", sum := "1807b2d466b402d43dbb819e7bcf69e2f194c858b06c7130ce15ec75eae4972d", func := "rastrum/rastrumlaw25.FragLeast", spec := "fragLeast", unfollowed := true, recurses := true, apart := false }
def FragLeastSaid : Prop := fragLeastRow.holds Try.pinned (OpenSpec.ofChange fragLeastSpec)

/-- ITS FALSE NEIGHBOUR: 'it returns false'. Refute it at one input. -/
def fragLeastWrong : ChangeSpec := { name := "fragLeast", fn := fun _ => fun
  | [d1, d2, d3] => { results := [.lit (.bool false)], args := [d1, d2, d3] }
  | _ => none }
def FragLeastWrongFalsely : Prop := fragLeastRow.holds Try.pinned (OpenSpec.ofChange fragLeastWrong)

/-- 'rastrumlaw25.FragOrder': WHATEVER THE INPUT: true; the input reads as it did. -/
def fragOrderSpec : ChangeSpec := { name := "fragOrder", fn := fun _ => fun
  | [d1, d2, d3] => { results := [.lit (.bool true)], args := [d1, d2, d3] }
  | _ => none }
def fragOrderRow : OpenClaim := { program := "ytdbbeggenbhbfaa", sum := "1807b2d466b402d43dbb819e7bcf69e2f194c858b06c7130ce15ec75eae4972d", func := "rastrum/rastrumlaw25.FragOrder", spec := "fragOrder", unfollowed := true, recurses := true, apart := false }
def FragOrderSaid : Prop := fragOrderRow.holds Try.pinned (OpenSpec.ofChange fragOrderSpec)

/-- ITS FALSE NEIGHBOUR: 'it returns false'. Refute it at one input. -/
def fragOrderWrong : ChangeSpec := { name := "fragOrder", fn := fun _ => fun
  | [d1, d2, d3] => { results := [.lit (.bool false)], args := [d1, d2, d3] }
  | _ => none }
def FragOrderWrongFalsely : Prop := fragOrderRow.holds Try.pinned (OpenSpec.ofChange fragOrderWrong)

/- THE SECOND FORM. 'bulk': how many values and letters a reading holds, each counted each time it is reached (what is shared counts as often as it is met; a slice's spare places count too). A statement '..UptoSaid' is the law's where the arguments, and the package variables that the reading takes, are together of bulk at most 1048576: NARROWER than '..Said'. Prove '..Said' where nothing that the law and all that it calls make is longer than what came in: it says more and counts as full. Else prove '..UptoSaid'. A law counts once. -/
mutual
def uptoBulk {H : Type} : DataW H → Nat
  | .lit (.string bytes) => bytes.length + 1
  | .lit _ => 1
  | .nil => 1
  | .ptr d => uptoBulk d + 1
  | .slice elems spare => uptoBulkAll elems + uptoBulkAll spare + 1
  | .agg parts => uptoBulkAll parts + 1
  | .iface _ d => uptoBulk d + 1
  | .map entries => uptoBulkEntries entries + 1
  | .held _ => 1
def uptoBulkAll {H : Type} : List (DataW H) → Nat
  | [] => 0
  | d :: r => uptoBulk d + uptoBulkAll r
def uptoBulkEntries {H : Type} : List (Lit × DataW H) → Nat
  | [] => 0
  | x :: r => uptoBulkEntry x + uptoBulkEntries r
def uptoBulkEntry {H : Type} : Lit × DataW H → Nat
  | (.string bytes, d) => bytes.length + uptoBulk d + 1
  | (_, d) => uptoBulk d + 1
 end
def uptoSmall : (H : Type) → List (DataW H) → Bool := fun _ ds => decide (uptoBulkAll ds ≤ 1048576)
def OpenSpec.upto (s : _root_.Go.ChangeSpec) : _root_.Go.OpenSpec := { _root_.Go.OpenSpec.ofChange s with cond := some uptoSmall }

/-- 'rastrumlaw24.BlendTells', WHERE WHAT IT READS IS OF BULK AT MOST 1048576: true; the input reads as it did. -/
def blendTellsUptoRow : OpenClaim := { program := "ytdbbeggenbhbfaa", sum := "1807b2d466b402d43dbb819e7bcf69e2f194c858b06c7130ce15ec75eae4972d", func := "rastrum/rastrumlaw24.BlendTells", spec := "blendTells", apart := false, narrowed := true }
def BlendTellsUptoSaid : Prop := blendTellsUptoRow.holds Try.pinned (OpenSpec.upto blendTellsSpec)

/-- 'rastrumlaw24.BlendEnds', WHERE WHAT IT READS IS OF BULK AT MOST 1048576: true; the input reads as it did. -/
def blendEndsUptoRow : OpenClaim := { program := "ytdbbeggenbhbfaa", sum := "1807b2d466b402d43dbb819e7bcf69e2f194c858b06c7130ce15ec75eae4972d", func := "rastrum/rastrumlaw24.BlendEnds", spec := "blendEnds", apart := false, narrowed := true }
def BlendEndsUptoSaid : Prop := blendEndsUptoRow.holds Try.pinned (OpenSpec.upto blendEndsSpec)

/-- 'rastrumlaw24.BlendBetween', WHERE WHAT IT READS IS OF BULK AT MOST 1048576: true; the input reads as it did. -/
def blendBetweenUptoRow : OpenClaim := { program := "ytdbbeggenbhbfaa", sum := "1807b2d466b402d43dbb819e7bcf69e2f194c858b06c7130ce15ec75eae4972d", func := "rastrum/rastrumlaw24.BlendBetween", spec := "blendBetween", apart := false, narrowed := true }
def BlendBetweenUptoSaid : Prop := blendBetweenUptoRow.holds Try.pinned (OpenSpec.upto blendBetweenSpec)

/-- 'rastrumlaw24.BlendCovers', WHERE WHAT IT READS IS OF BULK AT MOST 1048576: true; the input reads as it did. -/
def blendCoversUptoRow : OpenClaim := { program := "ytdbbeggenbhbfaa", sum := "1807b2d466b402d43dbb819e7bcf69e2f194c858b06c7130ce15ec75eae4972d", func := "rastrum/rastrumlaw24.BlendCovers", spec := "blendCovers", apart := false, narrowed := true }
def BlendCoversUptoSaid : Prop := blendCoversUptoRow.holds Try.pinned (OpenSpec.upto blendCoversSpec)

/-- 'rastrumlaw23.StorePacks', WHERE WHAT IT READS IS OF BULK AT MOST 1048576: true; the input reads as it did. -/
def storePacksUptoRow : OpenClaim := { program := "ytdbbeggenbhbfaa", sum := "1807b2d466b402d43dbb819e7bcf69e2f194c858b06c7130ce15ec75eae4972d", func := "rastrum/rastrumlaw23.StorePacks", spec := "storePacks", apart := false, narrowed := true }
def StorePacksUptoSaid : Prop := storePacksUptoRow.holds Try.pinned (OpenSpec.upto storePacksSpec)

/-- 'rastrumlaw23.StoreMakes', WHERE WHAT IT READS IS OF BULK AT MOST 1048576: true; the input reads as it did. -/
def storeMakesUptoRow : OpenClaim := { program := "ytdbbeggenbhbfaa", sum := "1807b2d466b402d43dbb819e7bcf69e2f194c858b06c7130ce15ec75eae4972d", func := "rastrum/rastrumlaw23.StoreMakes", spec := "storeMakes", apart := false, narrowed := true }
def StoreMakesUptoSaid : Prop := storeMakesUptoRow.holds Try.pinned (OpenSpec.upto storeMakesSpec)

/-- 'rastrumlaw23.StorePuts', WHERE WHAT IT READS IS OF BULK AT MOST 1048576: true; the input reads as it did. -/
def storePutsUptoRow : OpenClaim := { program := "ytdbbeggenbhbfaa", sum := "1807b2d466b402d43dbb819e7bcf69e2f194c858b06c7130ce15ec75eae4972d", func := "rastrum/rastrumlaw23.StorePuts", spec := "storePuts", apart := false, narrowed := true }
def StorePutsUptoSaid : Prop := storePutsUptoRow.holds Try.pinned (OpenSpec.upto storePutsSpec)

/-- 'rastrumlaw23.StoreAlone', WHERE WHAT IT READS IS OF BULK AT MOST 1048576: true; the input reads as it did. -/
def storeAloneUptoRow : OpenClaim := { program := "ytdbbeggenbhbfaa", sum := "1807b2d466b402d43dbb819e7bcf69e2f194c858b06c7130ce15ec75eae4972d", func := "rastrum/rastrumlaw23.StoreAlone", spec := "storeAlone", apart := false, narrowed := true }
def StoreAloneUptoSaid : Prop := storeAloneUptoRow.holds Try.pinned (OpenSpec.upto storeAloneSpec)

/-- 'rastrumlaw23.StoreClears', WHERE WHAT IT READS IS OF BULK AT MOST 1048576: true; the input reads as it did. -/
def storeClearsUptoRow : OpenClaim := { program := "ytdbbeggenbhbfaa", sum := "1807b2d466b402d43dbb819e7bcf69e2f194c858b06c7130ce15ec75eae4972d", func := "rastrum/rastrumlaw23.StoreClears", spec := "storeClears", apart := false, narrowed := true }
def StoreClearsUptoSaid : Prop := storeClearsUptoRow.holds Try.pinned (OpenSpec.upto storeClearsSpec)

/-- 'rastrumlaw25.FragTells', WHERE WHAT IT READS IS OF BULK AT MOST 1048576: true; the input reads as it did. -/
def fragTellsUptoRow : OpenClaim := { program := "ytdbbeggenbhbfaa", sum := "1807b2d466b402d43dbb819e7bcf69e2f194c858b06c7130ce15ec75eae4972d", func := "rastrum/rastrumlaw25.FragTells", spec := "fragTells", unfollowed := true, recurses := true, apart := false, narrowed := true }
def FragTellsUptoSaid : Prop := fragTellsUptoRow.holds Try.pinned (OpenSpec.upto fragTellsSpec)

/-- 'rastrumlaw25.FragAlone', WHERE WHAT IT READS IS OF BULK AT MOST 1048576: true; the input reads as it did. -/
def fragAloneUptoRow : OpenClaim := { program := "ytdbbeggenbhbfaa", sum := "1807b2d466b402d43dbb819e7bcf69e2f194c858b06c7130ce15ec75eae4972d", func := "rastrum/rastrumlaw25.FragAlone", spec := "fragAlone", unfollowed := true, recurses := true, apart := false, narrowed := true }
def FragAloneUptoSaid : Prop := fragAloneUptoRow.holds Try.pinned (OpenSpec.upto fragAloneSpec)

/-- 'rastrumlaw25.FragComes', WHERE WHAT IT READS IS OF BULK AT MOST 1048576: true; the input reads as it did. -/
def fragComesUptoRow : OpenClaim := { program := "ytdbbeggenbhbfaa", sum := "1807b2d466b402d43dbb819e7bcf69e2f194c858b06c7130ce15ec75eae4972d", func := "rastrum/rastrumlaw25.FragComes", spec := "fragComes", unfollowed := true, recurses := true, apart := false, narrowed := true }
def FragComesUptoSaid : Prop := fragComesUptoRow.holds Try.pinned (OpenSpec.upto fragComesSpec)

/-- 'rastrumlaw25.FragLeast', WHERE WHAT IT READS IS OF BULK AT MOST 1048576: true; the input reads as it did. -/
def fragLeastUptoRow : OpenClaim := { program := "ytdbbeggenbhbfaa", sum := "1807b2d466b402d43dbb819e7bcf69e2f194c858b06c7130ce15ec75eae4972d", func := "rastrum/rastrumlaw25.FragLeast", spec := "fragLeast", unfollowed := true, recurses := true, apart := false, narrowed := true }
def FragLeastUptoSaid : Prop := fragLeastUptoRow.holds Try.pinned (OpenSpec.upto fragLeastSpec)

/-- 'rastrumlaw25.FragOrder', WHERE WHAT IT READS IS OF BULK AT MOST 1048576: true; the input reads as it did. -/
def fragOrderUptoRow : OpenClaim := { program := "ytdbbeggenbhbfaa", sum := "1807b2d466b402d43dbb819e7bcf69e2f194c858b06c7130ce15ec75eae4972d", func := "rastrum/rastrumlaw25.FragOrder", spec := "fragOrder", unfollowed := true, recurses := true, apart := false, narrowed := true }
def FragOrderUptoSaid : Prop := fragOrderUptoRow.holds Try.pinned (OpenSpec.upto fragOrderSpec)

end Rows
end Go.Proofs.Ytdbbeggenbhbfaa
