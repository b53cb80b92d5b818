/-
  No cell of these rows narrows 'for every input' (looked for: loops, veiled, ifaces, maps, wideKeys, modest, calm, conditions, laid).
  DERIVED. THE GIVEN ROWS OF THIS SEAT. 16 by the template 'for every input the law returns true; each argument reads behind the call as it read before'; 0 by the template 'total and deterministic' (their statements: YtmlhbbkgfffmcaaTotals.lean).
  GIVEN WITH THE SEED: the statements are not yours to turn. If you find one false, say at which input.
  Laid BY PROGRAM, IN A SANDBOX (cutbox-rows.mjs): the forced cells as the released guide's own fill.sh prints them over the translation edaa7b63a63777c1… (all of the seat's roots in one cut). By AI agents, Wed Nov 11 2026. No macro, syntax, notation, axiom, sorry.
-/
import Derived.Test.YtmlhbbkgfffmcaaChecked
import GoSem.Claim
import GoSem.ClaimJoined
import GoSem.ClaimMapViews
import Derived.JoinedTies
import Derived.KernelRfl
namespace Go.Proofs.Ytmlhbbkgfffmcaa
/- THE CELL 'sum', in the pinned program and in every row, IS THE sha256 OF THE DUMP (.gsa) THAT YtmlhbbkgfffmcaaProg.lean LOADS. Nothing in Lean hashes anything: it is a label: what it is worth is what the hold of that sum in a sandbox is worth. -/
noncomputable def Try.pinned : Pinned := { name := "ytmlhbbkgfffmcaa", sum := "edaa7b63a63777c1cc30ae5c156a93a6c590c0e3e905d1aa50c80fe2ed88bb63", checked := Try.checked }
namespace Rows
def none {H : Type} : Left H := { results := [], args := [] }

/-- 'rastrumlaw23.StoreClears': WHATEVER THE INPUT: true; the input reads as it did. -/
def storeClearsSpec : ChangeSpec := { name := "storeClears", fn := fun _ => fun
  | [d] => { results := [.lit (.bool true)], args := [d] }
  | _ => none }
def storeClearsRow : OpenClaim := { program := "ytmlhbbkgfffmcaa", sum := "edaa7b63a63777c1cc30ae5c156a93a6c590c0e3e905d1aa50c80fe2ed88bb63", func := "rastrum/rastrumlaw23.StoreClears", spec := "storeClears", apart := false }
def StoreClearsSaid : Prop := storeClearsRow.holds Try.pinned (OpenSpec.ofChange storeClearsSpec)

/-- ITS FALSE NEIGHBOUR: 'it returns false'. Refute it at one input. -/
def storeClearsWrong : ChangeSpec := { name := "storeClears", fn := fun _ => fun
  | [d] => { results := [.lit (.bool false)], args := [d] }
  | _ => none }
def StoreClearsWrongFalsely : Prop := storeClearsRow.holds Try.pinned (OpenSpec.ofChange storeClearsWrong)

/-- 'rastrumlaw16.LerpMids': WHATEVER THE INPUT: true; the input reads as it did. -/
def lerpMidsSpec : ChangeSpec := { name := "lerpMids", fn := fun _ => fun
  | [d1, d2, d3] => { results := [.lit (.bool true)], args := [d1, d2, d3] }
  | _ => none }
def lerpMidsRow : OpenClaim := { program := "ytmlhbbkgfffmcaa", sum := "edaa7b63a63777c1cc30ae5c156a93a6c590c0e3e905d1aa50c80fe2ed88bb63", func := "rastrum/rastrumlaw16.LerpMids", spec := "lerpMids", inPlace := ["math/bits.Sub64"], named := ["math/bits.divideError", "math/bits.overflowError"], apart := false }
def LerpMidsSaid : Prop := lerpMidsRow.holds Try.pinned (OpenSpec.ofChange lerpMidsSpec)

/-- ITS FALSE NEIGHBOUR: 'it returns false'. Refute it at one input. -/
def lerpMidsWrong : ChangeSpec := { name := "lerpMids", fn := fun _ => fun
  | [d1, d2, d3] => { results := [.lit (.bool false)], args := [d1, d2, d3] }
  | _ => none }
def LerpMidsWrongFalsely : Prop := lerpMidsRow.holds Try.pinned (OpenSpec.ofChange lerpMidsWrong)

/-- 'rastrumlaw14.WalkWithin': WHATEVER THE INPUT: true; the input reads as it did. -/
def walkWithinSpec : ChangeSpec := { name := "walkWithin", fn := fun _ => fun
  | [d1, d2, d3] => { results := [.lit (.bool true)], args := [d1, d2, d3] }
  | _ => none }
def walkWithinRow : OpenClaim := { program := "ytmlhbbkgfffmcaa", sum := "edaa7b63a63777c1cc30ae5c156a93a6c590c0e3e905d1aa50c80fe2ed88bb63", func := "rastrum/rastrumlaw14.WalkWithin", spec := "walkWithin", unfollowed := true, recurses := true, apart := false }
def WalkWithinSaid : Prop := walkWithinRow.holds Try.pinned (OpenSpec.ofChange walkWithinSpec)

/-- ITS FALSE NEIGHBOUR: 'it returns false'. Refute it at one input. -/
def walkWithinWrong : ChangeSpec := { name := "walkWithin", fn := fun _ => fun
  | [d1, d2, d3] => { results := [.lit (.bool false)], args := [d1, d2, d3] }
  | _ => none }
def WalkWithinWrongFalsely : Prop := walkWithinRow.holds Try.pinned (OpenSpec.ofChange walkWithinWrong)

/-- 'rastrumlaw14.WalkParts': WHATEVER THE INPUT: true; the input reads as it did. -/
def walkPartsSpec : ChangeSpec := { name := "walkParts", fn := fun _ => fun
  | [d1, d2, d3] => { results := [.lit (.bool true)], args := [d1, d2, d3] }
  | _ => none }
def walkPartsRow : OpenClaim := { program := "ytmlhbbkgfffmcaa", sum := "edaa7b63a63777c1cc30ae5c156a93a6c590c0e3e905d1aa50c80fe2ed88bb63", func := "rastrum/rastrumlaw14.WalkParts", spec := "walkParts", unfollowed := true, recurses := true, apart := false }
def WalkPartsSaid : Prop := walkPartsRow.holds Try.pinned (OpenSpec.ofChange walkPartsSpec)

/-- ITS FALSE NEIGHBOUR: 'it returns false'. Refute it at one input. -/
def walkPartsWrong : ChangeSpec := { name := "walkParts", fn := fun _ => fun
  | [d1, d2, d3] => { results := [.lit (.bool false)], args := [d1, d2, d3] }
  | _ => none }
def WalkPartsWrongFalsely : Prop := walkPartsRow.holds Try.pinned (OpenSpec.ofChange walkPartsWrong)

/-- 'rastrumlaw14.WalkMoves': WHATEVER THE INPUT: true; the input reads as it did. -/
def walkMovesSpec : ChangeSpec := { name := "walkMoves", fn := fun _ => fun
  | [d1, d2, d3] => { results := [.lit (.bool true)], args := [d1, d2, d3] }
  | _ => none }
def walkMovesRow : OpenClaim := { program := "ytmlhbbkgfffmcaa", sum := "edaa7b63a63777c1cc30ae5c156a93a6c590c0e3e905d1aa50c80fe2ed88bb63", func := "rastrum/rastrumlaw14.WalkMoves", spec := "walkMoves", unfollowed := true, recurses := true, apart := false }
def WalkMovesSaid : Prop := walkMovesRow.holds Try.pinned (OpenSpec.ofChange walkMovesSpec)

/-- ITS FALSE NEIGHBOUR: 'it returns false'. Refute it at one input. -/
def walkMovesWrong : ChangeSpec := { name := "walkMoves", fn := fun _ => fun
  | [d1, d2, d3] => { results := [.lit (.bool false)], args := [d1, d2, d3] }
  | _ => none }
def WalkMovesWrongFalsely : Prop := walkMovesRow.holds Try.pinned (OpenSpec.ofChange walkMovesWrong)

/-- 'rastrumlaw02.XintDivides': WHATEVER THE INPUT: true; the input reads as it did. -/
def xintDividesSpec : ChangeSpec := { name := "xintDivides", fn := fun _ => fun
  | [d1, d2, d3] => { results := [.lit (.bool true)], args := [d1, d2, d3] }
  | _ => none }
def xintDividesRow : OpenClaim := { program := "ytmlhbbkgfffmcaa", sum := "edaa7b63a63777c1cc30ae5c156a93a6c590c0e3e905d1aa50c80fe2ed88bb63", func := "rastrum/rastrumlaw02.XintDivides", spec := "xintDivides", inPlace := ["math/bits.Sub64"], named := ["math/bits.divideError", "math/bits.overflowError"], apart := false }
def XintDividesSaid : Prop := xintDividesRow.holds Try.pinned (OpenSpec.ofChange xintDividesSpec)

/-- ITS FALSE NEIGHBOUR: 'it returns false'. Refute it at one input. -/
def xintDividesWrong : ChangeSpec := { name := "xintDivides", fn := fun _ => fun
  | [d1, d2, d3] => { results := [.lit (.bool false)], args := [d1, d2, d3] }
  | _ => none }
def XintDividesWrongFalsely : Prop := xintDividesRow.holds Try.pinned (OpenSpec.ofChange xintDividesWrong)

/-- 'rastrumlaw02.XintRatios': WHATEVER THE INPUT: true; the input reads as it did. -/
def xintRatiosSpec : ChangeSpec := { name := "xintRatios", fn := fun _ => fun
  | [d] => { results := [.lit (.bool true)], args := [d] }
  | _ => none }
def xintRatiosRow : OpenClaim := { program := "ytmlhbbkgfffmcaa", sum := "edaa7b63a63777c1cc30ae5c156a93a6c590c0e3e905d1aa50c80fe2ed88bb63", func := "rastrum/rastrumlaw02.XintRatios", spec := "xintRatios", inPlace := ["math/bits.Sub64"], named := ["math/bits.divideError", "math/bits.overflowError"], apart := false }
def XintRatiosSaid : Prop := xintRatiosRow.holds Try.pinned (OpenSpec.ofChange xintRatiosSpec)

/-- ITS FALSE NEIGHBOUR: 'it returns false'. Refute it at one input. -/
def xintRatiosWrong : ChangeSpec := { name := "xintRatios", fn := fun _ => fun
  | [d] => { results := [.lit (.bool false)], args := [d] }
  | _ => none }
def XintRatiosWrongFalsely : Prop := xintRatiosRow.holds Try.pinned (OpenSpec.ofChange xintRatiosWrong)

/-- 'rastrumlaw14.WalkAts': WHATEVER THE INPUT: true; the input reads as it did. -/
def walkAtsSpec : ChangeSpec := { name := "walkAts", fn := fun _ => fun
  | [d1, d2, d3] => { results := [.lit (.bool true)], args := [d1, d2, d3] }
  | _ => none }
def walkAtsRow : OpenClaim := { program := "ytmlhbbkgfffmcaa", sum := "edaa7b63a63777c1cc30ae5c156a93a6c590c0e3e905d1aa50c80fe2ed88bb63", func := "rastrum/rastrumlaw14.WalkAts", spec := "walkAts", unfollowed := true, recurses := true, apart := false }
def WalkAtsSaid : Prop := walkAtsRow.holds Try.pinned (OpenSpec.ofChange walkAtsSpec)

/-- ITS FALSE NEIGHBOUR: 'it returns false'. Refute it at one input. -/
def walkAtsWrong : ChangeSpec := { name := "walkAts", fn := fun _ => fun
  | [d1, d2, d3] => { results := [.lit (.bool false)], args := [d1, d2, d3] }
  | _ => none }
def WalkAtsWrongFalsely : Prop := walkAtsRow.holds Try.pinned (OpenSpec.ofChange walkAtsWrong)

/-- 'rastrumlaw14.WalkMeets': WHATEVER THE INPUT: true; the input reads as it did. -/
def walkMeetsSpec : ChangeSpec := { name := "walkMeets", fn := fun _ => fun
  | [d1, d2, d3] => { results := [.lit (.bool true)], args := [d1, d2, d3] }
  | _ => none }
def walkMeetsRow : OpenClaim := { program := "ytmlhbbkgfffmcaa", sum := "edaa7b63a63777c1cc30ae5c156a93a6c590c0e3e905d1aa50c80fe2ed88bb63", func := "rastrum/rastrumlaw14.WalkMeets", spec := "walkMeets", unfollowed := true, recurses := true, apart := false }
def WalkMeetsSaid : Prop := walkMeetsRow.holds Try.pinned (OpenSpec.ofChange walkMeetsSpec)

/-- ITS FALSE NEIGHBOUR: 'it returns false'. Refute it at one input. -/
def walkMeetsWrong : ChangeSpec := { name := "walkMeets", fn := fun _ => fun
  | [d1, d2, d3] => { results := [.lit (.bool false)], args := [d1, d2, d3] }
  | _ => none }
def WalkMeetsWrongFalsely : Prop := walkMeetsRow.holds Try.pinned (OpenSpec.ofChange walkMeetsWrong)

/-- 'rastrumlaw16.LerpTells': WHATEVER THE INPUT: true; the input reads as it did. -/
def lerpTellsSpec : ChangeSpec := { name := "lerpTells", fn := fun _ => fun
  | [d1, d2, d3] => { results := [.lit (.bool true)], args := [d1, d2, d3] }
  | _ => none }
def lerpTellsRow : OpenClaim := { program := "ytmlhbbkgfffmcaa", sum := "edaa7b63a63777c1cc30ae5c156a93a6c590c0e3e905d1aa50c80fe2ed88bb63", func := "rastrum/rastrumlaw16.LerpTells", spec := "lerpTells", inPlace := ["math/bits.Sub64"], unfollowed := true, recurses := true, named := ["math/bits.divideError", "math/bits.overflowError"], apart := false }
def LerpTellsSaid : Prop := lerpTellsRow.holds Try.pinned (OpenSpec.ofChange lerpTellsSpec)

/-- ITS FALSE NEIGHBOUR: 'it returns false'. Refute it at one input. -/
def lerpTellsWrong : ChangeSpec := { name := "lerpTells", fn := fun _ => fun
  | [d1, d2, d3] => { results := [.lit (.bool false)], args := [d1, d2, d3] }
  | _ => none }
def LerpTellsWrongFalsely : Prop := lerpTellsRow.holds Try.pinned (OpenSpec.ofChange lerpTellsWrong)

/-- 'rastrumlaw16.LerpBetween': WHATEVER THE INPUT: true; the input reads as it did. -/
def lerpBetweenSpec : ChangeSpec := { name := "lerpBetween", fn := fun _ => fun
  | [d1, d2, d3] => { results := [.lit (.bool true)], args := [d1, d2, d3] }
  | _ => none }
def lerpBetweenRow : OpenClaim := { program := "ytmlhbbkgfffmcaa", sum := "edaa7b63a63777c1cc30ae5c156a93a6c590c0e3e905d1aa50c80fe2ed88bb63", func := "rastrum/rastrumlaw16.LerpBetween", spec := "lerpBetween", inPlace := ["math/bits.Sub64"], unfollowed := true, recurses := true, named := ["math/bits.divideError", "math/bits.overflowError"], apart := false }
def LerpBetweenSaid : Prop := lerpBetweenRow.holds Try.pinned (OpenSpec.ofChange lerpBetweenSpec)

/-- ITS FALSE NEIGHBOUR: 'it returns false'. Refute it at one input. -/
def lerpBetweenWrong : ChangeSpec := { name := "lerpBetween", fn := fun _ => fun
  | [d1, d2, d3] => { results := [.lit (.bool false)], args := [d1, d2, d3] }
  | _ => none }
def LerpBetweenWrongFalsely : Prop := lerpBetweenRow.holds Try.pinned (OpenSpec.ofChange lerpBetweenWrong)

/-- 'rastrumlaw16.LerpRises': WHATEVER THE INPUT: true; the input reads as it did. -/
def lerpRisesSpec : ChangeSpec := { name := "lerpRises", fn := fun _ => fun
  | [d] => { results := [.lit (.bool true)], args := [d] }
  | _ => none }
def lerpRisesRow : OpenClaim := { program := "ytmlhbbkgfffmcaa", sum := "edaa7b63a63777c1cc30ae5c156a93a6c590c0e3e905d1aa50c80fe2ed88bb63", func := "rastrum/rastrumlaw16.LerpRises", spec := "lerpRises", inPlace := ["math/bits.Sub64"], unfollowed := true, recurses := true, named := ["math/bits.divideError", "math/bits.overflowError"], apart := false }
def LerpRisesSaid : Prop := lerpRisesRow.holds Try.pinned (OpenSpec.ofChange lerpRisesSpec)

/-- ITS FALSE NEIGHBOUR: 'it returns false'. Refute it at one input. -/
def lerpRisesWrong : ChangeSpec := { name := "lerpRises", fn := fun _ => fun
  | [d] => { results := [.lit (.bool false)], args := [d] }
  | _ => none }
def LerpRisesWrongFalsely : Prop := lerpRisesRow.holds Try.pinned (OpenSpec.ofChange lerpRisesWrong)

/-- 'rastrumlaw02.XintRoots': WHATEVER THE INPUT: true; the input reads as it did. -/
def xintRootsSpec : ChangeSpec := { name := "xintRoots", fn := fun _ => fun
  | [d] => { results := [.lit (.bool true)], args := [d] }
  | _ => none }
def xintRootsRow : OpenClaim := { program := "ytmlhbbkgfffmcaa", sum := "edaa7b63a63777c1cc30ae5c156a93a6c590c0e3e905d1aa50c80fe2ed88bb63", func := "rastrum/rastrumlaw02.XintRoots", spec := "xintRoots", inPlace := ["math/bits.Sub64"], named := ["math/bits.divideError", "math/bits.overflowError"], apart := false }
def XintRootsSaid : Prop := xintRootsRow.holds Try.pinned (OpenSpec.ofChange xintRootsSpec)

/-- ITS FALSE NEIGHBOUR: 'it returns false'. Refute it at one input. -/
def xintRootsWrong : ChangeSpec := { name := "xintRoots", fn := fun _ => fun
  | [d] => { results := [.lit (.bool false)], args := [d] }
  | _ => none }
def XintRootsWrongFalsely : Prop := xintRootsRow.holds Try.pinned (OpenSpec.ofChange xintRootsWrong)

/-- 'rastrumlaw02.XintRings': WHATEVER THE INPUT: true; the input reads as it did. -/
def xintRingsSpec : ChangeSpec := { name := "xintRings", fn := fun _ => fun
  | [d1, d2, d3] => { results := [.lit (.bool true)], args := [d1, d2, d3] }
  | _ => none }
def xintRingsRow : OpenClaim := { program := "ytmlhbbkgfffmcaa", sum := "edaa7b63a63777c1cc30ae5c156a93a6c590c0e3e905d1aa50c80fe2ed88bb63", func := "rastrum/rastrumlaw02.XintRings", spec := "xintRings", inPlace := ["math/bits.Sub64", "math/bits.Add64"], named := ["math/bits.divideError", "math/bits.overflowError"], apart := false }
def XintRingsSaid : Prop := xintRingsRow.holds Try.pinned (OpenSpec.ofChange xintRingsSpec)

/-- ITS FALSE NEIGHBOUR: 'it returns false'. Refute it at one input. -/
def xintRingsWrong : ChangeSpec := { name := "xintRings", fn := fun _ => fun
  | [d1, d2, d3] => { results := [.lit (.bool false)], args := [d1, d2, d3] }
  | _ => none }
def XintRingsWrongFalsely : Prop := xintRingsRow.holds Try.pinned (OpenSpec.ofChange xintRingsWrong)

/-- 'rastrumlaw02.XintBack': WHATEVER THE INPUT: true; the input reads as it did. -/
def xintBackSpec : ChangeSpec := { name := "xintBack", fn := fun _ => fun
  | [d1, d2] => { results := [.lit (.bool true)], args := [d1, d2] }
  | _ => none }
def xintBackRow : OpenClaim := { program := "ytmlhbbkgfffmcaa", sum := "edaa7b63a63777c1cc30ae5c156a93a6c590c0e3e905d1aa50c80fe2ed88bb63", func := "rastrum/rastrumlaw02.XintBack", spec := "xintBack", inPlace := ["math/bits.Sub64", "math/bits.Add64"], named := ["math/bits.divideError", "math/bits.overflowError"], apart := false }
def XintBackSaid : Prop := xintBackRow.holds Try.pinned (OpenSpec.ofChange xintBackSpec)

/-- ITS FALSE NEIGHBOUR: 'it returns false'. Refute it at one input. -/
def xintBackWrong : ChangeSpec := { name := "xintBack", fn := fun _ => fun
  | [d1, d2] => { results := [.lit (.bool false)], args := [d1, d2] }
  | _ => none }
def XintBackWrongFalsely : Prop := xintBackRow.holds Try.pinned (OpenSpec.ofChange xintBackWrong)

/-- 'rastrumlaw02.XintTells': WHATEVER THE INPUT: true; the input reads as it did. -/
def xintTellsSpec : ChangeSpec := { name := "xintTells", fn := fun _ => fun
  | [d1, d2, d3] => { results := [.lit (.bool true)], args := [d1, d2, d3] }
  | _ => none }
def xintTellsRow : OpenClaim := { program := "ytmlhbbkgfffmcaa", sum := "edaa7b63a63777c1cc30ae5c156a93a6c590c0e3e905d1aa50c80fe2ed88bb63", func := "rastrum/rastrumlaw02.XintTells", spec := "xintTells", inPlace := ["math/bits.Sub64", "math/bits.Add64"], named := ["math/bits.divideError", "math/bits.overflowError"], apart := false }
def XintTellsSaid : Prop := xintTellsRow.holds Try.pinned (OpenSpec.ofChange xintTellsSpec)

/-- ITS FALSE NEIGHBOUR: 'it returns false'. Refute it at one input. -/
def xintTellsWrong : ChangeSpec := { name := "xintTells", fn := fun _ => fun
  | [d1, d2, d3] => { results := [.lit (.bool false)], args := [d1, d2, d3] }
  | _ => none }
def XintTellsWrongFalsely : Prop := xintTellsRow.holds Try.pinned (OpenSpec.ofChange xintTellsWrong)

/- THE SECOND FORM. 'bulk': how many values and letters a reading holds, each counted each time it is reached (what is shared counts as often as it is met; a slice's spare places count too). A statement '..UptoSaid' is the law's where the arguments, and the package variables that the reading takes, are together of bulk at most 1048576: NARROWER than '..Said'. Prove '..Said' where nothing that the law and all that it calls make is longer than what came in: it says more and counts as full. Else prove '..UptoSaid'. A law counts once. -/
mutual
def uptoBulk {H : Type} : DataW H → Nat
  | .lit (.string bytes) => bytes.length + 1
  | .lit _ => 1
  | .nil => 1
  | .ptr d => uptoBulk d + 1
  | .slice elems spare => uptoBulkAll elems + uptoBulkAll spare + 1
  | .agg parts => uptoBulkAll parts + 1
  | .iface _ d => uptoBulk d + 1
  | .map entries => uptoBulkEntries entries + 1
  | .held _ => 1
def uptoBulkAll {H : Type} : List (DataW H) → Nat
  | [] => 0
  | d :: r => uptoBulk d + uptoBulkAll r
def uptoBulkEntries {H : Type} : List (Lit × DataW H) → Nat
  | [] => 0
  | x :: r => uptoBulkEntry x + uptoBulkEntries r
def uptoBulkEntry {H : Type} : Lit × DataW H → Nat
  | (.string bytes, d) => bytes.length + uptoBulk d + 1
  | (_, d) => uptoBulk d + 1
 end
def uptoSmall : (H : Type) → List (DataW H) → Bool := fun _ ds => decide (uptoBulkAll ds ≤ 1048576)
def OpenSpec.upto (s : _root_.Go.ChangeSpec) : _root_.Go.OpenSpec := { _root_.Go.OpenSpec.ofChange s with cond := some uptoSmall }

/-- 'rastrumlaw23.StoreClears', WHERE WHAT IT READS IS OF BULK AT MOST 1048576: true; the input reads as it did. -/
def storeClearsUptoRow : OpenClaim := { program := "ytmlhbbkgfffmcaa", sum := "edaa7b63a63777c1cc30ae5c156a93a6c590c0e3e905d1aa50c80fe2ed88bb63", func := "rastrum/rastrumlaw23.StoreClears", spec := "storeClears", apart := false, narrowed := true }
def StoreClearsUptoSaid : Prop := storeClearsUptoRow.holds Try.pinned (OpenSpec.upto storeClearsSpec)

/-- 'rastrumlaw16.LerpMids', WHERE WHAT IT READS IS OF BULK AT MOST 1048576: true; the input reads as it did. -/
def lerpMidsUptoRow : OpenClaim := { program := "ytmlhbbkgfffmcaa", sum := "edaa7b63a63777c1cc30ae5c156a93a6c590c0e3e905d1aa50c80fe2ed88bb63", func := "rastrum/rastrumlaw16.LerpMids", spec := "lerpMids", inPlace := ["math/bits.Sub64"], named := ["math/bits.divideError", "math/bits.overflowError"], apart := false, narrowed := true }
def LerpMidsUptoSaid : Prop := lerpMidsUptoRow.holds Try.pinned (OpenSpec.upto lerpMidsSpec)

/-- 'rastrumlaw14.WalkWithin', WHERE WHAT IT READS IS OF BULK AT MOST 1048576: true; the input reads as it did. -/
def walkWithinUptoRow : OpenClaim := { program := "ytmlhbbkgfffmcaa", sum := "edaa7b63a63777c1cc30ae5c156a93a6c590c0e3e905d1aa50c80fe2ed88bb63", func := "rastrum/rastrumlaw14.WalkWithin", spec := "walkWithin", unfollowed := true, recurses := true, apart := false, narrowed := true }
def WalkWithinUptoSaid : Prop := walkWithinUptoRow.holds Try.pinned (OpenSpec.upto walkWithinSpec)

/-- 'rastrumlaw14.WalkParts', WHERE WHAT IT READS IS OF BULK AT MOST 1048576: true; the input reads as it did. -/
def walkPartsUptoRow : OpenClaim := { program := "ytmlhbbkgfffmcaa", sum := "edaa7b63a63777c1cc30ae5c156a93a6c590c0e3e905d1aa50c80fe2ed88bb63", func := "rastrum/rastrumlaw14.WalkParts", spec := "walkParts", unfollowed := true, recurses := true, apart := false, narrowed := true }
def WalkPartsUptoSaid : Prop := walkPartsUptoRow.holds Try.pinned (OpenSpec.upto walkPartsSpec)

/-- 'rastrumlaw14.WalkMoves', WHERE WHAT IT READS IS OF BULK AT MOST 1048576: true; the input reads as it did. -/
def walkMovesUptoRow : OpenClaim := { program := "ytmlhbbkgfffmcaa", sum := "edaa7b63a63777c1cc30ae5c156a93a6c590c0e3e905d1aa50c80fe2ed88bb63", func := "rastrum/rastrumlaw14.WalkMoves", spec := "walkMoves", unfollowed := true, recurses := true, apart := false, narrowed := true }
def WalkMovesUptoSaid : Prop := walkMovesUptoRow.holds Try.pinned (OpenSpec.upto walkMovesSpec)

/-- 'rastrumlaw02.XintDivides', WHERE WHAT IT READS IS OF BULK AT MOST 1048576: true; the input reads as it did. -/
def xintDividesUptoRow : OpenClaim := { program := "ytmlhbbkgfffmcaa", sum := "edaa7b63a63777c1cc30ae5c156a93a6c590c0e3e905d1aa50c80fe2ed88bb63", func := "rastrum/rastrumlaw02.XintDivides", spec := "xintDivides", inPlace := ["math/bits.Sub64"], named := ["math/bits.divideError", "math/bits.overflowError"], apart := false, narrowed := true }
def XintDividesUptoSaid : Prop := xintDividesUptoRow.holds Try.pinned (OpenSpec.upto xintDividesSpec)

/-- 'rastrumlaw02.XintRatios', WHERE WHAT IT READS IS OF BULK AT MOST 1048576: true; the input reads as it did. -/
def xintRatiosUptoRow : OpenClaim := { program := "ytmlhbbkgfffmcaa", sum := "edaa7b63a63777c1cc30ae5c156a93a6c590c0e3e905d1aa50c80fe2ed88bb63", func := "rastrum/rastrumlaw02.XintRatios", spec := "xintRatios", inPlace := ["math/bits.Sub64"], named := ["math/bits.divideError", "math/bits.overflowError"], apart := false, narrowed := true }
def XintRatiosUptoSaid : Prop := xintRatiosUptoRow.holds Try.pinned (OpenSpec.upto xintRatiosSpec)

/-- 'rastrumlaw14.WalkAts', WHERE WHAT IT READS IS OF BULK AT MOST 1048576: true; the input reads as it did. -/
def walkAtsUptoRow : OpenClaim := { program := "ytmlhbbkgfffmcaa", sum := "edaa7b63a63777c1cc30ae5c156a93a6c590c0e3e905d1aa50c80fe2ed88bb63", func := "rastrum/rastrumlaw14.WalkAts", spec := "walkAts", unfollowed := true, recurses := true, apart := false, narrowed := true }
def WalkAtsUptoSaid : Prop := walkAtsUptoRow.holds Try.pinned (OpenSpec.upto walkAtsSpec)

/-- 'rastrumlaw14.WalkMeets', WHERE WHAT IT READS IS OF BULK AT MOST 1048576: true; the input reads as it did. -/
def walkMeetsUptoRow : OpenClaim := { program := "ytmlhbbkgfffmcaa", sum := "edaa7b63a63777c1cc30ae5c156a93a6c590c0e3e905d1aa50c80fe2ed88bb63", func := "rastrum/rastrumlaw14.WalkMeets", spec := "walkMeets", unfollowed := true, recurses := true, apart := false, narrowed := true }
def WalkMeetsUptoSaid : Prop := walkMeetsUptoRow.holds Try.pinned (OpenSpec.upto walkMeetsSpec)

/-- 'rastrumlaw16.LerpTells', WHERE WHAT IT READS IS OF BULK AT MOST 1048576: true; the input reads as it did. -/
def lerpTellsUptoRow : OpenClaim := { program := "ytmlhbbkgfffmcaa", sum := "edaa7b63a63777c1cc30ae5c156a93a6c590c0e3e905d1aa50c80fe2ed88bb63", func := "rastrum/rastrumlaw16.LerpTells", spec := "lerpTells", inPlace := ["math/bits.Sub64"], unfollowed := true, recurses := true, named := ["math/bits.divideError", "math/bits.overflowError"], apart := false, narrowed := true }
def LerpTellsUptoSaid : Prop := lerpTellsUptoRow.holds Try.pinned (OpenSpec.upto lerpTellsSpec)

/-- 'rastrumlaw16.LerpBetween', WHERE WHAT IT READS IS OF BULK AT MOST 1048576: true; the input reads as it did. -/
def lerpBetweenUptoRow : OpenClaim := { program := "ytmlhbbkgfffmcaa", sum := "edaa7b63a63777c1cc30ae5c156a93a6c590c0e3e905d1aa50c80fe2ed88bb63", func := "rastrum/rastrumlaw16.LerpBetween", spec := "lerpBetween", inPlace := ["math/bits.Sub64"], unfollowed := true, recurses := true, named := ["math/bits.divideError", "math/bits.overflowError"], apart := false, narrowed := true }
def LerpBetweenUptoSaid : Prop := lerpBetweenUptoRow.holds Try.pinned (OpenSpec.upto lerpBetweenSpec)

/-- 'rastrumlaw16.LerpRises', WHERE WHAT IT READS IS OF BULK AT MOST 1048576: true; the input reads as it did. -/
def lerpRisesUptoRow : OpenClaim := { program := "ytmlhbbkgfffmcaa", sum := "edaa7b63a63777c1cc30ae5c156a93a6c590c0e3e905d1aa50c80fe2ed88bb63", func := "rastrum/rastrumlaw16.LerpRises", spec := "lerpRises", inPlace := ["math/bits.Sub64"], unfollowed := true, recurses := true, named := ["math/bits.divideError", "math/bits.overflowError"], apart := false, narrowed := true }
def LerpRisesUptoSaid : Prop := lerpRisesUptoRow.holds Try.pinned (OpenSpec.upto lerpRisesSpec)

/-- 'rastrumlaw02.XintRoots', WHERE WHAT IT READS IS OF BULK AT MOST 1048576: true; the input reads as it did. -/
def xintRootsUptoRow : OpenClaim := { program := "ytmlhbbkgfffmcaa", sum := "edaa7b63a63777c1cc30ae5c156a93a6c590c0e3e905d1aa50c80fe2ed88bb63", func := "rastrum/rastrumlaw02.XintRoots", spec := "xintRoots", inPlace := ["math/bits.Sub64"], named := ["math/bits.divideError", "math/bits.overflowError"], apart := false, narrowed := true }
def XintRootsUptoSaid : Prop := xintRootsUptoRow.holds Try.pinned (OpenSpec.upto xintRootsSpec)

/-- 'rastrumlaw02.XintRings', WHERE WHAT IT READS IS OF BULK AT MOST 1048576: true; the input reads as it did. -/
def xintRingsUptoRow : OpenClaim := { program := "ytmlhbbkgfffmcaa", sum := "edaa7b63a63777c1cc30ae5c156a93a6c590c0e3e905d1aa50c80fe2ed88bb63", func := "rastrum/rastrumlaw02.XintRings", spec := "xintRings", inPlace := ["math/bits.Sub64", "math/bits.Add64"], named := ["math/bits.divideError", "math/bits.overflowError"], apart := false, narrowed := true }
def XintRingsUptoSaid : Prop := xintRingsUptoRow.holds Try.pinned (OpenSpec.upto xintRingsSpec)

/-- 'rastrumlaw02.XintBack', WHERE WHAT IT READS IS OF BULK AT MOST 1048576: true; the input reads as it did. -/
def xintBackUptoRow : OpenClaim := { program := "ytmlhbbkgfffmcaa", sum := "edaa7b63a63777c1cc30ae5c156a93a6c590c0e3e905d1aa50c80fe2ed88bb63", func := "rastrum/rastrumlaw02.XintBack", spec := "xintBack", inPlace := ["math/bits.Sub64", "math/bits.Add64"], named := ["math/bits.divideError", "math/bits.overflowError"], apart := false, narrowed := true }
def XintBackUptoSaid : Prop := xintBackUptoRow.holds Try.pinned (OpenSpec.upto xintBackSpec)

/-- 'rastrumlaw02.XintTells', WHERE WHAT IT READS IS OF BULK AT MOST 1048576: true; the input reads as it did. -/
def xintTellsUptoRow : OpenClaim := { program := "ytmlhbbkgfffmcaa", sum := "edaa7b63a63777c1cc30ae5c156a93a6c590c0e3e905d1aa50c80fe2ed88bb63", func := "rastrum/rastrumlaw02.XintTells", spec := "xintTells", inPlace := ["math/bits.Sub64", "math/bits.Add64"], named := ["math/bits.divideError", "math/bits.overflowError"], apart := false, narrowed := true }
def XintTellsUptoSaid : Prop := xintTellsUptoRow.holds Try.pinned (OpenSpec.upto xintTellsSpec)

end Rows
end Go.Proofs.Ytmlhbbkgfffmcaa
