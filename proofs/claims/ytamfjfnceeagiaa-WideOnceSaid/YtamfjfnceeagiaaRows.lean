/-
  No cell of these rows narrows 'for every input' (looked for: loops, veiled, ifaces, maps, wideKeys, modest, calm, conditions, laid).
  DERIVED. THE GIVEN ROWS OF THIS SEAT. 16 by the template 'for every input the law returns true; each argument reads behind the call as it read before'; 0 by the template 'total and deterministic' (their statements: YtamfjfnceeagiaaTotals.lean).
  GIVEN WITH THE SEED: the statements are not yours to turn. If you find one false, say at which input.
  Laid BY PROGRAM, IN A SANDBOX (cutbox-rows.mjs): the forced cells as the released guide's own fill.sh prints them over the translation 0afc8ce5e1cecb06… (all of the seat's roots in one cut). By AI agents, Wed Nov 11 2026. No macro, syntax, notation, axiom, sorry.
-/
import Derived.Test.YtamfjfnceeagiaaChecked
import GoSem.Claim
import GoSem.ClaimJoined
import GoSem.ClaimMapViews
import Derived.JoinedTies
import Derived.KernelRfl
namespace Go.Proofs.Ytamfjfnceeagiaa
/- THE CELL 'sum', in the pinned program and in every row, IS THE sha256 OF THE DUMP (.gsa) THAT YtamfjfnceeagiaaProg.lean LOADS. Nothing in Lean hashes anything: it is a label: what it is worth is what the hold of that sum in a sandbox is worth. -/
noncomputable def Try.pinned : Pinned := { name := "ytamfjfnceeagiaa", sum := "0afc8ce5e1cecb064e6e4c612da40b28a864c1ea83af8622e29c769023654961", checked := Try.checked }
namespace Rows
def none {H : Type} : Left H := { results := [], args := [] }

/-- 'rastrumlaw21.SlopeAts': WHATEVER THE INPUT: true; the input reads as it did. -/
def slopeAtsSpec : ChangeSpec := { name := "slopeAts", fn := fun _ => fun
  | [d1, d2] => { results := [.lit (.bool true)], args := [d1, d2] }
  | _ => none }
def slopeAtsRow : OpenClaim := { program := "ytamfjfnceeagiaa", sum := "0afc8ce5e1cecb064e6e4c612da40b28a864c1ea83af8622e29c769023654961", func := "rastrum/rastrumlaw21.SlopeAts", spec := "slopeAts", inPlace := ["math/bits.Sub64", "math/bits.Add64"], unfollowed := true, recurses := true, named := ["math/bits.divideError", "math/bits.overflowError"], apart := false }
def SlopeAtsSaid : Prop := slopeAtsRow.holds Try.pinned (OpenSpec.ofChange slopeAtsSpec)

/-- ITS FALSE NEIGHBOUR: 'it returns false'. Refute it at one input. -/
def slopeAtsWrong : ChangeSpec := { name := "slopeAts", fn := fun _ => fun
  | [d1, d2] => { results := [.lit (.bool false)], args := [d1, d2] }
  | _ => none }
def SlopeAtsWrongFalsely : Prop := slopeAtsRow.holds Try.pinned (OpenSpec.ofChange slopeAtsWrong)

/-- 'rastrumlaw21.SlopeBetween': WHATEVER THE INPUT: true; the input reads as it did. -/
def slopeBetweenSpec : ChangeSpec := { name := "slopeBetween", fn := fun _ => fun
  | [d1, d2] => { results := [.lit (.bool true)], args := [d1, d2] }
  | _ => none }
def slopeBetweenRow : OpenClaim := { program := "ytamfjfnceeagiaa", sum := "0afc8ce5e1cecb064e6e4c612da40b28a864c1ea83af8622e29c769023654961", func := "rastrum/rastrumlaw21.SlopeBetween", spec := "slopeBetween", inPlace := ["math/bits.Sub64", "math/bits.Add64"], unfollowed := true, recurses := true, named := ["math/bits.divideError", "math/bits.overflowError"], apart := false }
def SlopeBetweenSaid : Prop := slopeBetweenRow.holds Try.pinned (OpenSpec.ofChange slopeBetweenSpec)

/-- ITS FALSE NEIGHBOUR: 'it returns false'. Refute it at one input. -/
def slopeBetweenWrong : ChangeSpec := { name := "slopeBetween", fn := fun _ => fun
  | [d1, d2] => { results := [.lit (.bool false)], args := [d1, d2] }
  | _ => none }
def SlopeBetweenWrongFalsely : Prop := slopeBetweenRow.holds Try.pinned (OpenSpec.ofChange slopeBetweenWrong)

/-- 'rastrumlaw21.SlopeDeeper': WHATEVER THE INPUT: true; the input reads as it did. -/
def slopeDeeperSpec : ChangeSpec := { name := "slopeDeeper", fn := fun _ => fun
  | [d1, d2, d3] => { results := [.lit (.bool true)], args := [d1, d2, d3] }
  | _ => none }
def slopeDeeperRow : OpenClaim := { program := "ytamfjfnceeagiaa", sum := "0afc8ce5e1cecb064e6e4c612da40b28a864c1ea83af8622e29c769023654961", func := "rastrum/rastrumlaw21.SlopeDeeper", spec := "slopeDeeper", inPlace := ["math/bits.Sub64", "math/bits.Add64"], unfollowed := true, recurses := true, named := ["math/bits.divideError", "math/bits.overflowError"], apart := false }
def SlopeDeeperSaid : Prop := slopeDeeperRow.holds Try.pinned (OpenSpec.ofChange slopeDeeperSpec)

/-- ITS FALSE NEIGHBOUR: 'it returns false'. Refute it at one input. -/
def slopeDeeperWrong : ChangeSpec := { name := "slopeDeeper", fn := fun _ => fun
  | [d1, d2, d3] => { results := [.lit (.bool false)], args := [d1, d2, d3] }
  | _ => none }
def SlopeDeeperWrongFalsely : Prop := slopeDeeperRow.holds Try.pinned (OpenSpec.ofChange slopeDeeperWrong)

/-- 'rastrumlaw21.SlopeSame': WHATEVER THE INPUT: true; the input reads as it did. -/
def slopeSameSpec : ChangeSpec := { name := "slopeSame", fn := fun _ => fun
  | [d1, d2] => { results := [.lit (.bool true)], args := [d1, d2] }
  | _ => none }
def slopeSameRow : OpenClaim := { program := "ytamfjfnceeagiaa", sum := "0afc8ce5e1cecb064e6e4c612da40b28a864c1ea83af8622e29c769023654961", func := "rastrum/rastrumlaw21.SlopeSame", spec := "slopeSame", inPlace := ["math/bits.Sub64", "math/bits.Add64"], unfollowed := true, recurses := true, named := ["math/bits.divideError", "math/bits.overflowError"], apart := false }
def SlopeSameSaid : Prop := slopeSameRow.holds Try.pinned (OpenSpec.ofChange slopeSameSpec)

/-- ITS FALSE NEIGHBOUR: 'it returns false'. Refute it at one input. -/
def slopeSameWrong : ChangeSpec := { name := "slopeSame", fn := fun _ => fun
  | [d1, d2] => { results := [.lit (.bool false)], args := [d1, d2] }
  | _ => none }
def SlopeSameWrongFalsely : Prop := slopeSameRow.holds Try.pinned (OpenSpec.ofChange slopeSameWrong)

/-- 'rastrumlaw18.SmoothTells': WHATEVER THE INPUT: true; the input reads as it did. -/
def smoothTellsSpec : ChangeSpec := { name := "smoothTells", fn := fun _ => fun
  | [d] => { results := [.lit (.bool true)], args := [d] }
  | _ => none }
def smoothTellsRow : OpenClaim := { program := "ytamfjfnceeagiaa", sum := "0afc8ce5e1cecb064e6e4c612da40b28a864c1ea83af8622e29c769023654961", func := "rastrum/rastrumlaw18.SmoothTells", spec := "smoothTells", inPlace := ["math/bits.Sub64", "math/bits.Add64"], unfollowed := true, recurses := true, named := ["math/bits.divideError", "math/bits.overflowError"], apart := false }
def SmoothTellsSaid : Prop := smoothTellsRow.holds Try.pinned (OpenSpec.ofChange smoothTellsSpec)

/-- ITS FALSE NEIGHBOUR: 'it returns false'. Refute it at one input. -/
def smoothTellsWrong : ChangeSpec := { name := "smoothTells", fn := fun _ => fun
  | [d] => { results := [.lit (.bool false)], args := [d] }
  | _ => none }
def SmoothTellsWrongFalsely : Prop := smoothTellsRow.holds Try.pinned (OpenSpec.ofChange smoothTellsWrong)

/-- 'rastrumlaw18.SmoothCovers': WHATEVER THE INPUT: true; the input reads as it did. -/
def smoothCoversSpec : ChangeSpec := { name := "smoothCovers", fn := fun _ => fun
  | [d1, d2] => { results := [.lit (.bool true)], args := [d1, d2] }
  | _ => none }
def smoothCoversRow : OpenClaim := { program := "ytamfjfnceeagiaa", sum := "0afc8ce5e1cecb064e6e4c612da40b28a864c1ea83af8622e29c769023654961", func := "rastrum/rastrumlaw18.SmoothCovers", spec := "smoothCovers", inPlace := ["math/bits.Sub64", "math/bits.Add64"], unfollowed := true, recurses := true, named := ["math/bits.divideError", "math/bits.overflowError"], apart := false }
def SmoothCoversSaid : Prop := smoothCoversRow.holds Try.pinned (OpenSpec.ofChange smoothCoversSpec)

/-- ITS FALSE NEIGHBOUR: 'it returns false'. Refute it at one input. -/
def smoothCoversWrong : ChangeSpec := { name := "smoothCovers", fn := fun _ => fun
  | [d1, d2] => { results := [.lit (.bool false)], args := [d1, d2] }
  | _ => none }
def SmoothCoversWrongFalsely : Prop := smoothCoversRow.holds Try.pinned (OpenSpec.ofChange smoothCoversWrong)

/-- 'rastrumlaw18.SmoothParts': WHATEVER THE INPUT: true; the input reads as it did. -/
def smoothPartsSpec : ChangeSpec := { name := "smoothParts", fn := fun _ => fun
  | [d] => { results := [.lit (.bool true)], args := [d] }
  | _ => none }
def smoothPartsRow : OpenClaim := { program := "ytamfjfnceeagiaa", sum := "0afc8ce5e1cecb064e6e4c612da40b28a864c1ea83af8622e29c769023654961", func := "rastrum/rastrumlaw18.SmoothParts", spec := "smoothParts", inPlace := ["math/bits.Sub64", "math/bits.Add64"], unfollowed := true, recurses := true, named := ["math/bits.divideError", "math/bits.overflowError"], apart := false }
def SmoothPartsSaid : Prop := smoothPartsRow.holds Try.pinned (OpenSpec.ofChange smoothPartsSpec)

/-- ITS FALSE NEIGHBOUR: 'it returns false'. Refute it at one input. -/
def smoothPartsWrong : ChangeSpec := { name := "smoothParts", fn := fun _ => fun
  | [d] => { results := [.lit (.bool false)], args := [d] }
  | _ => none }
def SmoothPartsWrongFalsely : Prop := smoothPartsRow.holds Try.pinned (OpenSpec.ofChange smoothPartsWrong)

/-- 'rastrumlaw18.SmoothMoves': WHATEVER THE INPUT: true; the input reads as it did. -/
def smoothMovesSpec : ChangeSpec := { name := "smoothMoves", fn := fun _ => fun
  | [d1, d2] => { results := [.lit (.bool true)], args := [d1, d2] }
  | _ => none }
def smoothMovesRow : OpenClaim := { program := "ytamfjfnceeagiaa", sum := "0afc8ce5e1cecb064e6e4c612da40b28a864c1ea83af8622e29c769023654961", func := "rastrum/rastrumlaw18.SmoothMoves", spec := "smoothMoves", inPlace := ["math/bits.Sub64", "math/bits.Add64"], unfollowed := true, recurses := true, named := ["math/bits.divideError", "math/bits.overflowError"], apart := false }
def SmoothMovesSaid : Prop := smoothMovesRow.holds Try.pinned (OpenSpec.ofChange smoothMovesSpec)

/-- ITS FALSE NEIGHBOUR: 'it returns false'. Refute it at one input. -/
def smoothMovesWrong : ChangeSpec := { name := "smoothMoves", fn := fun _ => fun
  | [d1, d2] => { results := [.lit (.bool false)], args := [d1, d2] }
  | _ => none }
def SmoothMovesWrongFalsely : Prop := smoothMovesRow.holds Try.pinned (OpenSpec.ofChange smoothMovesWrong)

/-- 'rastrumlaw18.SmoothRects': WHATEVER THE INPUT: true; the input reads as it did. -/
def smoothRectsSpec : ChangeSpec := { name := "smoothRects", fn := fun _ => fun
  | [d1, d2] => { results := [.lit (.bool true)], args := [d1, d2] }
  | _ => none }
def smoothRectsRow : OpenClaim := { program := "ytamfjfnceeagiaa", sum := "0afc8ce5e1cecb064e6e4c612da40b28a864c1ea83af8622e29c769023654961", func := "rastrum/rastrumlaw18.SmoothRects", spec := "smoothRects", inPlace := ["math/bits.Sub64", "math/bits.Add64"], unfollowed := true, recurses := true, named := ["math/bits.divideError", "math/bits.overflowError"], apart := false }
def SmoothRectsSaid : Prop := smoothRectsRow.holds Try.pinned (OpenSpec.ofChange smoothRectsSpec)

/-- ITS FALSE NEIGHBOUR: 'it returns false'. Refute it at one input. -/
def smoothRectsWrong : ChangeSpec := { name := "smoothRects", fn := fun _ => fun
  | [d1, d2] => { results := [.lit (.bool false)], args := [d1, d2] }
  | _ => none }
def SmoothRectsWrongFalsely : Prop := smoothRectsRow.holds Try.pinned (OpenSpec.ofChange smoothRectsWrong)

/-- 'rastrumlaw21.SlopeFills': WHATEVER THE INPUT: true; the input reads as it did. -/
def slopeFillsSpec : ChangeSpec := { name := "slopeFills", fn := fun _ => fun
  | [d1, d2, d3] => { results := [.lit (.bool true)], args := [d1, d2, d3] }
  | _ => none }
def slopeFillsRow : OpenClaim := { program := "ytamfjfnceeagiaa", sum := "0afc8ce5e1cecb064e6e4c612da40b28a864c1ea83af8622e29c769023654961", func := "rastrum/rastrumlaw21.SlopeFills", spec := "slopeFills", inPlace := ["math/bits.Sub64", "math/bits.Add64"], unfollowed := true, recurses := true, named := ["math/bits.divideError", "math/bits.overflowError"], apart := false }
def SlopeFillsSaid : Prop := slopeFillsRow.holds Try.pinned (OpenSpec.ofChange slopeFillsSpec)

/-- ITS FALSE NEIGHBOUR: 'it returns false'. Refute it at one input. -/
def slopeFillsWrong : ChangeSpec := { name := "slopeFills", fn := fun _ => fun
  | [d1, d2, d3] => { results := [.lit (.bool false)], args := [d1, d2, d3] }
  | _ => none }
def SlopeFillsWrongFalsely : Prop := slopeFillsRow.holds Try.pinned (OpenSpec.ofChange slopeFillsWrong)

/-- 'rastrumlaw21.SlopeSpans': WHATEVER THE INPUT: true; the input reads as it did. -/
def slopeSpansSpec : ChangeSpec := { name := "slopeSpans", fn := fun _ => fun
  | [d1, d2, d3] => { results := [.lit (.bool true)], args := [d1, d2, d3] }
  | _ => none }
def slopeSpansRow : OpenClaim := { program := "ytamfjfnceeagiaa", sum := "0afc8ce5e1cecb064e6e4c612da40b28a864c1ea83af8622e29c769023654961", func := "rastrum/rastrumlaw21.SlopeSpans", spec := "slopeSpans", inPlace := ["math/bits.Sub64", "math/bits.Add64"], unfollowed := true, recurses := true, named := ["math/bits.divideError", "math/bits.overflowError"], apart := false }
def SlopeSpansSaid : Prop := slopeSpansRow.holds Try.pinned (OpenSpec.ofChange slopeSpansSpec)

/-- ITS FALSE NEIGHBOUR: 'it returns false'. Refute it at one input. -/
def slopeSpansWrong : ChangeSpec := { name := "slopeSpans", fn := fun _ => fun
  | [d1, d2, d3] => { results := [.lit (.bool false)], args := [d1, d2, d3] }
  | _ => none }
def SlopeSpansWrongFalsely : Prop := slopeSpansRow.holds Try.pinned (OpenSpec.ofChange slopeSpansWrong)

/-- 'rastrumlaw17.WideTells': WHATEVER THE INPUT: true; the input reads as it did. -/
def wideTellsSpec : ChangeSpec := { name := "wideTells", fn := fun _ => fun
  | [d] => { results := [.lit (.bool true)], args := [d] }
  | _ => none }
def wideTellsRow : OpenClaim := { program := "ytamfjfnceeagiaa", sum := "0afc8ce5e1cecb064e6e4c612da40b28a864c1ea83af8622e29c769023654961", func := "rastrum/rastrumlaw17.WideTells", spec := "wideTells", inPlace := ["math/bits.Sub64"], unfollowed := true, recurses := true, named := ["math/bits.divideError", "math/bits.overflowError"], apart := false }
def WideTellsSaid : Prop := wideTellsRow.holds Try.pinned (OpenSpec.ofChange wideTellsSpec)

/-- ITS FALSE NEIGHBOUR: 'it returns false'. Refute it at one input. -/
def wideTellsWrong : ChangeSpec := { name := "wideTells", fn := fun _ => fun
  | [d] => { results := [.lit (.bool false)], args := [d] }
  | _ => none }
def WideTellsWrongFalsely : Prop := wideTellsRow.holds Try.pinned (OpenSpec.ofChange wideTellsWrong)

/-- 'rastrumlaw17.WideRects': WHATEVER THE INPUT: true; the input reads as it did. -/
def wideRectsSpec : ChangeSpec := { name := "wideRects", fn := fun _ => fun
  | [d1, d2] => { results := [.lit (.bool true)], args := [d1, d2] }
  | _ => none }
def wideRectsRow : OpenClaim := { program := "ytamfjfnceeagiaa", sum := "0afc8ce5e1cecb064e6e4c612da40b28a864c1ea83af8622e29c769023654961", func := "rastrum/rastrumlaw17.WideRects", spec := "wideRects", inPlace := ["math/bits.Sub64"], unfollowed := true, recurses := true, named := ["math/bits.divideError", "math/bits.overflowError"], apart := false }
def WideRectsSaid : Prop := wideRectsRow.holds Try.pinned (OpenSpec.ofChange wideRectsSpec)

/-- ITS FALSE NEIGHBOUR: 'it returns false'. Refute it at one input. -/
def wideRectsWrong : ChangeSpec := { name := "wideRects", fn := fun _ => fun
  | [d1, d2] => { results := [.lit (.bool false)], args := [d1, d2] }
  | _ => none }
def WideRectsWrongFalsely : Prop := wideRectsRow.holds Try.pinned (OpenSpec.ofChange wideRectsWrong)

/-- 'rastrumlaw17.WideOnce': WHATEVER THE INPUT: true; the input reads as it did. -/
def wideOnceSpec : ChangeSpec := { name := "wideOnce", fn := fun _ => fun
  | [d] => { results := [.lit (.bool true)], args := [d] }
  | _ => none }
def wideOnceRow : OpenClaim := { program := "ytamfjfnceeagiaa", sum := "0afc8ce5e1cecb064e6e4c612da40b28a864c1ea83af8622e29c769023654961", func := "rastrum/rastrumlaw17.WideOnce", spec := "wideOnce", inPlace := ["math/bits.Sub64"], unfollowed := true, recurses := true, named := ["math/bits.divideError", "math/bits.overflowError"], apart := false }
def WideOnceSaid : Prop := wideOnceRow.holds Try.pinned (OpenSpec.ofChange wideOnceSpec)

/-- ITS FALSE NEIGHBOUR: 'it returns false'. Refute it at one input. -/
def wideOnceWrong : ChangeSpec := { name := "wideOnce", fn := fun _ => fun
  | [d] => { results := [.lit (.bool false)], args := [d] }
  | _ => none }
def WideOnceWrongFalsely : Prop := wideOnceRow.holds Try.pinned (OpenSpec.ofChange wideOnceWrong)

/-- 'rastrumlaw17.WideParts': WHATEVER THE INPUT: true; the input reads as it did. -/
def widePartsSpec : ChangeSpec := { name := "wideParts", fn := fun _ => fun
  | [d] => { results := [.lit (.bool true)], args := [d] }
  | _ => none }
def widePartsRow : OpenClaim := { program := "ytamfjfnceeagiaa", sum := "0afc8ce5e1cecb064e6e4c612da40b28a864c1ea83af8622e29c769023654961", func := "rastrum/rastrumlaw17.WideParts", spec := "wideParts", inPlace := ["math/bits.Sub64"], unfollowed := true, recurses := true, named := ["math/bits.divideError", "math/bits.overflowError"], apart := false }
def WidePartsSaid : Prop := widePartsRow.holds Try.pinned (OpenSpec.ofChange widePartsSpec)

/-- ITS FALSE NEIGHBOUR: 'it returns false'. Refute it at one input. -/
def widePartsWrong : ChangeSpec := { name := "wideParts", fn := fun _ => fun
  | [d] => { results := [.lit (.bool false)], args := [d] }
  | _ => none }
def WidePartsWrongFalsely : Prop := widePartsRow.holds Try.pinned (OpenSpec.ofChange widePartsWrong)

/-- 'rastrumlaw17.WideCounts': WHATEVER THE INPUT: true; the input reads as it did. -/
def wideCountsSpec : ChangeSpec := { name := "wideCounts", fn := fun _ => fun
  | [d] => { results := [.lit (.bool true)], args := [d] }
  | _ => none }
def wideCountsRow : OpenClaim := { program := "ytamfjfnceeagiaa", sum := "0afc8ce5e1cecb064e6e4c612da40b28a864c1ea83af8622e29c769023654961", func := "rastrum/rastrumlaw17.WideCounts", spec := "wideCounts", inPlace := ["math/bits.Sub64"], unfollowed := true, recurses := true, named := ["math/bits.divideError", "math/bits.overflowError"], apart := false }
def WideCountsSaid : Prop := wideCountsRow.holds Try.pinned (OpenSpec.ofChange wideCountsSpec)

/-- ITS FALSE NEIGHBOUR: 'it returns false'. Refute it at one input. -/
def wideCountsWrong : ChangeSpec := { name := "wideCounts", fn := fun _ => fun
  | [d] => { results := [.lit (.bool false)], args := [d] }
  | _ => none }
def WideCountsWrongFalsely : Prop := wideCountsRow.holds Try.pinned (OpenSpec.ofChange wideCountsWrong)

/- THE SECOND FORM. 'bulk': how many values and letters a reading holds, each counted each time it is reached (what is shared counts as often as it is met; a slice's spare places count too). A statement '..UptoSaid' is the law's where the arguments, and the package variables that the reading takes, are together of bulk at most 1048576: NARROWER than '..Said'. Prove '..Said' where nothing that the law and all that it calls make is longer than what came in: it says more and counts as full. Else prove '..UptoSaid'. A law counts once. -/
mutual
def uptoBulk {H : Type} : DataW H → Nat
  | .lit (.string bytes) => bytes.length + 1
  | .lit _ => 1
  | .nil => 1
  | .ptr d => uptoBulk d + 1
  | .slice elems spare => uptoBulkAll elems + uptoBulkAll spare + 1
  | .agg parts => uptoBulkAll parts + 1
  | .iface _ d => uptoBulk d + 1
  | .map entries => uptoBulkEntries entries + 1
  | .held _ => 1
def uptoBulkAll {H : Type} : List (DataW H) → Nat
  | [] => 0
  | d :: r => uptoBulk d + uptoBulkAll r
def uptoBulkEntries {H : Type} : List (Lit × DataW H) → Nat
  | [] => 0
  | x :: r => uptoBulkEntry x + uptoBulkEntries r
def uptoBulkEntry {H : Type} : Lit × DataW H → Nat
  | (.string bytes, d) => bytes.length + uptoBulk d + 1
  | (_, d) => uptoBulk d + 1
 end
def uptoSmall : (H : Type) → List (DataW H) → Bool := fun _ ds => decide (uptoBulkAll ds ≤ 1048576)
def OpenSpec.upto (s : _root_.Go.ChangeSpec) : _root_.Go.OpenSpec := { _root_.Go.OpenSpec.ofChange s with cond := some uptoSmall }

/-- 'rastrumlaw21.SlopeAts', WHERE WHAT IT READS IS OF BULK AT MOST 1048576: true; the input reads as it did. -/
def slopeAtsUptoRow : OpenClaim := { program := "ytamfjfnceeagiaa", sum := "0afc8ce5e1cecb064e6e4c612da40b28a864c1ea83af8622e29c769023654961", func := "rastrum/rastrumlaw21.SlopeAts", spec := "slopeAts", inPlace := ["math/bits.Sub64", "math/bits.Add64"], unfollowed := true, recurses := true, named := ["math/bits.divideError", "math/bits.overflowError"], apart := false, narrowed := true }
def SlopeAtsUptoSaid : Prop := slopeAtsUptoRow.holds Try.pinned (OpenSpec.upto slopeAtsSpec)

/-- 'rastrumlaw21.SlopeBetween', WHERE WHAT IT READS IS OF BULK AT MOST 1048576: true; the input reads as it did. -/
def slopeBetweenUptoRow : OpenClaim := { program := "ytamfjfnceeagiaa", sum := "0afc8ce5e1cecb064e6e4c612da40b28a864c1ea83af8622e29c769023654961", func := "rastrum/rastrumlaw21.SlopeBetween", spec := "slopeBetween", inPlace := ["math/bits.Sub64", "math/bits.Add64"], unfollowed := true, recurses := true, named := ["math/bits.divideError", "math/bits.overflowError"], apart := false, narrowed := true }
def SlopeBetweenUptoSaid : Prop := slopeBetweenUptoRow.holds Try.pinned (OpenSpec.upto slopeBetweenSpec)

/-- 'rastrumlaw21.SlopeDeeper', WHERE WHAT IT READS IS OF BULK AT MOST 1048576: true; the input reads as it did. -/
def slopeDeeperUptoRow : OpenClaim := { program := "ytamfjfnceeagiaa", sum := "0afc8ce5e1cecb064e6e4c612da40b28a864c1ea83af8622e29c769023654961", func := "rastrum/rastrumlaw21.SlopeDeeper", spec := "slopeDeeper", inPlace := ["math/bits.Sub64", "math/bits.Add64"], unfollowed := true, recurses := true, named := ["math/bits.divideError", "math/bits.overflowError"], apart := false, narrowed := true }
def SlopeDeeperUptoSaid : Prop := slopeDeeperUptoRow.holds Try.pinned (OpenSpec.upto slopeDeeperSpec)

/-- 'rastrumlaw21.SlopeSame', WHERE WHAT IT READS IS OF BULK AT MOST 1048576: true; the input reads as it did. -/
def slopeSameUptoRow : OpenClaim := { program := "ytamfjfnceeagiaa", sum := "0afc8ce5e1cecb064e6e4c612da40b28a864c1ea83af8622e29c769023654961", func := "rastrum/rastrumlaw21.SlopeSame", spec := "slopeSame", inPlace := ["math/bits.Sub64", "math/bits.Add64"], unfollowed := true, recurses := true, named := ["math/bits.divideError", "math/bits.overflowError"], apart := false, narrowed := true }
def SlopeSameUptoSaid : Prop := slopeSameUptoRow.holds Try.pinned (OpenSpec.upto slopeSameSpec)

/-- 'rastrumlaw18.SmoothTells', WHERE WHAT IT READS IS OF BULK AT MOST 1048576: true; the input reads as it did. -/
def smoothTellsUptoRow : OpenClaim := { program := "ytamfjfnceeagiaa", sum := "0afc8ce5e1cecb064e6e4c612da40b28a864c1ea83af8622e29c769023654961", func := "rastrum/rastrumlaw18.SmoothTells", spec := "smoothTells", inPlace := ["math/bits.Sub64", "math/bits.Add64"], unfollowed := true, recurses := true, named := ["math/bits.divideError", "math/bits.overflowError"], apart := false, narrowed := true }
def SmoothTellsUptoSaid : Prop := smoothTellsUptoRow.holds Try.pinned (OpenSpec.upto smoothTellsSpec)

/-- 'rastrumlaw18.SmoothCovers', WHERE WHAT IT READS IS OF BULK AT MOST 1048576: true; the input reads as it did. -/
def smoothCoversUptoRow : OpenClaim := { program := "ytamfjfnceeagiaa", sum := "0afc8ce5e1cecb064e6e4c612da40b28a864c1ea83af8622e29c769023654961", func := "rastrum/rastrumlaw18.SmoothCovers", spec := "smoothCovers", inPlace := ["math/bits.Sub64", "math/bits.Add64"], unfollowed := true, recurses := true, named := ["math/bits.divideError", "math/bits.overflowError"], apart := false, narrowed := true }
def SmoothCoversUptoSaid : Prop := smoothCoversUptoRow.holds Try.pinned (OpenSpec.upto smoothCoversSpec)

/-- 'rastrumlaw18.SmoothParts', WHERE WHAT IT READS IS OF BULK AT MOST 1048576: true; the input reads as it did. -/
def smoothPartsUptoRow : OpenClaim := { program := "ytamfjfnceeagiaa", sum := "0afc8ce5e1cecb064e6e4c612da40b28a864c1ea83af8622e29c769023654961", func := "rastrum/rastrumlaw18.SmoothParts", spec := "smoothParts", inPlace := ["math/bits.Sub64", "math/bits.Add64"], unfollowed := true, recurses := true, named := ["math/bits.divideError", "math/bits.overflowError"], apart := false, narrowed := true }
def SmoothPartsUptoSaid : Prop := smoothPartsUptoRow.holds Try.pinned (OpenSpec.upto smoothPartsSpec)

/-- 'rastrumlaw18.SmoothMoves', WHERE WHAT IT READS IS OF BULK AT MOST 1048576: true; the input reads as it did. -/
def smoothMovesUptoRow : OpenClaim := { program := "ytamfjfnceeagiaa", sum := "0afc8ce5e1cecb064e6e4c612da40b28a864c1ea83af8622e29c769023654961", func := "rastrum/rastrumlaw18.SmoothMoves", spec := "smoothMoves", inPlace := ["math/bits.Sub64", "math/bits.Add64"], unfollowed := true, recurses := true, named := ["math/bits.divideError", "math/bits.overflowError"], apart := false, narrowed := true }
def SmoothMovesUptoSaid : Prop := smoothMovesUptoRow.holds Try.pinned (OpenSpec.upto smoothMovesSpec)

/-- 'rastrumlaw18.SmoothRects', WHERE WHAT IT READS IS OF BULK AT MOST 1048576: true; the input reads as it did. -/
def smoothRectsUptoRow : OpenClaim := { program := "ytamfjfnceeagiaa", sum := "0afc8ce5e1cecb064e6e4c612da40b28a864c1ea83af8622e29c769023654961", func := "rastrum/rastrumlaw18.SmoothRects", spec := "smoothRects", inPlace := ["math/bits.Sub64", "math/bits.Add64"], unfollowed := true, recurses := true, named := ["math/bits.divideError", "math/bits.overflowError"], apart := false, narrowed := true }
def SmoothRectsUptoSaid : Prop := smoothRectsUptoRow.holds Try.pinned (OpenSpec.upto smoothRectsSpec)

/-- 'rastrumlaw21.SlopeFills', WHERE WHAT IT READS IS OF BULK AT MOST 1048576: true; the input reads as it did. -/
def slopeFillsUptoRow : OpenClaim := { program := "ytamfjfnceeagiaa", sum := "0afc8ce5e1cecb064e6e4c612da40b28a864c1ea83af8622e29c769023654961", func := "rastrum/rastrumlaw21.SlopeFills", spec := "slopeFills", inPlace := ["math/bits.Sub64", "math/bits.Add64"], unfollowed := true, recurses := true, named := ["math/bits.divideError", "math/bits.overflowError"], apart := false, narrowed := true }
def SlopeFillsUptoSaid : Prop := slopeFillsUptoRow.holds Try.pinned (OpenSpec.upto slopeFillsSpec)

/-- 'rastrumlaw21.SlopeSpans', WHERE WHAT IT READS IS OF BULK AT MOST 1048576: true; the input reads as it did. -/
def slopeSpansUptoRow : OpenClaim := { program := "ytamfjfnceeagiaa", sum := "0afc8ce5e1cecb064e6e4c612da40b28a864c1ea83af8622e29c769023654961", func := "rastrum/rastrumlaw21.SlopeSpans", spec := "slopeSpans", inPlace := ["math/bits.Sub64", "math/bits.Add64"], unfollowed := true, recurses := true, named := ["math/bits.divideError", "math/bits.overflowError"], apart := false, narrowed := true }
def SlopeSpansUptoSaid : Prop := slopeSpansUptoRow.holds Try.pinned (OpenSpec.upto slopeSpansSpec)

/-- 'rastrumlaw17.WideTells', WHERE WHAT IT READS IS OF BULK AT MOST 1048576: true; the input reads as it did. -/
def wideTellsUptoRow : OpenClaim := { program := "ytamfjfnceeagiaa", sum := "0afc8ce5e1cecb064e6e4c612da40b28a864c1ea83af8622e29c769023654961", func := "rastrum/rastrumlaw17.WideTells", spec := "wideTells", inPlace := ["math/bits.Sub64"], unfollowed := true, recurses := true, named := ["math/bits.divideError", "math/bits.overflowError"], apart := false, narrowed := true }
def WideTellsUptoSaid : Prop := wideTellsUptoRow.holds Try.pinned (OpenSpec.upto wideTellsSpec)

/-- 'rastrumlaw17.WideRects', WHERE WHAT IT READS IS OF BULK AT MOST 1048576: true; the input reads as it did. -/
def wideRectsUptoRow : OpenClaim := { program := "ytamfjfnceeagiaa", sum := "0afc8ce5e1cecb064e6e4c612da40b28a864c1ea83af8622e29c769023654961", func := "rastrum/rastrumlaw17.WideRects", spec := "wideRects", inPlace := ["math/bits.Sub64"], unfollowed := true, recurses := true, named := ["math/bits.divideError", "math/bits.overflowError"], apart := false, narrowed := true }
def WideRectsUptoSaid : Prop := wideRectsUptoRow.holds Try.pinned (OpenSpec.upto wideRectsSpec)

/-- 'rastrumlaw17.WideOnce', WHERE WHAT IT READS IS OF BULK AT MOST 1048576: true; the input reads as it did. -/
def wideOnceUptoRow : OpenClaim := { program := "ytamfjfnceeagiaa", sum := "0afc8ce5e1cecb064e6e4c612da40b28a864c1ea83af8622e29c769023654961", func := "rastrum/rastrumlaw17.WideOnce", spec := "wideOnce", inPlace := ["math/bits.Sub64"], unfollowed := true, recurses := true, named := ["math/bits.divideError", "math/bits.overflowError"], apart := false, narrowed := true }
def WideOnceUptoSaid : Prop := wideOnceUptoRow.holds Try.pinned (OpenSpec.upto wideOnceSpec)

/-- 'rastrumlaw17.WideParts', WHERE WHAT IT READS IS OF BULK AT MOST 1048576: true; the input reads as it did. -/
def widePartsUptoRow : OpenClaim := { program := "ytamfjfnceeagiaa", sum := "0afc8ce5e1cecb064e6e4c612da40b28a864c1ea83af8622e29c769023654961", func := "rastrum/rastrumlaw17.WideParts", spec := "wideParts", inPlace := ["math/bits.Sub64"], unfollowed := true, recurses := true, named := ["math/bits.divideError", "math/bits.overflowError"], apart := false, narrowed := true }
def WidePartsUptoSaid : Prop := widePartsUptoRow.holds Try.pinned (OpenSpec.upto widePartsSpec)

/-- 'rastrumlaw17.WideCounts', WHERE WHAT IT READS IS OF BULK AT MOST 1048576: true; the input reads as it did. -/
def wideCountsUptoRow : OpenClaim := { program := "ytamfjfnceeagiaa", sum := "0afc8ce5e1cecb064e6e4c612da40b28a864c1ea83af8622e29c769023654961", func := "rastrum/rastrumlaw17.WideCounts", spec := "wideCounts", inPlace := ["math/bits.Sub64"], unfollowed := true, recurses := true, named := ["math/bits.divideError", "math/bits.overflowError"], apart := false, narrowed := true }
def WideCountsUptoSaid : Prop := wideCountsUptoRow.holds Try.pinned (OpenSpec.upto wideCountsSpec)

end Rows
end Go.Proofs.Ytamfjfnceeagiaa
