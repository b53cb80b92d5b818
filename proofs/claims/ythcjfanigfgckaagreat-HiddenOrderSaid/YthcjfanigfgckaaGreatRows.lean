/-
  No cell of these rows narrows 'for every input' (looked for: loops, veiled, ifaces, maps, wideKeys, modest, calm, conditions, laid).
  DERIVED. THE GIVEN ROWS OF THIS SEAT. 7 by the template 'for every input the law returns true; each argument reads behind the call as it read before'; 0 by the template 'total and deterministic' (their statements: YthcjfanigfgckaaGreatTotals.lean).
  GIVEN WITH THE SEED: the statements are not yours to turn. If you find one false, say at which input.
  Laid BY PROGRAM, IN A SANDBOX (cutbox-rows.mjs): the forced cells as the released guide's own fill.sh prints them over the translation 58ff4b9d25e03578… (all of the seat's roots in one cut). By AI agents, Wed Nov 11 2026. No macro, syntax, notation, axiom, sorry.
-/
import Derived.Test.YthcjfanigfgckaaGreatChecked
import GoSem.Claim
import GoSem.ClaimJoined
import GoSem.ClaimMapViews
import Derived.JoinedTies
import Derived.KernelRfl
namespace Go.Proofs.YthcjfanigfgckaaGreat
/- THE CELL 'sum', in the pinned program and in every row, IS THE sha256 OF THE DUMP (.gsa) THAT YthcjfanigfgckaaGreatProg.lean LOADS. Nothing in Lean hashes anything: it is a label: what it is worth is what the hold of that sum in a sandbox is worth. -/
noncomputable def Tryz.pinned : Pinned := { name := "ythcjfanigfgckaagreat", sum := "58ff4b9d25e03578ad0ef3e5fd067401cf57001feb08b7298884445f1cca1c23", checked := Tryz.checked }
namespace Rows
def none {H : Type} : Left H := { results := [], args := [] }

/-- 'rastrumlaw22.FaceTells': WHATEVER THE INPUT: true; the input reads as it did. -/
def faceTellsSpec : ChangeSpec := { name := "faceTells", fn := fun _ => fun
  | [d] => { results := [.lit (.bool true)], args := [d] }
  | _ => none }
def faceTellsRow : OpenClaim := { program := "ythcjfanigfgckaagreat", sum := "58ff4b9d25e03578ad0ef3e5fd067401cf57001feb08b7298884445f1cca1c23", func := "rastrum/rastrumlaw22.FaceTells", spec := "faceTells", inPlace := ["math/bits.Add64", "math/bits.Sub64"], unfollowed := true, recurses := true, named := ["math/bits.divideError", "math/bits.overflowError"], apart := false }
def FaceTellsSaid : Prop := faceTellsRow.holds Tryz.pinned (OpenSpec.ofChange faceTellsSpec)

/-- ITS FALSE NEIGHBOUR: 'it returns false'. Refute it at one input. -/
def faceTellsWrong : ChangeSpec := { name := "faceTells", fn := fun _ => fun
  | [d] => { results := [.lit (.bool false)], args := [d] }
  | _ => none }
def FaceTellsWrongFalsely : Prop := faceTellsRow.holds Tryz.pinned (OpenSpec.ofChange faceTellsWrong)

/-- 'rastrumlaw22.FaceSigns': WHATEVER THE INPUT: true; the input reads as it did. -/
def faceSignsSpec : ChangeSpec := { name := "faceSigns", fn := fun _ => fun
  | [d1, d2] => { results := [.lit (.bool true)], args := [d1, d2] }
  | _ => none }
def faceSignsRow : OpenClaim := { program := "ythcjfanigfgckaagreat", sum := "58ff4b9d25e03578ad0ef3e5fd067401cf57001feb08b7298884445f1cca1c23", func := "rastrum/rastrumlaw22.FaceSigns", spec := "faceSigns", inPlace := ["math/bits.Add64", "math/bits.Sub64"], unfollowed := true, recurses := true, named := ["math/bits.divideError", "math/bits.overflowError"], apart := false }
def FaceSignsSaid : Prop := faceSignsRow.holds Tryz.pinned (OpenSpec.ofChange faceSignsSpec)

/-- ITS FALSE NEIGHBOUR: 'it returns false'. Refute it at one input. -/
def faceSignsWrong : ChangeSpec := { name := "faceSigns", fn := fun _ => fun
  | [d1, d2] => { results := [.lit (.bool false)], args := [d1, d2] }
  | _ => none }
def FaceSignsWrongFalsely : Prop := faceSignsRow.holds Tryz.pinned (OpenSpec.ofChange faceSignsWrong)

/-- 'rastrumlaw27.HiddenShows': WHATEVER THE INPUT: true; the input reads as it did. -/
def hiddenShowsSpec : ChangeSpec := { name := "hiddenShows", fn := fun _ => fun
  | [d] => { results := [.lit (.bool true)], args := [d] }
  | _ => none }
def hiddenShowsRow : OpenClaim := { program := "ythcjfanigfgckaagreat", sum := "58ff4b9d25e03578ad0ef3e5fd067401cf57001feb08b7298884445f1cca1c23", func := "rastrum/rastrumlaw27.HiddenShows", spec := "hiddenShows", inPlace := ["math/bits.Add64", "math/bits.Sub64"], unfollowed := true, recurses := true, named := ["math/bits.divideError", "math/bits.overflowError"], apart := false }
def HiddenShowsSaid : Prop := hiddenShowsRow.holds Tryz.pinned (OpenSpec.ofChange hiddenShowsSpec)

/-- ITS FALSE NEIGHBOUR: 'it returns false'. Refute it at one input. -/
def hiddenShowsWrong : ChangeSpec := { name := "hiddenShows", fn := fun _ => fun
  | [d] => { results := [.lit (.bool false)], args := [d] }
  | _ => none }
def HiddenShowsWrongFalsely : Prop := hiddenShowsRow.holds Tryz.pinned (OpenSpec.ofChange hiddenShowsWrong)

/-- 'rastrumlaw27.HiddenDraws': WHATEVER THE INPUT: true; the input reads as it did. -/
def hiddenDrawsSpec : ChangeSpec := { name := "hiddenDraws", fn := fun _ => fun
  | [d1, d2] => { results := [.lit (.bool true)], args := [d1, d2] }
  | _ => none }
def hiddenDrawsRow : OpenClaim := { program := "ythcjfanigfgckaagreat", sum := "58ff4b9d25e03578ad0ef3e5fd067401cf57001feb08b7298884445f1cca1c23", func := "rastrum/rastrumlaw27.HiddenDraws", spec := "hiddenDraws", inPlace := ["math/bits.Add64", "math/bits.Sub64"], unfollowed := true, recurses := true, named := ["math/bits.divideError", "math/bits.overflowError"], apart := false }
def HiddenDrawsSaid : Prop := hiddenDrawsRow.holds Tryz.pinned (OpenSpec.ofChange hiddenDrawsSpec)

/-- ITS FALSE NEIGHBOUR: 'it returns false'. Refute it at one input. -/
def hiddenDrawsWrong : ChangeSpec := { name := "hiddenDraws", fn := fun _ => fun
  | [d1, d2] => { results := [.lit (.bool false)], args := [d1, d2] }
  | _ => none }
def HiddenDrawsWrongFalsely : Prop := hiddenDrawsRow.holds Tryz.pinned (OpenSpec.ofChange hiddenDrawsWrong)

/-- 'rastrumlaw27.HiddenLines': WHATEVER THE INPUT: true; the input reads as it did. -/
def hiddenLinesSpec : ChangeSpec := { name := "hiddenLines", fn := fun _ => fun
  | [d] => { results := [.lit (.bool true)], args := [d] }
  | _ => none }
def hiddenLinesRow : OpenClaim := { program := "ythcjfanigfgckaagreat", sum := "58ff4b9d25e03578ad0ef3e5fd067401cf57001feb08b7298884445f1cca1c23", func := "rastrum/rastrumlaw27.HiddenLines", spec := "hiddenLines", inPlace := ["math/bits.Add64", "math/bits.Sub64"], unfollowed := true, recurses := true, named := ["math/bits.divideError", "math/bits.overflowError"], apart := false }
def HiddenLinesSaid : Prop := hiddenLinesRow.holds Tryz.pinned (OpenSpec.ofChange hiddenLinesSpec)

/-- ITS FALSE NEIGHBOUR: 'it returns false'. Refute it at one input. -/
def hiddenLinesWrong : ChangeSpec := { name := "hiddenLines", fn := fun _ => fun
  | [d] => { results := [.lit (.bool false)], args := [d] }
  | _ => none }
def HiddenLinesWrongFalsely : Prop := hiddenLinesRow.holds Tryz.pinned (OpenSpec.ofChange hiddenLinesWrong)

/-- 'rastrumlaw27.HiddenOrder': WHATEVER THE INPUT: true; the input reads as it did. -/
def hiddenOrderSpec : ChangeSpec := { name := "hiddenOrder", fn := fun _ => fun
  | [d1, d2] => { results := [.lit (.bool true)], args := [d1, d2] }
  | _ => none }
def hiddenOrderRow : OpenClaim := { program := "ythcjfanigfgckaagreat", sum := "58ff4b9d25e03578ad0ef3e5fd067401cf57001feb08b7298884445f1cca1c23", func := "rastrum/rastrumlaw27.HiddenOrder", spec := "hiddenOrder", inPlace := ["math/bits.Add64", "math/bits.Sub64"], unfollowed := true, recurses := true, named := ["math/bits.divideError", "math/bits.overflowError"], apart := false }
def HiddenOrderSaid : Prop := hiddenOrderRow.holds Tryz.pinned (OpenSpec.ofChange hiddenOrderSpec)

/-- ITS FALSE NEIGHBOUR: 'it returns false'. Refute it at one input. -/
def hiddenOrderWrong : ChangeSpec := { name := "hiddenOrder", fn := fun _ => fun
  | [d1, d2] => { results := [.lit (.bool false)], args := [d1, d2] }
  | _ => none }
def HiddenOrderWrongFalsely : Prop := hiddenOrderRow.holds Tryz.pinned (OpenSpec.ofChange hiddenOrderWrong)

/-- 'rastrumlaw27.HiddenLeast': WHATEVER THE INPUT: true; the input reads as it did. -/
def hiddenLeastSpec : ChangeSpec := { name := "hiddenLeast", fn := fun _ => fun
  | [d] => { results := [.lit (.bool true)], args := [d] }
  | _ => none }
def hiddenLeastRow : OpenClaim := { program := "ythcjfanigfgckaagreat", sum := "58ff4b9d25e03578ad0ef3e5fd067401cf57001feb08b7298884445f1cca1c23", func := "rastrum/rastrumlaw27.HiddenLeast", spec := "hiddenLeast", inPlace := ["math/bits.Add64", "math/bits.Sub64"], unfollowed := true, recurses := true, named := ["math/bits.divideError", "math/bits.overflowError"], apart := false }
def HiddenLeastSaid : Prop := hiddenLeastRow.holds Tryz.pinned (OpenSpec.ofChange hiddenLeastSpec)

/-- ITS FALSE NEIGHBOUR: 'it returns false'. Refute it at one input. -/
def hiddenLeastWrong : ChangeSpec := { name := "hiddenLeast", fn := fun _ => fun
  | [d] => { results := [.lit (.bool false)], args := [d] }
  | _ => none }
def HiddenLeastWrongFalsely : Prop := hiddenLeastRow.holds Tryz.pinned (OpenSpec.ofChange hiddenLeastWrong)

/- THE SECOND FORM. 'bulk': how many values and letters a reading holds, each counted each time it is reached (what is shared counts as often as it is met; a slice's spare places count too). A statement '..UptoSaid' is the law's where the arguments, and the package variables that the reading takes, are together of bulk at most 1048576: NARROWER than '..Said'. Prove '..Said' where nothing that the law and all that it calls make is longer than what came in: it says more and counts as full. Else prove '..UptoSaid'. A law counts once. -/
mutual
def uptoBulk {H : Type} : DataW H → Nat
  | .lit (.string bytes) => bytes.length + 1
  | .lit _ => 1
  | .nil => 1
  | .ptr d => uptoBulk d + 1
  | .slice elems spare => uptoBulkAll elems + uptoBulkAll spare + 1
  | .agg parts => uptoBulkAll parts + 1
  | .iface _ d => uptoBulk d + 1
  | .map entries => uptoBulkEntries entries + 1
  | .held _ => 1
def uptoBulkAll {H : Type} : List (DataW H) → Nat
  | [] => 0
  | d :: r => uptoBulk d + uptoBulkAll r
def uptoBulkEntries {H : Type} : List (Lit × DataW H) → Nat
  | [] => 0
  | x :: r => uptoBulkEntry x + uptoBulkEntries r
def uptoBulkEntry {H : Type} : Lit × DataW H → Nat
  | (.string bytes, d) => bytes.length + uptoBulk d + 1
  | (_, d) => uptoBulk d + 1
 end
def uptoSmall : (H : Type) → List (DataW H) → Bool := fun _ ds => decide (uptoBulkAll ds ≤ 1048576)
def OpenSpec.upto (s : _root_.Go.ChangeSpec) : _root_.Go.OpenSpec := { _root_.Go.OpenSpec.ofChange s with cond := some uptoSmall }

/-- 'rastrumlaw22.FaceTells', WHERE WHAT IT READS IS OF BULK AT MOST 1048576: true; the input reads as it did. -/
def faceTellsUptoRow : OpenClaim := { program := "ythcjfanigfgckaagreat", sum := "58ff4b9d25e03578ad0ef3e5fd067401cf57001feb08b7298884445f1cca1c23", func := "rastrum/rastrumlaw22.FaceTells", spec := "faceTells", inPlace := ["math/bits.Add64", "math/bits.Sub64"], unfollowed := true, recurses := true, named := ["math/bits.divideError", "math/bits.overflowError"], apart := false, narrowed := true }
def FaceTellsUptoSaid : Prop := faceTellsUptoRow.holds Tryz.pinned (OpenSpec.upto faceTellsSpec)

/-- 'rastrumlaw22.FaceSigns', WHERE WHAT IT READS IS OF BULK AT MOST 1048576: true; the input reads as it did. -/
def faceSignsUptoRow : OpenClaim := { program := "ythcjfanigfgckaagreat", sum := "58ff4b9d25e03578ad0ef3e5fd067401cf57001feb08b7298884445f1cca1c23", func := "rastrum/rastrumlaw22.FaceSigns", spec := "faceSigns", inPlace := ["math/bits.Add64", "math/bits.Sub64"], unfollowed := true, recurses := true, named := ["math/bits.divideError", "math/bits.overflowError"], apart := false, narrowed := true }
def FaceSignsUptoSaid : Prop := faceSignsUptoRow.holds Tryz.pinned (OpenSpec.upto faceSignsSpec)

/-- 'rastrumlaw27.HiddenShows', WHERE WHAT IT READS IS OF BULK AT MOST 1048576: true; the input reads as it did. -/
def hiddenShowsUptoRow : OpenClaim := { program := "ythcjfanigfgckaagreat", sum := "58ff4b9d25e03578ad0ef3e5fd067401cf57001feb08b7298884445f1cca1c23", func := "rastrum/rastrumlaw27.HiddenShows", spec := "hiddenShows", inPlace := ["math/bits.Add64", "math/bits.Sub64"], unfollowed := true, recurses := true, named := ["math/bits.divideError", "math/bits.overflowError"], apart := false, narrowed := true }
def HiddenShowsUptoSaid : Prop := hiddenShowsUptoRow.holds Tryz.pinned (OpenSpec.upto hiddenShowsSpec)

/-- 'rastrumlaw27.HiddenDraws', WHERE WHAT IT READS IS OF BULK AT MOST 1048576: true; the input reads as it did. -/
def hiddenDrawsUptoRow : OpenClaim := { program := "ythcjfanigfgckaagreat", sum := "58ff4b9d25e03578ad0ef3e5fd067401cf57001feb08b7298884445f1cca1c23", func := "rastrum/rastrumlaw27.HiddenDraws", spec := "hiddenDraws", inPlace := ["math/bits.Add64", "math/bits.Sub64"], unfollowed := true, recurses := true, named := ["math/bits.divideError", "math/bits.overflowError"], apart := false, narrowed := true }
def HiddenDrawsUptoSaid : Prop := hiddenDrawsUptoRow.holds Tryz.pinned (OpenSpec.upto hiddenDrawsSpec)

/-- 'rastrumlaw27.HiddenLines', WHERE WHAT IT READS IS OF BULK AT MOST 1048576: true; the input reads as it did. -/
def hiddenLinesUptoRow : OpenClaim := { program := "ythcjfanigfgckaagreat", sum := "58ff4b9d25e03578ad0ef3e5fd067401cf57001feb08b7298884445f1cca1c23", func := "rastrum/rastrumlaw27.HiddenLines", spec := "hiddenLines", inPlace := ["math/bits.Add64", "math/bits.Sub64"], unfollowed := true, recurses := true, named := ["math/bits.divideError", "math/bits.overflowError"], apart := false, narrowed := true }
def HiddenLinesUptoSaid : Prop := hiddenLinesUptoRow.holds Tryz.pinned (OpenSpec.upto hiddenLinesSpec)

/-- 'rastrumlaw27.HiddenOrder', WHERE WHAT IT READS IS OF BULK AT MOST 1048576: true; the input reads as it did. -/
def hiddenOrderUptoRow : OpenClaim := { program := "ythcjfanigfgckaagreat", sum := "58ff4b9d25e03578ad0ef3e5fd067401cf57001feb08b7298884445f1cca1c23", func := "rastrum/rastrumlaw27.HiddenOrder", spec := "hiddenOrder", inPlace := ["math/bits.Add64", "math/bits.Sub64"], unfollowed := true, recurses := true, named := ["math/bits.divideError", "math/bits.overflowError"], apart := false, narrowed := true }
def HiddenOrderUptoSaid : Prop := hiddenOrderUptoRow.holds Tryz.pinned (OpenSpec.upto hiddenOrderSpec)

/-- 'rastrumlaw27.HiddenLeast', WHERE WHAT IT READS IS OF BULK AT MOST 1048576: true; the input reads as it did. -/
def hiddenLeastUptoRow : OpenClaim := { program := "ythcjfanigfgckaagreat", sum := "58ff4b9d25e03578ad0ef3e5fd067401cf57001feb08b7298884445f1cca1c23", func := "rastrum/rastrumlaw27.HiddenLeast", spec := "hiddenLeast", inPlace := ["math/bits.Add64", "math/bits.Sub64"], unfollowed := true, recurses := true, named := ["math/bits.divideError", "math/bits.overflowError"], apart := false, narrowed := true }
def HiddenLeastUptoSaid : Prop := hiddenLeastUptoRow.holds Tryz.pinned (OpenSpec.upto hiddenLeastSpec)

end Rows
end Go.Proofs.YthcjfanigfgckaaGreat
