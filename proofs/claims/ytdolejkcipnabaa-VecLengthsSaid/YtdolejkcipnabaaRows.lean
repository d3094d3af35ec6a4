/-
  No cell of these rows narrows 'for every input' (looked for: loops, veiled, ifaces, maps, wideKeys, modest, calm, conditions, laid).
  DERIVED. THE GIVEN ROWS OF THIS SEAT. 15 by the template 'for every input the law returns true; each argument reads behind the call as it read before'; 0 by the template 'total and deterministic' (their statements: YtdolejkcipnabaaTotals.lean).
  GIVEN WITH THE SEED: the statements are not yours to turn. If you find one false, say at which input.
  Laid BY PROGRAM, IN A SANDBOX (cutbox-rows.mjs): the forced cells as the released guide's own fill.sh prints them over the translation 1dd48ce600fb677b… (all of the seat's roots in one cut). By AI agents, Wed Nov 11 2026. No macro, syntax, notation, axiom, sorry.
-/
import Derived.Test.YtdolejkcipnabaaChecked
import GoSem.Claim
import GoSem.ClaimJoined
import GoSem.ClaimMapViews
import Derived.JoinedTies
import Derived.KernelRfl
namespace Go.Proofs.Ytdolejkcipnabaa
/- THE CELL 'sum', in the pinned program and in every row, IS THE sha256 OF THE DUMP (.gsa) THAT YtdolejkcipnabaaProg.lean LOADS. Nothing in Lean hashes anything: it is a label: what it is worth is what the hold of that sum in a sandbox is worth. -/
noncomputable def Try.pinned : Pinned := { name := "ytdolejkcipnabaa", sum := "1dd48ce600fb677b09b78d1d7f0d1227261204cdb0c30011e72c2b22811e84d5", checked := Try.checked }
namespace Rows
def none {H : Type} : Left H := { results := [], args := [] }

/-- 'perigeelaw2.FixOrder': WHATEVER THE INPUT: true; the input reads as it did. -/
def fixOrderSpec : ChangeSpec := { name := "fixOrder", fn := fun _ => fun
  | [d1, d2, d3] => { results := [.lit (.bool true)], args := [d1, d2, d3] }
  | _ => none }
def fixOrderRow : OpenClaim := { program := "ytdolejkcipnabaa", sum := "1dd48ce600fb677b09b78d1d7f0d1227261204cdb0c30011e72c2b22811e84d5", func := "perigee/perigeelaw2.FixOrder", spec := "fixOrder", inPlace := ["math/bits.Sub64", "math/bits.Add64"], apart := false }
def FixOrderSaid : Prop := fixOrderRow.holds Try.pinned (OpenSpec.ofChange fixOrderSpec)

/-- ITS FALSE NEIGHBOUR: 'it returns false'. Refute it at one input. -/
def fixOrderWrong : ChangeSpec := { name := "fixOrder", fn := fun _ => fun
  | [d1, d2, d3] => { results := [.lit (.bool false)], args := [d1, d2, d3] }
  | _ => none }
def FixOrderWrongFalsely : Prop := fixOrderRow.holds Try.pinned (OpenSpec.ofChange fixOrderWrong)

/-- 'perigeelaw2.FixSums': WHATEVER THE INPUT: true; the input reads as it did. -/
def fixSumsSpec : ChangeSpec := { name := "fixSums", fn := fun _ => fun
  | [d1, d2] => { results := [.lit (.bool true)], args := [d1, d2] }
  | _ => none }
def fixSumsRow : OpenClaim := { program := "ytdolejkcipnabaa", sum := "1dd48ce600fb677b09b78d1d7f0d1227261204cdb0c30011e72c2b22811e84d5", func := "perigee/perigeelaw2.FixSums", spec := "fixSums", inPlace := ["math/bits.Sub64", "math/bits.Add64"], apart := false }
def FixSumsSaid : Prop := fixSumsRow.holds Try.pinned (OpenSpec.ofChange fixSumsSpec)

/-- ITS FALSE NEIGHBOUR: 'it returns false'. Refute it at one input. -/
def fixSumsWrong : ChangeSpec := { name := "fixSums", fn := fun _ => fun
  | [d1, d2] => { results := [.lit (.bool false)], args := [d1, d2] }
  | _ => none }
def FixSumsWrongFalsely : Prop := fixSumsRow.holds Try.pinned (OpenSpec.ofChange fixSumsWrong)

/-- 'perigeelaw2.FixHalves': WHATEVER THE INPUT: true; the input reads as it did. -/
def fixHalvesSpec : ChangeSpec := { name := "fixHalves", fn := fun _ => fun
  | [d] => { results := [.lit (.bool true)], args := [d] }
  | _ => none }
def fixHalvesRow : OpenClaim := { program := "ytdolejkcipnabaa", sum := "1dd48ce600fb677b09b78d1d7f0d1227261204cdb0c30011e72c2b22811e84d5", func := "perigee/perigeelaw2.FixHalves", spec := "fixHalves", inPlace := ["math/bits.Sub64", "math/bits.Add64"], apart := false }
def FixHalvesSaid : Prop := fixHalvesRow.holds Try.pinned (OpenSpec.ofChange fixHalvesSpec)

/-- ITS FALSE NEIGHBOUR: 'it returns false'. Refute it at one input. -/
def fixHalvesWrong : ChangeSpec := { name := "fixHalves", fn := fun _ => fun
  | [d] => { results := [.lit (.bool false)], args := [d] }
  | _ => none }
def FixHalvesWrongFalsely : Prop := fixHalvesRow.holds Try.pinned (OpenSpec.ofChange fixHalvesWrong)

/-- 'perigeelaw2.FixWhole': WHATEVER THE INPUT: true; the input reads as it did. -/
def fixWholeSpec : ChangeSpec := { name := "fixWhole", fn := fun _ => fun
  | [d] => { results := [.lit (.bool true)], args := [d] }
  | _ => none }
def fixWholeRow : OpenClaim := { program := "ytdolejkcipnabaa", sum := "1dd48ce600fb677b09b78d1d7f0d1227261204cdb0c30011e72c2b22811e84d5", func := "perigee/perigeelaw2.FixWhole", spec := "fixWhole", inPlace := ["math/bits.Sub64", "math/bits.Add64"], apart := false }
def FixWholeSaid : Prop := fixWholeRow.holds Try.pinned (OpenSpec.ofChange fixWholeSpec)

/-- ITS FALSE NEIGHBOUR: 'it returns false'. Refute it at one input. -/
def fixWholeWrong : ChangeSpec := { name := "fixWhole", fn := fun _ => fun
  | [d] => { results := [.lit (.bool false)], args := [d] }
  | _ => none }
def FixWholeWrongFalsely : Prop := fixWholeRow.holds Try.pinned (OpenSpec.ofChange fixWholeWrong)

/-- 'perigeelaw2.FixNear': WHATEVER THE INPUT: true; the input reads as it did. -/
def fixNearSpec : ChangeSpec := { name := "fixNear", fn := fun _ => fun
  | [d1, d2, d3] => { results := [.lit (.bool true)], args := [d1, d2, d3] }
  | _ => none }
def fixNearRow : OpenClaim := { program := "ytdolejkcipnabaa", sum := "1dd48ce600fb677b09b78d1d7f0d1227261204cdb0c30011e72c2b22811e84d5", func := "perigee/perigeelaw2.FixNear", spec := "fixNear", inPlace := ["math/bits.Sub64", "math/bits.Add64"], apart := false }
def FixNearSaid : Prop := fixNearRow.holds Try.pinned (OpenSpec.ofChange fixNearSpec)

/-- ITS FALSE NEIGHBOUR: 'it returns false'. Refute it at one input. -/
def fixNearWrong : ChangeSpec := { name := "fixNear", fn := fun _ => fun
  | [d1, d2, d3] => { results := [.lit (.bool false)], args := [d1, d2, d3] }
  | _ => none }
def FixNearWrongFalsely : Prop := fixNearRow.holds Try.pinned (OpenSpec.ofChange fixNearWrong)

/-- 'perigeelaw2.FixParts': WHATEVER THE INPUT: true; the input reads as it did. -/
def fixPartsSpec : ChangeSpec := { name := "fixParts", fn := fun _ => fun
  | [d1, d2] => { results := [.lit (.bool true)], args := [d1, d2] }
  | _ => none }
def fixPartsRow : OpenClaim := { program := "ytdolejkcipnabaa", sum := "1dd48ce600fb677b09b78d1d7f0d1227261204cdb0c30011e72c2b22811e84d5", func := "perigee/perigeelaw2.FixParts", spec := "fixParts", inPlace := ["math/bits.Sub64", "math/bits.Add64"], apart := false }
def FixPartsSaid : Prop := fixPartsRow.holds Try.pinned (OpenSpec.ofChange fixPartsSpec)

/-- ITS FALSE NEIGHBOUR: 'it returns false'. Refute it at one input. -/
def fixPartsWrong : ChangeSpec := { name := "fixParts", fn := fun _ => fun
  | [d1, d2] => { results := [.lit (.bool false)], args := [d1, d2] }
  | _ => none }
def FixPartsWrongFalsely : Prop := fixPartsRow.holds Try.pinned (OpenSpec.ofChange fixPartsWrong)

/-- 'perigeelaw2.FixAll': WHATEVER THE INPUT: true; the input reads as it did. -/
def fixAllSpec : ChangeSpec := { name := "fixAll", fn := fun _ => fun
  | [d1, d2] => { results := [.lit (.bool true)], args := [d1, d2] }
  | _ => none }
def fixAllRow : OpenClaim := { program := "ytdolejkcipnabaa", sum := "1dd48ce600fb677b09b78d1d7f0d1227261204cdb0c30011e72c2b22811e84d5", func := "perigee/perigeelaw2.FixAll", spec := "fixAll", inPlace := ["math/bits.Sub64", "math/bits.Add64"], apart := false }
def FixAllSaid : Prop := fixAllRow.holds Try.pinned (OpenSpec.ofChange fixAllSpec)

/-- ITS FALSE NEIGHBOUR: 'it returns false'. Refute it at one input. -/
def fixAllWrong : ChangeSpec := { name := "fixAll", fn := fun _ => fun
  | [d1, d2] => { results := [.lit (.bool false)], args := [d1, d2] }
  | _ => none }
def FixAllWrongFalsely : Prop := fixAllRow.holds Try.pinned (OpenSpec.ofChange fixAllWrong)

/-- 'perigeelaw2.FixRoots': WHATEVER THE INPUT: true; the input reads as it did. -/
def fixRootsSpec : ChangeSpec := { name := "fixRoots", fn := fun _ => fun
  | [d1, d2] => { results := [.lit (.bool true)], args := [d1, d2] }
  | _ => none }
def fixRootsRow : OpenClaim := { program := "ytdolejkcipnabaa", sum := "1dd48ce600fb677b09b78d1d7f0d1227261204cdb0c30011e72c2b22811e84d5", func := "perigee/perigeelaw2.FixRoots", spec := "fixRoots", inPlace := ["math/bits.Sub64", "math/bits.Add64"], apart := false }
def FixRootsSaid : Prop := fixRootsRow.holds Try.pinned (OpenSpec.ofChange fixRootsSpec)

/-- ITS FALSE NEIGHBOUR: 'it returns false'. Refute it at one input. -/
def fixRootsWrong : ChangeSpec := { name := "fixRoots", fn := fun _ => fun
  | [d1, d2] => { results := [.lit (.bool false)], args := [d1, d2] }
  | _ => none }
def FixRootsWrongFalsely : Prop := fixRootsRow.holds Try.pinned (OpenSpec.ofChange fixRootsWrong)

/-- 'perigeelaw2.FixSigns': WHATEVER THE INPUT: true; the input reads as it did. -/
def fixSignsSpec : ChangeSpec := { name := "fixSigns", fn := fun _ => fun
  | [d1, d2] => { results := [.lit (.bool true)], args := [d1, d2] }
  | _ => none }
def fixSignsRow : OpenClaim := { program := "ytdolejkcipnabaa", sum := "1dd48ce600fb677b09b78d1d7f0d1227261204cdb0c30011e72c2b22811e84d5", func := "perigee/perigeelaw2.FixSigns", spec := "fixSigns", inPlace := ["math/bits.Sub64", "math/bits.Add64"], apart := false }
def FixSignsSaid : Prop := fixSignsRow.holds Try.pinned (OpenSpec.ofChange fixSignsSpec)

/-- ITS FALSE NEIGHBOUR: 'it returns false'. Refute it at one input. -/
def fixSignsWrong : ChangeSpec := { name := "fixSigns", fn := fun _ => fun
  | [d1, d2] => { results := [.lit (.bool false)], args := [d1, d2] }
  | _ => none }
def FixSignsWrongFalsely : Prop := fixSignsRow.holds Try.pinned (OpenSpec.ofChange fixSignsWrong)

/-- 'perigeelaw4.VecLengths': WHATEVER THE INPUT: true; the input reads as it did. -/
def vecLengthsSpec : ChangeSpec := { name := "vecLengths", fn := fun _ => fun
  | [d1, d2, d3, d4] => { results := [.lit (.bool true)], args := [d1, d2, d3, d4] }
  | _ => none }
def vecLengthsRow : OpenClaim := { program := "ytdolejkcipnabaa", sum := "1dd48ce600fb677b09b78d1d7f0d1227261204cdb0c30011e72c2b22811e84d5", func := "perigee/perigeelaw4.VecLengths", spec := "vecLengths", inPlace := ["math/bits.Sub64", "math/bits.Add64"], unfollowed := true, recurses := true, apart := false }
def VecLengthsSaid : Prop := vecLengthsRow.holds Try.pinned (OpenSpec.ofChange vecLengthsSpec)

/-- ITS FALSE NEIGHBOUR: 'it returns false'. Refute it at one input. -/
def vecLengthsWrong : ChangeSpec := { name := "vecLengths", fn := fun _ => fun
  | [d1, d2, d3, d4] => { results := [.lit (.bool false)], args := [d1, d2, d3, d4] }
  | _ => none }
def VecLengthsWrongFalsely : Prop := vecLengthsRow.holds Try.pinned (OpenSpec.ofChange vecLengthsWrong)

/-- 'perigeelaw4.VecWhole': WHATEVER THE INPUT: true; the input reads as it did. -/
def vecWholeSpec : ChangeSpec := { name := "vecWhole", fn := fun _ => fun
  | [d1, d2, d3, d4, d5] => { results := [.lit (.bool true)], args := [d1, d2, d3, d4, d5] }
  | _ => none }
def vecWholeRow : OpenClaim := { program := "ytdolejkcipnabaa", sum := "1dd48ce600fb677b09b78d1d7f0d1227261204cdb0c30011e72c2b22811e84d5", func := "perigee/perigeelaw4.VecWhole", spec := "vecWhole", inPlace := ["math/bits.Sub64", "math/bits.Add64"], unfollowed := true, recurses := true, apart := false }
def VecWholeSaid : Prop := vecWholeRow.holds Try.pinned (OpenSpec.ofChange vecWholeSpec)

/-- ITS FALSE NEIGHBOUR: 'it returns false'. Refute it at one input. -/
def vecWholeWrong : ChangeSpec := { name := "vecWhole", fn := fun _ => fun
  | [d1, d2, d3, d4, d5] => { results := [.lit (.bool false)], args := [d1, d2, d3, d4, d5] }
  | _ => none }
def VecWholeWrongFalsely : Prop := vecWholeRow.holds Try.pinned (OpenSpec.ofChange vecWholeWrong)

/-- 'perigeelaw2.FixOne': WHATEVER THE INPUT: true; the input reads as it did. -/
def fixOneSpec : ChangeSpec := { name := "fixOne", fn := fun _ => fun
  | [d1, d2] => { results := [.lit (.bool true)], args := [d1, d2] }
  | _ => none }
def fixOneRow : OpenClaim := { program := "ytdolejkcipnabaa", sum := "1dd48ce600fb677b09b78d1d7f0d1227261204cdb0c30011e72c2b22811e84d5", func := "perigee/perigeelaw2.FixOne", spec := "fixOne", inPlace := ["math/bits.Sub64", "math/bits.Add64"], apart := false }
def FixOneSaid : Prop := fixOneRow.holds Try.pinned (OpenSpec.ofChange fixOneSpec)

/-- ITS FALSE NEIGHBOUR: 'it returns false'. Refute it at one input. -/
def fixOneWrong : ChangeSpec := { name := "fixOne", fn := fun _ => fun
  | [d1, d2] => { results := [.lit (.bool false)], args := [d1, d2] }
  | _ => none }
def FixOneWrongFalsely : Prop := fixOneRow.holds Try.pinned (OpenSpec.ofChange fixOneWrong)

/-- 'perigeelaw4.VecSigns': WHATEVER THE INPUT: true; the input reads as it did. -/
def vecSignsSpec : ChangeSpec := { name := "vecSigns", fn := fun _ => fun
  | [d1, d2, d3] => { results := [.lit (.bool true)], args := [d1, d2, d3] }
  | _ => none }
def vecSignsRow : OpenClaim := { program := "ytdolejkcipnabaa", sum := "1dd48ce600fb677b09b78d1d7f0d1227261204cdb0c30011e72c2b22811e84d5", func := "perigee/perigeelaw4.VecSigns", spec := "vecSigns", inPlace := ["math/bits.Sub64", "math/bits.Add64"], unfollowed := true, recurses := true, apart := false }
def VecSignsSaid : Prop := vecSignsRow.holds Try.pinned (OpenSpec.ofChange vecSignsSpec)

/-- ITS FALSE NEIGHBOUR: 'it returns false'. Refute it at one input. -/
def vecSignsWrong : ChangeSpec := { name := "vecSigns", fn := fun _ => fun
  | [d1, d2, d3] => { results := [.lit (.bool false)], args := [d1, d2, d3] }
  | _ => none }
def VecSignsWrongFalsely : Prop := vecSignsRow.holds Try.pinned (OpenSpec.ofChange vecSignsWrong)

/-- 'perigeelaw4.VecSums': WHATEVER THE INPUT: true; the input reads as it did. -/
def vecSumsSpec : ChangeSpec := { name := "vecSums", fn := fun _ => fun
  | [d1, d2] => { results := [.lit (.bool true)], args := [d1, d2] }
  | _ => none }
def vecSumsRow : OpenClaim := { program := "ytdolejkcipnabaa", sum := "1dd48ce600fb677b09b78d1d7f0d1227261204cdb0c30011e72c2b22811e84d5", func := "perigee/perigeelaw4.VecSums", spec := "vecSums", inPlace := ["math/bits.Sub64", "math/bits.Add64"], unfollowed := true, recurses := true, apart := false }
def VecSumsSaid : Prop := vecSumsRow.holds Try.pinned (OpenSpec.ofChange vecSumsSpec)

/-- ITS FALSE NEIGHBOUR: 'it returns false'. Refute it at one input. -/
def vecSumsWrong : ChangeSpec := { name := "vecSums", fn := fun _ => fun
  | [d1, d2] => { results := [.lit (.bool false)], args := [d1, d2] }
  | _ => none }
def VecSumsWrongFalsely : Prop := vecSumsRow.holds Try.pinned (OpenSpec.ofChange vecSumsWrong)

/-- 'perigeelaw4.VecAll': WHATEVER THE INPUT: true; the input reads as it did. -/
def vecAllSpec : ChangeSpec := { name := "vecAll", fn := fun _ => fun
  | [d1, d2, d3] => { results := [.lit (.bool true)], args := [d1, d2, d3] }
  | _ => none }
def vecAllRow : OpenClaim := { program := "ytdolejkcipnabaa", sum := "1dd48ce600fb677b09b78d1d7f0d1227261204cdb0c30011e72c2b22811e84d5", func := "perigee/perigeelaw4.VecAll", spec := "vecAll", inPlace := ["math/bits.Sub64", "math/bits.Add64"], unfollowed := true, recurses := true, apart := false }
def VecAllSaid : Prop := vecAllRow.holds Try.pinned (OpenSpec.ofChange vecAllSpec)

/-- ITS FALSE NEIGHBOUR: 'it returns false'. Refute it at one input. -/
def vecAllWrong : ChangeSpec := { name := "vecAll", fn := fun _ => fun
  | [d1, d2, d3] => { results := [.lit (.bool false)], args := [d1, d2, d3] }
  | _ => none }
def VecAllWrongFalsely : Prop := vecAllRow.holds Try.pinned (OpenSpec.ofChange vecAllWrong)

/- THE SECOND FORM. 'bulk': how many values and letters a reading holds, each counted each time it is reached (what is shared counts as often as it is met; a slice's spare places count too). A statement '..UptoSaid' is the law's where the arguments, and the package variables that the reading takes, are together of bulk at most 1048576: NARROWER than '..Said'. Prove '..Said' where nothing that the law and all that it calls make is longer than what came in: it says more and counts as full. Else prove '..UptoSaid'. A law counts once. -/
mutual
def uptoBulk {H : Type} : DataW H → Nat
  | .lit (.string bytes) => bytes.length + 1
  | .lit _ => 1
  | .nil => 1
  | .ptr d => uptoBulk d + 1
  | .slice elems spare => uptoBulkAll elems + uptoBulkAll spare + 1
  | .agg parts => uptoBulkAll parts + 1
  | .iface _ d => uptoBulk d + 1
  | .map entries => uptoBulkEntries entries + 1
  | .held _ => 1
def uptoBulkAll {H : Type} : List (DataW H) → Nat
  | [] => 0
  | d :: r => uptoBulk d + uptoBulkAll r
def uptoBulkEntries {H : Type} : List (Lit × DataW H) → Nat
  | [] => 0
  | x :: r => uptoBulkEntry x + uptoBulkEntries r
def uptoBulkEntry {H : Type} : Lit × DataW H → Nat
  | (.string bytes, d) => bytes.length + uptoBulk d + 1
  | (_, d) => uptoBulk d + 1
 end
def uptoSmall : (H : Type) → List (DataW H) → Bool := fun _ ds => decide (uptoBulkAll ds ≤ 1048576)
def OpenSpec.upto (s : _root_.Go.ChangeSpec) : _root_.Go.OpenSpec := { _root_.Go.OpenSpec.ofChange s with cond := some uptoSmall }

/-- 'perigeelaw2.FixOrder', WHERE WHAT IT READS IS OF BULK AT MOST 1048576: true; the input reads as it did. -/
def fixOrderUptoRow : OpenClaim := { program := "ytdolejkcipnabaa", sum := "1dd48ce600fb677b09b78d1d7f0d1227261204cdb0c30011e72c2b22811e84d5", func := "perigee/perigeelaw2.FixOrder", spec := "fixOrder", inPlace := ["math/bits.Sub64", "math/bits.Add64"], apart := false, narrowed := true }
def FixOrderUptoSaid : Prop := fixOrderUptoRow.holds Try.pinned (OpenSpec.upto fixOrderSpec)

/-- 'perigeelaw2.FixSums', WHERE WHAT IT READS IS OF BULK AT MOST 1048576: true; the input reads as it did. -/
def fixSumsUptoRow : OpenClaim := { program := "ytdolejkcipnabaa", sum := "1dd48ce600fb677b09b78d1d7f0d1227261204cdb0c30011e72c2b22811e84d5", func := "perigee/perigeelaw2.FixSums", spec := "fixSums", inPlace := ["math/bits.Sub64", "math/bits.Add64"], apart := false, narrowed := true }
def FixSumsUptoSaid : Prop := fixSumsUptoRow.holds Try.pinned (OpenSpec.upto fixSumsSpec)

/-- 'perigeelaw2.FixHalves', WHERE WHAT IT READS IS OF BULK AT MOST 1048576: true; the input reads as it did. -/
def fixHalvesUptoRow : OpenClaim := { program := "ytdolejkcipnabaa", sum := "1dd48ce600fb677b09b78d1d7f0d1227261204cdb0c30011e72c2b22811e84d5", func := "perigee/perigeelaw2.FixHalves", spec := "fixHalves", inPlace := ["math/bits.Sub64", "math/bits.Add64"], apart := false, narrowed := true }
def FixHalvesUptoSaid : Prop := fixHalvesUptoRow.holds Try.pinned (OpenSpec.upto fixHalvesSpec)

/-- 'perigeelaw2.FixWhole', WHERE WHAT IT READS IS OF BULK AT MOST 1048576: true; the input reads as it did. -/
def fixWholeUptoRow : OpenClaim := { program := "ytdolejkcipnabaa", sum := "1dd48ce600fb677b09b78d1d7f0d1227261204cdb0c30011e72c2b22811e84d5", func := "perigee/perigeelaw2.FixWhole", spec := "fixWhole", inPlace := ["math/bits.Sub64", "math/bits.Add64"], apart := false, narrowed := true }
def FixWholeUptoSaid : Prop := fixWholeUptoRow.holds Try.pinned (OpenSpec.upto fixWholeSpec)

/-- 'perigeelaw2.FixNear', WHERE WHAT IT READS IS OF BULK AT MOST 1048576: true; the input reads as it did. -/
def fixNearUptoRow : OpenClaim := { program := "ytdolejkcipnabaa", sum := "1dd48ce600fb677b09b78d1d7f0d1227261204cdb0c30011e72c2b22811e84d5", func := "perigee/perigeelaw2.FixNear", spec := "fixNear", inPlace := ["math/bits.Sub64", "math/bits.Add64"], apart := false, narrowed := true }
def FixNearUptoSaid : Prop := fixNearUptoRow.holds Try.pinned (OpenSpec.upto fixNearSpec)

/-- 'perigeelaw2.FixParts', WHERE WHAT IT READS IS OF BULK AT MOST 1048576: true; the input reads as it did. -/
def fixPartsUptoRow : OpenClaim := { program := "ytdolejkcipnabaa", sum := "1dd48ce600fb677b09b78d1d7f0d1227261204cdb0c30011e72c2b22811e84d5", func := "perigee/perigeelaw2.FixParts", spec := "fixParts", inPlace := ["math/bits.Sub64", "math/bits.Add64"], apart := false, narrowed := true }
def FixPartsUptoSaid : Prop := fixPartsUptoRow.holds Try.pinned (OpenSpec.upto fixPartsSpec)

/-- 'perigeelaw2.FixAll', WHERE WHAT IT READS IS OF BULK AT MOST 1048576: true; the input reads as it did. -/
def fixAllUptoRow : OpenClaim := { program := "ytdolejkcipnabaa", sum := "1dd48ce600fb677b09b78d1d7f0d1227261204cdb0c30011e72c2b22811e84d5", func := "perigee/perigeelaw2.FixAll", spec := "fixAll", inPlace := ["math/bits.Sub64", "math/bits.Add64"], apart := false, narrowed := true }
def FixAllUptoSaid : Prop := fixAllUptoRow.holds Try.pinned (OpenSpec.upto fixAllSpec)

/-- 'perigeelaw2.FixRoots', WHERE WHAT IT READS IS OF BULK AT MOST 1048576: true; the input reads as it did. -/
def fixRootsUptoRow : OpenClaim := { program := "ytdolejkcipnabaa", sum := "1dd48ce600fb677b09b78d1d7f0d1227261204cdb0c30011e72c2b22811e84d5", func := "perigee/perigeelaw2.FixRoots", spec := "fixRoots", inPlace := ["math/bits.Sub64", "math/bits.Add64"], apart := false, narrowed := true }
def FixRootsUptoSaid : Prop := fixRootsUptoRow.holds Try.pinned (OpenSpec.upto fixRootsSpec)

/-- 'perigeelaw2.FixSigns', WHERE WHAT IT READS IS OF BULK AT MOST 1048576: true; the input reads as it did. -/
def fixSignsUptoRow : OpenClaim := { program := "ytdolejkcipnabaa", sum := "1dd48ce600fb677b09b78d1d7f0d1227261204cdb0c30011e72c2b22811e84d5", func := "perigee/perigeelaw2.FixSigns", spec := "fixSigns", inPlace := ["math/bits.Sub64", "math/bits.Add64"], apart := false, narrowed := true }
def FixSignsUptoSaid : Prop := fixSignsUptoRow.holds Try.pinned (OpenSpec.upto fixSignsSpec)

/-- 'perigeelaw4.VecLengths', WHERE WHAT IT READS IS OF BULK AT MOST 1048576: true; the input reads as it did. -/
def vecLengthsUptoRow : OpenClaim := { program := "ytdolejkcipnabaa", sum := "1dd48ce600fb677b09b78d1d7f0d1227261204cdb0c30011e72c2b22811e84d5", func := "perigee/perigeelaw4.VecLengths", spec := "vecLengths", inPlace := ["math/bits.Sub64", "math/bits.Add64"], unfollowed := true, recurses := true, apart := false, narrowed := true }
def VecLengthsUptoSaid : Prop := vecLengthsUptoRow.holds Try.pinned (OpenSpec.upto vecLengthsSpec)

/-- 'perigeelaw4.VecWhole', WHERE WHAT IT READS IS OF BULK AT MOST 1048576: true; the input reads as it did. -/
def vecWholeUptoRow : OpenClaim := { program := "ytdolejkcipnabaa", sum := "1dd48ce600fb677b09b78d1d7f0d1227261204cdb0c30011e72c2b22811e84d5", func := "perigee/perigeelaw4.VecWhole", spec := "vecWhole", inPlace := ["math/bits.Sub64", "math/bits.Add64"], unfollowed := true, recurses := true, apart := false, narrowed := true }
def VecWholeUptoSaid : Prop := vecWholeUptoRow.holds Try.pinned (OpenSpec.upto vecWholeSpec)

/-- 'perigeelaw2.FixOne', WHERE WHAT IT READS IS OF BULK AT MOST 1048576: true; the input reads as it did. -/
def fixOneUptoRow : OpenClaim := { program := "ytdolejkcipnabaa", sum := "1dd48ce600fb677b09b78d1d7f0d1227261204cdb0c30011e72c2b22811e84d5", func := "perigee/perigeelaw2.FixOne", spec := "fixOne", inPlace := ["math/bits.Sub64", "math/bits.Add64"], apart := false, narrowed := true }
def FixOneUptoSaid : Prop := fixOneUptoRow.holds Try.pinned (OpenSpec.upto fixOneSpec)

/-- 'perigeelaw4.VecSigns', WHERE WHAT IT READS IS OF BULK AT MOST 1048576: true; the input reads as it did. -/
def vecSignsUptoRow : OpenClaim := { program := "ytdolejkcipnabaa", sum := "1dd48ce600fb677b09b78d1d7f0d1227261204cdb0c30011e72c2b22811e84d5", func := "perigee/perigeelaw4.VecSigns", spec := "vecSigns", inPlace := ["math/bits.Sub64", "math/bits.Add64"], unfollowed := true, recurses := true, apart := false, narrowed := true }
def VecSignsUptoSaid : Prop := vecSignsUptoRow.holds Try.pinned (OpenSpec.upto vecSignsSpec)

/-- 'perigeelaw4.VecSums', WHERE WHAT IT READS IS OF BULK AT MOST 1048576: true; the input reads as it did. -/
def vecSumsUptoRow : OpenClaim := { program := "ytdolejkcipnabaa", sum := "1dd48ce600fb677b09b78d1d7f0d1227261204cdb0c30011e72c2b22811e84d5", func := "perigee/perigeelaw4.VecSums", spec := "vecSums", inPlace := ["math/bits.Sub64", "math/bits.Add64"], unfollowed := true, recurses := true, apart := false, narrowed := true }
def VecSumsUptoSaid : Prop := vecSumsUptoRow.holds Try.pinned (OpenSpec.upto vecSumsSpec)

/-- 'perigeelaw4.VecAll', WHERE WHAT IT READS IS OF BULK AT MOST 1048576: true; the input reads as it did. -/
def vecAllUptoRow : OpenClaim := { program := "ytdolejkcipnabaa", sum := "1dd48ce600fb677b09b78d1d7f0d1227261204cdb0c30011e72c2b22811e84d5", func := "perigee/perigeelaw4.VecAll", spec := "vecAll", inPlace := ["math/bits.Sub64", "math/bits.Add64"], unfollowed := true, recurses := true, apart := false, narrowed := true }
def VecAllUptoSaid : Prop := vecAllUptoRow.holds Try.pinned (OpenSpec.upto vecAllSpec)

end Rows
end Go.Proofs.Ytdolejkcipnabaa
