/-
  No cell of these rows narrows 'for every input' (looked for: loops, veiled, ifaces, maps, wideKeys, modest, calm, conditions, laid).
  DERIVED. THE GIVEN ROWS OF THIS SEAT. 22 by the template 'for every input the law returns true; each argument reads behind the call as it read before'; 0 by the template 'total and deterministic' (their statements: YtoccmfelheinhaaTotals.lean).
  GIVEN WITH THE SEED: the statements are not yours to turn. If you find one false, say at which input.
  Laid BY PROGRAM, IN A SANDBOX (cutbox-rows.mjs): the forced cells as the released guide's own fill.sh prints them over the translation d2272e2dc4b17db3… (all of the seat's roots in one cut). By AI agents, Wed Nov 11 2026. No macro, syntax, notation, axiom, sorry.
-/
import Derived.Test.YtoccmfelheinhaaChecked
import GoSem.Claim
import GoSem.ClaimJoined
import GoSem.ClaimMapViews
import Derived.JoinedTies
import Derived.KernelRfl
namespace Go.Proofs.Ytoccmfelheinhaa
/- THE CELL 'sum', in the pinned program and in every row, IS THE sha256 OF THE DUMP (.gsa) THAT YtoccmfelheinhaaProg.lean LOADS. Nothing in Lean hashes anything: it is a label: what it is worth is what the hold of that sum in a sandbox is worth. -/
noncomputable def Try.pinned : Pinned := { name := "ytoccmfelheinhaa", sum := "d2272e2dc4b17db357a3ab5c3a35a6c73dfaa649746d594fff934e2eb2be7c1b", checked := Try.checked }
namespace Rows
def none {H : Type} : Left H := { results := [], args := [] }

/-- 'perigeelaw9.MassNear': WHATEVER THE INPUT: true; the input reads as it did. -/
def massNearSpec : ChangeSpec := { name := "massNear", fn := fun _ => fun
  | [d] => { results := [.lit (.bool true)], args := [d] }
  | _ => none }
def massNearRow : OpenClaim := { program := "ytoccmfelheinhaa", sum := "d2272e2dc4b17db357a3ab5c3a35a6c73dfaa649746d594fff934e2eb2be7c1b", func := "perigee/perigeelaw9.MassNear", spec := "massNear", inPlace := ["math/bits.Sub64", "math/bits.Add64"], unfollowed := true, recurses := true, apart := false }
def MassNearSaid : Prop := massNearRow.holds Try.pinned (OpenSpec.ofChange massNearSpec)

/-- ITS FALSE NEIGHBOUR: 'it returns false'. Refute it at one input. -/
def massNearWrong : ChangeSpec := { name := "massNear", fn := fun _ => fun
  | [d] => { results := [.lit (.bool false)], args := [d] }
  | _ => none }
def MassNearWrongFalsely : Prop := massNearRow.holds Try.pinned (OpenSpec.ofChange massNearWrong)

/-- 'perigeelaw9.MassWhole': WHATEVER THE INPUT: true; the input reads as it did. -/
def massWholeSpec : ChangeSpec := { name := "massWhole", fn := fun _ => fun
  | [d1, d2, d3, d4, d5] => { results := [.lit (.bool true)], args := [d1, d2, d3, d4, d5] }
  | _ => none }
def massWholeRow : OpenClaim := { program := "ytoccmfelheinhaa", sum := "d2272e2dc4b17db357a3ab5c3a35a6c73dfaa649746d594fff934e2eb2be7c1b", func := "perigee/perigeelaw9.MassWhole", spec := "massWhole", inPlace := ["math/bits.Sub64", "math/bits.Add64"], unfollowed := true, recurses := true, apart := false }
def MassWholeSaid : Prop := massWholeRow.holds Try.pinned (OpenSpec.ofChange massWholeSpec)

/-- ITS FALSE NEIGHBOUR: 'it returns false'. Refute it at one input. -/
def massWholeWrong : ChangeSpec := { name := "massWhole", fn := fun _ => fun
  | [d1, d2, d3, d4, d5] => { results := [.lit (.bool false)], args := [d1, d2, d3, d4, d5] }
  | _ => none }
def MassWholeWrongFalsely : Prop := massWholeRow.holds Try.pinned (OpenSpec.ofChange massWholeWrong)

/-- 'perigeelaw13.DriftBack': WHATEVER THE INPUT: true; the input reads as it did. -/
def driftBackSpec : ChangeSpec := { name := "driftBack", fn := fun _ => fun
  | [d1, d2] => { results := [.lit (.bool true)], args := [d1, d2] }
  | _ => none }
def driftBackRow : OpenClaim := { program := "ytoccmfelheinhaa", sum := "d2272e2dc4b17db357a3ab5c3a35a6c73dfaa649746d594fff934e2eb2be7c1b", func := "perigee/perigeelaw13.DriftBack", spec := "driftBack", inPlace := ["math/bits.Sub64", "math/bits.Add64"], unfollowed := true, recurses := true, apart := false }
def DriftBackSaid : Prop := driftBackRow.holds Try.pinned (OpenSpec.ofChange driftBackSpec)

/-- ITS FALSE NEIGHBOUR: 'it returns false'. Refute it at one input. -/
def driftBackWrong : ChangeSpec := { name := "driftBack", fn := fun _ => fun
  | [d1, d2] => { results := [.lit (.bool false)], args := [d1, d2] }
  | _ => none }
def DriftBackWrongFalsely : Prop := driftBackRow.holds Try.pinned (OpenSpec.ofChange driftBackWrong)

/-- 'perigeelaw13.DriftWhole': WHATEVER THE INPUT: true; the input reads as it did. -/
def driftWholeSpec : ChangeSpec := { name := "driftWhole", fn := fun _ => fun
  | [d1, d2, d3, d4] => { results := [.lit (.bool true)], args := [d1, d2, d3, d4] }
  | _ => none }
def driftWholeRow : OpenClaim := { program := "ytoccmfelheinhaa", sum := "d2272e2dc4b17db357a3ab5c3a35a6c73dfaa649746d594fff934e2eb2be7c1b", func := "perigee/perigeelaw13.DriftWhole", spec := "driftWhole", inPlace := ["math/bits.Sub64", "math/bits.Add64"], unfollowed := true, recurses := true, apart := false }
def DriftWholeSaid : Prop := driftWholeRow.holds Try.pinned (OpenSpec.ofChange driftWholeSpec)

/-- ITS FALSE NEIGHBOUR: 'it returns false'. Refute it at one input. -/
def driftWholeWrong : ChangeSpec := { name := "driftWhole", fn := fun _ => fun
  | [d1, d2, d3, d4] => { results := [.lit (.bool false)], args := [d1, d2, d3, d4] }
  | _ => none }
def DriftWholeWrongFalsely : Prop := driftWholeRow.holds Try.pinned (OpenSpec.ofChange driftWholeWrong)

/-- 'perigeelaw13.DriftAll': WHATEVER THE INPUT: true; the input reads as it did. -/
def driftAllSpec : ChangeSpec := { name := "driftAll", fn := fun _ => fun
  | [d1, d2, d3] => { results := [.lit (.bool true)], args := [d1, d2, d3] }
  | _ => none }
def driftAllRow : OpenClaim := { program := "ytoccmfelheinhaa", sum := "d2272e2dc4b17db357a3ab5c3a35a6c73dfaa649746d594fff934e2eb2be7c1b", func := "perigee/perigeelaw13.DriftAll", spec := "driftAll", inPlace := ["math/bits.Sub64", "math/bits.Add64"], unfollowed := true, recurses := true, apart := false }
def DriftAllSaid : Prop := driftAllRow.holds Try.pinned (OpenSpec.ofChange driftAllSpec)

/-- ITS FALSE NEIGHBOUR: 'it returns false'. Refute it at one input. -/
def driftAllWrong : ChangeSpec := { name := "driftAll", fn := fun _ => fun
  | [d1, d2, d3] => { results := [.lit (.bool false)], args := [d1, d2, d3] }
  | _ => none }
def DriftAllWrongFalsely : Prop := driftAllRow.holds Try.pinned (OpenSpec.ofChange driftAllWrong)

/-- 'perigeelaw13.DriftMade': WHATEVER THE INPUT: true; the input reads as it did. -/
def driftMadeSpec : ChangeSpec := { name := "driftMade", fn := fun _ => fun
  | [d1, d2, d3] => { results := [.lit (.bool true)], args := [d1, d2, d3] }
  | _ => none }
def driftMadeRow : OpenClaim := { program := "ytoccmfelheinhaa", sum := "d2272e2dc4b17db357a3ab5c3a35a6c73dfaa649746d594fff934e2eb2be7c1b", func := "perigee/perigeelaw13.DriftMade", spec := "driftMade", inPlace := ["math/bits.Sub64", "math/bits.Add64"], unfollowed := true, recurses := true, apart := false }
def DriftMadeSaid : Prop := driftMadeRow.holds Try.pinned (OpenSpec.ofChange driftMadeSpec)

/-- ITS FALSE NEIGHBOUR: 'it returns false'. Refute it at one input. -/
def driftMadeWrong : ChangeSpec := { name := "driftMade", fn := fun _ => fun
  | [d1, d2, d3] => { results := [.lit (.bool false)], args := [d1, d2, d3] }
  | _ => none }
def DriftMadeWrongFalsely : Prop := driftMadeRow.holds Try.pinned (OpenSpec.ofChange driftMadeWrong)

/-- 'perigeelaw13.DriftEdges': WHATEVER THE INPUT: true; the input reads as it did. -/
def driftEdgesSpec : ChangeSpec := { name := "driftEdges", fn := fun _ => fun
  | [d1, d2, d3] => { results := [.lit (.bool true)], args := [d1, d2, d3] }
  | _ => none }
def driftEdgesRow : OpenClaim := { program := "ytoccmfelheinhaa", sum := "d2272e2dc4b17db357a3ab5c3a35a6c73dfaa649746d594fff934e2eb2be7c1b", func := "perigee/perigeelaw13.DriftEdges", spec := "driftEdges", inPlace := ["math/bits.Sub64", "math/bits.Add64"], unfollowed := true, recurses := true, apart := false }
def DriftEdgesSaid : Prop := driftEdgesRow.holds Try.pinned (OpenSpec.ofChange driftEdgesSpec)

/-- ITS FALSE NEIGHBOUR: 'it returns false'. Refute it at one input. -/
def driftEdgesWrong : ChangeSpec := { name := "driftEdges", fn := fun _ => fun
  | [d1, d2, d3] => { results := [.lit (.bool false)], args := [d1, d2, d3] }
  | _ => none }
def DriftEdgesWrongFalsely : Prop := driftEdgesRow.holds Try.pinned (OpenSpec.ofChange driftEdgesWrong)

/-- 'perigeelaw10.PairAll': WHATEVER THE INPUT: true; the input reads as it did. -/
def pairAllSpec : ChangeSpec := { name := "pairAll", fn := fun _ => fun
  | [d1, d2, d3, d4, d5, d6] => { results := [.lit (.bool true)], args := [d1, d2, d3, d4, d5, d6] }
  | _ => none }
def pairAllRow : OpenClaim := { program := "ytoccmfelheinhaa", sum := "d2272e2dc4b17db357a3ab5c3a35a6c73dfaa649746d594fff934e2eb2be7c1b", func := "perigee/perigeelaw10.PairAll", spec := "pairAll", inPlace := ["math/bits.Sub64", "math/bits.Add64"], unfollowed := true, recurses := true, apart := false }
def PairAllSaid : Prop := pairAllRow.holds Try.pinned (OpenSpec.ofChange pairAllSpec)

/-- ITS FALSE NEIGHBOUR: 'it returns false'. Refute it at one input. -/
def pairAllWrong : ChangeSpec := { name := "pairAll", fn := fun _ => fun
  | [d1, d2, d3, d4, d5, d6] => { results := [.lit (.bool false)], args := [d1, d2, d3, d4, d5, d6] }
  | _ => none }
def PairAllWrongFalsely : Prop := pairAllRow.holds Try.pinned (OpenSpec.ofChange pairAllWrong)

/-- 'perigeelaw10.PairTurned': WHATEVER THE INPUT: true; the input reads as it did. -/
def pairTurnedSpec : ChangeSpec := { name := "pairTurned", fn := fun _ => fun
  | [d1, d2, d3, d4, d5, d6] => { results := [.lit (.bool true)], args := [d1, d2, d3, d4, d5, d6] }
  | _ => none }
def pairTurnedRow : OpenClaim := { program := "ytoccmfelheinhaa", sum := "d2272e2dc4b17db357a3ab5c3a35a6c73dfaa649746d594fff934e2eb2be7c1b", func := "perigee/perigeelaw10.PairTurned", spec := "pairTurned", inPlace := ["math/bits.Sub64", "math/bits.Add64"], unfollowed := true, recurses := true, apart := false }
def PairTurnedSaid : Prop := pairTurnedRow.holds Try.pinned (OpenSpec.ofChange pairTurnedSpec)

/-- ITS FALSE NEIGHBOUR: 'it returns false'. Refute it at one input. -/
def pairTurnedWrong : ChangeSpec := { name := "pairTurned", fn := fun _ => fun
  | [d1, d2, d3, d4, d5, d6] => { results := [.lit (.bool false)], args := [d1, d2, d3, d4, d5, d6] }
  | _ => none }
def PairTurnedWrongFalsely : Prop := pairTurnedRow.holds Try.pinned (OpenSpec.ofChange pairTurnedWrong)

/-- 'perigeelaw10.PairFar': WHATEVER THE INPUT: true; the input reads as it did. -/
def pairFarSpec : ChangeSpec := { name := "pairFar", fn := fun _ => fun
  | [d1, d2, d3] => { results := [.lit (.bool true)], args := [d1, d2, d3] }
  | _ => none }
def pairFarRow : OpenClaim := { program := "ytoccmfelheinhaa", sum := "d2272e2dc4b17db357a3ab5c3a35a6c73dfaa649746d594fff934e2eb2be7c1b", func := "perigee/perigeelaw10.PairFar", spec := "pairFar", inPlace := ["math/bits.Sub64", "math/bits.Add64"], unfollowed := true, recurses := true, apart := false }
def PairFarSaid : Prop := pairFarRow.holds Try.pinned (OpenSpec.ofChange pairFarSpec)

/-- ITS FALSE NEIGHBOUR: 'it returns false'. Refute it at one input. -/
def pairFarWrong : ChangeSpec := { name := "pairFar", fn := fun _ => fun
  | [d1, d2, d3] => { results := [.lit (.bool false)], args := [d1, d2, d3] }
  | _ => none }
def PairFarWrongFalsely : Prop := pairFarRow.holds Try.pinned (OpenSpec.ofChange pairFarWrong)

/-- 'perigeelaw10.PairNone': WHATEVER THE INPUT: true; the input reads as it did. -/
def pairNoneSpec : ChangeSpec := { name := "pairNone", fn := fun _ => fun
  | [d1, d2, d3, d4] => { results := [.lit (.bool true)], args := [d1, d2, d3, d4] }
  | _ => none }
def pairNoneRow : OpenClaim := { program := "ytoccmfelheinhaa", sum := "d2272e2dc4b17db357a3ab5c3a35a6c73dfaa649746d594fff934e2eb2be7c1b", func := "perigee/perigeelaw10.PairNone", spec := "pairNone", inPlace := ["math/bits.Sub64", "math/bits.Add64"], unfollowed := true, recurses := true, apart := false }
def PairNoneSaid : Prop := pairNoneRow.holds Try.pinned (OpenSpec.ofChange pairNoneSpec)

/-- ITS FALSE NEIGHBOUR: 'it returns false'. Refute it at one input. -/
def pairNoneWrong : ChangeSpec := { name := "pairNone", fn := fun _ => fun
  | [d1, d2, d3, d4] => { results := [.lit (.bool false)], args := [d1, d2, d3, d4] }
  | _ => none }
def PairNoneWrongFalsely : Prop := pairNoneRow.holds Try.pinned (OpenSpec.ofChange pairNoneWrong)

/-- 'perigeelaw10.PairEps': WHATEVER THE INPUT: true; the input reads as it did. -/
def pairEpsSpec : ChangeSpec := { name := "pairEps", fn := fun _ => fun
  | [d1, d2, d3, d4, d5] => { results := [.lit (.bool true)], args := [d1, d2, d3, d4, d5] }
  | _ => none }
def pairEpsRow : OpenClaim := { program := "ytoccmfelheinhaa", sum := "d2272e2dc4b17db357a3ab5c3a35a6c73dfaa649746d594fff934e2eb2be7c1b", func := "perigee/perigeelaw10.PairEps", spec := "pairEps", inPlace := ["math/bits.Sub64", "math/bits.Add64"], unfollowed := true, recurses := true, apart := false }
def PairEpsSaid : Prop := pairEpsRow.holds Try.pinned (OpenSpec.ofChange pairEpsSpec)

/-- ITS FALSE NEIGHBOUR: 'it returns false'. Refute it at one input. -/
def pairEpsWrong : ChangeSpec := { name := "pairEps", fn := fun _ => fun
  | [d1, d2, d3, d4, d5] => { results := [.lit (.bool false)], args := [d1, d2, d3, d4, d5] }
  | _ => none }
def PairEpsWrongFalsely : Prop := pairEpsRow.holds Try.pinned (OpenSpec.ofChange pairEpsWrong)

/-- 'perigeelaw10.PairAcross': WHATEVER THE INPUT: true; the input reads as it did. -/
def pairAcrossSpec : ChangeSpec := { name := "pairAcross", fn := fun _ => fun
  | [d1, d2, d3, d4, d5] => { results := [.lit (.bool true)], args := [d1, d2, d3, d4, d5] }
  | _ => none }
def pairAcrossRow : OpenClaim := { program := "ytoccmfelheinhaa", sum := "d2272e2dc4b17db357a3ab5c3a35a6c73dfaa649746d594fff934e2eb2be7c1b", func := "perigee/perigeelaw10.PairAcross", spec := "pairAcross", inPlace := ["math/bits.Sub64", "math/bits.Add64"], unfollowed := true, recurses := true, apart := false }
def PairAcrossSaid : Prop := pairAcrossRow.holds Try.pinned (OpenSpec.ofChange pairAcrossSpec)

/-- ITS FALSE NEIGHBOUR: 'it returns false'. Refute it at one input. -/
def pairAcrossWrong : ChangeSpec := { name := "pairAcross", fn := fun _ => fun
  | [d1, d2, d3, d4, d5] => { results := [.lit (.bool false)], args := [d1, d2, d3, d4, d5] }
  | _ => none }
def PairAcrossWrongFalsely : Prop := pairAcrossRow.holds Try.pinned (OpenSpec.ofChange pairAcrossWrong)

/-- 'perigeelaw11.DirectAll': WHATEVER THE INPUT: true; the input reads as it did. -/
def directAllSpec : ChangeSpec := { name := "directAll", fn := fun _ => fun
  | [d1, d2] => { results := [.lit (.bool true)], args := [d1, d2] }
  | _ => none }
def directAllRow : OpenClaim := { program := "ytoccmfelheinhaa", sum := "d2272e2dc4b17db357a3ab5c3a35a6c73dfaa649746d594fff934e2eb2be7c1b", func := "perigee/perigeelaw11.DirectAll", spec := "directAll", inPlace := ["math/bits.Sub64", "math/bits.Add64"], unfollowed := true, recurses := true, apart := false }
def DirectAllSaid : Prop := directAllRow.holds Try.pinned (OpenSpec.ofChange directAllSpec)

/-- ITS FALSE NEIGHBOUR: 'it returns false'. Refute it at one input. -/
def directAllWrong : ChangeSpec := { name := "directAll", fn := fun _ => fun
  | [d1, d2] => { results := [.lit (.bool false)], args := [d1, d2] }
  | _ => none }
def DirectAllWrongFalsely : Prop := directAllRow.holds Try.pinned (OpenSpec.ofChange directAllWrong)

/-- 'perigeelaw11.DirectMade': WHATEVER THE INPUT: true; the input reads as it did. -/
def directMadeSpec : ChangeSpec := { name := "directMade", fn := fun _ => fun
  | [d1, d2, d3] => { results := [.lit (.bool true)], args := [d1, d2, d3] }
  | _ => none }
def directMadeRow : OpenClaim := { program := "ytoccmfelheinhaa", sum := "d2272e2dc4b17db357a3ab5c3a35a6c73dfaa649746d594fff934e2eb2be7c1b", func := "perigee/perigeelaw11.DirectMade", spec := "directMade", inPlace := ["math/bits.Sub64", "math/bits.Add64"], unfollowed := true, recurses := true, apart := false }
def DirectMadeSaid : Prop := directMadeRow.holds Try.pinned (OpenSpec.ofChange directMadeSpec)

/-- ITS FALSE NEIGHBOUR: 'it returns false'. Refute it at one input. -/
def directMadeWrong : ChangeSpec := { name := "directMade", fn := fun _ => fun
  | [d1, d2, d3] => { results := [.lit (.bool false)], args := [d1, d2, d3] }
  | _ => none }
def DirectMadeWrongFalsely : Prop := directMadeRow.holds Try.pinned (OpenSpec.ofChange directMadeWrong)

/-- 'perigeelaw11.DirectKeeps': WHATEVER THE INPUT: true; the input reads as it did. -/
def directKeepsSpec : ChangeSpec := { name := "directKeeps", fn := fun _ => fun
  | [d1, d2, d3] => { results := [.lit (.bool true)], args := [d1, d2, d3] }
  | _ => none }
def directKeepsRow : OpenClaim := { program := "ytoccmfelheinhaa", sum := "d2272e2dc4b17db357a3ab5c3a35a6c73dfaa649746d594fff934e2eb2be7c1b", func := "perigee/perigeelaw11.DirectKeeps", spec := "directKeeps", inPlace := ["math/bits.Sub64", "math/bits.Add64"], unfollowed := true, recurses := true, apart := false }
def DirectKeepsSaid : Prop := directKeepsRow.holds Try.pinned (OpenSpec.ofChange directKeepsSpec)

/-- ITS FALSE NEIGHBOUR: 'it returns false'. Refute it at one input. -/
def directKeepsWrong : ChangeSpec := { name := "directKeeps", fn := fun _ => fun
  | [d1, d2, d3] => { results := [.lit (.bool false)], args := [d1, d2, d3] }
  | _ => none }
def DirectKeepsWrongFalsely : Prop := directKeepsRow.holds Try.pinned (OpenSpec.ofChange directKeepsWrong)

/-- 'perigeelaw11.DirectAlone': WHATEVER THE INPUT: true; the input reads as it did. -/
def directAloneSpec : ChangeSpec := { name := "directAlone", fn := fun _ => fun
  | [d1, d2, d3, d4, d5] => { results := [.lit (.bool true)], args := [d1, d2, d3, d4, d5] }
  | _ => none }
def directAloneRow : OpenClaim := { program := "ytoccmfelheinhaa", sum := "d2272e2dc4b17db357a3ab5c3a35a6c73dfaa649746d594fff934e2eb2be7c1b", func := "perigee/perigeelaw11.DirectAlone", spec := "directAlone", inPlace := ["math/bits.Sub64", "math/bits.Add64"], unfollowed := true, recurses := true, apart := false }
def DirectAloneSaid : Prop := directAloneRow.holds Try.pinned (OpenSpec.ofChange directAloneSpec)

/-- ITS FALSE NEIGHBOUR: 'it returns false'. Refute it at one input. -/
def directAloneWrong : ChangeSpec := { name := "directAlone", fn := fun _ => fun
  | [d1, d2, d3, d4, d5] => { results := [.lit (.bool false)], args := [d1, d2, d3, d4, d5] }
  | _ => none }
def DirectAloneWrongFalsely : Prop := directAloneRow.holds Try.pinned (OpenSpec.ofChange directAloneWrong)

/-- 'perigeelaw11.DirectTwo': WHATEVER THE INPUT: true; the input reads as it did. -/
def directTwoSpec : ChangeSpec := { name := "directTwo", fn := fun _ => fun
  | [d1, d2, d3] => { results := [.lit (.bool true)], args := [d1, d2, d3] }
  | _ => none }
def directTwoRow : OpenClaim := { program := "ytoccmfelheinhaa", sum := "d2272e2dc4b17db357a3ab5c3a35a6c73dfaa649746d594fff934e2eb2be7c1b", func := "perigee/perigeelaw11.DirectTwo", spec := "directTwo", inPlace := ["math/bits.Sub64", "math/bits.Add64"], unfollowed := true, recurses := true, apart := false }
def DirectTwoSaid : Prop := directTwoRow.holds Try.pinned (OpenSpec.ofChange directTwoSpec)

/-- ITS FALSE NEIGHBOUR: 'it returns false'. Refute it at one input. -/
def directTwoWrong : ChangeSpec := { name := "directTwo", fn := fun _ => fun
  | [d1, d2, d3] => { results := [.lit (.bool false)], args := [d1, d2, d3] }
  | _ => none }
def DirectTwoWrongFalsely : Prop := directTwoRow.holds Try.pinned (OpenSpec.ofChange directTwoWrong)

/-- 'perigeelaw9.MassAll': WHATEVER THE INPUT: true; the input reads as it did. -/
def massAllSpec : ChangeSpec := { name := "massAll", fn := fun _ => fun
  | [d] => { results := [.lit (.bool true)], args := [d] }
  | _ => none }
def massAllRow : OpenClaim := { program := "ytoccmfelheinhaa", sum := "d2272e2dc4b17db357a3ab5c3a35a6c73dfaa649746d594fff934e2eb2be7c1b", func := "perigee/perigeelaw9.MassAll", spec := "massAll", inPlace := ["math/bits.Sub64", "math/bits.Add64"], unfollowed := true, recurses := true, apart := false }
def MassAllSaid : Prop := massAllRow.holds Try.pinned (OpenSpec.ofChange massAllSpec)

/-- ITS FALSE NEIGHBOUR: 'it returns false'. Refute it at one input. -/
def massAllWrong : ChangeSpec := { name := "massAll", fn := fun _ => fun
  | [d] => { results := [.lit (.bool false)], args := [d] }
  | _ => none }
def MassAllWrongFalsely : Prop := massAllRow.holds Try.pinned (OpenSpec.ofChange massAllWrong)

/-- 'perigeelaw9.MassMade': WHATEVER THE INPUT: true; the input reads as it did. -/
def massMadeSpec : ChangeSpec := { name := "massMade", fn := fun _ => fun
  | [d] => { results := [.lit (.bool true)], args := [d] }
  | _ => none }
def massMadeRow : OpenClaim := { program := "ytoccmfelheinhaa", sum := "d2272e2dc4b17db357a3ab5c3a35a6c73dfaa649746d594fff934e2eb2be7c1b", func := "perigee/perigeelaw9.MassMade", spec := "massMade", inPlace := ["math/bits.Sub64", "math/bits.Add64"], unfollowed := true, recurses := true, apart := false }
def MassMadeSaid : Prop := massMadeRow.holds Try.pinned (OpenSpec.ofChange massMadeSpec)

/-- ITS FALSE NEIGHBOUR: 'it returns false'. Refute it at one input. -/
def massMadeWrong : ChangeSpec := { name := "massMade", fn := fun _ => fun
  | [d] => { results := [.lit (.bool false)], args := [d] }
  | _ => none }
def MassMadeWrongFalsely : Prop := massMadeRow.holds Try.pinned (OpenSpec.ofChange massMadeWrong)

/-- 'perigeelaw18.TetherAll': WHATEVER THE INPUT: true; the input reads as it did. -/
def tetherAllSpec : ChangeSpec := { name := "tetherAll", fn := fun _ => fun
  | [d1, d2, d3] => { results := [.lit (.bool true)], args := [d1, d2, d3] }
  | _ => none }
def tetherAllRow : OpenClaim := { program := "ytoccmfelheinhaa", sum := "d2272e2dc4b17db357a3ab5c3a35a6c73dfaa649746d594fff934e2eb2be7c1b", func := "perigee/perigeelaw18.TetherAll", spec := "tetherAll", inPlace := ["math/bits.Sub64", "math/bits.Add64"], unfollowed := true, recurses := true, apart := false }
def TetherAllSaid : Prop := tetherAllRow.holds Try.pinned (OpenSpec.ofChange tetherAllSpec)

/-- ITS FALSE NEIGHBOUR: 'it returns false'. Refute it at one input. -/
def tetherAllWrong : ChangeSpec := { name := "tetherAll", fn := fun _ => fun
  | [d1, d2, d3] => { results := [.lit (.bool false)], args := [d1, d2, d3] }
  | _ => none }
def TetherAllWrongFalsely : Prop := tetherAllRow.holds Try.pinned (OpenSpec.ofChange tetherAllWrong)

/-- 'perigeelaw18.TetherLine': WHATEVER THE INPUT: true; the input reads as it did. -/
def tetherLineSpec : ChangeSpec := { name := "tetherLine", fn := fun _ => fun
  | [d1, d2] => { results := [.lit (.bool true)], args := [d1, d2] }
  | _ => none }
def tetherLineRow : OpenClaim := { program := "ytoccmfelheinhaa", sum := "d2272e2dc4b17db357a3ab5c3a35a6c73dfaa649746d594fff934e2eb2be7c1b", func := "perigee/perigeelaw18.TetherLine", spec := "tetherLine", inPlace := ["math/bits.Sub64", "math/bits.Add64"], unfollowed := true, recurses := true, apart := false }
def TetherLineSaid : Prop := tetherLineRow.holds Try.pinned (OpenSpec.ofChange tetherLineSpec)

/-- ITS FALSE NEIGHBOUR: 'it returns false'. Refute it at one input. -/
def tetherLineWrong : ChangeSpec := { name := "tetherLine", fn := fun _ => fun
  | [d1, d2] => { results := [.lit (.bool false)], args := [d1, d2] }
  | _ => none }
def TetherLineWrongFalsely : Prop := tetherLineRow.holds Try.pinned (OpenSpec.ofChange tetherLineWrong)

/- THE SECOND FORM. 'bulk': how many values and letters a reading holds, each counted each time it is reached (what is shared counts as often as it is met; a slice's spare places count too). A statement '..UptoSaid' is the law's where the arguments, and the package variables that the reading takes, are together of bulk at most 1048576: NARROWER than '..Said'. Prove '..Said' where nothing that the law and all that it calls make is longer than what came in: it says more and counts as full. Else prove '..UptoSaid'. A law counts once. -/
mutual
def uptoBulk {H : Type} : DataW H → Nat
  | .lit (.string bytes) => bytes.length + 1
  | .lit _ => 1
  | .nil => 1
  | .ptr d => uptoBulk d + 1
  | .slice elems spare => uptoBulkAll elems + uptoBulkAll spare + 1
  | .agg parts => uptoBulkAll parts + 1
  | .iface _ d => uptoBulk d + 1
  | .map entries => uptoBulkEntries entries + 1
  | .held _ => 1
def uptoBulkAll {H : Type} : List (DataW H) → Nat
  | [] => 0
  | d :: r => uptoBulk d + uptoBulkAll r
def uptoBulkEntries {H : Type} : List (Lit × DataW H) → Nat
  | [] => 0
  | x :: r => uptoBulkEntry x + uptoBulkEntries r
def uptoBulkEntry {H : Type} : Lit × DataW H → Nat
  | (.string bytes, d) => bytes.length + uptoBulk d + 1
  | (_, d) => uptoBulk d + 1
 end
def uptoSmall : (H : Type) → List (DataW H) → Bool := fun _ ds => decide (uptoBulkAll ds ≤ 1048576)
def OpenSpec.upto (s : _root_.Go.ChangeSpec) : _root_.Go.OpenSpec := { _root_.Go.OpenSpec.ofChange s with cond := some uptoSmall }

/-- 'perigeelaw9.MassNear', WHERE WHAT IT READS IS OF BULK AT MOST 1048576: true; the input reads as it did. -/
def massNearUptoRow : OpenClaim := { program := "ytoccmfelheinhaa", sum := "d2272e2dc4b17db357a3ab5c3a35a6c73dfaa649746d594fff934e2eb2be7c1b", func := "perigee/perigeelaw9.MassNear", spec := "massNear", inPlace := ["math/bits.Sub64", "math/bits.Add64"], unfollowed := true, recurses := true, apart := false, narrowed := true }
def MassNearUptoSaid : Prop := massNearUptoRow.holds Try.pinned (OpenSpec.upto massNearSpec)

/-- 'perigeelaw9.MassWhole', WHERE WHAT IT READS IS OF BULK AT MOST 1048576: true; the input reads as it did. -/
def massWholeUptoRow : OpenClaim := { program := "ytoccmfelheinhaa", sum := "d2272e2dc4b17db357a3ab5c3a35a6c73dfaa649746d594fff934e2eb2be7c1b", func := "perigee/perigeelaw9.MassWhole", spec := "massWhole", inPlace := ["math/bits.Sub64", "math/bits.Add64"], unfollowed := true, recurses := true, apart := false, narrowed := true }
def MassWholeUptoSaid : Prop := massWholeUptoRow.holds Try.pinned (OpenSpec.upto massWholeSpec)

/-- 'perigeelaw13.DriftBack', WHERE WHAT IT READS IS OF BULK AT MOST 1048576: true; the input reads as it did. -/
def driftBackUptoRow : OpenClaim := { program := "ytoccmfelheinhaa", sum := "d2272e2dc4b17db357a3ab5c3a35a6c73dfaa649746d594fff934e2eb2be7c1b", func := "perigee/perigeelaw13.DriftBack", spec := "driftBack", inPlace := ["math/bits.Sub64", "math/bits.Add64"], unfollowed := true, recurses := true, apart := false, narrowed := true }
def DriftBackUptoSaid : Prop := driftBackUptoRow.holds Try.pinned (OpenSpec.upto driftBackSpec)

/-- 'perigeelaw13.DriftWhole', WHERE WHAT IT READS IS OF BULK AT MOST 1048576: true; the input reads as it did. -/
def driftWholeUptoRow : OpenClaim := { program := "ytoccmfelheinhaa", sum := "d2272e2dc4b17db357a3ab5c3a35a6c73dfaa649746d594fff934e2eb2be7c1b", func := "perigee/perigeelaw13.DriftWhole", spec := "driftWhole", inPlace := ["math/bits.Sub64", "math/bits.Add64"], unfollowed := true, recurses := true, apart := false, narrowed := true }
def DriftWholeUptoSaid : Prop := driftWholeUptoRow.holds Try.pinned (OpenSpec.upto driftWholeSpec)

/-- 'perigeelaw13.DriftAll', WHERE WHAT IT READS IS OF BULK AT MOST 1048576: true; the input reads as it did. -/
def driftAllUptoRow : OpenClaim := { program := "ytoccmfelheinhaa", sum := "d2272e2dc4b17db357a3ab5c3a35a6c73dfaa649746d594fff934e2eb2be7c1b", func := "perigee/perigeelaw13.DriftAll", spec := "driftAll", inPlace := ["math/bits.Sub64", "math/bits.Add64"], unfollowed := true, recurses := true, apart := false, narrowed := true }
def DriftAllUptoSaid : Prop := driftAllUptoRow.holds Try.pinned (OpenSpec.upto driftAllSpec)

/-- 'perigeelaw13.DriftMade', WHERE WHAT IT READS IS OF BULK AT MOST 1048576: true; the input reads as it did. -/
def driftMadeUptoRow : OpenClaim := { program := "ytoccmfelheinhaa", sum := "d2272e2dc4b17db357a3ab5c3a35a6c73dfaa649746d594fff934e2eb2be7c1b", func := "perigee/perigeelaw13.DriftMade", spec := "driftMade", inPlace := ["math/bits.Sub64", "math/bits.Add64"], unfollowed := true, recurses := true, apart := false, narrowed := true }
def DriftMadeUptoSaid : Prop := driftMadeUptoRow.holds Try.pinned (OpenSpec.upto driftMadeSpec)

/-- 'perigeelaw13.DriftEdges', WHERE WHAT IT READS IS OF BULK AT MOST 1048576: true; the input reads as it did. -/
def driftEdgesUptoRow : OpenClaim := { program := "ytoccmfelheinhaa", sum := "d2272e2dc4b17db357a3ab5c3a35a6c73dfaa649746d594fff934e2eb2be7c1b", func := "perigee/perigeelaw13.DriftEdges", spec := "driftEdges", inPlace := ["math/bits.Sub64", "math/bits.Add64"], unfollowed := true, recurses := true, apart := false, narrowed := true }
def DriftEdgesUptoSaid : Prop := driftEdgesUptoRow.holds Try.pinned (OpenSpec.upto driftEdgesSpec)

/-- 'perigeelaw10.PairAll', WHERE WHAT IT READS IS OF BULK AT MOST 1048576: true; the input reads as it did. -/
def pairAllUptoRow : OpenClaim := { program := "ytoccmfelheinhaa", sum := "d2272e2dc4b17db357a3ab5c3a35a6c73dfaa649746d594fff934e2eb2be7c1b", func := "perigee/perigeelaw10.PairAll", spec := "pairAll", inPlace := ["math/bits.Sub64", "math/bits.Add64"], unfollowed := true, recurses := true, apart := false, narrowed := true }
def PairAllUptoSaid : Prop := pairAllUptoRow.holds Try.pinned (OpenSpec.upto pairAllSpec)

/-- 'perigeelaw10.PairTurned', WHERE WHAT IT READS IS OF BULK AT MOST 1048576: true; the input reads as it did. -/
def pairTurnedUptoRow : OpenClaim := { program := "ytoccmfelheinhaa", sum := "d2272e2dc4b17db357a3ab5c3a35a6c73dfaa649746d594fff934e2eb2be7c1b", func := "perigee/perigeelaw10.PairTurned", spec := "pairTurned", inPlace := ["math/bits.Sub64", "math/bits.Add64"], unfollowed := true, recurses := true, apart := false, narrowed := true }
def PairTurnedUptoSaid : Prop := pairTurnedUptoRow.holds Try.pinned (OpenSpec.upto pairTurnedSpec)

/-- 'perigeelaw10.PairFar', WHERE WHAT IT READS IS OF BULK AT MOST 1048576: true; the input reads as it did. -/
def pairFarUptoRow : OpenClaim := { program := "ytoccmfelheinhaa", sum := "d2272e2dc4b17db357a3ab5c3a35a6c73dfaa649746d594fff934e2eb2be7c1b", func := "perigee/perigeelaw10.PairFar", spec := "pairFar", inPlace := ["math/bits.Sub64", "math/bits.Add64"], unfollowed := true, recurses := true, apart := false, narrowed := true }
def PairFarUptoSaid : Prop := pairFarUptoRow.holds Try.pinned (OpenSpec.upto pairFarSpec)

/-- 'perigeelaw10.PairNone', WHERE WHAT IT READS IS OF BULK AT MOST 1048576: true; the input reads as it did. -/
def pairNoneUptoRow : OpenClaim := { program := "ytoccmfelheinhaa", sum := "d2272e2dc4b17db357a3ab5c3a35a6c73dfaa649746d594fff934e2eb2be7c1b", func := "perigee/perigeelaw10.PairNone", spec := "pairNone", inPlace := ["math/bits.Sub64", "math/bits.Add64"], unfollowed := true, recurses := true, apart := false, narrowed := true }
def PairNoneUptoSaid : Prop := pairNoneUptoRow.holds Try.pinned (OpenSpec.upto pairNoneSpec)

/-- 'perigeelaw10.PairEps', WHERE WHAT IT READS IS OF BULK AT MOST 1048576: true; the input reads as it did. -/
def pairEpsUptoRow : OpenClaim := { program := "ytoccmfelheinhaa", sum := "d2272e2dc4b17db357a3ab5c3a35a6c73dfaa649746d594fff934e2eb2be7c1b", func := "perigee/perigeelaw10.PairEps", spec := "pairEps", inPlace := ["math/bits.Sub64", "math/bits.Add64"], unfollowed := true, recurses := true, apart := false, narrowed := true }
def PairEpsUptoSaid : Prop := pairEpsUptoRow.holds Try.pinned (OpenSpec.upto pairEpsSpec)

/-- 'perigeelaw10.PairAcross', WHERE WHAT IT READS IS OF BULK AT MOST 1048576: true; the input reads as it did. -/
def pairAcrossUptoRow : OpenClaim := { program := "ytoccmfelheinhaa", sum := "d2272e2dc4b17db357a3ab5c3a35a6c73dfaa649746d594fff934e2eb2be7c1b", func := "perigee/perigeelaw10.PairAcross", spec := "pairAcross", inPlace := ["math/bits.Sub64", "math/bits.Add64"], unfollowed := true, recurses := true, apart := false, narrowed := true }
def PairAcrossUptoSaid : Prop := pairAcrossUptoRow.holds Try.pinned (OpenSpec.upto pairAcrossSpec)

/-- 'perigeelaw11.DirectAll', WHERE WHAT IT READS IS OF BULK AT MOST 1048576: true; the input reads as it did. -/
def directAllUptoRow : OpenClaim := { program := "ytoccmfelheinhaa", sum := "d2272e2dc4b17db357a3ab5c3a35a6c73dfaa649746d594fff934e2eb2be7c1b", func := "perigee/perigeelaw11.DirectAll", spec := "directAll", inPlace := ["math/bits.Sub64", "math/bits.Add64"], unfollowed := true, recurses := true, apart := false, narrowed := true }
def DirectAllUptoSaid : Prop := directAllUptoRow.holds Try.pinned (OpenSpec.upto directAllSpec)

/-- 'perigeelaw11.DirectMade', WHERE WHAT IT READS IS OF BULK AT MOST 1048576: true; the input reads as it did. -/
def directMadeUptoRow : OpenClaim := { program := "ytoccmfelheinhaa", sum := "d2272e2dc4b17db357a3ab5c3a35a6c73dfaa649746d594fff934e2eb2be7c1b", func := "perigee/perigeelaw11.DirectMade", spec := "directMade", inPlace := ["math/bits.Sub64", "math/bits.Add64"], unfollowed := true, recurses := true, apart := false, narrowed := true }
def DirectMadeUptoSaid : Prop := directMadeUptoRow.holds Try.pinned (OpenSpec.upto directMadeSpec)

/-- 'perigeelaw11.DirectKeeps', WHERE WHAT IT READS IS OF BULK AT MOST 1048576: true; the input reads as it did. -/
def directKeepsUptoRow : OpenClaim := { program := "ytoccmfelheinhaa", sum := "d2272e2dc4b17db357a3ab5c3a35a6c73dfaa649746d594fff934e2eb2be7c1b", func := "perigee/perigeelaw11.DirectKeeps", spec := "directKeeps", inPlace := ["math/bits.Sub64", "math/bits.Add64"], unfollowed := true, recurses := true, apart := false, narrowed := true }
def DirectKeepsUptoSaid : Prop := directKeepsUptoRow.holds Try.pinned (OpenSpec.upto directKeepsSpec)

/-- 'perigeelaw11.DirectAlone', WHERE WHAT IT READS IS OF BULK AT MOST 1048576: true; the input reads as it did. -/
def directAloneUptoRow : OpenClaim := { program := "ytoccmfelheinhaa", sum := "d2272e2dc4b17db357a3ab5c3a35a6c73dfaa649746d594fff934e2eb2be7c1b", func := "perigee/perigeelaw11.DirectAlone", spec := "directAlone", inPlace := ["math/bits.Sub64", "math/bits.Add64"], unfollowed := true, recurses := true, apart := false, narrowed := true }
def DirectAloneUptoSaid : Prop := directAloneUptoRow.holds Try.pinned (OpenSpec.upto directAloneSpec)

/-- 'perigeelaw11.DirectTwo', WHERE WHAT IT READS IS OF BULK AT MOST 1048576: true; the input reads as it did. -/
def directTwoUptoRow : OpenClaim := { program := "ytoccmfelheinhaa", sum := "d2272e2dc4b17db357a3ab5c3a35a6c73dfaa649746d594fff934e2eb2be7c1b", func := "perigee/perigeelaw11.DirectTwo", spec := "directTwo", inPlace := ["math/bits.Sub64", "math/bits.Add64"], unfollowed := true, recurses := true, apart := false, narrowed := true }
def DirectTwoUptoSaid : Prop := directTwoUptoRow.holds Try.pinned (OpenSpec.upto directTwoSpec)

/-- 'perigeelaw9.MassAll', WHERE WHAT IT READS IS OF BULK AT MOST 1048576: true; the input reads as it did. -/
def massAllUptoRow : OpenClaim := { program := "ytoccmfelheinhaa", sum := "d2272e2dc4b17db357a3ab5c3a35a6c73dfaa649746d594fff934e2eb2be7c1b", func := "perigee/perigeelaw9.MassAll", spec := "massAll", inPlace := ["math/bits.Sub64", "math/bits.Add64"], unfollowed := true, recurses := true, apart := false, narrowed := true }
def MassAllUptoSaid : Prop := massAllUptoRow.holds Try.pinned (OpenSpec.upto massAllSpec)

/-- 'perigeelaw9.MassMade', WHERE WHAT IT READS IS OF BULK AT MOST 1048576: true; the input reads as it did. -/
def massMadeUptoRow : OpenClaim := { program := "ytoccmfelheinhaa", sum := "d2272e2dc4b17db357a3ab5c3a35a6c73dfaa649746d594fff934e2eb2be7c1b", func := "perigee/perigeelaw9.MassMade", spec := "massMade", inPlace := ["math/bits.Sub64", "math/bits.Add64"], unfollowed := true, recurses := true, apart := false, narrowed := true }
def MassMadeUptoSaid : Prop := massMadeUptoRow.holds Try.pinned (OpenSpec.upto massMadeSpec)

/-- 'perigeelaw18.TetherAll', WHERE WHAT IT READS IS OF BULK AT MOST 1048576: true; the input reads as it did. -/
def tetherAllUptoRow : OpenClaim := { program := "ytoccmfelheinhaa", sum := "d2272e2dc4b17db357a3ab5c3a35a6c73dfaa649746d594fff934e2eb2be7c1b", func := "perigee/perigeelaw18.TetherAll", spec := "tetherAll", inPlace := ["math/bits.Sub64", "math/bits.Add64"], unfollowed := true, recurses := true, apart := false, narrowed := true }
def TetherAllUptoSaid : Prop := tetherAllUptoRow.holds Try.pinned (OpenSpec.upto tetherAllSpec)

/-- 'perigeelaw18.TetherLine', WHERE WHAT IT READS IS OF BULK AT MOST 1048576: true; the input reads as it did. -/
def tetherLineUptoRow : OpenClaim := { program := "ytoccmfelheinhaa", sum := "d2272e2dc4b17db357a3ab5c3a35a6c73dfaa649746d594fff934e2eb2be7c1b", func := "perigee/perigeelaw18.TetherLine", spec := "tetherLine", inPlace := ["math/bits.Sub64", "math/bits.Add64"], unfollowed := true, recurses := true, apart := false, narrowed := true }
def TetherLineUptoSaid : Prop := tetherLineUptoRow.holds Try.pinned (OpenSpec.upto tetherLineSpec)

end Rows
end Go.Proofs.Ytoccmfelheinhaa
