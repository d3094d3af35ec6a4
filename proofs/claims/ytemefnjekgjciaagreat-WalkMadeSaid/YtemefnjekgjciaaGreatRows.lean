/-
  No cell of these rows narrows 'for every input' (looked for: loops, veiled, ifaces, maps, wideKeys, modest, calm, conditions, laid).
  DERIVED. THE GIVEN ROWS OF THIS SEAT. 10 by the template 'for every input the law returns true; each argument reads behind the call as it read before'; 0 by the template 'total and deterministic' (their statements: YtemefnjekgjciaaGreatTotals.lean).
  GIVEN WITH THE SEED: the statements are not yours to turn. If you find one false, say at which input.
  Laid BY PROGRAM, IN A SANDBOX (cutbox-rows.mjs): the forced cells as the released guide's own fill.sh prints them over the translation 63d98107bf9e26db… (all of the seat's roots in one cut). By AI agents, Wed Nov 11 2026. No macro, syntax, notation, axiom, sorry.
-/
import Derived.Test.YtemefnjekgjciaaGreatChecked
import GoSem.Claim
import GoSem.ClaimJoined
import GoSem.ClaimMapViews
import Derived.JoinedTies
import Derived.KernelRfl
namespace Go.Proofs.YtemefnjekgjciaaGreat
/- THE CELL 'sum', in the pinned program and in every row, IS THE sha256 OF THE DUMP (.gsa) THAT YtemefnjekgjciaaGreatProg.lean LOADS. Nothing in Lean hashes anything: it is a label: what it is worth is what the hold of that sum in a sandbox is worth. -/
noncomputable def Tryz.pinned : Pinned := { name := "ytemefnjekgjciaagreat", sum := "63d98107bf9e26dbc34451484d170101af49bff41a6e240706f4a563c31153f5", checked := Tryz.checked }
namespace Rows
def none {H : Type} : Left H := { results := [], args := [] }

/-- 'perigeelaw15.FourBack': WHATEVER THE INPUT: true; the input reads as it did. -/
def fourBackSpec : ChangeSpec := { name := "fourBack", fn := fun _ => fun
  | [d1, d2, d3, d4] => { results := [.lit (.bool true)], args := [d1, d2, d3, d4] }
  | _ => none }
def fourBackRow : OpenClaim := { program := "ytemefnjekgjciaagreat", sum := "63d98107bf9e26dbc34451484d170101af49bff41a6e240706f4a563c31153f5", func := "perigee/perigeelaw15.FourBack", spec := "fourBack", inPlace := ["math/bits.Sub64", "math/bits.Add64"], unfollowed := true, recurses := true, apart := false }
def FourBackSaid : Prop := fourBackRow.holds Tryz.pinned (OpenSpec.ofChange fourBackSpec)

/-- ITS FALSE NEIGHBOUR: 'it returns false'. Refute it at one input. -/
def fourBackWrong : ChangeSpec := { name := "fourBack", fn := fun _ => fun
  | [d1, d2, d3, d4] => { results := [.lit (.bool false)], args := [d1, d2, d3, d4] }
  | _ => none }
def FourBackWrongFalsely : Prop := fourBackRow.holds Tryz.pinned (OpenSpec.ofChange fourBackWrong)

/-- 'perigeelaw15.FourGoes': WHATEVER THE INPUT: true; the input reads as it did. -/
def fourGoesSpec : ChangeSpec := { name := "fourGoes", fn := fun _ => fun
  | [d1, d2, d3] => { results := [.lit (.bool true)], args := [d1, d2, d3] }
  | _ => none }
def fourGoesRow : OpenClaim := { program := "ytemefnjekgjciaagreat", sum := "63d98107bf9e26dbc34451484d170101af49bff41a6e240706f4a563c31153f5", func := "perigee/perigeelaw15.FourGoes", spec := "fourGoes", inPlace := ["math/bits.Sub64", "math/bits.Add64"], unfollowed := true, recurses := true, apart := false }
def FourGoesSaid : Prop := fourGoesRow.holds Tryz.pinned (OpenSpec.ofChange fourGoesSpec)

/-- ITS FALSE NEIGHBOUR: 'it returns false'. Refute it at one input. -/
def fourGoesWrong : ChangeSpec := { name := "fourGoes", fn := fun _ => fun
  | [d1, d2, d3] => { results := [.lit (.bool false)], args := [d1, d2, d3] }
  | _ => none }
def FourGoesWrongFalsely : Prop := fourGoesRow.holds Tryz.pinned (OpenSpec.ofChange fourGoesWrong)

/-- 'perigeelaw12.WalkMade': WHATEVER THE INPUT: true; the input reads as it did. -/
def walkMadeSpec : ChangeSpec := { name := "walkMade", fn := fun _ => fun
  | [d1, d2, d3, d4] => { results := [.lit (.bool true)], args := [d1, d2, d3, d4] }
  | _ => none }
def walkMadeRow : OpenClaim := { program := "ytemefnjekgjciaagreat", sum := "63d98107bf9e26dbc34451484d170101af49bff41a6e240706f4a563c31153f5", func := "perigee/perigeelaw12.WalkMade", spec := "walkMade", inPlace := ["math/bits.Sub64", "math/bits.Add64"], unfollowed := true, recurses := true, apart := false }
def WalkMadeSaid : Prop := walkMadeRow.holds Tryz.pinned (OpenSpec.ofChange walkMadeSpec)

/-- ITS FALSE NEIGHBOUR: 'it returns false'. Refute it at one input. -/
def walkMadeWrong : ChangeSpec := { name := "walkMade", fn := fun _ => fun
  | [d1, d2, d3, d4] => { results := [.lit (.bool false)], args := [d1, d2, d3, d4] }
  | _ => none }
def WalkMadeWrongFalsely : Prop := walkMadeRow.holds Tryz.pinned (OpenSpec.ofChange walkMadeWrong)

/-- 'perigeelaw12.WalkSees': WHATEVER THE INPUT: true; the input reads as it did. -/
def walkSeesSpec : ChangeSpec := { name := "walkSees", fn := fun _ => fun
  | [d1, d2, d3] => { results := [.lit (.bool true)], args := [d1, d2, d3] }
  | _ => none }
def walkSeesRow : OpenClaim := { program := "ytemefnjekgjciaagreat", sum := "63d98107bf9e26dbc34451484d170101af49bff41a6e240706f4a563c31153f5", func := "perigee/perigeelaw12.WalkSees", spec := "walkSees", inPlace := ["math/bits.Sub64", "math/bits.Add64"], unfollowed := true, recurses := true, apart := false }
def WalkSeesSaid : Prop := walkSeesRow.holds Tryz.pinned (OpenSpec.ofChange walkSeesSpec)

/-- ITS FALSE NEIGHBOUR: 'it returns false'. Refute it at one input. -/
def walkSeesWrong : ChangeSpec := { name := "walkSees", fn := fun _ => fun
  | [d1, d2, d3] => { results := [.lit (.bool false)], args := [d1, d2, d3] }
  | _ => none }
def WalkSeesWrongFalsely : Prop := walkSeesRow.holds Tryz.pinned (OpenSpec.ofChange walkSeesWrong)

/-- 'perigeelaw14.LeapMade': WHATEVER THE INPUT: true; the input reads as it did. -/
def leapMadeSpec : ChangeSpec := { name := "leapMade", fn := fun _ => fun
  | [d1, d2, d3, d4] => { results := [.lit (.bool true)], args := [d1, d2, d3, d4] }
  | _ => none }
def leapMadeRow : OpenClaim := { program := "ytemefnjekgjciaagreat", sum := "63d98107bf9e26dbc34451484d170101af49bff41a6e240706f4a563c31153f5", func := "perigee/perigeelaw14.LeapMade", spec := "leapMade", inPlace := ["math/bits.Sub64", "math/bits.Add64"], unfollowed := true, recurses := true, apart := false }
def LeapMadeSaid : Prop := leapMadeRow.holds Tryz.pinned (OpenSpec.ofChange leapMadeSpec)

/-- ITS FALSE NEIGHBOUR: 'it returns false'. Refute it at one input. -/
def leapMadeWrong : ChangeSpec := { name := "leapMade", fn := fun _ => fun
  | [d1, d2, d3, d4] => { results := [.lit (.bool false)], args := [d1, d2, d3, d4] }
  | _ => none }
def LeapMadeWrongFalsely : Prop := leapMadeRow.holds Tryz.pinned (OpenSpec.ofChange leapMadeWrong)

/-- 'perigeelaw14.LeapBack': WHATEVER THE INPUT: true; the input reads as it did. -/
def leapBackSpec : ChangeSpec := { name := "leapBack", fn := fun _ => fun
  | [d1, d2, d3, d4] => { results := [.lit (.bool true)], args := [d1, d2, d3, d4] }
  | _ => none }
def leapBackRow : OpenClaim := { program := "ytemefnjekgjciaagreat", sum := "63d98107bf9e26dbc34451484d170101af49bff41a6e240706f4a563c31153f5", func := "perigee/perigeelaw14.LeapBack", spec := "leapBack", inPlace := ["math/bits.Sub64", "math/bits.Add64"], unfollowed := true, recurses := true, apart := false }
def LeapBackSaid : Prop := leapBackRow.holds Tryz.pinned (OpenSpec.ofChange leapBackSpec)

/-- ITS FALSE NEIGHBOUR: 'it returns false'. Refute it at one input. -/
def leapBackWrong : ChangeSpec := { name := "leapBack", fn := fun _ => fun
  | [d1, d2, d3, d4] => { results := [.lit (.bool false)], args := [d1, d2, d3, d4] }
  | _ => none }
def LeapBackWrongFalsely : Prop := leapBackRow.holds Tryz.pinned (OpenSpec.ofChange leapBackWrong)

/-- 'perigeelaw14.LeapKeeps': WHATEVER THE INPUT: true; the input reads as it did. -/
def leapKeepsSpec : ChangeSpec := { name := "leapKeeps", fn := fun _ => fun
  | [d1, d2, d3] => { results := [.lit (.bool true)], args := [d1, d2, d3] }
  | _ => none }
def leapKeepsRow : OpenClaim := { program := "ytemefnjekgjciaagreat", sum := "63d98107bf9e26dbc34451484d170101af49bff41a6e240706f4a563c31153f5", func := "perigee/perigeelaw14.LeapKeeps", spec := "leapKeeps", inPlace := ["math/bits.Sub64", "math/bits.Add64"], unfollowed := true, recurses := true, apart := false }
def LeapKeepsSaid : Prop := leapKeepsRow.holds Tryz.pinned (OpenSpec.ofChange leapKeepsSpec)

/-- ITS FALSE NEIGHBOUR: 'it returns false'. Refute it at one input. -/
def leapKeepsWrong : ChangeSpec := { name := "leapKeeps", fn := fun _ => fun
  | [d1, d2, d3] => { results := [.lit (.bool false)], args := [d1, d2, d3] }
  | _ => none }
def LeapKeepsWrongFalsely : Prop := leapKeepsRow.holds Tryz.pinned (OpenSpec.ofChange leapKeepsWrong)

/-- 'perigeelaw14.LeapStill': WHATEVER THE INPUT: true; the input reads as it did. -/
def leapStillSpec : ChangeSpec := { name := "leapStill", fn := fun _ => fun
  | [d1, d2, d3] => { results := [.lit (.bool true)], args := [d1, d2, d3] }
  | _ => none }
def leapStillRow : OpenClaim := { program := "ytemefnjekgjciaagreat", sum := "63d98107bf9e26dbc34451484d170101af49bff41a6e240706f4a563c31153f5", func := "perigee/perigeelaw14.LeapStill", spec := "leapStill", inPlace := ["math/bits.Sub64", "math/bits.Add64"], unfollowed := true, recurses := true, apart := false }
def LeapStillSaid : Prop := leapStillRow.holds Tryz.pinned (OpenSpec.ofChange leapStillSpec)

/-- ITS FALSE NEIGHBOUR: 'it returns false'. Refute it at one input. -/
def leapStillWrong : ChangeSpec := { name := "leapStill", fn := fun _ => fun
  | [d1, d2, d3] => { results := [.lit (.bool false)], args := [d1, d2, d3] }
  | _ => none }
def LeapStillWrongFalsely : Prop := leapStillRow.holds Tryz.pinned (OpenSpec.ofChange leapStillWrong)

/-- 'perigeelaw15.FourThree': WHATEVER THE INPUT: true; the input reads as it did. -/
def fourThreeSpec : ChangeSpec := { name := "fourThree", fn := fun _ => fun
  | [d1, d2, d3] => { results := [.lit (.bool true)], args := [d1, d2, d3] }
  | _ => none }
def fourThreeRow : OpenClaim := { program := "ytemefnjekgjciaagreat", sum := "63d98107bf9e26dbc34451484d170101af49bff41a6e240706f4a563c31153f5", func := "perigee/perigeelaw15.FourThree", spec := "fourThree", inPlace := ["math/bits.Sub64", "math/bits.Add64"], unfollowed := true, recurses := true, apart := false }
def FourThreeSaid : Prop := fourThreeRow.holds Tryz.pinned (OpenSpec.ofChange fourThreeSpec)

/-- ITS FALSE NEIGHBOUR: 'it returns false'. Refute it at one input. -/
def fourThreeWrong : ChangeSpec := { name := "fourThree", fn := fun _ => fun
  | [d1, d2, d3] => { results := [.lit (.bool false)], args := [d1, d2, d3] }
  | _ => none }
def FourThreeWrongFalsely : Prop := fourThreeRow.holds Tryz.pinned (OpenSpec.ofChange fourThreeWrong)

/-- 'perigeelaw15.FourMade': WHATEVER THE INPUT: true; the input reads as it did. -/
def fourMadeSpec : ChangeSpec := { name := "fourMade", fn := fun _ => fun
  | [d1, d2, d3, d4] => { results := [.lit (.bool true)], args := [d1, d2, d3, d4] }
  | _ => none }
def fourMadeRow : OpenClaim := { program := "ytemefnjekgjciaagreat", sum := "63d98107bf9e26dbc34451484d170101af49bff41a6e240706f4a563c31153f5", func := "perigee/perigeelaw15.FourMade", spec := "fourMade", inPlace := ["math/bits.Sub64", "math/bits.Add64"], unfollowed := true, recurses := true, apart := false }
def FourMadeSaid : Prop := fourMadeRow.holds Tryz.pinned (OpenSpec.ofChange fourMadeSpec)

/-- ITS FALSE NEIGHBOUR: 'it returns false'. Refute it at one input. -/
def fourMadeWrong : ChangeSpec := { name := "fourMade", fn := fun _ => fun
  | [d1, d2, d3, d4] => { results := [.lit (.bool false)], args := [d1, d2, d3, d4] }
  | _ => none }
def FourMadeWrongFalsely : Prop := fourMadeRow.holds Tryz.pinned (OpenSpec.ofChange fourMadeWrong)

/- THE SECOND FORM. 'bulk': how many values and letters a reading holds, each counted each time it is reached (what is shared counts as often as it is met; a slice's spare places count too). A statement '..UptoSaid' is the law's where the arguments, and the package variables that the reading takes, are together of bulk at most 1048576: NARROWER than '..Said'. Prove '..Said' where nothing that the law and all that it calls make is longer than what came in: it says more and counts as full. Else prove '..UptoSaid'. A law counts once. -/
mutual
def uptoBulk {H : Type} : DataW H → Nat
  | .lit (.string bytes) => bytes.length + 1
  | .lit _ => 1
  | .nil => 1
  | .ptr d => uptoBulk d + 1
  | .slice elems spare => uptoBulkAll elems + uptoBulkAll spare + 1
  | .agg parts => uptoBulkAll parts + 1
  | .iface _ d => uptoBulk d + 1
  | .map entries => uptoBulkEntries entries + 1
  | .held _ => 1
def uptoBulkAll {H : Type} : List (DataW H) → Nat
  | [] => 0
  | d :: r => uptoBulk d + uptoBulkAll r
def uptoBulkEntries {H : Type} : List (Lit × DataW H) → Nat
  | [] => 0
  | x :: r => uptoBulkEntry x + uptoBulkEntries r
def uptoBulkEntry {H : Type} : Lit × DataW H → Nat
  | (.string bytes, d) => bytes.length + uptoBulk d + 1
  | (_, d) => uptoBulk d + 1
 end
def uptoSmall : (H : Type) → List (DataW H) → Bool := fun _ ds => decide (uptoBulkAll ds ≤ 1048576)
def OpenSpec.upto (s : _root_.Go.ChangeSpec) : _root_.Go.OpenSpec := { _root_.Go.OpenSpec.ofChange s with cond := some uptoSmall }

/-- 'perigeelaw15.FourBack', WHERE WHAT IT READS IS OF BULK AT MOST 1048576: true; the input reads as it did. -/
def fourBackUptoRow : OpenClaim := { program := "ytemefnjekgjciaagreat", sum := "63d98107bf9e26dbc34451484d170101af49bff41a6e240706f4a563c31153f5", func := "perigee/perigeelaw15.FourBack", spec := "fourBack", inPlace := ["math/bits.Sub64", "math/bits.Add64"], unfollowed := true, recurses := true, apart := false, narrowed := true }
def FourBackUptoSaid : Prop := fourBackUptoRow.holds Tryz.pinned (OpenSpec.upto fourBackSpec)

/-- 'perigeelaw15.FourGoes', WHERE WHAT IT READS IS OF BULK AT MOST 1048576: true; the input reads as it did. -/
def fourGoesUptoRow : OpenClaim := { program := "ytemefnjekgjciaagreat", sum := "63d98107bf9e26dbc34451484d170101af49bff41a6e240706f4a563c31153f5", func := "perigee/perigeelaw15.FourGoes", spec := "fourGoes", inPlace := ["math/bits.Sub64", "math/bits.Add64"], unfollowed := true, recurses := true, apart := false, narrowed := true }
def FourGoesUptoSaid : Prop := fourGoesUptoRow.holds Tryz.pinned (OpenSpec.upto fourGoesSpec)

/-- 'perigeelaw12.WalkMade', WHERE WHAT IT READS IS OF BULK AT MOST 1048576: true; the input reads as it did. -/
def walkMadeUptoRow : OpenClaim := { program := "ytemefnjekgjciaagreat", sum := "63d98107bf9e26dbc34451484d170101af49bff41a6e240706f4a563c31153f5", func := "perigee/perigeelaw12.WalkMade", spec := "walkMade", inPlace := ["math/bits.Sub64", "math/bits.Add64"], unfollowed := true, recurses := true, apart := false, narrowed := true }
def WalkMadeUptoSaid : Prop := walkMadeUptoRow.holds Tryz.pinned (OpenSpec.upto walkMadeSpec)

/-- 'perigeelaw12.WalkSees', WHERE WHAT IT READS IS OF BULK AT MOST 1048576: true; the input reads as it did. -/
def walkSeesUptoRow : OpenClaim := { program := "ytemefnjekgjciaagreat", sum := "63d98107bf9e26dbc34451484d170101af49bff41a6e240706f4a563c31153f5", func := "perigee/perigeelaw12.WalkSees", spec := "walkSees", inPlace := ["math/bits.Sub64", "math/bits.Add64"], unfollowed := true, recurses := true, apart := false, narrowed := true }
def WalkSeesUptoSaid : Prop := walkSeesUptoRow.holds Tryz.pinned (OpenSpec.upto walkSeesSpec)

/-- 'perigeelaw14.LeapMade', WHERE WHAT IT READS IS OF BULK AT MOST 1048576: true; the input reads as it did. -/
def leapMadeUptoRow : OpenClaim := { program := "ytemefnjekgjciaagreat", sum := "63d98107bf9e26dbc34451484d170101af49bff41a6e240706f4a563c31153f5", func := "perigee/perigeelaw14.LeapMade", spec := "leapMade", inPlace := ["math/bits.Sub64", "math/bits.Add64"], unfollowed := true, recurses := true, apart := false, narrowed := true }
def LeapMadeUptoSaid : Prop := leapMadeUptoRow.holds Tryz.pinned (OpenSpec.upto leapMadeSpec)

/-- 'perigeelaw14.LeapBack', WHERE WHAT IT READS IS OF BULK AT MOST 1048576: true; the input reads as it did. -/
def leapBackUptoRow : OpenClaim := { program := "ytemefnjekgjciaagreat", sum := "63d98107bf9e26dbc34451484d170101af49bff41a6e240706f4a563c31153f5", func := "perigee/perigeelaw14.LeapBack", spec := "leapBack", inPlace := ["math/bits.Sub64", "math/bits.Add64"], unfollowed := true, recurses := true, apart := false, narrowed := true }
def LeapBackUptoSaid : Prop := leapBackUptoRow.holds Tryz.pinned (OpenSpec.upto leapBackSpec)

/-- 'perigeelaw14.LeapKeeps', WHERE WHAT IT READS IS OF BULK AT MOST 1048576: true; the input reads as it did. -/
def leapKeepsUptoRow : OpenClaim := { program := "ytemefnjekgjciaagreat", sum := "63d98107bf9e26dbc34451484d170101af49bff41a6e240706f4a563c31153f5", func := "perigee/perigeelaw14.LeapKeeps", spec := "leapKeeps", inPlace := ["math/bits.Sub64", "math/bits.Add64"], unfollowed := true, recurses := true, apart := false, narrowed := true }
def LeapKeepsUptoSaid : Prop := leapKeepsUptoRow.holds Tryz.pinned (OpenSpec.upto leapKeepsSpec)

/-- 'perigeelaw14.LeapStill', WHERE WHAT IT READS IS OF BULK AT MOST 1048576: true; the input reads as it did. -/
def leapStillUptoRow : OpenClaim := { program := "ytemefnjekgjciaagreat", sum := "63d98107bf9e26dbc34451484d170101af49bff41a6e240706f4a563c31153f5", func := "perigee/perigeelaw14.LeapStill", spec := "leapStill", inPlace := ["math/bits.Sub64", "math/bits.Add64"], unfollowed := true, recurses := true, apart := false, narrowed := true }
def LeapStillUptoSaid : Prop := leapStillUptoRow.holds Tryz.pinned (OpenSpec.upto leapStillSpec)

/-- 'perigeelaw15.FourThree', WHERE WHAT IT READS IS OF BULK AT MOST 1048576: true; the input reads as it did. -/
def fourThreeUptoRow : OpenClaim := { program := "ytemefnjekgjciaagreat", sum := "63d98107bf9e26dbc34451484d170101af49bff41a6e240706f4a563c31153f5", func := "perigee/perigeelaw15.FourThree", spec := "fourThree", inPlace := ["math/bits.Sub64", "math/bits.Add64"], unfollowed := true, recurses := true, apart := false, narrowed := true }
def FourThreeUptoSaid : Prop := fourThreeUptoRow.holds Tryz.pinned (OpenSpec.upto fourThreeSpec)

/-- 'perigeelaw15.FourMade', WHERE WHAT IT READS IS OF BULK AT MOST 1048576: true; the input reads as it did. -/
def fourMadeUptoRow : OpenClaim := { program := "ytemefnjekgjciaagreat", sum := "63d98107bf9e26dbc34451484d170101af49bff41a6e240706f4a563c31153f5", func := "perigee/perigeelaw15.FourMade", spec := "fourMade", inPlace := ["math/bits.Sub64", "math/bits.Add64"], unfollowed := true, recurses := true, apart := false, narrowed := true }
def FourMadeUptoSaid : Prop := fourMadeUptoRow.holds Tryz.pinned (OpenSpec.upto fourMadeSpec)

end Rows
end Go.Proofs.YtemefnjekgjciaaGreat
