import Derived.Test.YtoccmfelheinhaaR3P0
import Derived.Test.YtoccmfelheinhaaVs2
import Derived.Test.YtoccmfelheinhaaR3MA
import Derived.Test.YtoccmfelheinhaaRows
/- MassAll, as the given row states it: from the contract of the function itself. -/
namespace Go.Proofs.Ytoccmfelheinhaa
open Go.ChangeShapes Go.WideShapes Go.ChangeAt Go.RowKit Go.Vs

theorem Try.own : ownKnob Try.prog.godebug = none := by kernel_rfl
theorem Try.laidOut : laidOutB Try.prog = true := by kernel_rfl
theorem kinds32 : ckinds Try.prog 8 32 = some [.i64, .u64, .i64, .u64, .i64, .u64, .i64, .u64, .i64, .u64, .i64, .u64, .i64, .u64, .i64, .u64, .i64, .u64, .i64, .i64] := by kernel_rfl
theorem cells32 : Try.prog.cellsOf 32 = 20 := by kernel_rfl

set_option maxRecDepth 100000 in
theorem massAll_lifted (os : Os) (started : os.Started) (H : Type) (enc : TypeId × Value → H) :
    ReturnsInHanded {} Try.checked os 21 .any (Rows.massAllSpec.pre6 enc Try.prog Try.f21 Rows.massAllRow.domain false) (Rows.massAllSpec.post enc Try.prog Try.f21 false true false false) := by
  refine returnsInHanded_of_change (C := Try.checked) Try.own started (by kernel_rfl) Try.func21
    (ChangeSpec.witness6 (enc := enc) (C := Try.checked) false ⟨#[], #[.slice none 0 0], []⟩ 8 (by kernel_rfl) (by kernel_rfl) (by kernel_rfl) (by kernel_rfl)) ?_
  intro W base args ds gs before hval0 hW _ _
  have hval : ∀ (j : Nat) t v, Try.f21.params[j]? = some t → args[j]? = some v → Value.okWide Try.prog W .any base t v := hval0
  have hW' := hW
  obtain ⟨p, q, hA0, hV, rfl, _, _⟩ := hW
  have hA : DataW.TrodAll enc Try.prog W 0 (fun _ => true) true Try.f21.params.toList args.toList ds p := hA0
  rw [Try.params21] at hA hval
  obtain ⟨v0, d0, rfl, rfl, h0⟩ := trodAll_one hA
  obtain ⟨rfl, rfl⟩ := trodVars_none hV
  clear hA0 hval0
  simp only [List.append_nil] at hW'
  have hlt : ∀ x ∈ p, x.block < W.heap.size := fun x hx => by simpa using hW'.lt x hx
  obtain ⟨x0, l0, k0, m0, o0⟩ := (Opened.nil (W := W)).slice Try.underlying23 kinds32 (by decide) cells32 (hval 0 23 v0 rfl rfl) h0
  refine (law_calls RF.c_MassAll o0 (RF.lawMsA_of x0 l0) rfl).mono fun e W1 ⟨he, hbe⟩ => ?_
  subst he
  refine ⟨_, rfl, _, _, _, [], _, [], hW', ?_, trodAll_mk1 (Below.trod Try.laidOut (by kernel_rfl) (of_decide_eq_true (by kernel_rfl)) h0 hbe hlt), rfl, hbe.frame _, fun h => by cases h⟩
  exact trodAll_mk1 (shut_bool Try.underlying4 _)

theorem massAll_joined {P : Program} (h : P = Try.prog) : joinedFacts P 21 Try.f21 Rows.massAllSpec Rows.massAllRow = true := by
  have h1 : P.mayEnter = true := by rw [h]; exact Try.may_enter
  have h2 : P.liftsFinal = false := by rw [h]; exact Try.lifts_final
  have h3 : P.make = some .cut := by rw [h]; exact Try.made
  unfold joinedFacts
  rewrite [h1, h2, h3]
  subst h
  show (_ : Bool) = true
  kernel_rfl

theorem massAll_holds : Rows.MassAllSaid :=
  OpenClaim.holds_of_wide 21 Try.f21 rfl rfl rfl rfl rfl rfl rfl ⟨rfl, rfl, rfl, rfl, rfl⟩ rfl rfl rfl rfl rfl (by kernel_rfl) Try.func21 (massAll_joined rfl)
    (of_decide_eq_true (by kernel_rfl)) (by unfold Func.isWrapper; first | (rw [if_pos (by decide +kernel)]; kernel_rfl) | (rw [if_neg (by decide +kernel)]; exact ⟨rfl, rfl⟩))
    (fun os started H enc _ => massAll_lifted os started H enc)
end Go.Proofs.Ytoccmfelheinhaa
