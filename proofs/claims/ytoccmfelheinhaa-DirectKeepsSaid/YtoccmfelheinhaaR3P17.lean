import Derived.Test.YtoccmfelheinhaaR3P0
import Derived.Test.YtoccmfelheinhaaVs2
import Derived.Test.YtoccmfelheinhaaR3K
import Derived.Test.YtoccmfelheinhaaRows
/- DirectKeeps, as the given row states it: from the contract of the function itself. -/
namespace Go.Proofs.Ytoccmfelheinhaa
open Go.ChangeShapes Go.WideShapes Go.ChangeAt Go.RowKit Go.Vs

theorem Try.own : ownKnob Try.prog.godebug = none := by kernel_rfl
theorem Try.laidOut : laidOutB Try.prog = true := by kernel_rfl
theorem kinds5 : ckinds Try.prog 8 5 = some [.u8] := by kernel_rfl
theorem cells5 : Try.prog.cellsOf 5 = 1 := by kernel_rfl

set_option maxRecDepth 100000 in
theorem directKeeps_lifted (os : Os) (started : os.Started) (H : Type) (enc : TypeId × Value → H) :
    ReturnsInHanded {} Try.checked os 18 .any (Rows.directKeepsSpec.pre6 enc Try.prog Try.f18 Rows.directKeepsRow.domain false) (Rows.directKeepsSpec.post enc Try.prog Try.f18 false true false false) := by
  refine returnsInHanded_of_change (C := Try.checked) Try.own started (by kernel_rfl) Try.func18
    (ChangeSpec.witness6 (enc := enc) (C := Try.checked) false ⟨#[], #[.slice none 0 0, .int .u8 0, .int .u64 0], []⟩ 8 (by kernel_rfl) (by kernel_rfl) (by kernel_rfl) (by kernel_rfl)) ?_
  intro W base args ds gs before hval0 hW _ _
  have hval : ∀ (j : Nat) t v, Try.f18.params[j]? = some t → args[j]? = some v → Value.okWide Try.prog W .any base t v := hval0
  have hW' := hW
  obtain ⟨p, q, hA0, hV, rfl, _, _⟩ := hW
  have hA : DataW.TrodAll enc Try.prog W 0 (fun _ => true) true Try.f18.params.toList args.toList ds p := hA0
  rw [Try.params18] at hA hval
  obtain ⟨v0, v1, v2, d0, d1, d2, p0, p1, p2, rfl, rfl, rfl, h0, h1, h2⟩ := trodAll_three hA
  obtain ⟨rfl, rfl⟩ := trodVars_none hV
  clear hA0 hval0
  simp only [List.append_nil] at hW'
  have hlt : ∀ x ∈ p0 ++ (p1 ++ p2), x.block < W.heap.size := fun x hx => hW'.lt x (by simpa using hx)
  obtain ⟨x0, l0, k0, m0, o0⟩ := (Opened.nil (W := W)).slice Try.underlying22 kinds5 (by decide) cells5 (hval 0 22 v0 rfl rfl) h0
  obtain ⟨x1, k1, o1⟩ := o0.int Try.underlying5 (hval 1 5 v1 rfl rfl) h1
  obtain ⟨x2, k2, o2⟩ := o1.int Try.underlying26 (hval 2 26 v2 rfl rfl) h2
  refine (law_calls RF.c_DirectKeeps o2 (RF.lawDK_of x0 k1 k2) rfl).mono fun e W1 ⟨he, hbe⟩ => ?_
  subst he
  refine ⟨_, rfl, _, _, _, [], _, [], hW', ?_, trodAll_mk3 (Below.trod Try.laidOut (by kernel_rfl) (of_decide_eq_true (by kernel_rfl)) h0 hbe (fun x hx => hlt x (by simp [hx]))) (Below.trod Try.laidOut (by kernel_rfl) (of_decide_eq_true (by kernel_rfl)) h1 hbe (fun x hx => hlt x (by simp [hx]))) (Below.trod Try.laidOut (by kernel_rfl) (of_decide_eq_true (by kernel_rfl)) h2 hbe (fun x hx => hlt x (by simp [hx]))), rfl, hbe.frame _, fun h => by cases h⟩
  exact trodAll_mk1 (shut_bool Try.underlying4 _)

theorem directKeeps_joined {P : Program} (h : P = Try.prog) : joinedFacts P 18 Try.f18 Rows.directKeepsSpec Rows.directKeepsRow = true := by
  have h1 : P.mayEnter = true := by rw [h]; exact Try.may_enter
  have h2 : P.liftsFinal = false := by rw [h]; exact Try.lifts_final
  have h3 : P.make = some .cut := by rw [h]; exact Try.made
  unfold joinedFacts
  rewrite [h1, h2, h3]
  subst h
  show (_ : Bool) = true
  kernel_rfl

theorem directKeeps_holds : Rows.DirectKeepsSaid :=
  OpenClaim.holds_of_wide 18 Try.f18 rfl rfl rfl rfl rfl rfl rfl ⟨rfl, rfl, rfl, rfl, rfl⟩ rfl rfl rfl rfl rfl (by kernel_rfl) Try.func18 (directKeeps_joined rfl)
    (of_decide_eq_true (by kernel_rfl)) (by unfold Func.isWrapper; first | (rw [if_pos (by decide +kernel)]; kernel_rfl) | (rw [if_neg (by decide +kernel)]; exact ⟨rfl, rfl⟩))
    (fun os started H enc _ => directKeeps_lifted os started H enc)
end Go.Proofs.Ytoccmfelheinhaa
