import Derived.Test.YtoccmfelheinhaaR3P0
import Derived.Test.YtoccmfelheinhaaVs2
import Derived.Test.YtoccmfelheinhaaR3D
import Derived.Test.YtoccmfelheinhaaRows
/- PairFar, as the given row states it: from the contract of the function itself. -/
namespace Go.Proofs.Ytoccmfelheinhaa
open Go.ChangeShapes Go.WideShapes Go.ChangeAt Go.RowKit Go.Vs

theorem Try.own : ownKnob Try.prog.godebug = none := by kernel_rfl
theorem Try.laidOut : laidOutB Try.prog = true := by kernel_rfl

set_option maxRecDepth 100000 in
theorem pairFar_lifted (os : Os) (started : os.Started) (H : Type) (enc : TypeId × Value → H) :
    ReturnsInHanded {} Try.checked os 12 .any (Rows.pairFarSpec.pre6 enc Try.prog Try.f12 Rows.pairFarRow.domain false) (Rows.pairFarSpec.post enc Try.prog Try.f12 false true false false) := by
  refine returnsInHanded_of_change (C := Try.checked) Try.own started (by kernel_rfl) Try.func12
    (ChangeSpec.witness6 (enc := enc) (C := Try.checked) false ⟨#[], #[.int .u8 0, .int .u8 0, .int .u8 0], []⟩ 8 (by kernel_rfl) (by kernel_rfl) (by kernel_rfl) (by kernel_rfl)) ?_
  intro W base args ds gs before hval0 hW _ _
  have hval : ∀ (j : Nat) t v, Try.f12.params[j]? = some t → args[j]? = some v → Value.okWide Try.prog W .any base t v := hval0
  have hW' := hW
  obtain ⟨p, q, hA0, hV, rfl, _, _⟩ := hW
  have hA : DataW.TrodAll enc Try.prog W 0 (fun _ => true) true Try.f12.params.toList args.toList ds p := hA0
  rw [Try.params12] at hA hval
  obtain ⟨v0, v1, v2, d0, d1, d2, p0, p1, p2, rfl, rfl, rfl, h0, h1, h2⟩ := trodAll_three hA
  obtain ⟨rfl, rfl⟩ := trodVars_none hV
  clear hA0 hval0
  simp only [List.append_nil] at hW'
  have hlt : ∀ x ∈ p0 ++ (p1 ++ p2), x.block < W.heap.size := fun x hx => hW'.lt x (by simpa using hx)
  obtain ⟨x0, k0, o0⟩ := (Opened.nil (W := W)).int Try.underlying5 (hval 0 5 v0 rfl rfl) h0
  obtain ⟨x1, k1, o1⟩ := o0.int Try.underlying5 (hval 1 5 v1 rfl rfl) h1
  obtain ⟨x2, k2, o2⟩ := o1.int Try.underlying5 (hval 2 5 v2 rfl rfl) h2
  refine (law_calls RF.c_PairFar o2 (RF.lawPF_of k0 k1 k2) rfl).mono fun e W1 ⟨he, hbe⟩ => ?_
  subst he
  refine ⟨_, rfl, _, _, _, [], _, [], hW', ?_, trodAll_mk3 (Below.trod Try.laidOut (by kernel_rfl) (of_decide_eq_true (by kernel_rfl)) h0 hbe (fun x hx => hlt x (by simp [hx]))) (Below.trod Try.laidOut (by kernel_rfl) (of_decide_eq_true (by kernel_rfl)) h1 hbe (fun x hx => hlt x (by simp [hx]))) (Below.trod Try.laidOut (by kernel_rfl) (of_decide_eq_true (by kernel_rfl)) h2 hbe (fun x hx => hlt x (by simp [hx]))), rfl, hbe.frame _, fun h => by cases h⟩
  exact trodAll_mk1 (shut_bool Try.underlying4 _)

theorem pairFar_joined {P : Program} (h : P = Try.prog) : joinedFacts P 12 Try.f12 Rows.pairFarSpec Rows.pairFarRow = true := by
  have h1 : P.mayEnter = true := by rw [h]; exact Try.may_enter
  have h2 : P.liftsFinal = false := by rw [h]; exact Try.lifts_final
  have h3 : P.make = some .cut := by rw [h]; exact Try.made
  unfold joinedFacts
  rewrite [h1, h2, h3]
  subst h
  show (_ : Bool) = true
  kernel_rfl

theorem pairFar_holds : Rows.PairFarSaid :=
  OpenClaim.holds_of_wide 12 Try.f12 rfl rfl rfl rfl rfl rfl rfl ⟨rfl, rfl, rfl, rfl, rfl⟩ rfl rfl rfl rfl rfl (by kernel_rfl) Try.func12 (pairFar_joined rfl)
    (of_decide_eq_true (by kernel_rfl)) (by unfold Func.isWrapper; first | (rw [if_pos (by decide +kernel)]; kernel_rfl) | (rw [if_neg (by decide +kernel)]; exact ⟨rfl, rfl⟩))
    (fun os started H enc _ => pairFar_lifted os started H enc)
end Go.Proofs.Ytoccmfelheinhaa
