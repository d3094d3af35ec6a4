/- WalkMade, as the given row states it: from the contract of the function itself. -/
import Derived.Test.YtemefnjekgjciaaGreatP0
import Derived.Test.YtemefnjekgjciaaGreatW4
import Derived.Test.YtemefnjekgjciaaGreatWC1
import Derived.Test.YtemefnjekgjciaaGreatWC2
import Derived.Test.YtemefnjekgjciaaGreatRows
namespace Go.Proofs.YtemefnjekgjciaaGreat
open Go.ChangeShapes Go.WideShapes Go.ChangeAt Go.RowKit Go.Vs

theorem Tryz.own : ownKnob Tryz.prog.godebug = none := by kernel_rfl
theorem Tryz.laidOut : laidOutB Tryz.prog = true := by kernel_rfl
theorem kinds5 : fY Tryz.prog 8 5 = some [.u8] := by kernel_rfl
theorem cells5 : Tryz.prog.cellsOf 5 = 1 := by kernel_rfl

set_option maxRecDepth 100000 in
theorem walkMade_lifted (os : Os) (started : os.Started) (H : Type) (enc : TypeId × Value → H) :
    ReturnsInHanded {} Tryz.checked os 5 .any (Rows.walkMadeSpec.pre6 enc Tryz.prog Tryz.f5 Rows.walkMadeRow.domain false) (Rows.walkMadeSpec.post enc Tryz.prog Tryz.f5 false true false false) := by
  refine returnsInHanded_of_change (C := Tryz.checked) Tryz.own started (by kernel_rfl) Tryz.func5
    (ChangeSpec.witness6 (enc := enc) (C := Tryz.checked) false ⟨#[], #[.slice none 0 0, .int .u8 0, .int .u64 0, .int .u8 0], []⟩ 8 (by kernel_rfl) (by kernel_rfl) (by kernel_rfl) (by kernel_rfl)) ?_
  intro W base args ds gs before hval0 hW _ _
  have hval : ∀ (j : Nat) t v, Tryz.f5.params[j]? = some t → args[j]? = some v → Value.okWide Tryz.prog W .any base t v := hval0
  have hW' := hW
  obtain ⟨p, q, hA0, hV, rfl, _, _⟩ := hW
  have hA : DataW.TrodAll enc Tryz.prog W 0 (fun _ => true) true Tryz.f5.params.toList args.toList ds p := hA0
  rw [Tryz.params5] at hA hval
  obtain ⟨v0, v1, v2, v3, d0, d1, d2, d3, p0, p1, p2, p3, rfl, rfl, rfl, h0, h1, h2, h3⟩ := trodAll_four hA
  obtain ⟨rfl, rfl⟩ := trodVars_none hV
  clear hA0 hval0
  simp only [List.append_nil] at hW'
  have hlt : ∀ x ∈ p0 ++ (p1 ++ (p2 ++ p3)), x.block < W.heap.size := fun x hx => hW'.lt x (by simpa using hx)
  obtain ⟨x0, l0, k0, m0, o0⟩ := (jV.nil (W := W)).slice Tryz.underlying22 kinds5 (by decide) cells5 (hval 0 22 v0 rfl rfl) h0
  obtain ⟨x1, k1, o1⟩ := o0.int Tryz.underlying5 (hval 1 5 v1 rfl rfl) h1
  obtain ⟨x2, k2, o2⟩ := o1.int Tryz.underlying23 (hval 2 23 v2 rfl rfl) h2
  obtain ⟨x3, k3, o3⟩ := o2.int Tryz.underlying5 (hval 3 5 v3 rfl rfl) h3
  refine (VM RF.aih o3 (RF.air x0 k1 k2 k3) rfl).mono fun e W1 ⟨he, hbe⟩ => ?_
  subst he
  refine ⟨_, rfl, _, _, _, [], _, [], hW', ?_, trodAll_mk4 (Below.trod Tryz.laidOut (by kernel_rfl) (of_decide_eq_true (by kernel_rfl)) h0 hbe (fun x hx => hlt x (by simp [hx]))) (Below.trod Tryz.laidOut (by kernel_rfl) (of_decide_eq_true (by kernel_rfl)) h1 hbe (fun x hx => hlt x (by simp [hx]))) (Below.trod Tryz.laidOut (by kernel_rfl) (of_decide_eq_true (by kernel_rfl)) h2 hbe (fun x hx => hlt x (by simp [hx]))) (Below.trod Tryz.laidOut (by kernel_rfl) (of_decide_eq_true (by kernel_rfl)) h3 hbe (fun x hx => hlt x (by simp [hx]))), rfl, hbe.frame _, fun h => by cases h⟩
  exact trodAll_mk1 (shut_bool Tryz.underlying4 _)

theorem walkMade_joined {P : Program} (h : P = Tryz.prog) : joinedFacts P 5 Tryz.f5 Rows.walkMadeSpec Rows.walkMadeRow = true := by
  have h1 : P.mayEnter = true := by rw [h]; exact Tryz.may_enter
  have h2 : P.liftsFinal = false := by rw [h]; exact Tryz.lifts_final
  have h3 : P.make = some .cut := by rw [h]; exact Tryz.made
  unfold joinedFacts
  rewrite [h1, h2, h3]
  subst h
  show (_ : Bool) = true
  kernel_rfl

theorem walkMade_holds : Rows.WalkMadeSaid :=
  OpenClaim.holds_of_wide 5 Tryz.f5 rfl rfl rfl rfl rfl rfl rfl ⟨rfl, rfl, rfl, rfl, rfl⟩ rfl rfl rfl rfl rfl (by kernel_rfl) Tryz.func5 (walkMade_joined rfl)
    (of_decide_eq_true (by kernel_rfl)) (by unfold Func.isWrapper; first | (rw [if_pos (by decide +kernel)]; kernel_rfl) | (rw [if_neg (by decide +kernel)]; exact ⟨rfl, rfl⟩))
    (fun os started H enc _ => walkMade_lifted os started H enc)
end Go.Proofs.YtemefnjekgjciaaGreat
