/- TreeFew, as the given row states it: from the contract of the function itself. -/
import Derived.Test.YtbgleobdhjghlaaVsR
import Derived.Test.YtbgleobdhjghlaaR1F17
import Derived.Test.YtbgleobdhjghlaaRows
namespace Go.Proofs.Ytbgleobdhjghlaa
open Go.ChangeShapes Go.WideShapes Go.ChangeAt Go.RowKit Go.Vs

theorem Try.own : ownKnob Try.prog.godebug = none := by kernel_rfl
theorem Try.laidOut : laidOutB Try.prog = true := by kernel_rfl
theorem kinds30 : ckinds Try.prog 8 30 = some [.u64] := by kernel_rfl
theorem cells30 : Try.prog.cellsOf 30 = 1 := by kernel_rfl

set_option maxRecDepth 100000 in
theorem treeFew_lifted (os : Os) (started : os.Started) (H : Type) (enc : TypeId × Value → H) :
    ReturnsInHanded {} Try.checked os 9 .any (Rows.treeFewSpec.pre6 enc Try.prog Try.f9 Rows.treeFewRow.domain false) (Rows.treeFewSpec.post enc Try.prog Try.f9 false true false false) := by
  refine returnsInHanded_of_change (C := Try.checked) Try.own started (by kernel_rfl) Try.func9
    (ChangeSpec.witness6 (enc := enc) (C := Try.checked) false ⟨#[], #[.int .u8 0, .slice none 0 0, .int .u64 0], []⟩ 8 (by kernel_rfl) (by kernel_rfl) (by kernel_rfl) (by kernel_rfl)) ?_
  intro W base args ds gs before hval0 hW _ _
  have hval : ∀ (j : Nat) t v, Try.f9.params[j]? = some t → args[j]? = some v → Value.okWide Try.prog W .any base t v := hval0
  have hW' := hW
  obtain ⟨p, q, hA0, hV, rfl, _, _⟩ := hW
  have hA : DataW.TrodAll enc Try.prog W 0 (fun _ => true) true Try.f9.params.toList args.toList ds p := hA0
  rw [Try.params9] at hA hval
  obtain ⟨v0, v1, v2, d0, d1, d2, p0, p1, p2, rfl, rfl, rfl, h0, h1, h2⟩ := trodAll_three hA
  obtain ⟨rfl, rfl⟩ := trodVars_none hV
  clear hA0 hval0
  simp only [List.append_nil] at hW'
  have hlt : ∀ x ∈ p0 ++ (p1 ++ p2), x.block < W.heap.size := fun x hx => hW'.lt x (by simpa using hx)
  obtain ⟨x0, k0, o0⟩ := (Opened.nil (W := W)).int Try.underlying5 (hval 0 5 v0 rfl rfl) h0
  obtain ⟨x1, l1, k1, m1, o1⟩ := o0.slice Try.underlying42 kinds30 (by decide) cells30 (hval 1 42 v1 rfl rfl) h1
  obtain ⟨x2, k2, o2⟩ := o1.int Try.underlying30 (hval 2 30 v2 rfl rfl) h2
  refine (law_calls R1.c9 o2 ⟨x0, x1, x2, rfl, rfl, k0.1, k0.2, k2.1, k2.2⟩ rfl).mono fun e W1 ⟨he, hbe⟩ => ?_
  subst he
  refine ⟨_, rfl, _, _, _, [], _, [], hW', ?_, trodAll_mk3 (Below.trod Try.laidOut (by kernel_rfl) (of_decide_eq_true (by kernel_rfl)) h0 hbe (fun x hx => hlt x (by simp [hx]))) (Below.trod Try.laidOut (by kernel_rfl) (of_decide_eq_true (by kernel_rfl)) h1 hbe (fun x hx => hlt x (by simp [hx]))) (Below.trod Try.laidOut (by kernel_rfl) (of_decide_eq_true (by kernel_rfl)) h2 hbe (fun x hx => hlt x (by simp [hx]))), rfl, hbe.frame _, fun h => by cases h⟩
  exact trodAll_mk1 (shut_bool Try.underlying4 _)

theorem treeFew_holds : Rows.TreeFewSaid :=
  OpenClaim.holds_of_wide 9 Try.f9 rfl rfl rfl rfl rfl rfl rfl ⟨rfl, rfl, rfl, rfl, rfl⟩ rfl rfl rfl rfl rfl (by kernel_rfl) Try.func9 (by kernel_rfl)
    (of_decide_eq_true (by kernel_rfl)) (by unfold Func.isWrapper; first | (rw [if_pos (by decide +kernel)]; kernel_rfl) | (rw [if_neg (by decide +kernel)]; exact ⟨rfl, rfl⟩))
    (fun os started H enc _ => treeFew_lifted os started H enc)
end Go.Proofs.Ytbgleobdhjghlaa
