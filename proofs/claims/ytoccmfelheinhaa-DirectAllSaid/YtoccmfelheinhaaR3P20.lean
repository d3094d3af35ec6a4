import Derived.Test.YtoccmfelheinhaaR3P0
import Derived.Test.YtoccmfelheinhaaVs2
import Derived.Test.YtoccmfelheinhaaR3W
import Derived.Test.YtoccmfelheinhaaRows
/- DirectAll, as the given row states it: from the contract of the function itself. -/
namespace Go.Proofs.Ytoccmfelheinhaa
open Go.ChangeShapes Go.WideShapes Go.ChangeAt Go.RowKit Go.Vs

theorem Try.own : ownKnob Try.prog.godebug = none := by kernel_rfl
theorem Try.laidOut : laidOutB Try.prog = true := by kernel_rfl
theorem kinds3 : ckinds Try.prog 8 3 = some [.i64] := by kernel_rfl
theorem cells3 : Try.prog.cellsOf 3 = 1 := by kernel_rfl
theorem kinds28 : ckinds Try.prog 8 28 = some [.i64, .u64] := by kernel_rfl
theorem cells28 : Try.prog.cellsOf 28 = 2 := by kernel_rfl
theorem kinds30 : ckinds Try.prog 8 30 = some [.i64, .u64, .i64, .u64] := by kernel_rfl
theorem cells30 : Try.prog.cellsOf 30 = 4 := by kernel_rfl
theorem kinds32 : ckinds Try.prog 8 32 = some [.i64, .u64, .i64, .u64, .i64, .u64, .i64, .u64, .i64, .u64, .i64, .u64, .i64, .u64, .i64, .u64, .i64, .u64, .i64, .i64] := by kernel_rfl
theorem cells32 : Try.prog.cellsOf 32 = 20 := by kernel_rfl
theorem one23 : Try.prog.cellsOf 23 = 1 := by kernel_rfl
theorem under23 : Try.prog.underlying 23 = some (.slice 32) := by kernel_rfl
theorem kinds115 : ckinds Try.prog 8 115 = some [.i64, .i64, .i64, .u64, .i64, .u64] := by kernel_rfl
theorem cells115 : Try.prog.cellsOf 115 = 6 := by kernel_rfl
theorem one81 : Try.prog.cellsOf 81 = 1 := by kernel_rfl
theorem under81 : Try.prog.underlying 81 = some (.slice 115) := by kernel_rfl
theorem kinds167 : ckinds Try.prog 8 167 = some [.i64, .i64, .u64, .i64, .u64, .i64, .i64, .i64, .i64, .u64] := by kernel_rfl
theorem cells167 : Try.prog.cellsOf 167 = 10 := by kernel_rfl
theorem one82 : Try.prog.cellsOf 82 = 1 := by kernel_rfl
theorem under82 : Try.prog.underlying 82 = some (.slice 167) := by kernel_rfl
theorem one83 : Try.prog.cellsOf 83 = 1 := by kernel_rfl
theorem under83 : Try.prog.underlying 83 = some (.slice 3) := by kernel_rfl
theorem kinds169 : ckinds Try.prog 8 169 = some [.i64, .i64, .i64, .i64] := by kernel_rfl
theorem cells169 : Try.prog.cellsOf 169 = 4 := by kernel_rfl
theorem one84 : Try.prog.cellsOf 84 = 1 := by kernel_rfl
theorem under84 : Try.prog.underlying 84 = some (.slice 169) := by kernel_rfl
theorem size86 : Try.prog.cellsOf 86 = sizeF RF.worldFD := by kernel_rfl
theorem fields86 : ∀ d ∈ RF.worldFD, d.ok Try.prog := by
  unfold RF.worldFD
  simp only [List.forall_mem_cons]
  exact ⟨⟨kinds3, cells3⟩, ⟨kinds28, cells28⟩, ⟨kinds28, cells28⟩, ⟨kinds28, cells28⟩, ⟨kinds28, cells28⟩, ⟨kinds28, cells28⟩, ⟨kinds3, cells3⟩, ⟨kinds3, cells3⟩, ⟨under23, kinds32, by decide, cells32, one23⟩, ⟨under81, kinds115, by decide, cells115, one81⟩, ⟨under82, kinds167, by decide, cells167, one82⟩, ⟨under83, kinds3, by decide, cells3, one83⟩, ⟨kinds28, cells28⟩, ⟨kinds30, cells30⟩, ⟨under84, kinds169, by decide, cells169, one84⟩, fun d h => by cases h⟩

set_option maxRecDepth 100000 in
theorem directAll_lifted (os : Os) (started : os.Started) (H : Type) (enc : TypeId × Value → H) :
    ReturnsInHanded {} Try.checked os 16 .any (Rows.directAllSpec.pre6 enc Try.prog Try.f16 Rows.directAllRow.domain false) (Rows.directAllSpec.post enc Try.prog Try.f16 false true false false) := by
  refine returnsInHanded_of_change (C := Try.checked) Try.own started (by kernel_rfl) Try.func16
    (ChangeSpec.witness6 (enc := enc) (C := Try.checked) false ⟨#[], #[.agg #[.int .i64 0, .int .i64 0, .int .u64 0, .int .i64 0, .int .u64 0, .int .i64 0, .int .u64 0, .int .i64 0, .int .u64 0, .int .i64 0, .int .u64 0, .int .i64 0, .int .i64 0, .slice none 0 0, .slice none 0 0, .slice none 0 0, .slice none 0 0, .int .i64 0, .int .u64 0, .int .i64 0, .int .u64 0, .int .i64 0, .int .u64 0, .slice none 0 0], .agg #[.int .i64 0, .int .u64 0]], []⟩ 8 (by kernel_rfl) (by kernel_rfl) (by kernel_rfl) (by kernel_rfl)) ?_
  intro W base args ds gs before hval0 hW _ _
  have hval : ∀ (j : Nat) t v, Try.f16.params[j]? = some t → args[j]? = some v → Value.okWide Try.prog W .any base t v := hval0
  have hW' := hW
  obtain ⟨p, q, hA0, hV, rfl, _, _⟩ := hW
  have hA : DataW.TrodAll enc Try.prog W 0 (fun _ => true) true Try.f16.params.toList args.toList ds p := hA0
  rw [Try.params16] at hA hval
  obtain ⟨v0, v1, d0, d1, p0, p1, rfl, rfl, rfl, h0, h1⟩ := trodAll_two hA
  obtain ⟨rfl, rfl⟩ := trodVars_none hV
  clear hA0 hval0
  simp only [List.append_nil] at hW'
  have hlt : ∀ x ∈ p0 ++ p1, x.block < W.heap.size := fun x hx => hW'.lt x (by simpa using hx)
  obtain ⟨x0, l0, o0⟩ := (Opened.nil (W := W)).record RF.worldFD Try.underlying86 (by repeat (first | exact trivial | refine ⟨rfl, rfl, ?_⟩)) fields86 size86 (hval 0 86 v0 rfl rfl) h0
  obtain ⟨x1, l1, k1, o1⟩ := o0.struct Try.underlying28 kinds28 (hval 1 28 v1 rfl rfl) h1
  refine (law_calls RF.c_DirectAll o1 (RF.lawDAl_of l0 l1 k1) rfl).mono fun e W1 ⟨he, hbe⟩ => ?_
  subst he
  refine ⟨_, rfl, _, _, _, [], _, [], hW', ?_, trodAll_mk2 (Below.trod Try.laidOut (by kernel_rfl) (of_decide_eq_true (by kernel_rfl)) h0 hbe (fun x hx => hlt x (by simp [hx]))) (Below.trod Try.laidOut (by kernel_rfl) (of_decide_eq_true (by kernel_rfl)) h1 hbe (fun x hx => hlt x (by simp [hx]))), rfl, hbe.frame _, fun h => by cases h⟩
  exact trodAll_mk1 (shut_bool Try.underlying4 _)

theorem directAll_joined {P : Program} (h : P = Try.prog) : joinedFacts P 16 Try.f16 Rows.directAllSpec Rows.directAllRow = true := by
  have h1 : P.mayEnter = true := by rw [h]; exact Try.may_enter
  have h2 : P.liftsFinal = false := by rw [h]; exact Try.lifts_final
  have h3 : P.make = some .cut := by rw [h]; exact Try.made
  unfold joinedFacts
  rewrite [h1, h2, h3]
  subst h
  show (_ : Bool) = true
  kernel_rfl

theorem directAll_holds : Rows.DirectAllSaid :=
  OpenClaim.holds_of_wide 16 Try.f16 rfl rfl rfl rfl rfl rfl rfl ⟨rfl, rfl, rfl, rfl, rfl⟩ rfl rfl rfl rfl rfl (by kernel_rfl) Try.func16 (directAll_joined rfl)
    (of_decide_eq_true (by kernel_rfl)) (by unfold Func.isWrapper; first | (rw [if_pos (by decide +kernel)]; kernel_rfl) | (rw [if_neg (by decide +kernel)]; exact ⟨rfl, rfl⟩))
    (fun os started H enc _ => directAll_lifted os started H enc)
end Go.Proofs.Ytoccmfelheinhaa
