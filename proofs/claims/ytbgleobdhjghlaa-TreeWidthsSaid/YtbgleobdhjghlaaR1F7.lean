import Derived.Test.YtbgleobdhjghlaaR1V5
set_option linter.unusedVariables false
set_option linter.unusedSimpArgs false
/- SortStays -/
namespace Go.Vs.R1
open Go Go.Proofs Go.Vs Go.IntWalk

theorem makeF_len (ns : List (List Int)) : (makeF ns).length = min ns.length 100 := by simp [makeF]
theorem makeF_get {ns : List (List Int)} {i : Nat} (h : i < (makeF ns).length) : (makeF ns)[i] = [mkKey (rd ns i 0), (i : Int)] := by simp [makeF]
theorem makeF_rows2 (ns : List (List Int)) : rows2 (makeF ns) := by
  intro x hx
  obtain ⟨i, hi, rfl⟩ := List.getElem_of_mem hx
  exact ⟨_, _, makeF_get hi⟩
theorem makeF_sorted (ns : List (List Int)) : Sorted (makeF ns) (sortF (makeF ns)) := sortF_sorted (makeF_rows2 ns)

theorem Sorted.perm {xs zs : List (List Int)} (h : Sorted xs zs) : zs.Perm xs := by
  rw [List.perm_iff_count]
  intro a
  have h1 := congrArg (List.count a) (h.same (key a))
  rwa [List.count_filter (by simp), List.count_filter (by simp)] at h1

theorem mk_mem {ns : List (List Int)} {y : List Int} (h : y ∈ sortF (makeF ns)) : ∃ j : Nat, j < (makeF ns).length ∧ y = [mkKey (rd ns j 0), (j : Int)] := by
  have h1 := (makeF_sorted ns).perm.mem_iff.1 h
  obtain ⟨i, hi, rfl⟩ := List.getElem_of_mem h1
  exact ⟨i, hi, makeF_get hi⟩

theorem fact1 {ns : List (List Int)} {i : Nat} (hi : i < (sortF (makeF ns)).length) :
    ∃ p : Nat, p < (makeF ns).length ∧ rd (sortF (makeF ns)) i 1 = p ∧ rd (makeF ns) p 0 = rd (sortF (makeF ns)) i 0 ∧ rd (makeF ns) p 1 = p := by
  obtain ⟨j, hj, e⟩ := mk_mem (List.getElem_mem hi)
  have e1 : rd (sortF (makeF ns)) i 0 = mkKey (rd ns j 0) := by simp [rd, List.getD, hi, e]
  have e2 : rd (sortF (makeF ns)) i 1 = j := by simp [rd, List.getD, hi, e]
  refine ⟨j, hj, e2, ?_, ?_⟩
  · rw [e1]; simp only [rd, List.getD, List.getElem?_eq_getElem hj, makeF_get hj]; rfl
  · simp only [rd, List.getD, List.getElem?_eq_getElem hj, makeF_get hj]; rfl

theorem ids_up (ns : List (List Int)) : (makeF ns).Pairwise fun a b => a.getD 1 0 < b.getD 1 0 := by
  unfold makeF
  rw [List.pairwise_map]
  refine List.pairwise_lt_range.imp ?_
  intro a b h
  simp
  exact h
theorem fact2 {ns : List (List Int)} {i j : Nat} (hij : i < j) (hj : j < (sortF (makeF ns)).length) :
    rd (sortF (makeF ns)) i 0 ≤ rd (sortF (makeF ns)) j 0 ∧ (rd (sortF (makeF ns)) j 0 = rd (sortF (makeF ns)) i 0 → rd (sortF (makeF ns)) i 1 < rd (sortF (makeF ns)) j 1) := by
  have hS := makeF_sorted ns
  refine ⟨hS.up i j hij hj, fun he => ?_⟩
  have hi : i < (sortF (makeF ns)).length := by omega
  have h1 := (ids_up ns).filter (fun x => decide (key x = key (sortF (makeF ns))[i]))
  rw [← hS.same, List.pairwise_filter] at h1
  have h2 := (List.pairwise_iff_getElem.1 h1) i j hi hj hij
  have e : key (sortF (makeF ns))[j] = key (sortF (makeF ns))[i] := by rw [← rd_key hi, ← rd_key hj]; exact he
  have h3 := h2 (by simp) (by simpa using e)
  simpa [rd, List.getD, hi, hj] using h3

theorem count_range (n j : Nat) : (List.range n).countP (fun (i : Nat) => decide ((i : Int) = (j : Int))) = if j < n then 1 else 0 := by
  induction n with
  | zero => rfl
  | succ n ih =>
    rw [List.range_succ, List.countP_append, ih]
    by_cases h : j < n
    · have : ¬ (n : Int) = j := by omega
      simp [h, this]; omega
    · by_cases h2 : n = j
      · subst h2; simp
      · have h3 : ¬ (n : Int) = j := by omega
        have h4 : ¬ j < n + 1 := by omega
        simp [h, h3, h4]
def idIs (j : Nat) (y : List Int) : Bool := decide (y.getD 1 0 = (j : Int))
theorem count_one {ns : List (List Int)} {j : Nat} (hj : j < (makeF ns).length) : (sortF (makeF ns)).countP (idIs j) = 1 := by
  rw [(makeF_sorted ns).perm.countP_eq]
  rw [makeF_len] at hj
  unfold makeF
  rw [List.countP_map]
  have h1 := count_range (min ns.length 100) j
  rw [if_pos hj] at h1
  rw [← h1]
  apply List.countP_congr
  intro x _
  simp [idIs]

/-- how often each is there among the first -/
def tal (ys : List (List Int)) (n i : Nat) : List (List Int) := (List.range n).map fun (j : Nat) => [(((ys.take i).countP (idIs j) : Nat) : Int)]
theorem tal_zero (ys : List (List Int)) (n : Nat) : tal ys n 0 = List.replicate n [0] := by
  apply List.ext_getElem
  · simp [tal]
  · intro i h1 h2; simp [tal]
theorem tal_all (ns : List (List Int)) : tal (sortF (makeF ns)) (makeF ns).length (makeF ns).length = ones (makeF ns).length := by
  have hl := (makeF_sorted ns).len
  apply List.ext_getElem
  · simp [tal, ones]
  · intro i h1 h2
    have hi : i < (makeF ns).length := by simpa [tal] using h1
    simp only [tal, ones, List.getElem_map, List.getElem_range, List.getElem_replicate]
    rw [List.take_of_length_le (by omega), count_one hi]
    rfl
theorem tal_le (ys : List (List Int)) (i j : Nat) : (ys.take i).countP (idIs j) ≤ i := by
  have := List.countP_le_length (p := idIs j) (l := ys.take i)
  rw [List.length_take] at this
  omega
theorem tal_step {ys : List (List Int)} {n i p : Nat} (hi : i < ys.length) (hp : p < n) (he : rd ys i 1 = p) :
    (tal ys n i).modify p (fun _ => [rd (tal ys n i) p 0 + 1]) = tal ys n (i + 1) := by
  rw [modify_const]
  apply List.ext_getElem
  · simp [tal]
  · intro j h1 h2
    have hj : j < n := by simpa [tal] using h2
    have hid : idIs j ys[i] = decide (p = j) := by
      have : ys[i].getD 1 0 = (p : Int) := by rw [← he]; simp [rd, List.getD, hi]
      unfold idIs
      rw [this, Bool.eq_iff_iff, decide_eq_true_iff, decide_eq_true_iff]
      omega
    have hr : rd (tal ys n i) p 0 = ((ys.take i).countP (idIs p) : Nat) := by simp [rd, tal, List.getD, hp]
    have ht : ys.take (i + 1) = ys.take i ++ [ys[i]] := by simp
    have hc : (ys.take (i + 1)).countP (idIs j) = (ys.take i).countP (idIs j) + (if p = j then 1 else 0) := by
      rw [ht, List.countP_append, List.countP_singleton, hid]
      by_cases h : p = j <;> simp [h]
    rw [List.getElem_set]
    simp only [tal, List.getElem_map, List.getElem_range]
    rw [hc]
    by_cases h : p = j
    · subst h
      simp only [if_true]
      have : (List.map (fun (j : Nat) => [(((ys.take i).countP (idIs j) : Nat) : Int)]) (List.range n)) = tal ys n i := rfl
      rw [this, hr]
      simp
    · simp [h]

theorem loop4a (N : Know) (n0 : Nat) : LoopOk (envOf Try.prog N 0) 4 n0 0 (lp Try.prog 4 0) L4a := by
  rintro st K ⟨⟨rfl, hst⟩, hK⟩
  generalize st.x 0 = ns at *
  subst hst
  have hlen := (makeF_sorted ns).len
  have h100 : (makeF ns).length ≤ 100 := by rw [makeF_len]; omega
  rw [← tal_zero (sortF (makeF ns))]
  refine loop_of (fun a : Int => S4a ns (makeF ns) (sortF (makeF ns)) (tal (sortF (makeF ns)) (makeF ns).length a.toNat) a) (fun a => 0 ≤ a ∧ a ≤ (makeF ns).length) (fun a => (100 - a).toNat) ?_ (a := 0) ⟨by simp, by simp⟩
  rintro i ⟨a1, a2⟩ k hn hk
  show round _ _ _ _ _ (S4a _ _ _ _ i) k
  rw [r4a, br_dec]
  constructor
  · intro hi
    have hin : i.toNat < (sortF (makeF ns)).length := by omega
    obtain ⟨p, hp, e1, e2, e3⟩ := fact1 hin
    have hw : (0 : Int) ≤ i ∧ i < (sortF (makeF ns)).length := ⟨a1, hi⟩
    rw [br_dec, br_dec, br_bool, br_dec]
    have hcl : (tal (sortF (makeF ns)) (makeF ns).length i.toNat).length = (makeF ns).length := by simp [tal]
    have hpc : (0 : Int) ≤ rd (sortF (makeF ns)) i.toNat 1 ∧ rd (sortF (makeF ns)) i.toNat 1 < (tal (sortF (makeF ns)) (makeF ns).length i.toNat).length := by rw [hcl]; omega
    have hpx : (0 : Int) ≤ rd (sortF (makeF ns)) i.toNat 1 ∧ rd (sortF (makeF ns)) i.toNat 1 < (makeF ns).length := by omega
    have hgo : ∀ (c : List (List Int)), c = (tal (sortF (makeF ns)) (makeF ns).length i.toNat).modify (rd (sortF (makeF ns)) i.toNat 1).toNat (fun _ => [IntKind.i64.wrap (rd (tal (sortF (makeF ns)) (makeF ns).length i.toNat) (rd (sortF (makeF ns)) i.toNat 1).toNat 0 + 1)]) →
        k Out.normal (S4a ns (makeF ns) (sortF (makeF ns)) c (IntKind.i64.wrap (i + 1))) := by
      intro c hc
      have hpn : (rd (sortF (makeF ns)) i.toNat 1).toNat = p := by omega
      have hle := tal_le (sortF (makeF ns)) i.toNat p
      have hr : rd (tal (sortF (makeF ns)) (makeF ns).length i.toNat) p 0 = (((sortF (makeF ns)).take i.toNat).countP (idIs p) : Nat) := by simp [rd, tal, List.getD, hp]
      rw [hpn, i64_in (_ + 1) (by rw [hr]; omega), tal_step hin hp e1] at hc
      rw [hc, i64_in (i + 1) (by omega)]
      have := hn (i + 1) ⟨by omega, by omega⟩ (by omega)
      rw [show (i + 1).toNat = i.toNat + 1 by omega] at this
      exact this
    refine ⟨hw, hw, fun h => absurd h (by omega), fun _ => ⟨hw, hw, fun h => absurd h (by omega), fun _ => ⟨hw, hw, hw, hw, hpx, hpx, fun h => ?_, fun _ => ⟨fun hi0 => ?_, fun _ => ⟨hw, hw, hpc, hpc, hpc, hpc, hgo _ rfl⟩⟩⟩⟩⟩
    · exfalso
      rw [e1] at h
      simp [eqCells, e2, e3] at h
    · have hw1 : IntKind.i64.wrap (i - 1) = i - 1 := i64_in (i - 1) (by omega)
      rw [hw1]
      have hw2 : (0 : Int) ≤ i - 1 ∧ i - 1 < (sortF (makeF ns)).length := by omega
      obtain ⟨f1, f2⟩ := fact2 (ns := ns) (i := (i - 1).toNat) (j := i.toNat) (by omega) hin
      rw [br_dec, br_bool, br_dec]
      refine ⟨hw, hw, hw2, hw2, fun h => absurd h (by omega), fun _ => ⟨hw, hw, hw2, hw2, fun he => ⟨hw, hw, hw2, hw2, fun h => ?_, fun _ => ⟨hw, hw, hpc, hpc, hpc, hpc, hgo _ rfl⟩⟩, fun _ => ⟨hw, hw, hpc, hpc, hpc, hpc, hgo _ rfl⟩⟩⟩
      exfalso
      have := f2 (by simpa using he)
      omega
  · intro hi
    have e : i.toNat = (makeF ns).length := by omega
    rw [e, tal_all]
    exact hk _ _ (by simp) hK

theorem loop4b (N : Know) (n0 : Nat) : LoopOk (envOf Try.prog N 0) 4 n0 1 (lp Try.prog 4 1) L4b := by
  rintro st K ⟨⟨rfl, hst, hl⟩, hK⟩
  generalize st.x 0 = ns at *
  generalize st.x 1 = ys at *
  generalize st.x 2 = cs at *
  subst hst
  refine loop_of (fun a : Int => S4b ns ys (ones cs.length) a) (fun a => 0 ≤ a ∧ a ≤ cs.length) (fun a => (100 - a).toNat) ?_ (a := 0) ⟨by simp, by simp⟩
  rintro i ⟨a1, a2⟩ k hn hk
  show round _ _ _ _ _ (S4b _ _ _ i) k
  rw [r4b, br_dec]
  have hol : (ones cs.length).length = cs.length := by simp [ones]
  constructor
  · intro hi
    rw [hol] at hi ⊢
    have hw : (0 : Int) ≤ i ∧ i < cs.length := ⟨a1, hi⟩
    have hr : rd (ones cs.length) i.toNat 0 = 1 := by
      have : i.toNat < cs.length := by omega
      simp [rd, ones, List.getD, this]
    rw [hr]
    refine ⟨hw, hw, ?_⟩
    rw [i64_in (i + 1) (by omega)]
    exact hn (i + 1) ⟨by omega, by omega⟩ (by omega)
  · intro hi
    exact hk _ _ (by simp) hK

theorem ctrsm : ∀ {g : FuncId} {sp : Vs.Spec}, Γm g = some sp → Contract Try.prog g sp := by
  intro g sp h
  unfold Γm at h
  split at h
  · rename_i hg; subst hg; cases h; exact c19
  · exact ctrs h

def spBytes : Vs.Spec := ⟨preBytes, fun _ _ => (.bool true, [])⟩
theorem c4 : Contract Try.prog 4 spBytes := by
  refine contract_of 1 ⟨mixedOrders, fun g sp h => ctrsm h, ?_, fun g G h => (by cases h)⟩ (N := N4) ?_
  · intro d' hd f i S n0 hS
    have : d' = 0 := by omega
    subst this
    simp only [N4] at hS
    split at hS
    · rename_i hf
      subst hf
      split at hS
      · rename_i hi
        subst hi
        cases hS
        exact loop4a N4 n0
      · split at hS
        · rename_i hi
          subst hi
          cases hS
          exact loop4b N4 n0
        · cases hS
    · cases hS
  · rintro l bs _ _ ⟨ns, rfl, rfl, hl⟩
    rw [v4]
    have hS := makeF_sorted ns
    have hS2 := sortF_sorted hS.two
    have h100 : (makeF ns).length ≤ 100 := by rw [makeF_len]; omega
    have hself : sortF (sortF (makeF ns)) = sortF (makeF ns) := Sorted.eq ⟨rfl, fun _ => rfl, hS.up, hS.two⟩
    have hp1 : preSort [IV.sl (0 : Nat)] [Blk.ro [IntKind.u64, IntKind.i64] (makeF ns)] := ⟨_, rfl, rfl, makeF_rows2 ns, by omega⟩
    have hp2 : preSort [IV.sl (0 : Nat)] [Blk.ro [IntKind.u64, IntKind.i64] (sortF (makeF ns))] := ⟨_, rfl, rfl, hS.two, by rw [hS.len]; omega⟩
    have hol : (ones (makeF ns).length).length = (makeF ns).length := by simp [ones]
    have hR : Rises (sortF (makeF ns)) := hS.up
    rw [br_bool, bp_true hR, bp_true hself]
    refine ⟨⟨_, rfl, rfl, hl⟩, hp1, fun h => ?_, fun _ => ⟨⟨by omega, by omega⟩, ⟨rfl, rfl⟩, ⟨rfl, by rw [hol], by omega⟩, ⟨_, rfl, rfl, by rw [hS.len]; omega⟩, hp2, ⟨_, _, rfl, rfl, hS2.two, hS.two, by rw [hS.len]; omega⟩, ⟨rfl, rfl⟩, rfl⟩⟩
    rw [hS.len] at h
    simp at h
end Go.Vs.R1
