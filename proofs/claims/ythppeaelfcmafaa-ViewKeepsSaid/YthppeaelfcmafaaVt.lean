/- What a proposed view is: plain law. Own work. -/
import Derived.Test.YthppeaelfcmafaaVo
namespace Go.Proofs.Ythppeaelfcmafaa
set_option linter.unusedVariables false
theorem propM_mem {ms : List Mb} {opened : Bool} {bs : List Int} (k : Nat) : ∀ m ∈ propM ms opened bs k, ∃ j : Nat, j < k ∧ m = ⟨j, bs.getD j 0, propF ms opened j (bs.getD j 0)⟩ ∧ bs.getD j 0 ≠ 0 := by
  intro m hm
  unfold propM at hm
  obtain ⟨j, hj, h2⟩ := List.mem_flatMap.1 hm
  unfold prop1 at h2
  split at h2
  · simp at h2
  · rename_i h3
    exact ⟨j, List.mem_range.1 hj, by simpa using h2, h3⟩
theorem propM_asc {ms : List Mb} {opened : Bool} {bs : List Int} (k : Nat) : (propM ms opened bs k).Pairwise (fun a b => a.n < b.n) := by
  induction k with
  | zero => simp [propM]
  | succ k ih =>
    rw [propM_succ, List.pairwise_append]
    refine ⟨ih, ?_, fun a ha b hb => ?_⟩
    · unfold prop1; split <;> simp
    · obtain ⟨j, hj, rfl, _⟩ := propM_mem k a ha
      unfold prop1 at hb
      split at hb
      · simp at hb
      · rw [List.mem_singleton.1 hb]
        dsimp only
        omega
theorem propM_at {ms : List Mb} {opened : Bool} {bs : List Int} {k i : Nat} (hi : i < (propM ms opened bs k).length) : ∃ j : Nat, j < k ∧ Mb.at (propM ms opened bs k) i = ⟨j, bs.getD j 0, propF ms opened j (bs.getD j 0)⟩ ∧ bs.getD j 0 ≠ 0 :=
  propM_mem k _ (by rw [← Mb.at_eq _ _ hi]; exact List.getElem_mem hi)
theorem propV_code {num : Int} {ms : List Mb} {opened : Bool} {bs : List Int} (h : (propV num ms opened bs).2.2 ≠ 0) : (propV num ms opened bs).1 = 0 ∧ (propV num ms opened bs).2.1 = [] := by
  unfold propV at h ⊢
  split
  · exact ⟨rfl, rfl⟩
  split
  · exact ⟨rfl, rfl⟩
  split
  · exact ⟨rfl, rfl⟩
  split
  · exact ⟨rfl, rfl⟩
  split
  · exact ⟨rfl, rfl⟩
  · rename_i h1 h2 h3 h4 h5
    rw [if_neg h1, if_neg h2, if_neg h3, if_neg h4, if_neg h5] at h
    exact absurd rfl h
theorem propV_zero {num : Int} {ms : List Mb} {opened : Bool} {bs : List Int} (h : (propV num ms opened bs).2.2 = 0) :
    (propV num ms opened bs).1 = num + 1 ∧ (propV num ms opened bs).2.1 = propM ms opened bs bs.length ∧ validV (num + 1) (propM ms opened bs bs.length) bs.length = 0 ∧ bs.length < 2 * (propM ms opened bs bs.length).length ∧ 0 ≤ num ∧ num < 15 ∧ bs.length ≤ 5 := by
  by_cases h1 : validV num ms bs.length = 0
  case neg => rw [propV_bad h1] at h; exact absurd h h1
  by_cases h2 : ∀ k, k < bs.length → okB bs k
  case neg => rw [propV_range h1 h2] at h; cases h
  by_cases h3 : 15 ≤ num
  case pos => rw [propV_num h1 h2 h3] at h; cases h
  by_cases h4 : 2 * (propM ms opened bs bs.length).length ≤ bs.length
  case pos => rw [propV_maj h1 h2 h3 h4] at h; cases h
  cases h5 : (propM ms opened bs bs.length).any Mb.f with
  | false => rw [propV_none h1 h2 h3 h4 h5] at h; cases h
  | true =>
    rw [propV_ok h1 h2 h3 h4 h5]
    obtain ⟨v1, v2, _, _, _, _⟩ := validV_zero h1
    refine ⟨rfl, rfl, validV_ok v1 (by omega) (by omega) (fun i hi => ?_) (fun i hi => ?_) h5, by omega, by omega, by omega, by omega⟩
    · obtain ⟨j, hj, e, _⟩ := propM_at hi
      unfold AscM
      rw [e]
      refine ⟨by dsimp only; omega, by dsimp only; omega, fun h0 => ?_⟩
      have hp := List.pairwise_iff_getElem.1 (propM_asc (ms := ms) (opened := opened) (bs := bs) bs.length) (i - 1) i (by omega) hi (by omega)
      rw [Mb.at_eq _ _ hi, Mb.at_eq _ _ (by omega : i - 1 < _), e] at hp
      exact hp
    · obtain ⟨j, hj, e, hne⟩ := propM_at hi
      have := h2 j hj
      unfold okB at this
      unfold BootM
      rw [e]
      dsimp only
      omega
end Go.Proofs.Ythppeaelfcmafaa
