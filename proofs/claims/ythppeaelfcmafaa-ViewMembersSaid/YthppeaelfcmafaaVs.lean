/- What a view is, in plain words: validity. Own work. -/
import Derived.Test.YthppeaelfcmafaaMb
namespace Go.Proofs.Ythppeaelfcmafaa
set_option linter.unusedVariables false
/-- The members' nodes are below nodes and ascend. -/
def AscM (nodes : Int) (ms : List Mb) (k : Nat) : Prop := 0 ≤ (Mb.at ms k).n ∧ (Mb.at ms k).n < nodes ∧ (0 < k → (Mb.at ms (k - 1)).n < (Mb.at ms k).n)
instance (nodes : Int) (ms : List Mb) (k : Nat) : Decidable (AscM nodes ms k) := by unfold AscM; infer_instance
def BootM (ms : List Mb) (k : Nat) : Prop := 1 ≤ (Mb.at ms k).b ∧ (Mb.at ms k).b ≤ 31
instance (ms : List Mb) (k : Nat) : Decidable (BootM ms k) := by unfold BootM; infer_instance
/-- Why a view is not one of so many nodes (0: it is one). -/
def validV (num : Int) (ms : List Mb) (nodes : Int) : Int :=
  if ¬ (1 ≤ nodes ∧ nodes ≤ 5) then 1 else if ¬ (0 ≤ num ∧ num < 16) then 2 else if ms.length = 0 then 1 else if ¬ ∀ k, k < ms.length → AscM nodes ms k then 1 else if ¬ ∀ k, k < ms.length → BootM ms k then 2
  else if ¬ ms.any Mb.f then 13 else 0
theorem validV_nodes {num nodes : Int} {ms : List Mb} (h : ¬ (1 ≤ nodes ∧ nodes ≤ 5)) : validV num ms nodes = 1 := by unfold validV; rw [if_pos h]
theorem validV_num {num nodes : Int} {ms : List Mb} (h : 1 ≤ nodes ∧ nodes ≤ 5) (h2 : ¬ (0 ≤ num ∧ num < 16)) : validV num ms nodes = 2 := by unfold validV; rw [if_neg (not_not_intro h), if_pos h2]
theorem validV_nil {num nodes : Int} {ms : List Mb} (h : 1 ≤ nodes ∧ nodes ≤ 5) (h2 : 0 ≤ num ∧ num < 16) (h3 : ms.length = 0) : validV num ms nodes = 1 := by unfold validV; rw [if_neg (not_not_intro h), if_neg (not_not_intro h2), if_pos h3]
theorem validV_asc {num nodes : Int} {ms : List Mb} (h : 1 ≤ nodes ∧ nodes ≤ 5) (h2 : 0 ≤ num ∧ num < 16) (h3 : ms.length ≠ 0) (h4 : ¬ ∀ k, k < ms.length → AscM nodes ms k) : validV num ms nodes = 1 := by
  unfold validV; rw [if_neg (not_not_intro h), if_neg (not_not_intro h2), if_neg h3, if_pos h4]
theorem validV_boot {num nodes : Int} {ms : List Mb} (h : 1 ≤ nodes ∧ nodes ≤ 5) (h2 : 0 ≤ num ∧ num < 16) (h3 : ms.length ≠ 0) (h4 : ∀ k, k < ms.length → AscM nodes ms k) (h5 : ¬ ∀ k, k < ms.length → BootM ms k) : validV num ms nodes = 2 := by
  unfold validV; rw [if_neg (not_not_intro h), if_neg (not_not_intro h2), if_neg h3, if_neg (not_not_intro h4), if_pos h5]
theorem validV_full {num nodes : Int} {ms : List Mb} (h : 1 ≤ nodes ∧ nodes ≤ 5) (h2 : 0 ≤ num ∧ num < 16) (h3 : ms.length ≠ 0) (h4 : ∀ k, k < ms.length → AscM nodes ms k) (h5 : ∀ k, k < ms.length → BootM ms k) (h6 : ms.any Mb.f = false) : validV num ms nodes = 13 := by
  unfold validV; rw [if_neg (not_not_intro h), if_neg (not_not_intro h2), if_neg h3, if_neg (not_not_intro h4), if_neg (not_not_intro h5), if_pos (by simp [h6])]
theorem validV_ok {num nodes : Int} {ms : List Mb} (h : 1 ≤ nodes ∧ nodes ≤ 5) (h2 : 0 ≤ num ∧ num < 16) (h3 : ms.length ≠ 0) (h4 : ∀ k, k < ms.length → AscM nodes ms k) (h5 : ∀ k, k < ms.length → BootM ms k) (h6 : ms.any Mb.f = true) : validV num ms nodes = 0 := by
  unfold validV; rw [if_neg (not_not_intro h), if_neg (not_not_intro h2), if_neg h3, if_neg (not_not_intro h4), if_neg (not_not_intro h5), if_neg (by simp [h6])]
theorem any_take_false {ms : List Mb} {k : Nat} (h : ∀ j, j < k → (Mb.at ms j).f = false) (hk : k = ms.length) : ms.any Mb.f = false := by
  rw [List.any_eq_false]
  intro x hx
  obtain ⟨i, hi, rfl⟩ := List.mem_iff_getElem.1 hx
  rw [Mb.at_eq _ _ hi, h i (by omega)]
  simp
theorem any_true {ms : List Mb} {k : Nat} (hk : k < ms.length) (h : (Mb.at ms k).f = true) : ms.any Mb.f = true := by
  rw [List.any_eq_true]
  exact ⟨ms[k], List.getElem_mem hk, by rw [Mb.at_eq _ _ hk, h]⟩
end Go.Proofs.Ythppeaelfcmafaa
