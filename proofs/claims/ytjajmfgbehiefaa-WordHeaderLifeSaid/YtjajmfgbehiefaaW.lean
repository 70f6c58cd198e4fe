/- The contracts of package word and of its reference. Own work. -/
import Derived.Test.YtjajmfgbehiefaaBv
namespace Go.Proofs.Ytjajmfgbehiefaa
open Go.RowKit

def mskB (n : Int) : BitVec 64 := (1#64 <<< n.toNat) - 1#64
def isFld (a n : Int) : Bool := decide (1 ≤ n) && decide (n ≤ 64) && decide (0 ≤ a) && decide (a ≤ 64 - n)
def fieldS (x : BitVec 64) (a n : Int) : BitVec 64 × Int := if isFld a n then (x >>> a.toNat &&& mskB n, 0) else (0#64, 1)
def setS (x : BitVec 64) (a n : Int) (v : BitVec 64) : BitVec 64 × Int :=
  if isFld a n then (if mskB n < v then (0#64, 2) else (x &&& ~~~(mskB n <<< a.toNat) ||| v <<< a.toNat, 0)) else (0#64, 1)

set_option maxHeartbeats 400000 in
theorem mask_any (n : Int) (w : World) (h0 : 0 ≤ n) (h1 : n ≤ 64) :
    Calls Try.prog 57 #[.int .i64 n] w fun e w' => e = .returned (.int .u64 (UV (mskB n))) ∧ w = w' := by
  go_enter Try.func57, Try.ntmps57
  go_wp2
  go_ret
  exact ⟨rfl, rfl⟩
theorem ones_any (n : Int) (w : World) (h0 : 0 ≤ n) (h1 : n ≤ 64) :
    Calls Try.prog 58 #[.int .i64 n] w fun e w' => e = .returned (.int .u64 (UV (mskB n))) ∧ w = w' := by
  by_cases h : n = 64
  · subst h
    go_enter Try.func58, Try.ntmps58
    go_wp2
    go_ret
    exact ⟨rfl, rfl⟩
  · go_enter Try.func58, Try.ntmps58
    go_wp2
    go_ret
    exact ⟨rfl, rfl⟩
theorem isField_any (a n : Int) (w : World) :
    Calls Try.prog 56 #[.int .i64 a, .int .i64 n] w fun e w' => e = .returned (.bool (isFld a n)) ∧ w = w' := by
  unfold isFld
  by_cases h1 : 1 ≤ n <;> by_cases h2 : n ≤ 64 <;> by_cases h3 : 0 ≤ a <;> by_cases h4 : a ≤ 64 - n <;> simp only [h1, h2, h3, h4, decide_true, decide_false, Bool.and_true, Bool.and_false] <;>
  · go_enter Try.func56, Try.ntmps56
    go_wp2
    go_ret
    exact ⟨rfl, rfl⟩
theorem Field_any (x : BitVec 64) (a n : Int) (w : World) :
    Calls Try.prog 35 #[.int .u64 (UV x), .int .i64 a, .int .i64 n] w fun e w' => e = .returned (.tuple #[.int .u64 (UV (fieldS x a n).1), .int .i64 (fieldS x a n).2]) ∧ w = w' := by
  unfold fieldS
  by_cases h : isFld a n = true
  · rw [if_pos h]
    have h' := h
    unfold isFld at h'
    simp only [Bool.and_eq_true, decide_eq_true_eq] at h'
    obtain ⟨⟨⟨h1, h2⟩, h3⟩, h4⟩ := h'
    have h5 : a ≤ 64 := by omega
    have h6 : 0 ≤ n := by omega
    go_enter Try.func35, Try.ntmps35
    go_wp2_with (first
      | (go_at_call 56; refine (isField_any a n _).mono ?_; rintro e w' ⟨rfl, rfl⟩)
      | (go_at_call 57; refine (mask_any n _ h6 h2).mono ?_; rintro e w' ⟨rfl, rfl⟩))
    go_ret2
    exact ⟨rfl, rfl⟩
  · rw [if_neg h]
    have h' : isFld a n = false := by simpa using h
    go_enter Try.func35, Try.ntmps35
    go_wp2_with (go_at_call 56; refine (isField_any a n _).mono ?_; rintro e w' ⟨rfl, rfl⟩)
    go_ret2
    exact ⟨rfl, rfl⟩
theorem isFld_yes {a n : Int} (h : isFld a n = true) : 1 ≤ n ∧ n ≤ 64 ∧ 0 ≤ a ∧ a ≤ 64 - n ∧ a ≤ 64 ∧ 0 ≤ n := by
  unfold isFld at h
  simp only [Bool.and_eq_true, decide_eq_true_eq] at h
  omega
theorem isFld_no {a n : Int} (h : ¬ isFld a n = true) : n < 1 ∨ (1 ≤ n ∧ 64 < n) ∨ (1 ≤ n ∧ n ≤ 64 ∧ a < 0) ∨ (1 ≤ n ∧ n ≤ 64 ∧ 0 ≤ a ∧ 64 - n < a) := by
  unfold isFld at h
  simp only [Bool.and_eq_true, decide_eq_true_eq] at h
  omega
theorem FieldR_any (x : BitVec 64) (a n : Int) (w : World) :
    Calls Try.prog 36 #[.int .u64 (UV x), .int .i64 a, .int .i64 n] w fun e w' => e = .returned (.tuple #[.int .u64 (UV (fieldS x a n).1), .int .i64 (fieldS x a n).2]) ∧ w = w' := by
  unfold fieldS
  by_cases h : isFld a n = true
  · rw [if_pos h]
    obtain ⟨h1, h2, h3, h4, h5, h6⟩ := isFld_yes h
    clear h
    go_enter Try.func36, Try.ntmps36
    go_wp2_with (go_at_call 58; refine (ones_any n _ h6 h2).mono ?_; rintro e w' ⟨rfl, rfl⟩)
    go_ret2
    exact ⟨rfl, rfl⟩
  · rw [if_neg h]
    rcases isFld_no h with h1 | ⟨h1, h2⟩ | ⟨h1, h2, h3⟩ | ⟨h1, h2, h3, h4⟩ <;> clear h <;>
    · go_enter Try.func36, Try.ntmps36
      go_wp2
      go_ret2
      exact ⟨rfl, rfl⟩
theorem SetField_any (x : BitVec 64) (a n : Int) (v : BitVec 64) (w : World) :
    Calls Try.prog 37 #[.int .u64 (UV x), .int .i64 a, .int .i64 n, .int .u64 (UV v)] w fun e w' => e = .returned (.tuple #[.int .u64 (UV (setS x a n v).1), .int .i64 (setS x a n v).2]) ∧ w = w' := by
  unfold setS
  by_cases h : isFld a n = true
  · rw [if_pos h]
    obtain ⟨h1, h2, h3, h4, h5, h6⟩ := isFld_yes h
    by_cases h7 : mskB n < v
    · rw [if_pos h7]
      go_enter Try.func37, Try.ntmps37
      go_wp2_with (first
        | (go_at_call 56; refine (isField_any a n _).mono ?_; rintro e w' ⟨rfl, rfl⟩)
        | (go_at_call 57; refine (mask_any n _ h6 h2).mono ?_; rintro e w' ⟨rfl, rfl⟩))
      go_ret2
      exact ⟨rfl, rfl⟩
    · rw [if_neg h7]
      go_enter Try.func37, Try.ntmps37
      go_wp2_with (first
        | (go_at_call 56; refine (isField_any a n _).mono ?_; rintro e w' ⟨rfl, rfl⟩)
        | (go_at_call 57; refine (mask_any n _ h6 h2).mono ?_; rintro e w' ⟨rfl, rfl⟩))
      go_ret2
      exact ⟨rfl, rfl⟩
  · rw [if_neg h]
    have h' : isFld a n = false := by simpa using h
    go_enter Try.func37, Try.ntmps37
    go_wp2_with (go_at_call 56; refine (isField_any a n _).mono ?_; rintro e w' ⟨rfl, rfl⟩)
    go_ret2
    exact ⟨rfl, rfl⟩
theorem SetFieldR_any (x : BitVec 64) (a n : Int) (v : BitVec 64) (w : World) :
    Calls Try.prog 38 #[.int .u64 (UV x), .int .i64 a, .int .i64 n, .int .u64 (UV v)] w fun e w' => e = .returned (.tuple #[.int .u64 (UV (setS x a n v).1), .int .i64 (setS x a n v).2]) ∧ w = w' := by
  unfold setS
  by_cases h : isFld a n = true
  · rw [if_pos h]
    obtain ⟨h1, h2, h3, h4, h5, h6⟩ := isFld_yes h
    clear h
    by_cases h7 : mskB n < v
    · rw [if_pos h7]
      go_enter Try.func38, Try.ntmps38
      go_wp2_with (go_at_call 58; refine (ones_any n _ h6 h2).mono ?_; rintro e w' ⟨rfl, rfl⟩)
      go_ret2
      exact ⟨rfl, rfl⟩
    · rw [if_neg h7]
      go_enter Try.func38, Try.ntmps38
      go_wp2_with (go_at_call 58; refine (ones_any n _ h6 h2).mono ?_; rintro e w' ⟨rfl, rfl⟩)
      go_ret2
      exact ⟨rfl, rfl⟩
  · rw [if_neg h]
    rcases isFld_no h with h1 | ⟨h1, h2⟩ | ⟨h1, h2, h3⟩ | ⟨h1, h2, h3, h4⟩ <;> clear h <;>
    · go_enter Try.func38, Try.ntmps38
      go_wp2
      go_ret2
      exact ⟨rfl, rfl⟩

end Go.Proofs.Ytjajmfgbehiefaa
