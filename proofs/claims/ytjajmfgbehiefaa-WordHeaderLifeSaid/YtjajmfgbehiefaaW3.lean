/- The contracts of package word and of its reference: tags, leases, ballots, consensus words. Own work. -/
import Derived.Test.YtjajmfgbehiefaaW2
namespace Go.Proofs.Ytjajmfgbehiefaa
open Go.RowKit

def isCl (c : Int) : Bool := decide (0 ≤ c) && decide (c ≤ 5)
def isIn (i : Int) : Bool := decide (1 ≤ i) && decide (i ≤ 59) && (i % 2 == 1)
theorem isCl_yes {c : Int} (h : isCl c = true) : 0 ≤ c ∧ c ≤ 5 := by unfold isCl at h; simp at h; exact h
theorem isCl_no {c : Int} (h : isCl c = false) : c < 0 ∨ 5 < c := by unfold isCl at h; simp at h; omega
theorem isIn_yes {i : Int} (h : isIn i = true) : 1 ≤ i ∧ i ≤ 59 ∧ i % 2 = 1 := by unfold isIn at h; simp at h; omega
theorem isClient_any (c : Int) (w : World) : Calls Try.prog 52 #[.int .i64 c] w fun e w' => e = .returned (.bool (isCl c)) ∧ w = w' := by
  unfold isCl
  rcases inI_cases' 0 5 6 c rfl with ⟨a1, _⟩ | ⟨a1, ⟨c1, x1⟩, _⟩ | ⟨a1, ⟨c1, x1⟩, _⟩
  · simp only [show decide (0 ≤ c) = false by simp; omega, Bool.false_and]
    go_enter Try.func52, Try.ntmps52
    go_wp2
    go_ret
    exact ⟨rfl, rfl⟩
  · simp only [c1, Bool.and_false]
    go_enter Try.func52, Try.ntmps52
    go_wp2
    go_ret
    exact ⟨rfl, rfl⟩
  · simp only [a1, c1, decide_true, Bool.and_true]
    go_enter Try.func52, Try.ntmps52
    go_wp2
    go_ret
    exact ⟨rfl, rfl⟩
theorem Client_any (c : Int) (w : World) : Calls Try.prog 53 #[.int .i64 c] w fun e w' => e = .returned (.bool (isCl c)) ∧ w = w' := by
  unfold isCl
  rcases inI_cases' 0 5 6 c rfl with ⟨a1, _⟩ | ⟨a1, ⟨c1, x1⟩, _⟩ | ⟨a1, ⟨c1, x1⟩, _⟩
  · simp only [show decide (0 ≤ c) = false by simp; omega, Bool.false_and]
    go_enter Try.func53, Try.ntmps53
    go_wp2
    go_ret
    exact ⟨rfl, rfl⟩
  · simp only [c1, Bool.and_false]
    go_enter Try.func53, Try.ntmps53
    go_wp2
    go_ret
    exact ⟨rfl, rfl⟩
  · simp only [a1, c1, decide_true, Bool.and_true]
    go_enter Try.func53, Try.ntmps53
    go_wp2
    go_ret
    exact ⟨rfl, rfl⟩
theorem isInc_any (c : Int) (w : World) : Calls Try.prog 54 #[.int .i64 c] w fun e w' => e = .returned (.bool (isIn c)) ∧ w = w' := by
  unfold isIn
  rcases inI_cases' 1 59 60 c rfl with ⟨a1, _⟩ | ⟨a1, ⟨c1, x1⟩, _⟩ | ⟨a1, ⟨c1, x1⟩, _⟩
  · simp only [show decide (1 ≤ c) = false by simp; omega, Bool.false_and]
    go_enter Try.func54, Try.ntmps54
    go_wp2
    go_ret
    exact ⟨rfl, rfl⟩
  · simp only [c1, Bool.and_false, Bool.false_and]
    go_enter Try.func54, Try.ntmps54
    go_wp2
    go_ret
    exact ⟨rfl, rfl⟩
  · simp only [a1, c1, decide_true, Bool.true_and]
    rcases (Bool.eq_false_or_eq_true (c % 2 == 1)) with b | b
    · rw [b]
      go_enter Try.func54, Try.ntmps54
      go_wp2
      go_ret
      exact ⟨rfl, rfl⟩
    · rw [b]
      go_enter Try.func54, Try.ntmps54
      go_wp2
      go_ret
      exact ⟨rfl, rfl⟩
theorem Inc_any (c : Int) (w : World) : Calls Try.prog 55 #[.int .i64 c] w fun e w' => e = .returned (.bool (isIn c)) ∧ w = w' := by
  unfold isIn
  rcases inI_cases' 1 59 60 c rfl with ⟨a1, _⟩ | ⟨a1, ⟨c1, x1⟩, _⟩ | ⟨a1, ⟨c1, x1⟩, _⟩
  · simp only [show decide (1 ≤ c) = false by simp; omega, Bool.false_and]
    go_enter Try.func55, Try.ntmps55
    go_wp2
    go_ret
    exact ⟨rfl, rfl⟩
  · simp only [c1, Bool.and_false, Bool.false_and]
    go_enter Try.func55, Try.ntmps55
    go_wp2
    go_ret
    exact ⟨rfl, rfl⟩
  · simp only [a1, c1, decide_true, Bool.true_and]
    rcases (Bool.eq_false_or_eq_true (c % 2 == 1)) with b | b
    · rw [b]
      go_enter Try.func55, Try.ntmps55
      go_wp2
      go_ret
      exact ⟨rfl, rfl⟩
    · rw [b]
      go_enter Try.func55, Try.ntmps55
      go_wp2
      go_ret
      exact ⟨rfl, rfl⟩
def tagS (i c : Int) : BitVec 64 × Int :=
  if isIn i = true then (if isCl c = true then (BitVec.ofInt 64 i <<< 8 ||| BitVec.ofInt 64 (c + 1), 0) else (0#64, 1)) else (0#64, 2)
def leaseS (i u : Int) : BitVec 64 × Int :=
  if isIn i = true then (if u < 0 ∨ 4294967295 < u then (0#64, 1) else (BitVec.ofInt 64 i <<< 32 ||| BitVec.ofInt 64 u, 0)) else (0#64, 2)
def ballotS (r c : Int) : BitVec 64 × Int :=
  if r < 1 ∨ 500 < r then (0#64, 2) else if isCl c = true then (BitVec.ofInt 64 (r * 8 + c + 1), 0) else (0#64, 1)
def consS (p a v : BitVec 64) : BitVec 64 × Int :=
  if 4096#64 ≤ p then (0#64, 2) else if 4096#64 ≤ a then (0#64, 2) else if 1099511627776#64 ≤ v then (0#64, 2) else (p <<< 52 ||| a <<< 40 ||| v, 0)
set_option maxHeartbeats 1000000 in
theorem Tag_any (i c : Int) (w : World) :
    Calls Try.prog 28 #[.int .i64 i, .int .i64 c] w fun e w' => e = .returned (.tuple #[.int .u64 (UV (tagS i c).1), .int .i64 (tagS i c).2]) ∧ w = w' := by
  unfold tagS
  rcases (Bool.eq_false_or_eq_true (isIn i)) with b1 | b1
  · rw [if_pos b1]
    rcases (Bool.eq_false_or_eq_true (isCl c)) with b2 | b2
    · have k2 := isCl_yes b2
      have k3 := k2.1
      have k4 := k2.2
      clear k2
      rw [if_pos b2]
      go_enter Try.func28, Try.ntmps28
      go_wp2_with (first | (go_at_call 54; refine (isInc_any _ _).mono ?_; rintro e w' ⟨rfl, rfl⟩) | (go_at_call 52; refine (isClient_any _ _).mono ?_; rintro e w' ⟨rfl, rfl⟩) | go_in)
      go_ret2
      exact ⟨rfl, rfl⟩
    · rw [if_neg (by simp [b2])]
      go_enter Try.func28, Try.ntmps28
      go_wp2_with (first | (go_at_call 54; refine (isInc_any _ _).mono ?_; rintro e w' ⟨rfl, rfl⟩) | (go_at_call 52; refine (isClient_any _ _).mono ?_; rintro e w' ⟨rfl, rfl⟩) | go_in)
      go_ret2
      exact ⟨rfl, rfl⟩
  · rw [if_neg (by simp [b1])]
    go_enter Try.func28, Try.ntmps28
    go_wp2_with (first | (go_at_call 54; refine (isInc_any _ _).mono ?_; rintro e w' ⟨rfl, rfl⟩) | (go_at_call 52; refine (isClient_any _ _).mono ?_; rintro e w' ⟨rfl, rfl⟩) | go_in)
    go_ret2
    exact ⟨rfl, rfl⟩
set_option maxHeartbeats 1000000 in
theorem TagR_any (i c : Int) (w : World) :
    Calls Try.prog 29 #[.int .i64 i, .int .i64 c] w fun e w' => e = .returned (.tuple #[.int .u64 (UV (tagS i c).1), .int .i64 (tagS i c).2]) ∧ w = w' := by
  unfold tagS
  rcases (Bool.eq_false_or_eq_true (isIn i)) with b1 | b1
  · rw [if_pos b1]
    rcases (Bool.eq_false_or_eq_true (isCl c)) with b2 | b2
    · have k2 := isCl_yes b2
      have k3 := k2.1
      have k4 := k2.2
      clear k2
      rw [if_pos b2]
      go_enter Try.func29, Try.ntmps29
      go_wp2_with (first | (go_at_call 55; refine (Inc_any _ _).mono ?_; rintro e w' ⟨rfl, rfl⟩) | (go_at_call 53; refine (Client_any _ _).mono ?_; rintro e w' ⟨rfl, rfl⟩) | go_in)
      go_ret2
      exact ⟨rfl, rfl⟩
    · rw [if_neg (by simp [b2])]
      go_enter Try.func29, Try.ntmps29
      go_wp2_with (first | (go_at_call 55; refine (Inc_any _ _).mono ?_; rintro e w' ⟨rfl, rfl⟩) | (go_at_call 53; refine (Client_any _ _).mono ?_; rintro e w' ⟨rfl, rfl⟩) | go_in)
      go_ret2
      exact ⟨rfl, rfl⟩
  · rw [if_neg (by simp [b1])]
    go_enter Try.func29, Try.ntmps29
    go_wp2_with (first | (go_at_call 55; refine (Inc_any _ _).mono ?_; rintro e w' ⟨rfl, rfl⟩) | (go_at_call 53; refine (Client_any _ _).mono ?_; rintro e w' ⟨rfl, rfl⟩) | go_in)
    go_ret2
    exact ⟨rfl, rfl⟩
set_option maxHeartbeats 1000000 in
theorem Lease_any (i u : Int) (w : World) :
    Calls Try.prog 30 #[.int .i64 i, .int .i64 u] w fun e w' => e = .returned (.tuple #[.int .u64 (UV (leaseS i u).1), .int .i64 (leaseS i u).2]) ∧ w = w' := by
  unfold leaseS
  rcases (Bool.eq_false_or_eq_true (isIn i)) with b1 | b1
  · rw [if_pos b1]
    rcases inI_cases' 0 4294967295 4294967296 u rfl with ⟨a2, b2⟩ | ⟨a2, ⟨c2, x2⟩, d2, b2⟩ | ⟨a2, ⟨c2, x2⟩, b2⟩
    · rw [if_pos b2]; clear b2
      go_enter Try.func30, Try.ntmps30
      go_wp2_with (first | (go_at_call 54; refine (isInc_any _ _).mono ?_; rintro e w' ⟨rfl, rfl⟩) | (go_at_call 52; refine (isClient_any _ _).mono ?_; rintro e w' ⟨rfl, rfl⟩) | go_in)
      go_ret2
      exact ⟨rfl, rfl⟩
    · rw [if_pos b2]; clear b2
      go_enter Try.func30, Try.ntmps30
      go_wp2_with (first | (go_at_call 54; refine (isInc_any _ _).mono ?_; rintro e w' ⟨rfl, rfl⟩) | (go_at_call 52; refine (isClient_any _ _).mono ?_; rintro e w' ⟨rfl, rfl⟩) | go_in)
      go_ret2
      exact ⟨rfl, rfl⟩
    · rw [if_neg b2]; clear b2
      go_enter Try.func30, Try.ntmps30
      go_wp2_with (first | (go_at_call 54; refine (isInc_any _ _).mono ?_; rintro e w' ⟨rfl, rfl⟩) | (go_at_call 52; refine (isClient_any _ _).mono ?_; rintro e w' ⟨rfl, rfl⟩) | go_in)
      go_ret2
      exact ⟨rfl, rfl⟩
  · rw [if_neg (by simp [b1])]
    go_enter Try.func30, Try.ntmps30
    go_wp2_with (first | (go_at_call 54; refine (isInc_any _ _).mono ?_; rintro e w' ⟨rfl, rfl⟩) | (go_at_call 52; refine (isClient_any _ _).mono ?_; rintro e w' ⟨rfl, rfl⟩) | go_in)
    go_ret2
    exact ⟨rfl, rfl⟩
set_option maxHeartbeats 1000000 in
theorem LeaseR_any (i u : Int) (w : World) :
    Calls Try.prog 31 #[.int .i64 i, .int .i64 u] w fun e w' => e = .returned (.tuple #[.int .u64 (UV (leaseS i u).1), .int .i64 (leaseS i u).2]) ∧ w = w' := by
  unfold leaseS
  rcases (Bool.eq_false_or_eq_true (isIn i)) with b1 | b1
  · rw [if_pos b1]
    rcases inI_cases' 0 4294967295 4294967296 u rfl with ⟨a2, b2⟩ | ⟨a2, ⟨c2, x2⟩, d2, b2⟩ | ⟨a2, ⟨c2, x2⟩, b2⟩
    · rw [if_pos b2]; clear b2
      go_enter Try.func31, Try.ntmps31
      go_wp2_with (first | (go_at_call 55; refine (Inc_any _ _).mono ?_; rintro e w' ⟨rfl, rfl⟩) | (go_at_call 53; refine (Client_any _ _).mono ?_; rintro e w' ⟨rfl, rfl⟩) | go_in)
      go_ret2
      exact ⟨rfl, rfl⟩
    · rw [if_pos b2]; clear b2
      go_enter Try.func31, Try.ntmps31
      go_wp2_with (first | (go_at_call 55; refine (Inc_any _ _).mono ?_; rintro e w' ⟨rfl, rfl⟩) | (go_at_call 53; refine (Client_any _ _).mono ?_; rintro e w' ⟨rfl, rfl⟩) | go_in)
      go_ret2
      exact ⟨rfl, rfl⟩
    · rw [if_neg b2]; clear b2
      go_enter Try.func31, Try.ntmps31
      go_wp2_with (first | (go_at_call 55; refine (Inc_any _ _).mono ?_; rintro e w' ⟨rfl, rfl⟩) | (go_at_call 53; refine (Client_any _ _).mono ?_; rintro e w' ⟨rfl, rfl⟩) | go_in)
      go_ret2
      exact ⟨rfl, rfl⟩
  · rw [if_neg (by simp [b1])]
    go_enter Try.func31, Try.ntmps31
    go_wp2_with (first | (go_at_call 55; refine (Inc_any _ _).mono ?_; rintro e w' ⟨rfl, rfl⟩) | (go_at_call 53; refine (Client_any _ _).mono ?_; rintro e w' ⟨rfl, rfl⟩) | go_in)
    go_ret2
    exact ⟨rfl, rfl⟩
set_option maxHeartbeats 1000000 in
theorem Ballot_any (r c : Int) (w : World) :
    Calls Try.prog 23 #[.int .i64 r, .int .i64 c] w fun e w' => e = .returned (.tuple #[.int .u64 (UV (ballotS r c).1), .int .i64 (ballotS r c).2]) ∧ w = w' := by
  unfold ballotS
  rcases inI_cases' 1 500 501 r rfl with ⟨a1, b1⟩ | ⟨a1, ⟨c1, x1⟩, d1, b1⟩ | ⟨a1, ⟨c1, x1⟩, b1⟩
  · rw [if_pos b1]; clear b1
    go_enter Try.func23, Try.ntmps23
    go_wp2_with (first | (go_at_call 54; refine (isInc_any _ _).mono ?_; rintro e w' ⟨rfl, rfl⟩) | (go_at_call 52; refine (isClient_any _ _).mono ?_; rintro e w' ⟨rfl, rfl⟩) | go_in)
    go_ret2
    exact ⟨rfl, rfl⟩
  · rw [if_pos b1]; clear b1
    go_enter Try.func23, Try.ntmps23
    go_wp2_with (first | (go_at_call 54; refine (isInc_any _ _).mono ?_; rintro e w' ⟨rfl, rfl⟩) | (go_at_call 52; refine (isClient_any _ _).mono ?_; rintro e w' ⟨rfl, rfl⟩) | go_in)
    go_ret2
    exact ⟨rfl, rfl⟩
  · rw [if_neg b1]; clear b1
    rcases (Bool.eq_false_or_eq_true (isCl c)) with b2 | b2
    · have k2 := isCl_yes b2
      have k3 := k2.1
      have k4 := k2.2
      clear k2
      rw [if_pos b2]
      go_enter Try.func23, Try.ntmps23
      go_wp2_with (first | (go_at_call 54; refine (isInc_any _ _).mono ?_; rintro e w' ⟨rfl, rfl⟩) | (go_at_call 52; refine (isClient_any _ _).mono ?_; rintro e w' ⟨rfl, rfl⟩) | go_in)
      go_ret2
      exact ⟨rfl, rfl⟩
    · rw [if_neg (by simp [b2])]
      go_enter Try.func23, Try.ntmps23
      go_wp2_with (first | (go_at_call 54; refine (isInc_any _ _).mono ?_; rintro e w' ⟨rfl, rfl⟩) | (go_at_call 52; refine (isClient_any _ _).mono ?_; rintro e w' ⟨rfl, rfl⟩) | go_in)
      go_ret2
      exact ⟨rfl, rfl⟩
set_option maxHeartbeats 1000000 in
theorem BallotR_any (r c : Int) (w : World) :
    Calls Try.prog 32 #[.int .i64 r, .int .i64 c] w fun e w' => e = .returned (.tuple #[.int .u64 (UV (ballotS r c).1), .int .i64 (ballotS r c).2]) ∧ w = w' := by
  unfold ballotS
  rcases inI_cases' 1 500 501 r rfl with ⟨a1, b1⟩ | ⟨a1, ⟨c1, x1⟩, d1, b1⟩ | ⟨a1, ⟨c1, x1⟩, b1⟩
  · rw [if_pos b1]; clear b1
    go_enter Try.func32, Try.ntmps32
    go_wp2_with (first | (go_at_call 55; refine (Inc_any _ _).mono ?_; rintro e w' ⟨rfl, rfl⟩) | (go_at_call 53; refine (Client_any _ _).mono ?_; rintro e w' ⟨rfl, rfl⟩) | go_in)
    go_ret2
    exact ⟨rfl, rfl⟩
  · rw [if_pos b1]; clear b1
    go_enter Try.func32, Try.ntmps32
    go_wp2_with (first | (go_at_call 55; refine (Inc_any _ _).mono ?_; rintro e w' ⟨rfl, rfl⟩) | (go_at_call 53; refine (Client_any _ _).mono ?_; rintro e w' ⟨rfl, rfl⟩) | go_in)
    go_ret2
    exact ⟨rfl, rfl⟩
  · rw [if_neg b1]; clear b1
    rcases (Bool.eq_false_or_eq_true (isCl c)) with b2 | b2
    · have k2 := isCl_yes b2
      have k3 := k2.1
      have k4 := k2.2
      clear k2
      rw [if_pos b2]
      go_enter Try.func32, Try.ntmps32
      go_wp2_with (first | (go_at_call 55; refine (Inc_any _ _).mono ?_; rintro e w' ⟨rfl, rfl⟩) | (go_at_call 53; refine (Client_any _ _).mono ?_; rintro e w' ⟨rfl, rfl⟩) | go_in)
      go_ret2
      exact ⟨rfl, rfl⟩
    · rw [if_neg (by simp [b2])]
      go_enter Try.func32, Try.ntmps32
      go_wp2_with (first | (go_at_call 55; refine (Inc_any _ _).mono ?_; rintro e w' ⟨rfl, rfl⟩) | (go_at_call 53; refine (Client_any _ _).mono ?_; rintro e w' ⟨rfl, rfl⟩) | go_in)
      go_ret2
      exact ⟨rfl, rfl⟩
set_option maxHeartbeats 1000000 in
theorem Consensus_any (p a v : BitVec 64) (w : World) :
    Calls Try.prog 33 #[.int .u64 (UV p), .int .u64 (UV a), .int .u64 (UV v)] w fun e w' => e = .returned (.tuple #[.int .u64 (UV (consS p a v).1), .int .i64 (consS p a v).2]) ∧ w = w' := by
  unfold consS
  rcases (Decidable.em (4096#64 ≤ p)) with b1 | b1
  · rw [if_pos b1]
    go_enter Try.func33, Try.ntmps33
    go_wp2
    go_ret2
    exact ⟨rfl, rfl⟩
  · rw [if_neg b1]
    rcases (Decidable.em (4096#64 ≤ a)) with b2 | b2
    · rw [if_pos b2]
      go_enter Try.func33, Try.ntmps33
      go_wp2
      go_ret2
      exact ⟨rfl, rfl⟩
    · rw [if_neg b2]
      rcases (Decidable.em (1099511627776#64 ≤ v)) with b3 | b3
      · rw [if_pos b3]
        go_enter Try.func33, Try.ntmps33
        go_wp2
        go_ret2
        exact ⟨rfl, rfl⟩
      · rw [if_neg b3]
        go_enter Try.func33, Try.ntmps33
        go_wp2
        go_ret2
        exact ⟨rfl, rfl⟩
set_option maxHeartbeats 1000000 in
theorem ConsensusR_any (p a v : BitVec 64) (w : World) :
    Calls Try.prog 34 #[.int .u64 (UV p), .int .u64 (UV a), .int .u64 (UV v)] w fun e w' => e = .returned (.tuple #[.int .u64 (UV (consS p a v).1), .int .i64 (consS p a v).2]) ∧ w = w' := by
  unfold consS
  rcases (Decidable.em (4096#64 ≤ p)) with b1 | b1
  · rw [if_pos b1]
    go_enter Try.func34, Try.ntmps34
    go_wp2
    go_ret2
    exact ⟨rfl, rfl⟩
  · rw [if_neg b1]
    rcases (Decidable.em (4096#64 ≤ a)) with b2 | b2
    · rw [if_pos b2]
      go_enter Try.func34, Try.ntmps34
      go_wp2
      go_ret2
      exact ⟨rfl, rfl⟩
    · rw [if_neg b2]
      rcases (Decidable.em (1099511627776#64 ≤ v)) with b3 | b3
      · rw [if_pos b3]
        go_enter Try.func34, Try.ntmps34
        go_wp2
        go_ret2
        exact ⟨rfl, rfl⟩
      · rw [if_neg b3]
        go_enter Try.func34, Try.ntmps34
        go_wp2
        go_ret2
        exact ⟨rfl, rfl⟩
end Go.Proofs.Ytjajmfgbehiefaa
