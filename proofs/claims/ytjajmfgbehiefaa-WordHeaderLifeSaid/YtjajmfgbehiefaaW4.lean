/- The contracts of package word and of its reference: the splits. Own work. -/
import Derived.Test.YtjajmfgbehiefaaW3
namespace Go.Proofs.Ytjajmfgbehiefaa
open Go.RowKit

theorem bv63 (x : BitVec 64) (h : x.toNat < 9223372036854775808) : I64 x = (x.toNat : Int) := by
  unfold I64; rw [BitVec.toInt_eq_toNat_cond]; rw [if_pos (by omega)]
theorem I64_and (x y : BitVec 64) (n : Nat) (h : y.toNat ≤ n) (hn : n < 9223372036854775808) : 0 ≤ I64 (x &&& y) ∧ I64 (x &&& y) ≤ n := by
  have h1 : (x &&& y).toNat ≤ y.toNat := by rw [BitVec.toNat_and]; exact Nat.and_le_right
  rw [bv63 _ (by omega)]; omega
theorem I64_mod8 (x : BitVec 64) : 0 ≤ I64 (x % 8#64) ∧ I64 (x % 8#64) ≤ 7 := by
  have h1 : (x % 8#64).toNat < 8 := by rw [BitVec.toNat_umod]; exact Nat.mod_lt _ (by decide)
  rw [bv63 _ (by omega)]; omega
def seqOf (m : BitVec 64) : Int := if m >>> 2 < 1073741824#64 then I64 (m >>> 2) else 0
def splitMarkP (m : BitVec 64) : Int × Bool :=
  if ((markS (seqOf m)).2 != 0) = true then (0, false) else if ((markS (seqOf m)).1 != m) = true then (0, false) else (seqOf m, true)
def splitMarkR (m : BitVec 64) : Int × Bool :=
  if (m &&& 3#64 != 2#64) = true then (0, false) else if m >>> 2 < 1#64 then (0, false) else if 1073741824#64 ≤ m >>> 2 then (0, false) else (I64 (m >>> 2), true)
def incT (t : BitVec 64) : Int := if t >>> 8 ≤ 59#64 then I64 (t >>> 8) else 0
def clT (t : BitVec 64) : Int := if t >>> 8 ≤ 59#64 then I64 (t &&& mskB 8) - 1 else 0
def splitTagP (t : BitVec 64) : Int × Int × Bool :=
  if ((tagS (incT t) (clT t)).2 != 0) = true then (0, 0, false) else if ((tagS (incT t) (clT t)).1 != t) = true then (0, 0, false) else (incT t, clT t, true)
def splitTagR (t : BitVec 64) : Int × Int × Bool :=
  if ((tagS (I64 (t >>> 8 &&& 16777215#64)) (I64 (t &&& 255#64) - 1)).2 != 0) = true then (0, 0, false) else
  if ((tagS (I64 (t >>> 8 &&& 16777215#64)) (I64 (t &&& 255#64) - 1)).1 != t) = true then (0, 0, false) else (I64 (t >>> 8 &&& 16777215#64), I64 (t &&& 255#64) - 1, true)
def incL (t : BitVec 64) : Int := if t >>> 32 ≤ 59#64 then I64 (t >>> 32) else 0
def unL (t : BitVec 64) : Int := if t >>> 32 ≤ 59#64 then I64 (t &&& mskB 32) else 0
def splitLeaseP (t : BitVec 64) : Int × Int × Bool :=
  if ((leaseS (incL t) (unL t)).2 != 0) = true then (0, 0, false) else if ((leaseS (incL t) (unL t)).1 != t) = true then (0, 0, false) else (incL t, unL t, true)
def splitLeaseR (t : BitVec 64) : Int × Int × Bool :=
  if isIn (I64 (t >>> 32)) = true then (I64 (t >>> 32), I64 (t &&& 4294967295#64), true) else (0, 0, false)
def roB (t : BitVec 64) : Int := if t < 4096#64 then I64 (t / 8#64) else 0
def clB (t : BitVec 64) : Int := if t < 4096#64 then I64 (t % 8#64) - 1 else 0
def splitBallotP (t : BitVec 64) : Int × Int × Bool :=
  if ((ballotS (roB t) (clB t)).2 != 0) = true then (0, 0, false) else if ((ballotS (roB t) (clB t)).1 != t) = true then (0, 0, false) else (roB t, clB t, true)
def splitBallotR (t : BitVec 64) : Int × Int × Bool :=
  if 4095#64 < t then (0, 0, false) else
  if ((ballotS (I64 (t / 8#64)) (I64 (t % 8#64) - 1)).2 != 0) = true then (0, 0, false) else (I64 (t / 8#64), I64 (t % 8#64) - 1, true)
theorem SplitKey_any (k : BitVec 64) (w : World) :
    Calls Try.prog 39 #[.int .u64 (UV k)] w fun e w' => e = .returned (.tuple #[.int .u64 (UV (k / 2#64)), .bool (k % 2#64 == 1#64)]) ∧ w = w' := by
  go_enter Try.func39, Try.ntmps39
  go_wp2
  go_ret2
  exact ⟨rfl, rfl⟩
set_option maxHeartbeats 1000000 in
theorem SplitMark_any (m : BitVec 64) (w : World) :
    Calls Try.prog 40 #[.int .u64 (UV m)] w fun e w' => e = .returned (.tuple #[.int .i64 (splitMarkP m).1, .bool (splitMarkP m).2]) ∧ w = w' := by
  unfold splitMarkP
  rcases (Decidable.em (m >>> 2 < 1073741824#64)) with b1 | b1
  · rw [show seqOf m = I64 (m >>> 2) from if_pos b1]
    rcases (Bool.eq_false_or_eq_true ((markS (I64 (m >>> 2))).2 != 0)) with b2 | b2
    · rw [if_pos b2]
      go_enter Try.func40, Try.ntmps40
      go_wp2_with (first | (go_at_call 26; refine (Mark_any _ _).mono ?_; rintro e w' ⟨rfl, rfl⟩) | go_in)
      go_ret2
      exact ⟨rfl, rfl⟩
    · rw [if_neg (by simp [b2])]
      rcases (Bool.eq_false_or_eq_true ((markS (I64 (m >>> 2))).1 != m)) with b3 | b3
      · rw [if_pos b3]
        go_enter Try.func40, Try.ntmps40
        go_wp2_with (first | (go_at_call 26; refine (Mark_any _ _).mono ?_; rintro e w' ⟨rfl, rfl⟩) | go_in)
        go_ret2
        exact ⟨rfl, rfl⟩
      · rw [if_neg (by simp [b3])]
        go_enter Try.func40, Try.ntmps40
        go_wp2_with (first | (go_at_call 26; refine (Mark_any _ _).mono ?_; rintro e w' ⟨rfl, rfl⟩) | go_in)
        go_ret2
        exact ⟨rfl, rfl⟩
  · rw [show seqOf m = 0 from if_neg b1]
    rcases (Bool.eq_false_or_eq_true ((markS 0).2 != 0)) with b2 | b2
    · rw [if_pos b2]
      go_enter Try.func40, Try.ntmps40
      go_wp2_with (first | (go_at_call 26; refine (Mark_any _ _).mono ?_; rintro e w' ⟨rfl, rfl⟩) | go_in)
      go_ret2
      exact ⟨rfl, rfl⟩
    · rw [if_neg (by simp [b2])]
      rcases (Bool.eq_false_or_eq_true ((markS 0).1 != m)) with b3 | b3
      · rw [if_pos b3]
        go_enter Try.func40, Try.ntmps40
        go_wp2_with (first | (go_at_call 26; refine (Mark_any _ _).mono ?_; rintro e w' ⟨rfl, rfl⟩) | go_in)
        go_ret2
        exact ⟨rfl, rfl⟩
      · rw [if_neg (by simp [b3])]
        go_enter Try.func40, Try.ntmps40
        go_wp2_with (first | (go_at_call 26; refine (Mark_any _ _).mono ?_; rintro e w' ⟨rfl, rfl⟩) | go_in)
        go_ret2
        exact ⟨rfl, rfl⟩
set_option maxHeartbeats 1000000 in
theorem SplitMarkR_any (m : BitVec 64) (w : World) :
    Calls Try.prog 44 #[.int .u64 (UV m)] w fun e w' => e = .returned (.tuple #[.int .i64 (splitMarkR m).1, .bool (splitMarkR m).2]) ∧ w = w' := by
  unfold splitMarkR
  rcases (Bool.eq_false_or_eq_true (m &&& 3#64 != 2#64)) with b1 | b1
  · rw [if_pos b1]
    go_enter Try.func44, Try.ntmps44
    go_wp2
    go_ret2
    exact ⟨rfl, rfl⟩
  · rw [if_neg (by simp [b1])]
    rcases (Decidable.em (m >>> 2 < 1#64)) with b2 | b2
    · rw [if_pos b2]
      go_enter Try.func44, Try.ntmps44
      go_wp2
      go_ret2
      exact ⟨rfl, rfl⟩
    · rw [if_neg b2]
      rcases (Decidable.em (1073741824#64 ≤ m >>> 2)) with b3 | b3
      · rw [if_pos b3]
        go_enter Try.func44, Try.ntmps44
        go_wp2
        go_ret2
        exact ⟨rfl, rfl⟩
      · rw [if_neg b3]
        go_enter Try.func44, Try.ntmps44
        go_wp2
        go_ret2
        exact ⟨rfl, rfl⟩
set_option maxHeartbeats 1000000 in
theorem SplitTag_any (t : BitVec 64) (w : World) :
    Calls Try.prog 41 #[.int .u64 (UV t)] w fun e w' => e = .returned (.tuple #[.int .i64 (splitTagP t).1, .int .i64 (splitTagP t).2.1, .bool (splitTagP t).2.2]) ∧ w = w' := by
  unfold splitTagP
  rcases (Decidable.em (t >>> 8 ≤ 59#64)) with b1 | b1
  · rw [show incT t = I64 (t >>> 8) from if_pos b1, show clT t = I64 (t &&& mskB 8) - 1 from if_pos b1]
    have k1 := (I64_and t (mskB 8) 255 (by decide) (by decide)).1
    have k2 := (I64_and t (mskB 8) 255 (by decide) (by decide)).2
    rcases (Bool.eq_false_or_eq_true ((tagS (I64 (t >>> 8)) (I64 (t &&& mskB 8) - 1)).2 != 0)) with b2 | b2
    · rw [if_pos b2]
      go_enter Try.func41, Try.ntmps41
      go_wp2_with (first | (go_at_call 28; refine (Tag_any _ _ _).mono ?_; rintro e w' ⟨rfl, rfl⟩) | (go_at_call 57; refine (mask_any 8 _ (by decide) (by decide)).mono ?_; rintro e w' ⟨rfl, rfl⟩) | go_in)
      go_ret3
      exact ⟨rfl, rfl⟩
    · rw [if_neg (by simp [b2])]
      rcases (Bool.eq_false_or_eq_true ((tagS (I64 (t >>> 8)) (I64 (t &&& mskB 8) - 1)).1 != t)) with b3 | b3
      · rw [if_pos b3]
        go_enter Try.func41, Try.ntmps41
        go_wp2_with (first | (go_at_call 28; refine (Tag_any _ _ _).mono ?_; rintro e w' ⟨rfl, rfl⟩) | (go_at_call 57; refine (mask_any 8 _ (by decide) (by decide)).mono ?_; rintro e w' ⟨rfl, rfl⟩) | go_in)
        go_ret3
        exact ⟨rfl, rfl⟩
      · rw [if_neg (by simp [b3])]
        go_enter Try.func41, Try.ntmps41
        go_wp2_with (first | (go_at_call 28; refine (Tag_any _ _ _).mono ?_; rintro e w' ⟨rfl, rfl⟩) | (go_at_call 57; refine (mask_any 8 _ (by decide) (by decide)).mono ?_; rintro e w' ⟨rfl, rfl⟩) | go_in)
        go_ret3
        exact ⟨rfl, rfl⟩
  · rw [show incT t = 0 from if_neg b1, show clT t = 0 from if_neg b1]
    rcases (Bool.eq_false_or_eq_true ((tagS 0 0).2 != 0)) with b2 | b2
    · rw [if_pos b2]
      go_enter Try.func41, Try.ntmps41
      go_wp2_with (first | (go_at_call 28; refine (Tag_any _ _ _).mono ?_; rintro e w' ⟨rfl, rfl⟩) | (go_at_call 57; refine (mask_any 8 _ (by decide) (by decide)).mono ?_; rintro e w' ⟨rfl, rfl⟩) | go_in)
      go_ret3
      exact ⟨rfl, rfl⟩
    · rw [if_neg (by simp [b2])]
      rcases (Bool.eq_false_or_eq_true ((tagS 0 0).1 != t)) with b3 | b3
      · rw [if_pos b3]
        go_enter Try.func41, Try.ntmps41
        go_wp2_with (first | (go_at_call 28; refine (Tag_any _ _ _).mono ?_; rintro e w' ⟨rfl, rfl⟩) | (go_at_call 57; refine (mask_any 8 _ (by decide) (by decide)).mono ?_; rintro e w' ⟨rfl, rfl⟩) | go_in)
        go_ret3
        exact ⟨rfl, rfl⟩
      · rw [if_neg (by simp [b3])]
        go_enter Try.func41, Try.ntmps41
        go_wp2_with (first | (go_at_call 28; refine (Tag_any _ _ _).mono ?_; rintro e w' ⟨rfl, rfl⟩) | (go_at_call 57; refine (mask_any 8 _ (by decide) (by decide)).mono ?_; rintro e w' ⟨rfl, rfl⟩) | go_in)
        go_ret3
        exact ⟨rfl, rfl⟩
set_option maxHeartbeats 1000000 in
theorem SplitTagR_any (t : BitVec 64) (w : World) :
    Calls Try.prog 45 #[.int .u64 (UV t)] w fun e w' => e = .returned (.tuple #[.int .i64 (splitTagR t).1, .int .i64 (splitTagR t).2.1, .bool (splitTagR t).2.2]) ∧ w = w' := by
  unfold splitTagR
  have k1 := (I64_and t 255#64 255 (by decide) (by decide)).1
  have k2 := (I64_and t 255#64 255 (by decide) (by decide)).2
  rcases (Bool.eq_false_or_eq_true ((tagS (I64 (t >>> 8 &&& 16777215#64)) (I64 (t &&& 255#64) - 1)).2 != 0)) with b2 | b2
  · rw [if_pos b2]
    go_enter Try.func45, Try.ntmps45
    go_wp2_with (first | (go_at_call 29; refine (TagR_any _ _ _).mono ?_; rintro e w' ⟨rfl, rfl⟩) | go_in)
    go_ret3
    exact ⟨rfl, rfl⟩
  · rw [if_neg (by simp [b2])]
    rcases (Bool.eq_false_or_eq_true ((tagS (I64 (t >>> 8 &&& 16777215#64)) (I64 (t &&& 255#64) - 1)).1 != t)) with b3 | b3
    · rw [if_pos b3]
      go_enter Try.func45, Try.ntmps45
      go_wp2_with (first | (go_at_call 29; refine (TagR_any _ _ _).mono ?_; rintro e w' ⟨rfl, rfl⟩) | go_in)
      go_ret3
      exact ⟨rfl, rfl⟩
    · rw [if_neg (by simp [b3])]
      go_enter Try.func45, Try.ntmps45
      go_wp2_with (first | (go_at_call 29; refine (TagR_any _ _ _).mono ?_; rintro e w' ⟨rfl, rfl⟩) | go_in)
      go_ret3
      exact ⟨rfl, rfl⟩
set_option maxHeartbeats 1000000 in
theorem SplitLease_any (t : BitVec 64) (w : World) :
    Calls Try.prog 42 #[.int .u64 (UV t)] w fun e w' => e = .returned (.tuple #[.int .i64 (splitLeaseP t).1, .int .i64 (splitLeaseP t).2.1, .bool (splitLeaseP t).2.2]) ∧ w = w' := by
  unfold splitLeaseP
  rcases (Decidable.em (t >>> 32 ≤ 59#64)) with b1 | b1
  · rw [show incL t = I64 (t >>> 32) from if_pos b1, show unL t = I64 (t &&& mskB 32) from if_pos b1]
    rcases (Bool.eq_false_or_eq_true ((leaseS (I64 (t >>> 32)) (I64 (t &&& mskB 32))).2 != 0)) with b2 | b2
    · rw [if_pos b2]
      go_enter Try.func42, Try.ntmps42
      go_wp2_with (first | (go_at_call 30; refine (Lease_any _ _ _).mono ?_; rintro e w' ⟨rfl, rfl⟩) | (go_at_call 57; refine (mask_any 32 _ (by decide) (by decide)).mono ?_; rintro e w' ⟨rfl, rfl⟩) | go_in)
      go_ret3
      exact ⟨rfl, rfl⟩
    · rw [if_neg (by simp [b2])]
      rcases (Bool.eq_false_or_eq_true ((leaseS (I64 (t >>> 32)) (I64 (t &&& mskB 32))).1 != t)) with b3 | b3
      · rw [if_pos b3]
        go_enter Try.func42, Try.ntmps42
        go_wp2_with (first | (go_at_call 30; refine (Lease_any _ _ _).mono ?_; rintro e w' ⟨rfl, rfl⟩) | (go_at_call 57; refine (mask_any 32 _ (by decide) (by decide)).mono ?_; rintro e w' ⟨rfl, rfl⟩) | go_in)
        go_ret3
        exact ⟨rfl, rfl⟩
      · rw [if_neg (by simp [b3])]
        go_enter Try.func42, Try.ntmps42
        go_wp2_with (first | (go_at_call 30; refine (Lease_any _ _ _).mono ?_; rintro e w' ⟨rfl, rfl⟩) | (go_at_call 57; refine (mask_any 32 _ (by decide) (by decide)).mono ?_; rintro e w' ⟨rfl, rfl⟩) | go_in)
        go_ret3
        exact ⟨rfl, rfl⟩
  · rw [show incL t = 0 from if_neg b1, show unL t = 0 from if_neg b1]
    rcases (Bool.eq_false_or_eq_true ((leaseS 0 0).2 != 0)) with b2 | b2
    · rw [if_pos b2]
      go_enter Try.func42, Try.ntmps42
      go_wp2_with (first | (go_at_call 30; refine (Lease_any _ _ _).mono ?_; rintro e w' ⟨rfl, rfl⟩) | (go_at_call 57; refine (mask_any 32 _ (by decide) (by decide)).mono ?_; rintro e w' ⟨rfl, rfl⟩) | go_in)
      go_ret3
      exact ⟨rfl, rfl⟩
    · rw [if_neg (by simp [b2])]
      rcases (Bool.eq_false_or_eq_true ((leaseS 0 0).1 != t)) with b3 | b3
      · rw [if_pos b3]
        go_enter Try.func42, Try.ntmps42
        go_wp2_with (first | (go_at_call 30; refine (Lease_any _ _ _).mono ?_; rintro e w' ⟨rfl, rfl⟩) | (go_at_call 57; refine (mask_any 32 _ (by decide) (by decide)).mono ?_; rintro e w' ⟨rfl, rfl⟩) | go_in)
        go_ret3
        exact ⟨rfl, rfl⟩
      · rw [if_neg (by simp [b3])]
        go_enter Try.func42, Try.ntmps42
        go_wp2_with (first | (go_at_call 30; refine (Lease_any _ _ _).mono ?_; rintro e w' ⟨rfl, rfl⟩) | (go_at_call 57; refine (mask_any 32 _ (by decide) (by decide)).mono ?_; rintro e w' ⟨rfl, rfl⟩) | go_in)
        go_ret3
        exact ⟨rfl, rfl⟩
set_option maxHeartbeats 1000000 in
theorem SplitLeaseR_any (t : BitVec 64) (w : World) :
    Calls Try.prog 46 #[.int .u64 (UV t)] w fun e w' => e = .returned (.tuple #[.int .i64 (splitLeaseR t).1, .int .i64 (splitLeaseR t).2.1, .bool (splitLeaseR t).2.2]) ∧ w = w' := by
  unfold splitLeaseR
  rcases (Bool.eq_false_or_eq_true (isIn (I64 (t >>> 32)))) with b1 | b1
  · rw [if_pos b1]
    go_enter Try.func46, Try.ntmps46
    go_wp2_with (first | (go_at_call 55; refine (Inc_any _ _).mono ?_; rintro e w' ⟨rfl, rfl⟩) | go_in)
    go_ret3
    exact ⟨rfl, rfl⟩
  · rw [if_neg (by simp [b1])]
    go_enter Try.func46, Try.ntmps46
    go_wp2_with (first | (go_at_call 55; refine (Inc_any _ _).mono ?_; rintro e w' ⟨rfl, rfl⟩) | go_in)
    go_ret3
    exact ⟨rfl, rfl⟩
set_option maxHeartbeats 1000000 in
theorem SplitBallot_any (t : BitVec 64) (w : World) :
    Calls Try.prog 43 #[.int .u64 (UV t)] w fun e w' => e = .returned (.tuple #[.int .i64 (splitBallotP t).1, .int .i64 (splitBallotP t).2.1, .bool (splitBallotP t).2.2]) ∧ w = w' := by
  unfold splitBallotP
  rcases (Decidable.em (t < 4096#64)) with b1 | b1
  · rw [show roB t = I64 (t / 8#64) from if_pos b1, show clB t = I64 (t % 8#64) - 1 from if_pos b1]
    have k1 := (I64_mod8 t).1
    have k2 := (I64_mod8 t).2
    rcases (Bool.eq_false_or_eq_true ((ballotS (I64 (t / 8#64)) (I64 (t % 8#64) - 1)).2 != 0)) with b2 | b2
    · rw [if_pos b2]
      go_enter Try.func43, Try.ntmps43
      go_wp2_with (first | (go_at_call 23; refine (Ballot_any _ _ _).mono ?_; rintro e w' ⟨rfl, rfl⟩) | go_in)
      go_ret3
      exact ⟨rfl, rfl⟩
    · rw [if_neg (by simp [b2])]
      rcases (Bool.eq_false_or_eq_true ((ballotS (I64 (t / 8#64)) (I64 (t % 8#64) - 1)).1 != t)) with b3 | b3
      · rw [if_pos b3]
        go_enter Try.func43, Try.ntmps43
        go_wp2_with (first | (go_at_call 23; refine (Ballot_any _ _ _).mono ?_; rintro e w' ⟨rfl, rfl⟩) | go_in)
        go_ret3
        exact ⟨rfl, rfl⟩
      · rw [if_neg (by simp [b3])]
        go_enter Try.func43, Try.ntmps43
        go_wp2_with (first | (go_at_call 23; refine (Ballot_any _ _ _).mono ?_; rintro e w' ⟨rfl, rfl⟩) | go_in)
        go_ret3
        exact ⟨rfl, rfl⟩
  · rw [show roB t = 0 from if_neg b1, show clB t = 0 from if_neg b1]
    rcases (Bool.eq_false_or_eq_true ((ballotS 0 0).2 != 0)) with b2 | b2
    · rw [if_pos b2]
      go_enter Try.func43, Try.ntmps43
      go_wp2_with (first | (go_at_call 23; refine (Ballot_any _ _ _).mono ?_; rintro e w' ⟨rfl, rfl⟩) | go_in)
      go_ret3
      exact ⟨rfl, rfl⟩
    · rw [if_neg (by simp [b2])]
      rcases (Bool.eq_false_or_eq_true ((ballotS 0 0).1 != t)) with b3 | b3
      · rw [if_pos b3]
        go_enter Try.func43, Try.ntmps43
        go_wp2_with (first | (go_at_call 23; refine (Ballot_any _ _ _).mono ?_; rintro e w' ⟨rfl, rfl⟩) | go_in)
        go_ret3
        exact ⟨rfl, rfl⟩
      · rw [if_neg (by simp [b3])]
        go_enter Try.func43, Try.ntmps43
        go_wp2_with (first | (go_at_call 23; refine (Ballot_any _ _ _).mono ?_; rintro e w' ⟨rfl, rfl⟩) | go_in)
        go_ret3
        exact ⟨rfl, rfl⟩
set_option maxHeartbeats 1000000 in
theorem SplitBallotR_any (t : BitVec 64) (w : World) :
    Calls Try.prog 47 #[.int .u64 (UV t)] w fun e w' => e = .returned (.tuple #[.int .i64 (splitBallotR t).1, .int .i64 (splitBallotR t).2.1, .bool (splitBallotR t).2.2]) ∧ w = w' := by
  unfold splitBallotR
  rcases (Decidable.em (4095#64 < t)) with b1 | b1
  · rw [if_pos b1]
    go_enter Try.func47, Try.ntmps47
    go_wp2_with (first | (go_at_call 32; refine (BallotR_any _ _ _).mono ?_; rintro e w' ⟨rfl, rfl⟩) | go_in)
    go_ret3
    exact ⟨rfl, rfl⟩
  · rw [if_neg b1]
    have k1 := (I64_mod8 t).1
    have k2 := (I64_mod8 t).2
    rcases (Bool.eq_false_or_eq_true ((ballotS (I64 (t / 8#64)) (I64 (t % 8#64) - 1)).2 != 0)) with b2 | b2
    · rw [if_pos b2]
      go_enter Try.func47, Try.ntmps47
      go_wp2_with (first | (go_at_call 32; refine (BallotR_any _ _ _).mono ?_; rintro e w' ⟨rfl, rfl⟩) | go_in)
      go_ret3
      exact ⟨rfl, rfl⟩
    · rw [if_neg (by simp [b2])]
      go_enter Try.func47, Try.ntmps47
      go_wp2_with (first | (go_at_call 32; refine (BallotR_any _ _ _).mono ?_; rintro e w' ⟨rfl, rfl⟩) | go_in)
      go_ret3
      exact ⟨rfl, rfl⟩
theorem SplitConsensus_any (x : BitVec 64) (w : World) :
    Calls Try.prog 48 #[.int .u64 (UV x)] w fun e w' => e = .returned (.tuple #[.int .u64 (UV (x >>> 52)), .int .u64 (UV (x >>> 40 &&& 4095#64)), .int .u64 (UV (x &&& 1099511627775#64))]) ∧ w = w' := by
  go_enter Try.func48, Try.ntmps48
  go_wp2
  go_ret3
  exact ⟨rfl, rfl⟩
theorem SplitConsensusR_any (x : BitVec 64) (w : World) :
    Calls Try.prog 49 #[.int .u64 (UV x)] w fun e w' => e = .returned (.tuple #[.int .u64 (UV (x >>> 52)), .int .u64 (UV (x >>> 40 &&& 4095#64)), .int .u64 (UV (x &&& 1099511627775#64))]) ∧ w = w' := by
  go_enter Try.func49, Try.ntmps49
  go_wp2
  go_ret3
  exact ⟨rfl, rfl⟩
end Go.Proofs.Ytjajmfgbehiefaa
