/- The contracts of package word and of its reference: headers, keys, marks, tags, leases, ballots. Own work. -/
import Derived.Test.YtjajmfgbehiefaaW
namespace Go.Proofs.Ytjajmfgbehiefaa
open Go.RowKit

theorem bvle {w : Nat} {a b : BitVec w} : a ≤ b ↔ a.toNat ≤ b.toNat := BitVec.le_def
theorem bvlt {w : Nat} {a b : BitVec w} : a < b ↔ a.toNat < b.toNat := BitVec.lt_def

/-- An integer against a least and a greatest value: the three ways, in the forms that a walk asks for. -/
theorem inI_cases' (lo hi hi' x : Int) (h : hi' = hi + 1) :
    (x < lo ∧ (x < lo ∨ hi < x)) ∨ (lo ≤ x ∧ (decide (x ≤ hi) = false ∧ decide (x < hi') = false) ∧ hi < x ∧ (x < lo ∨ hi < x)) ∨ (lo ≤ x ∧ (x ≤ hi ∧ decide (x < hi') = true) ∧ ¬ (x < lo ∨ hi < x)) := by
  subst h
  by_cases h1 : x < lo
  · left; simp [h1]
  · by_cases h2 : hi < x
    · right; left; simp [h1, h2]; omega
    · right; right; simp [h1, h2]; omega
theorem inB_cases (lo hi hi' x : BitVec 64) (h' : hi' = hi + 1#64) (hh : hi < hi') :
    (x < lo ∧ ¬ lo ≤ x ∧ (x < lo ∨ hi < x)) ∨ (¬ x < lo ∧ lo ≤ x ∧ hi < x ∧ hi' ≤ x ∧ ¬ x ≤ hi ∧ (x < lo ∨ hi < x)) ∨
    (¬ x < lo ∧ lo ≤ x ∧ ¬ hi' ≤ x ∧ x ≤ hi ∧ ¬ (x < lo ∨ hi < x)) := by
  subst h'
  have e : (hi + 1#64).toNat = hi.toNat + 1 := by
    have := hh; rw [bvlt, BitVec.toNat_add] at this; rw [BitVec.toNat_add]
    have h1 : (1#64).toNat = 1 := rfl
    rw [h1] at this ⊢
    have := hi.isLt
    omega
  simp only [bvle, bvlt] at *
  omega
def hdrS (v : BitVec 64) (o : Int) : BitVec 64 × Int :=
  if v < 1#64 ∨ 281474976710655#64 < v then (0#64, 2) else if o < 0 ∨ 6 < o then (0#64, 1) else (v <<< 8 ||| BitVec.ofInt 64 o, 0)
set_option maxHeartbeats 1000000 in
theorem Header_any (v : BitVec 64) (o : Int) (w : World) :
    Calls Try.prog 11 #[.int .u64 (UV v), .int .i64 o] w fun e w' => e = .returned (.tuple #[.int .u64 (UV (hdrS v o).1), .int .i64 (hdrS v o).2]) ∧ w = w' := by
  unfold hdrS
  rcases inB_cases 1#64 281474976710655#64 281474976710656#64 v (by decide) (by decide) with ⟨a1, c1, b1⟩ | ⟨a1, c1, d1, e1, f1, b1⟩ | ⟨a1, c1, d1, e1, b1⟩
  · rw [if_pos b1]; clear b1
    go_enter Try.func11, Try.ntmps11
    go_wp2
    go_ret2
    exact ⟨rfl, rfl⟩
  · rw [if_pos b1]; clear b1
    go_enter Try.func11, Try.ntmps11
    go_wp2
    go_ret2
    exact ⟨rfl, rfl⟩
  · rw [if_neg b1]; clear b1
    rcases inI_cases' 0 6 7 o rfl with ⟨a2, b2⟩ | ⟨a2, ⟨c2, x2⟩, d2, b2⟩ | ⟨a2, ⟨c2, x2⟩, b2⟩
    · rw [if_pos b2]; clear b2
      go_enter Try.func11, Try.ntmps11
      go_wp2
      go_ret2
      exact ⟨rfl, rfl⟩
    · rw [if_pos b2]; clear b2
      go_enter Try.func11, Try.ntmps11
      go_wp2
      go_ret2
      exact ⟨rfl, rfl⟩
    · rw [if_neg b2]; clear b2
      go_enter Try.func11, Try.ntmps11
      go_wp2
      go_ret2
      exact ⟨rfl, rfl⟩
set_option maxHeartbeats 1000000 in
theorem HeaderR_any (v : BitVec 64) (o : Int) (w : World) :
    Calls Try.prog 12 #[.int .u64 (UV v), .int .i64 o] w fun e w' => e = .returned (.tuple #[.int .u64 (UV (hdrS v o).1), .int .i64 (hdrS v o).2]) ∧ w = w' := by
  unfold hdrS
  rcases inB_cases 1#64 281474976710655#64 281474976710656#64 v (by decide) (by decide) with ⟨a1, c1, b1⟩ | ⟨a1, c1, d1, e1, f1, b1⟩ | ⟨a1, c1, d1, e1, b1⟩
  · rw [if_pos b1]; clear b1
    go_enter Try.func12, Try.ntmps12
    go_wp2
    go_ret2
    exact ⟨rfl, rfl⟩
  · rw [if_pos b1]; clear b1
    go_enter Try.func12, Try.ntmps12
    go_wp2
    go_ret2
    exact ⟨rfl, rfl⟩
  · rw [if_neg b1]; clear b1
    rcases inI_cases' 0 6 7 o rfl with ⟨a2, b2⟩ | ⟨a2, ⟨c2, x2⟩, d2, b2⟩ | ⟨a2, ⟨c2, x2⟩, b2⟩
    · rw [if_pos b2]; clear b2
      go_enter Try.func12, Try.ntmps12
      go_wp2
      go_ret2
      exact ⟨rfl, rfl⟩
    · rw [if_pos b2]; clear b2
      go_enter Try.func12, Try.ntmps12
      go_wp2
      go_ret2
      exact ⟨rfl, rfl⟩
    · rw [if_neg b2]; clear b2
      go_enter Try.func12, Try.ntmps12
      go_wp2
      go_ret2
      exact ⟨rfl, rfl⟩
theorem SplitHeader_any (h : BitVec 64) (w : World) :
    Calls Try.prog 13 #[.int .u64 (UV h)] w fun e w' => e = .returned (.tuple #[.int .u64 (UV (h >>> 8)), .int .i64 (I64 (h &&& 255#64))]) ∧ w = w' := by
  go_enter Try.func13, Try.ntmps13
  go_wp2
  go_ret2
  exact ⟨rfl, rfl⟩
theorem SplitHeaderR_any (h : BitVec 64) (w : World) :
    Calls Try.prog 14 #[.int .u64 (UV h)] w fun e w' => e = .returned (.tuple #[.int .u64 (UV (h >>> 8)), .int .i64 (I64 (h &&& 255#64))]) ∧ w = w' := by
  go_enter Try.func14, Try.ntmps14
  go_wp2
  go_ret2
  exact ⟨rfl, rfl⟩
theorem Unlocked_any (h : BitVec 64) (w : World) :
    Calls Try.prog 20 #[.int .u64 (UV h)] w fun e w' => e = .returned (.bool (h &&& 255#64 == 0#64)) ∧ w = w' := by
  go_enter Try.func20, Try.ntmps20
  go_wp2
  go_ret
  exact ⟨rfl, rfl⟩
theorem UnlockedR_any (h : BitVec 64) (w : World) :
    Calls Try.prog 21 #[.int .u64 (UV h)] w fun e w' => e = .returned (.bool (h &&& 255#64 == 0#64)) ∧ w = w' := by
  go_enter Try.func21, Try.ntmps21
  go_wp2
  go_ret
  exact ⟨rfl, rfl⟩
def lockS (h : BitVec 64) (c : Int) : BitVec 64 × Int :=
  if c < 0 ∨ 5 < c then (0#64, 1) else if (h &&& 255#64 == 0#64) = true then (h ||| BitVec.ofInt 64 (c + 1), 0) else (0#64, 3)
set_option maxHeartbeats 1000000 in
theorem Lock_any (h : BitVec 64) (c : Int) (w : World) :
    Calls Try.prog 15 #[.int .u64 (UV h), .int .i64 c] w fun e w' => e = .returned (.tuple #[.int .u64 (UV (lockS h c).1), .int .i64 (lockS h c).2]) ∧ w = w' := by
  unfold lockS
  rcases inI_cases' 0 5 6 c rfl with ⟨a1, b1⟩ | ⟨a1, ⟨c1, x1⟩, d1, b1⟩ | ⟨a1, ⟨c1, x1⟩, b1⟩
  · rw [if_pos b1]; clear b1
    go_enter Try.func15, Try.ntmps15
    go_wp2
    go_ret2
    exact ⟨rfl, rfl⟩
  · rw [if_pos b1]; clear b1
    go_enter Try.func15, Try.ntmps15
    go_wp2
    go_ret2
    exact ⟨rfl, rfl⟩
  · rw [if_neg b1]; clear b1
    rcases (Decidable.em ((h &&& 255#64 == 0#64) = true)) with b2 | b2
    · rw [if_pos b2]
      go_enter Try.func15, Try.ntmps15
      go_wp2
      go_ret2
      exact ⟨rfl, rfl⟩
    · have b3 : (h &&& 255#64 == 0#64) = false := by simpa using b2
      rw [if_neg b2]
      go_enter Try.func15, Try.ntmps15
      go_wp2
      go_ret2
      exact ⟨rfl, rfl⟩
set_option maxHeartbeats 1000000 in
theorem LockR_any (h : BitVec 64) (c : Int) (w : World) :
    Calls Try.prog 16 #[.int .u64 (UV h), .int .i64 c] w fun e w' => e = .returned (.tuple #[.int .u64 (UV (lockS h c).1), .int .i64 (lockS h c).2]) ∧ w = w' := by
  unfold lockS
  rcases inI_cases' 0 5 6 c rfl with ⟨a1, b1⟩ | ⟨a1, ⟨c1, x1⟩, d1, b1⟩ | ⟨a1, ⟨c1, x1⟩, b1⟩
  · rw [if_pos b1]; clear b1
    go_enter Try.func16, Try.ntmps16
    go_wp2
    go_ret2
    exact ⟨rfl, rfl⟩
  · rw [if_pos b1]; clear b1
    go_enter Try.func16, Try.ntmps16
    go_wp2
    go_ret2
    exact ⟨rfl, rfl⟩
  · rw [if_neg b1]; clear b1
    rcases (Decidable.em ((h &&& 255#64 == 0#64) = true)) with b2 | b2
    · rw [if_pos b2]
      go_enter Try.func16, Try.ntmps16
      go_wp2
      go_ret2
      exact ⟨rfl, rfl⟩
    · have b3 : (h &&& 255#64 == 0#64) = false := by simpa using b2
      rw [if_neg b2]
      go_enter Try.func16, Try.ntmps16
      go_wp2
      go_ret2
      exact ⟨rfl, rfl⟩
def nextS (h : BitVec 64) : BitVec 64 × Int :=
  if h >>> 8 < 1#64 ∨ 281474976710654#64 < h >>> 8 then (0#64, 2) else (h >>> 8 <<< 8 + 256#64, 0)
theorem next_bd (h : BitVec 64) : (281474976710656#64 ≤ h >>> 8 + 1#64) = (281474976710655#64 ≤ h >>> 8) := by
  simp only [bvle, BitVec.toNat_add, BitVec.toNat_ushiftRight, Nat.shiftRight_eq_div_pow]
  have := h.isLt
  apply propext
  have e : (1#64).toNat = 1 := rfl
  have e2 : (281474976710656#64).toNat = 281474976710656 := rfl
  have e3 : (281474976710655#64).toNat = 281474976710655 := rfl
  rw [e, e2, e3]
  omega
set_option maxHeartbeats 1000000 in
theorem Next_any (h : BitVec 64) (w : World) :
    Calls Try.prog 17 #[.int .u64 (UV h)] w fun e w' => e = .returned (.tuple #[.int .u64 (UV (nextS h).1), .int .i64 (nextS h).2]) ∧ w = w' := by
  unfold nextS
  rcases inB_cases 1#64 281474976710654#64 281474976710655#64 (h >>> 8) (by decide) (by decide) with ⟨a1, c1, b1⟩ | ⟨a1, c1, d1, e1, f1, b1⟩ | ⟨a1, c1, d1, e1, b1⟩
  · rw [if_pos b1]; clear b1
    go_enter Try.func17, Try.ntmps17
    go_wp2
    go_ret2
    exact ⟨rfl, rfl⟩
  · rw [if_pos b1]; clear b1
    go_enter Try.func17, Try.ntmps17
    go_wp2
    go_ret2
    exact ⟨rfl, rfl⟩
  · rw [if_neg b1]; clear b1
    go_enter Try.func17, Try.ntmps17
    go_wp2
    go_ret2
    exact ⟨rfl, rfl⟩
set_option maxHeartbeats 1000000 in
theorem NextR_any (h : BitVec 64) (w : World) :
    Calls Try.prog 18 #[.int .u64 (UV h)] w fun e w' => e = .returned (.tuple #[.int .u64 (UV (nextS h).1), .int .i64 (nextS h).2]) ∧ w = w' := by
  unfold nextS
  rcases inB_cases 1#64 281474976710654#64 281474976710655#64 (h >>> 8) (by decide) (by decide) with ⟨a1, c1, b1⟩ | ⟨a1, c1, d1, e1, f1, b1⟩ | ⟨a1, c1, d1, e1, b1⟩
  · rw [if_pos b1]; clear b1
    go_enter Try.func18, Try.ntmps18
    go_wp2
    go_ret2
    exact ⟨rfl, rfl⟩
  · rw [if_pos b1]; clear b1
    have g1 : 281474976710656#64 ≤ h >>> 8 + 1#64 := by rw [next_bd]; exact e1
    go_enter Try.func18, Try.ntmps18
    go_wp2
    go_ret2
    exact ⟨rfl, rfl⟩
  · rw [if_neg b1]; clear b1
    have g1 : ¬ 281474976710656#64 ≤ h >>> 8 + 1#64 := by rw [next_bd]; exact d1
    go_enter Try.func18, Try.ntmps18
    go_wp2
    go_ret2
    exact ⟨rfl, rfl⟩
def keyS (n : Int) (o : Bool) : BitVec 64 × Int :=
  if n < 0 ∨ 15 < n then (0#64, 2) else if o = true then (BitVec.ofInt 64 n * 2#64 + 1#64, 0) else (BitVec.ofInt 64 n * 2#64, 0)
theorem key_two (n : Int) : BitVec.ofInt 64 (2 * n) = BitVec.ofInt 64 n * 2#64 := by
  rw [BitVec.ofInt_mul, BitVec.mul_comm]; rfl
set_option maxHeartbeats 1000000 in
theorem Key_any (n : Int) (o : Bool) (w : World) :
    Calls Try.prog 24 #[.int .i64 n, .bool o] w fun e w' => e = .returned (.tuple #[.int .u64 (UV (keyS n o).1), .int .i64 (keyS n o).2]) ∧ w = w' := by
  unfold keyS
  rcases inI_cases' 0 15 16 n rfl with ⟨a1, b1⟩ | ⟨a1, ⟨c1, x1⟩, d1, b1⟩ | ⟨a1, ⟨c1, x1⟩, b1⟩
  · rw [if_pos b1]; clear b1
    go_enter Try.func24, Try.ntmps24
    go_wp2
    go_ret2
    exact ⟨rfl, rfl⟩
  · rw [if_pos b1]; clear b1
    go_enter Try.func24, Try.ntmps24
    go_wp2
    go_ret2
    exact ⟨rfl, rfl⟩
  · rw [if_neg b1]; clear b1
    rcases (Decidable.em (o = true)) with b2 | b2
    · rw [if_pos b2]; subst b2
      go_enter Try.func24, Try.ntmps24
      go_wp2
      go_ret2
      exact ⟨rfl, rfl⟩
    · have b3 : o = false := by simpa using b2
      rw [if_neg b2]; subst b3
      go_enter Try.func24, Try.ntmps24
      go_wp2
      go_ret2
      exact ⟨rfl, rfl⟩
set_option maxHeartbeats 1000000 in
theorem KeyR_any (n : Int) (o : Bool) (w : World) :
    Calls Try.prog 25 #[.int .i64 n, .bool o] w fun e w' => e = .returned (.tuple #[.int .u64 (UV (keyS n o).1), .int .i64 (keyS n o).2]) ∧ w = w' := by
  unfold keyS
  rcases inI_cases' 0 15 16 n rfl with ⟨a1, b1⟩ | ⟨a1, ⟨c1, x1⟩, d1, b1⟩ | ⟨a1, ⟨c1, x1⟩, b1⟩
  · rw [if_pos b1]; clear b1
    go_enter Try.func25, Try.ntmps25
    go_wp2
    go_ret2
    exact ⟨by first | rfl | (rw [← key_two]; rfl), rfl⟩
  · rw [if_pos b1]; clear b1
    go_enter Try.func25, Try.ntmps25
    go_wp2
    go_ret2
    exact ⟨by first | rfl | (rw [← key_two]; rfl), rfl⟩
  · rw [if_neg b1]; clear b1
    rcases (Decidable.em (o = true)) with b2 | b2
    · rw [if_pos b2]; subst b2
      go_enter Try.func25, Try.ntmps25
      go_wp2
      go_ret2
      exact ⟨by first | rfl | (rw [← key_two]; rfl), rfl⟩
    · have b3 : o = false := by simpa using b2
      rw [if_neg b2]; subst b3
      go_enter Try.func25, Try.ntmps25
      go_wp2
      go_ret2
      exact ⟨by first | rfl | (rw [← key_two]; rfl), rfl⟩
def markS (s : Int) : BitVec 64 × Int := if s < 1 ∨ 1073741823 < s then (0#64, 2) else (BitVec.ofInt 64 s <<< 2 ||| 2#64, 0)
set_option maxHeartbeats 1000000 in
theorem Mark_any (s : Int) (w : World) :
    Calls Try.prog 26 #[.int .i64 s] w fun e w' => e = .returned (.tuple #[.int .u64 (UV (markS s).1), .int .i64 (markS s).2]) ∧ w = w' := by
  unfold markS
  rcases inI_cases' 1 1073741823 1073741824 s rfl with ⟨a1, b1⟩ | ⟨a1, ⟨c1, x1⟩, d1, b1⟩ | ⟨a1, ⟨c1, x1⟩, b1⟩
  · rw [if_pos b1]; clear b1
    go_enter Try.func26, Try.ntmps26
    go_wp2
    go_ret2
    exact ⟨rfl, rfl⟩
  · rw [if_pos b1]; clear b1
    go_enter Try.func26, Try.ntmps26
    go_wp2
    go_ret2
    exact ⟨rfl, rfl⟩
  · rw [if_neg b1]; clear b1
    go_enter Try.func26, Try.ntmps26
    go_wp2
    go_ret2
    exact ⟨rfl, rfl⟩
set_option maxHeartbeats 1000000 in
theorem MarkR_any (s : Int) (w : World) :
    Calls Try.prog 27 #[.int .i64 s] w fun e w' => e = .returned (.tuple #[.int .u64 (UV (markS s).1), .int .i64 (markS s).2]) ∧ w = w' := by
  unfold markS
  rcases inI_cases' 1 1073741823 1073741824 s rfl with ⟨a1, b1⟩ | ⟨a1, ⟨c1, x1⟩, d1, b1⟩ | ⟨a1, ⟨c1, x1⟩, b1⟩
  · rw [if_pos b1]; clear b1
    go_enter Try.func27, Try.ntmps27
    go_wp2
    go_ret2
    exact ⟨rfl, rfl⟩
  · rw [if_pos b1]; clear b1
    go_enter Try.func27, Try.ntmps27
    go_wp2
    go_ret2
    exact ⟨rfl, rfl⟩
  · rw [if_neg b1]; clear b1
    go_enter Try.func27, Try.ntmps27
    go_wp2
    go_ret2
    exact ⟨rfl, rfl⟩
end Go.Proofs.Ytjajmfgbehiefaa
