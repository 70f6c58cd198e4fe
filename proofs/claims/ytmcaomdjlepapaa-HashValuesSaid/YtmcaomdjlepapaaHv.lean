/- The hash function. Own work. -/
import Derived.Test.YtmcaomdjlepapaaBv
namespace Go.Proofs.Ytmcaomdjlepapaa
open Go.RowKit
set_option linter.unusedVariables false
def hashB (k : BitVec 32) : BitVec 32 := k * 2654435769#32 ^^^ (k * 2654435769#32) >>> 16
theorem mix_back (x : BitVec 32) : (x ^^^ x >>> 16) ^^^ (x ^^^ x >>> 16) >>> 16 = x := by
  apply BitVec.eq_of_getLsbD_eq
  intro i hi
  simp only [BitVec.getLsbD_xor, BitVec.getLsbD_ushiftRight]
  have : x.getLsbD (16 + (16 + i)) = false := BitVec.getLsbD_of_ge _ _ (by omega)
  rw [this]
  cases x.getLsbD i <;> cases x.getLsbD (16 + i) <;> rfl
theorem hashB_inj (a b : BitVec 32) (h : hashB a = hashB b) : a = b := by
  unfold hashB at h
  have h1 : a * 2654435769#32 = b * 2654435769#32 := by
    rw [← mix_back (a * 2654435769#32), ← mix_back (b * 2654435769#32), h]
  have h2 : a * 2654435769#32 * 340573321#32 = b * 2654435769#32 * 340573321#32 := by rw [h1]
  rw [BitVec.mul_assoc, BitVec.mul_assoc] at h2
  have h3 : 2654435769#32 * 340573321#32 = 1#32 := by decide
  rw [h3] at h2
  simpa using h2
theorem Hash_any (k : BitVec 32) (w : World) : Calls Try.prog 4 #[.int .u32 (UV k)] w fun e w' => e = .returned (.int .u32 (UV (hashB k))) ∧ w = w' := by
  go_enter Try.func4, Try.ntmps4
  go_wp2
  go_ret
  exact ⟨rfl, rfl⟩
theorem HashR_any (k : BitVec 32) (w : World) : Calls Try.prog 6 #[.int .u32 (UV k)] w fun e w' => e = .returned (.int .u32 (UV (hashB k))) ∧ w = w' := by
  go_enter Try.func6, Try.ntmps6
  go_wp2
  go_ret
  exact ⟨rfl, rfl⟩
theorem awake_any (w : World) : Calls Try.prog 5 #[] w fun e w' => e = .returned (.bool true) ∧ w = w' := by
  have e : hashB 1#32 = 2654463886#32 := by decide
  go_enter Try.func5, Try.ntmps5
  go_wp2_with (go_at_call 4; refine (Hash_any _ _).mono ?_; rintro e w' ⟨rfl, rfl⟩)
  go_ret
  exact ⟨rfl, rfl⟩
end Go.Proofs.Ytmcaomdjlepapaa
