/- The contract of bodegahand.Pick: the remainder that is not negative. Own work. -/
import Derived.Test.YthppeaelfcmafaaBv
namespace Go.Proofs.Ythppeaelfcmafaa
open Go.RowKit
set_option linter.unusedVariables false
theorem pick_emod (n k : Int) (h : 1 ≤ k) : (n.tmod k + k) % k = n % k := by
  rw [Int.add_emod_right, Int.tmod_eq_emod]
  split
  · show (n % k - 0) % k = _; rw [Int.sub_zero, Int.emod_emod_of_dvd _ (Int.dvd_refl k)]
  · rw [Int.natAbs_of_nonneg (by omega), Int.sub_emod, Int.emod_self]; simp
theorem Pick_any (n k : Int) (w : World) (hb : 1 ≤ k) (hb2 : k ≤ 4611686018427387903) :
    Calls Try.prog 10 #[.int .i64 n, .int .i64 k] w fun e w' => e = .returned (.int .i64 (n % k)) ∧ w = w' := by
  have h1 := Int.tmod_lt_of_pos n (show 0 < k by omega)
  have h2 := Int.lt_tmod_of_pos n (show 0 < k by omega)
  have H := Lib.hid (pick_emod n k hb)
  go_enter Try.func10, Try.ntmps10
  go_wp2
  go_ret
  refine ⟨?_, rfl⟩
  rw [← H.out]
  rfl
/-- The same, the remainder as a new number. -/
theorem Pick_ex (n k : Int) (w : World) (hb : 1 ≤ k) (hb2 : k ≤ 4611686018427387903) :
    Calls Try.prog 10 #[.int .i64 n, .int .i64 k] w fun e w' => ∃ r : Int, e = .returned (.int .i64 r) ∧ 0 ≤ r ∧ r < k ∧ Hid (r = n % k) ∧ w = w' :=
  (Pick_any n k w hb hb2).mono fun e w' ⟨he, hw⟩ => ⟨n % k, he, Int.emod_nonneg _ (by omega), Int.emod_lt_of_pos _ (by omega), rfl, hw⟩
/-- Inside a region that draws: the remainder as a new natural number. -/
theorem call_pick {W : World} {K : Value → Prop} (n k : Int) (hb : 1 ≤ k) (hb2 : k ≤ 4611686018427387903) (h : ∀ j : Nat, (j : Int) < k → Hid ((j : Int) = n % k) → K (.int .i64 (j : Int))) :
    ∃ v, Calls Try.prog 10 #[.int .i64 n, .int .i64 k] W (fun e w'' => e = .returned v ∧ w'' = W) ∧ K v := by
  obtain ⟨j, hj⟩ := Int.eq_ofNat_of_zero_le (Int.emod_nonneg n (show k ≠ 0 by omega))
  have hlt := Int.emod_lt_of_pos n (show 0 < k by omega)
  refine ⟨_, (Pick_any n k W hb hb2).mono fun e w' ⟨he, hw⟩ => ⟨he, hw.symm⟩, ?_⟩
  rw [hj]
  exact h j (by omega) hj.symm
end Go.Proofs.Ythppeaelfcmafaa
