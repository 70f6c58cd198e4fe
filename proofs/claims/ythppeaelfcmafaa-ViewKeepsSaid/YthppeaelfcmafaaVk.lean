/- The walks of view.Primary and of the laws' sanity check. Own work. -/
import Derived.Test.YthppeaelfcmafaaVi
namespace Go.Proofs.Ythppeaelfcmafaa
open Go.RowKit
set_option linter.unusedVariables false
@[go_sem] theorem viewV_eq (n : Int) (v : Value) : viewV n v = .agg #[.int .i64 n, v] := rfl
theorem Mb.at_nil (k : Nat) : Mb.at [] k = ⟨0, 0, false⟩ := by unfold Mb.at; simp
set_option maxHeartbeats 1000000 in
set_option maxRecDepth 100000 in
theorem Primary_any (num : Int) (v : Value) (ms : List Mb) (w : World) (h : SlM w v ms) :
    Calls Try.prog 26 #[.agg #[.int .i64 num, v]] w fun e w' => e = .returned (.tuple #[(Mb.at ms 0).val, .bool (decide (0 < ms.length))]) ∧ Below w.heap.size w w' := by
  obtain ⟨a, c, rfl⟩ := h.form
  obtain ⟨n, hn⟩ : ∃ n, n = ms.length := ⟨_, rfl⟩
  rw [← hn] at h ⊢
  have H := Lib.hid h
  have HN := Lib.hid hn
  clear h hn
  by_cases h0 : n = 0
  · subst h0
    have R : Hid (Mb.at ms 0 = ⟨0, 0, false⟩) := by
      show Mb.at ms 0 = _
      rw [List.eq_nil_of_length_eq_zero HN.out.symm]; exact Mb.at_nil 0
    go_enter Try.func26, Try.ntmps26
    go_wp2
    refine bodyPost_ret (v := .tuple #[(Mb.mk 0 0 false).val, .bool false]) (by simp [results, Try.results26, go_sem, Mb.val]) rfl ⟨by rw [R.out]; rfl, ?_⟩
    repeat (first | exact Below.refl _ _ | (refine Below.alloc ?_ (by simp; try omega) _) | (refine Below.setCell ?_ (by simp) _))
  · have hp : 0 < n := by omega
    have D : Hid (decide (0 < n) = true) := decide_eq_true hp
    have hpI : (0 : Int) < n := by omega
    have hb : ((n : Int) == 0) = false := by rw [beq_eq_false_iff_ne]; omega
    obtain ⟨b, o, rfl, hbl, hcl⟩ := H.out.at_ hp
    have q := hcl 0 hp
    clear hcl
    unfold MbAt at q
    obtain ⟨q0, q1, q2⟩ := q
    generalize Mb.at ms 0 = m at *
    obtain ⟨mn, mb, mf⟩ := m
    dsimp only at q0 q1 q2
    simp only [Nat.zero_mul, Nat.add_zero] at q0 q1 q2
    clear h0
    go_enter Try.func26, Try.ntmps26
    go_wp2
    refine bodyPost_ret (v := .tuple #[(Mb.mk mn mb mf).val, .bool true]) (by simp [results, Try.results26, go_sem, Mb.val]) rfl ⟨by rw [D.out], ?_⟩
    repeat (first | exact Below.refl _ _ | (refine Below.alloc ?_ (by simp; try omega) _) | (refine Below.setCell ?_ (by simp) _))
theorem init1 : initMs 1 = [⟨0, 1, true⟩] ∧ initC 1 = 0 := by decide
theorem value1 : valueV 0 [⟨0, 1, true⟩] = (549755813895#64, 0) := by decide
set_option maxHeartbeats 2000000 in
set_option maxRecDepth 100000 in
theorem awake_any (w : World) : Calls Try.prog 13 #[] w fun e w' => e = .returned (.bool true) ∧ Below w.heap.size w w' := by
  have I := Lib.hid (fun W => Initial_any 1 W)
  rw [init1.1, init1.2] at I
  have V := Lib.hid (fun W v (h : SlM W v [⟨0, 1, true⟩]) => Value_any 0 v _ W h)
  rw [value1] at V
  have P : Hid (∀ W v, SlM W v [⟨0, 1, true⟩] → Calls Try.prog 26 #[.agg #[.int .i64 0, v]] W fun e w' => e = .returned (.tuple #[.agg #[.int .i64 0, .int .i64 1, .bool true], .bool true]) ∧ Below W.heap.size W w') := fun W v h => Primary_any 0 v _ W h
  go_enter Try.func13, Try.ntmps13
  go_wp2_with (first
    | (go_at_call 16; refine (I.out _).mono ?_; rintro e w1 ⟨v, rfl, hv, hb⟩; obtain ⟨a, c, rfl⟩ := hv.form; have L := Lib.hid (((Live.start w).call hb).alloc #[.int .i64 0, .slice a 1 c] 28); have M := Lib.hid (hv.alloc (.cells #[.int .i64 0, .slice a 1 c] 28)); clear hv hb)
    | (go_at_call 11; refine (V.out _ _ M.out).mono ?_; rintro e w2 ⟨rfl, hb⟩; have L2 := Lib.hid (L.out.call hb); have M2 := Lib.hid (M.out.below hb); clear hb; have cb := L2.out.c0)
    | (go_at_call 26; refine (P.out _ _ M2.out).mono ?_; rintro e w3 ⟨rfl, hb⟩; have L3 := Lib.hid (L2.out.call hb); clear hb cb; have cb := L3.out.c0))
  go_ret
  exact ⟨rfl, (L3.out.alloc' _).below⟩
end Go.Proofs.Ythppeaelfcmafaa
