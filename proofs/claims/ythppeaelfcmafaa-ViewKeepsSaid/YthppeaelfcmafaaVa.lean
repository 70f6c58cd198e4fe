/- The walks of views: who is full. Own work. -/
import Derived.Test.YthppeaelfcmafaaVs

namespace Go.Proofs.Ythppeaelfcmafaa
open Go.RowKit
set_option linter.unusedVariables false
def nodesB (nodes : Int) : Bool := decide (1 ≤ nodes ∧ nodes ≤ 5)
theorem isNodes_any (nodes : Int) (w : World) : Calls Try.prog 35 #[.int .i64 nodes] w fun e w' => e = .returned (.bool (nodesB nodes)) ∧ w = w' := by
  by_cases h1 : 1 ≤ nodes
  · by_cases h2 : nodes ≤ 5
    · have R : Hid (nodesB nodes = true) := decide_eq_true ⟨h1, h2⟩
      go_enter Try.func35, Try.ntmps35
      go_wp2
      go_ret
      exact ⟨by rw [R.out]; rfl, rfl⟩
    · have R : Hid (nodesB nodes = false) := decide_eq_false (fun h => h2 h.2)
      go_enter Try.func35, Try.ntmps35
      go_wp2
      go_ret
      exact ⟨by rw [R.out]; rfl, rfl⟩
  · have R : Hid (nodesB nodes = false) := decide_eq_false (fun h => h1 h.1)
    go_enter Try.func35, Try.ntmps35
    go_wp2
    go_ret
    exact ⟨by rw [R.out]; rfl, rfl⟩
theorem isFull_any (n b : Int) (f : Bool) (w : World) : Calls Try.prog 37 #[.agg #[.int .i64 n, .int .i64 b, .bool f]] w fun e w' => e = .returned (.bool f) ∧ Below w.heap.size w w' := by
  go_enter Try.func37, Try.ntmps37
  go_wp2
  go_ret
  exact ⟨rfl, box_below _ _⟩
set_option maxHeartbeats 1000000 in
/-- The place of the first full member, or -1. -/
theorem IndexFull_any (v : Value) (ms : List Mb) (w : World) (h : SlM w v ms) :
    Calls Try.prog 45 #[v, .func (.func 37) #[] #[]] w fun e w' => ∃ i : Int, e = .returned (.int .i64 i) ∧ decide (0 ≤ i) = ms.any Mb.f ∧ Below w.heap.size w w' := by
  obtain ⟨a, c, rfl⟩ := h.form
  have hm := h.small
  have hm2 : ms.length ≤ 9223372036854775807 := by unfold maxLen at hm; omega
  clear hm
  obtain ⟨n, hn⟩ : ∃ n, n = ms.length := ⟨_, rfl⟩
  rw [← hn] at h hm2 ⊢
  have H := Lib.hid h
  have HN := Lib.hid hn
  clear h hn
  go_enter Try.func45, Try.ntmps45
  go_wp2
  go_loopw [5, 8] (fun _ s8 wr => ∃ k : Nat, k ≤ n ∧ s8 = .int .i64 k ∧ Hid (∀ j, j < k → (Mb.at ms j).f = false) ∧ Hid (Below w.heap.size w wr)) (fun _ s8 _ => n - (intOf s8).toNat)
  case atStart => exact ⟨0, Nat.zero_le _, rfl, (fun j hj => absurd hj (Nat.not_lt_zero _) : ∀ j, j < 0 → (Mb.at ms j).f = false), Below.refl _ w⟩
  case round =>
    obtain ⟨k, hk, rfl, A, B⟩ := hrel
    by_cases hlt : k < n
    · have hltz : (k : Int) < (n : Int) := by omega
      obtain ⟨b, o, rfl, hb, hcl⟩ := H.out.at_ hlt
      have h2 := (hcl k hlt).below B.out hb
      unfold MbAt at h2
      obtain ⟨q0, q1, q2⟩ := h2
      clear hcl
      have hx : Hid ((Mb.at ms k).f = (Mb.at ms k).f) := rfl
      rcases hy : Mb.at ms k with ⟨x, y, f⟩
      rw [hy] at q0 q1 q2
      have HY := Lib.hid hy
      clear hy hx
      cases f with
      | true =>
        go_wp2_with (go_at_call 37; refine (isFull_any _ _ _ _).mono ?_; rintro e w' ⟨rfl, hb'⟩)
        go_ret
        refine ⟨_, rfl, ?_, B.out.trans (hb'.mono B.out.size)⟩
        rw [any_true (by rw [← HN.out]; exact hlt) (by rw [HY.out])]
        simp
      | false =>
        go_wp2_with (go_at_call 37; refine (isFull_any _ _ _ _).mono ?_; rintro e w' ⟨rfl, hb'⟩)
        go_roundw
        case rel =>
          refine ⟨k + 1, by omega, by go_num, fun j hj => ?_, B.out.trans (hb'.mono B.out.size)⟩
          rcases (show j < k ∨ j = k by omega) with h3 | h3
          · exact A.out j h3
          · rw [h3, HY.out]
        case measure => simp [intOf]; omega
    · have hkn : k = n := by omega
      subst hkn
      go_wp2
      go_ret
      refine ⟨_, rfl, ?_, B.out⟩
      rw [any_take_false A.out HN.out]
      decide
theorem ContainsFull_any (v : Value) (ms : List Mb) (w : World) (h : SlM w v ms) :
    Calls Try.prog 36 #[v, .func (.func 37) #[] #[]] w fun e w' => e = .returned (.bool (ms.any Mb.f)) ∧ Below w.heap.size w w' := by
  have H := Lib.hid h
  clear h
  go_enter Try.func36, Try.ntmps36
  go_wp2_with (go_at_call 45; refine (IndexFull_any v ms _ H.out).mono ?_; rintro e w' ⟨i, rfl, hi, hb⟩; have HI := Lib.hid hi; clear hi)
  go_ret
  refine ⟨?_, hb⟩
  rw [← HI.out]
  rfl
end Go.Proofs.Ythppeaelfcmafaa
