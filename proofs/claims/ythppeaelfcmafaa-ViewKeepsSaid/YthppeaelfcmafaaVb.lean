/- The walk of view.Valid. Own work. -/
import Derived.Test.YthppeaelfcmafaaVa
import Derived.Test.YthppeaelfcmafaaLive
import Derived.Deep.QuietTactic
import Derived.BigQuiet
namespace Go.Proofs.Ythppeaelfcmafaa
open Go.RowKit
set_option linter.unusedVariables false
theorem nodesB_true {nodes : Int} (h : 1 ≤ nodes ∧ nodes ≤ 5) : nodesB nodes = true := decide_eq_true h
theorem nodesB_false {nodes : Int} (h : ¬ (1 ≤ nodes ∧ nodes ≤ 5)) : nodesB nodes = false := decide_eq_false h
set_option maxHeartbeats 4000000 in
set_option maxRecDepth 100000 in
theorem Valid_any (num nodes : Int) (v : Value) (ms : List Mb) (w : World) (h : SlM w v ms) :
    Calls Try.prog 19 #[.agg #[.int .i64 num, v], .int .i64 nodes] w fun e w' => e = .returned (.int .i64 (validV num ms nodes)) ∧ Below w.heap.size w w' := by
  obtain ⟨a, c, rfl⟩ := h.form
  have hm := h.small
  have hm2 : ms.length ≤ 9223372036854775807 := by unfold maxLen at hm; omega
  clear hm
  obtain ⟨n, hn⟩ : ∃ n, n = ms.length := ⟨_, rfl⟩
  rw [← hn] at h hm2 ⊢
  have H := Lib.hid h
  have HN := Lib.hid hn
  have HB := Lib.hid (box_below w (.cells #[.int .i64 num, .slice a n c] 28))
  clear h hn
  by_cases g1 : 1 ≤ nodes ∧ nodes ≤ 5
  case neg =>
    have R := Lib.hid (validV_nodes (num := num) (ms := ms) g1)
    have g1b := nodesB_false g1
    clear g1
    go_enter Try.func19, Try.ntmps19
    go_wp2_with (go_at_call 35; refine (isNodes_any _ _).mono ?_; rintro e w' ⟨rfl, rfl⟩)
    go_ret
    exact ⟨by rw [R.out]; rfl, HB.out⟩
  case pos =>
  have G1 := Lib.hid g1
  have g1b := nodesB_true g1
  clear g1
  by_cases g2 : 0 ≤ num
  case neg =>
    have R := Lib.hid (validV_num (num := num) (ms := ms) G1.out (fun h => g2 h.1))
    have g2' : num < 0 := by omega
    clear g2
    go_enter Try.func19, Try.ntmps19
    go_wp2_with (go_at_call 35; refine (isNodes_any _ _).mono ?_; rintro e w' ⟨rfl, rfl⟩)
    go_ret
    exact ⟨by rw [R.out]; rfl, HB.out⟩
  case pos =>
  by_cases g3 : num < 16
  case neg =>
    have R := Lib.hid (validV_num (num := num) (ms := ms) G1.out (fun h => g3 h.2))
    have g3' : 16 ≤ num := by omega
    have g2' : ¬ num < 0 := by omega
    clear g3
    go_enter Try.func19, Try.ntmps19
    go_wp2_with (go_at_call 35; refine (isNodes_any _ _).mono ?_; rintro e w' ⟨rfl, rfl⟩)
    go_ret
    exact ⟨by rw [R.out]; rfl, HB.out⟩
  case pos =>
  have G2 : Hid (0 ≤ num ∧ num < 16) := ⟨g2, g3⟩
  by_cases g4 : n = 0
  case pos =>
    have R := Lib.hid (validV_nil (num := num) (ms := ms) G1.out G2.out (by rw [← HN.out]; exact g4))
    subst g4
    go_enter Try.func19, Try.ntmps19
    go_wp2_with (go_at_call 35; refine (isNodes_any _ _).mono ?_; rintro e w' ⟨rfl, rfl⟩)
    go_ret
    exact ⟨by rw [R.out]; rfl, HB.out⟩
  case neg =>
  have g4' : ((n : Int) == 0) = false := by rw [beq_eq_false_iff_ne]; omega
  have G4 : Hid (ms.length ≠ 0) := by show ms.length ≠ 0; rw [← HN.out]; exact g4
  have hpos : 0 < n := by omega
  obtain ⟨b, o, rfl, hb, hcl⟩ := H.out.at_ hpos
  have HC := Lib.hid hcl
  clear hcl
  go_enter Try.func19, Try.ntmps19
  go_wp2_with (go_at_call 35; refine (isNodes_any _ _).mono ?_; rintro e w' ⟨rfl, rfl⟩)
  clear g1b g4'
  have L0 : Hid (Live w (w.alloc (.cells #[.int .i64 num, .slice (some ⟨b, o, none⟩) n c] 28)) _) := (Live.start w).alloc _ _
  go_loopw [5, 30] (fun _ i wr => ∃ k : Nat, k ≤ n ∧ i = .int .i64 k ∧ Hid (∀ j, j < k → AscM nodes ms j) ∧ Hid (Live w wr [(w.heap.size, 28, #[.int .i64 num, .slice (some ⟨b, o, none⟩) n c])])) (fun _ i _ => n - (intOf i).toNat)
  case atStart => exact ⟨0, by omega, rfl, (fun j hj => absurd hj (Nat.not_lt_zero _) : ∀ j, j < 0 → AscM nodes ms j), L0.out⟩
  case round =>
    obtain ⟨k, hk, rfl, A, L⟩ := hrel
    have hlw := L.out.l0
    have hbw : b < wr.heap.size := by omega
    have cb := L.out.c0
    have HC1 : Hid (∀ j, j < n → MbAt wr b (o + j * 3) (Mb.at ms j)) := fun j hj => ((HC.out j hj).below L.out.below hb)
    by_cases hlt : k < n
    · have hltI : (k : Int) < n := by omega
      have q := HC1.out k hlt
      unfold MbAt at q
      obtain ⟨q0, q1, q2⟩ := q
      have hA : Hid (¬ AscM nodes ms k → validV num ms nodes = 1) := fun hh => validV_asc G1.out G2.out G4.out (fun h => hh (h k (by rw [← HN.out]; exact hlt)))
      have hAs : Hid (AscM nodes ms k ↔ (0 ≤ (Mb.at ms k).n ∧ (Mb.at ms k).n < nodes ∧ (0 < k → (Mb.at ms (k - 1)).n < (Mb.at ms k).n))) := Iff.rfl
      by_cases k0 : k = 0
      · have kI : decide (0 < k) = false := decide_eq_false (by omega)
        have kJ : decide ((0 : Int) < (k : Int)) = false := decide_eq_false (by omega)
        generalize Mb.at ms k = x at *
        obtain ⟨xn, xb, xf⟩ := x
        dsimp only at q0 q1 q2
        by_cases k1 : 0 ≤ xn
        case neg =>
          have R := Lib.hid (hA.out (fun h => k1 (hAs.out.1 h).1))
          have k1' : decide (xn < 0) = true := decide_eq_true (by omega)
          clear k1 k0
          go_wp2_with fail
          go_quiet (fail)
          go_wp2
          go_ret
          exact ⟨by rw [R.out]; rfl, ((L.out.alloc _ _).drewN _).below⟩
        case pos =>
        have k1' : decide (xn < 0) = false := decide_eq_false (by omega)
        by_cases k2 : xn < nodes
        case neg =>
          have R := Lib.hid (hA.out (fun h => k2 (hAs.out.1 h).2.1))
          have k2' : decide (nodes ≤ xn) = true := decide_eq_true (by omega)
          clear k1 k0 k2
          go_wp2_with fail
          go_quiet (fail)
          go_wp2
          go_ret
          exact ⟨by rw [R.out]; rfl, ((L.out.alloc _ _).drewN _).below⟩
        case pos =>
          have K : Hid (AscM nodes ms k) := hAs.out.2 ⟨k1, k2, fun h => absurd h (by omega)⟩
          have k2' : decide (nodes ≤ xn) = false := decide_eq_false (by omega)
          clear k1 k2 k0
          go_wp2_with fail
          go_quiet (fail)
          go_wp2
          go_roundw
          case rel =>
            refine ⟨k + 1, by omega, by go_num, fun j hj => ?_, ((L.out.alloc _ _).drewN _).tail⟩
            rcases (show j < k ∨ j = k by omega) with h3 | h3
            · exact A.out j h3
            · rw [h3]; exact K.out
          case measure => simp [intOf]; omega
      · have kI : decide (0 < k) = true := decide_eq_true (by omega)
        have kJ : decide ((0 : Int) < (k : Int)) = true := decide_eq_true (by omega)
        have r := HC1.out (k - 1) (by omega)
        unfold MbAt at r
        obtain ⟨r0, _, _⟩ := r
        have e1 : (k : Int) - 1 = ((k - 1 : Nat) : Int) := by omega
        have e2 : ((k - 1 : Nat) : Int) < n := by omega
        generalize Mb.at ms k = x at *
        obtain ⟨xn, xb, xf⟩ := x
        generalize Mb.at ms (k - 1) = y at *
        obtain ⟨yn, yb, yf⟩ := y
        dsimp only at q0 q1 q2 r0
        by_cases k1 : 0 ≤ xn
        case neg =>
          have R := Lib.hid (hA.out (fun h => k1 (hAs.out.1 h).1))
          have k1' : decide (xn < 0) = true := decide_eq_true (by omega)
          clear k1 k0
          go_wp2_with fail
          go_quiet (fail)
          go_wp2
          go_ret
          exact ⟨by rw [R.out]; rfl, ((L.out.alloc _ _).drewN _).below⟩
        case pos =>
        have k1' : decide (xn < 0) = false := decide_eq_false (by omega)
        by_cases k2 : xn < nodes
        case neg =>
          have R := Lib.hid (hA.out (fun h => k2 (hAs.out.1 h).2.1))
          have k2' : decide (nodes ≤ xn) = true := decide_eq_true (by omega)
          clear k1 k0 k2
          go_wp2_with fail
          go_quiet (fail)
          go_wp2
          go_ret
          exact ⟨by rw [R.out]; rfl, ((L.out.alloc _ _).drewN _).below⟩
        case pos =>
        have k2' : decide (nodes ≤ xn) = false := decide_eq_false (by omega)
        by_cases k3 : yn < xn
        case neg =>
          have R := Lib.hid (hA.out (fun h => k3 ((hAs.out.1 h).2.2 (by omega))))
          have k3' : decide (xn ≤ yn) = true := decide_eq_true (by omega)
          clear k1 k0 k2 k3
          go_wp2_with fail
          go_quiet (fail)
          go_wp2
          go_ret
          exact ⟨by rw [R.out]; rfl, ((L.out.alloc _ _).drewN _).below⟩
        case pos =>
          have K : Hid (AscM nodes ms k) := hAs.out.2 ⟨k1, k2, fun _ => k3⟩
          have k3' : decide (xn ≤ yn) = false := decide_eq_false (by omega)
          clear k1 k2 k0 k3
          go_wp2_with fail
          go_quiet (fail)
          go_wp2
          go_roundw
          case rel =>
            refine ⟨k + 1, by omega, by go_num, fun j hj => ?_, ((L.out.alloc _ _).drewN _).tail⟩
            rcases (show j < k ∨ j = k by omega) with h3 | h3
            · exact A.out j h3
            · rw [h3]; exact K.out
          case measure => simp [intOf]; omega
    · have hkn : k = n := by omega
      subst hkn
      have G5 : Hid (∀ j, j < ms.length → AscM nodes ms j) := fun j hj => A.out j (by rw [HN.out]; exact hj)
      go_wp2_with fail
      go_loopw [64] (fun i w2 => ∃ j : Nat, j ≤ k ∧ i = .int .i64 j ∧ Hid (∀ l, l < j → BootM ms l) ∧ Hid (Live w w2 [(w.heap.size, 28, #[.int .i64 num, .slice (some ⟨b, o, none⟩) k c])])) (fun i _ => k - (intOf i).toNat)
      case atStart => exact ⟨0, by omega, rfl, (fun j hj => absurd hj (Nat.not_lt_zero _) : ∀ j, j < 0 → BootM ms j), L.out⟩
      case round =>
        obtain ⟨j, hj, rfl, A2, L2⟩ := hrel
        have hlw2 := L2.out.l0
        have hbw2 : b < wr.heap.size := by omega
        have cb2 := L2.out.c0
        clear cb hlw hbw HC1
        by_cases hlt2 : j < k
        · have hltI : (j : Int) < k := by omega
          have q := (HC.out j hlt2).below L2.out.below hb
          unfold MbAt at q
          obtain ⟨q0, q1, q2⟩ := q
          have hA : Hid (¬ BootM ms j → validV num ms nodes = 2) := fun hh => validV_boot G1.out G2.out G4.out G5.out (fun h => hh (h j (by rw [← HN.out]; exact hlt2)))
          have hAs : Hid (BootM ms j ↔ (1 ≤ (Mb.at ms j).b ∧ (Mb.at ms j).b ≤ 31)) := Iff.rfl
          generalize Mb.at ms j = x at *
          obtain ⟨xn, xb, xf⟩ := x
          dsimp only at q0 q1 q2
          by_cases k1 : 1 ≤ xb
          case neg =>
            have R := Lib.hid (hA.out (fun h => k1 (hAs.out.1 h).1))
            have k1' : decide (xb < 1) = true := decide_eq_true (by omega)
            clear k1
            go_wp2_with fail
            go_ret
            exact ⟨by rw [R.out]; rfl, (L2.out.alloc _ _).below⟩
          case pos =>
          have k1' : decide (xb < 1) = false := decide_eq_false (by omega)
          by_cases k2 : xb ≤ 31
          case neg =>
            have R := Lib.hid (hA.out (fun h => k2 (hAs.out.1 h).2))
            have k2' : decide (31 < xb) = true := decide_eq_true (by omega)
            clear k1 k2
            go_wp2_with fail
            go_ret
            exact ⟨by rw [R.out]; rfl, (L2.out.alloc _ _).below⟩
          case pos =>
            have K : Hid (BootM ms j) := hAs.out.2 ⟨k1, k2⟩
            have k2' : decide (31 < xb) = false := decide_eq_false (by omega)
            clear k1 k2
            go_wp2_with fail
            go_roundw
            case rel =>
              refine ⟨j + 1, by omega, by go_num, fun l hl => ?_, (L2.out.alloc _ _).tail⟩
              rcases (show l < j ∨ l = j by omega) with h3 | h3
              · exact A2.out l h3
              · rw [h3]; exact K.out
            case measure => simp [intOf]; omega
        · have hkn : j = k := by omega
          subst hkn
          have G6 : Hid (∀ l, l < ms.length → BootM ms l) := fun l hl => A2.out l (by rw [HN.out]; exact hl)
          go_wp2_with fail
          refine (ContainsFull_any _ ms _ (H.out.below L2.out.below)).mono ?_
          rintro e w3 ⟨rfl, hb3⟩
          have L3 := Lib.hid (L2.out.call hb3)
          cases hf : ms.any Mb.f with
          | true =>
            have R := Lib.hid (validV_ok G1.out G2.out G4.out G5.out G6.out hf)
            clear hf hb3
            go_wp2_with fail
            go_ret
            exact ⟨by rw [R.out]; rfl, L3.out.below⟩
          | false =>
            have R := Lib.hid (validV_full G1.out G2.out G4.out G5.out G6.out hf)
            clear hf hb3
            go_wp2_with fail
            go_ret
            exact ⟨by rw [R.out]; rfl, L3.out.below⟩
end Go.Proofs.Ythppeaelfcmafaa
