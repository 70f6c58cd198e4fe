/- The walks of the epoch page. Own work. -/
import Derived.Test.YtiababibapcmnaaPg
namespace Go.Proofs.Ytiababibapcmnaa
open Go.RowKit
set_option linter.unusedVariables false
def zB (d1 d2 d3 d4 d5 d6 : BitVec 64) : Bool := d1 == 0#64 && (d2 == 0#64 && (d3 == 0#64 && (d4 == 0#64 && (d5 == 0#64 && d6 == 0#64))))
def readE (l : Int) (d0 d1 d2 d3 d4 d5 d6 : BitVec 64) : BitVec 32 × Int :=
  if (l != 97) = true then (0#32, 1) else if zB d1 d2 d3 d4 d5 d6 = true then (if 4294967295#64 < d0 then (0#32, 14) else (d0.setWidth 32, 0)) else (0#32, 14)
theorem box_below (w : World) (o : Obj) : Below w.heap.size w (w.alloc o) := (Below.refl _ _).alloc (Nat.le_refl _) _
set_option maxRecDepth 100000 in
set_option maxHeartbeats 2000000 in
theorem ReadEpoch_any (l : Int) (h d0 d1 d2 d3 d4 d5 d6 : BitVec 64) (w : World) :
    Calls Try.prog 5 #[pageV l h d0 d1 d2 d3 d4 d5 d6] w fun e w' => e = .returned (.tuple #[.int .u32 (UV (readE l d0 d1 d2 d3 d4 d5 d6).1), .int .i64 (readE l d0 d1 d2 d3 d4 d5 d6).2]) ∧ Below w.heap.size w w' := by
  unfold pageV readE
  rcases Bool.eq_false_or_eq_true (l != 97) with b1 | b1
  · rw [if_pos b1]
    go_enter Try.func5, Try.ntmps5
    go_wp2
    go_ret2
    exact ⟨rfl, box_below _ _⟩
  · rw [if_neg (by simp [b1])]
    rcases Bool.eq_false_or_eq_true (zB d1 d2 d3 d4 d5 d6) with b2 | b2
    · rw [if_pos b2]
      unfold zB at b2
      by_cases b3 : 4294967295#64 < d0
      · rw [if_pos b3]
        go_enter Try.func5, Try.ntmps5
        go_wp2
        go_ret2
        exact ⟨rfl, box_below _ _⟩
      · rw [if_neg b3]
        go_enter Try.func5, Try.ntmps5
        go_wp2
        go_ret2
        exact ⟨rfl, box_below _ _⟩
    · rw [if_neg (by simp [b2])]
      unfold zB at b2
      go_enter Try.func5, Try.ntmps5
      go_wp2
      go_ret2
      exact ⟨rfl, box_below _ _⟩
theorem zB_eq (d1 d2 d3 d4 d5 d6 : BitVec 64) : zB d1 d2 d3 d4 d5 d6 = true ↔ d1 = 0#64 ∧ d2 = 0#64 ∧ d3 = 0#64 ∧ d4 = 0#64 ∧ d5 = 0#64 ∧ d6 = 0#64 := by
  unfold zB; simp
def dsel (d1 d2 d3 d4 d5 d6 : BitVec 64) (k : Nat) : BitVec 64 := if k = 1 then d1 else if k = 2 then d2 else if k = 3 then d3 else if k = 4 then d4 else if k = 5 then d5 else d6
theorem readE_line (l : Int) (d0 d1 d2 d3 d4 d5 d6 : BitVec 64) (h : (l != 97) = true) : readE l d0 d1 d2 d3 d4 d5 d6 = (0#32, 1) := by unfold readE; rw [if_pos h]
theorem readE_bad (l : Int) (d0 d1 d2 d3 d4 d5 d6 : BitVec 64) (h : (l != 97) = false) (k : Nat) (h1 : 1 ≤ k) (h2 : k < 7) (hk : dsel d1 d2 d3 d4 d5 d6 k ≠ 0#64) : readE l d0 d1 d2 d3 d4 d5 d6 = (0#32, 14) := by
  unfold readE
  rw [if_neg (by simp [h]), if_neg]
  rw [zB_eq]
  intro e
  apply hk
  obtain ⟨e1, e2, e3, e4, e5, e6⟩ := e
  rcases (show k = 1 ∨ k = 2 ∨ k = 3 ∨ k = 4 ∨ k = 5 ∨ k = 6 by omega) with rfl | rfl | rfl | rfl | rfl | rfl <;> simp [dsel, e1, e2, e3, e4, e5, e6]
theorem readE_big (l : Int) (d0 d1 d2 d3 d4 d5 d6 : BitVec 64) (h : (l != 97) = false) (hz : zB d1 d2 d3 d4 d5 d6 = true) (hb : 4294967295#64 < d0) : readE l d0 d1 d2 d3 d4 d5 d6 = (0#32, 14) := by
  unfold readE; rw [if_neg (by simp [h]), if_pos hz, if_pos hb]
theorem readE_ok (l : Int) (d0 d1 d2 d3 d4 d5 d6 : BitVec 64) (h : (l != 97) = false) (hz : zB d1 d2 d3 d4 d5 d6 = true) (hb : ¬ 4294967295#64 < d0) : readE l d0 d1 d2 d3 d4 d5 d6 = (d0.setWidth 32, 0) := by
  unfold readE; rw [if_neg (by simp [h]), if_pos hz, if_neg hb]
set_option maxRecDepth 100000 in
set_option maxHeartbeats 8000000 in
theorem ReadEpochR_any (l : Int) (h d0 d1 d2 d3 d4 d5 d6 : BitVec 64) (w : World) :
    Calls Try.prog 6 #[pageV l h d0 d1 d2 d3 d4 d5 d6] w fun e w' => e = .returned (.tuple #[.int .u32 (UV (readE l d0 d1 d2 d3 d4 d5 d6).1), .int .i64 (readE l d0 d1 d2 d3 d4 d5 d6).2]) ∧ Below w.heap.size w w' := by
  unfold pageV
  rcases Bool.eq_false_or_eq_true (l != 97) with b1 | b1
  · rw [readE_line l d0 d1 d2 d3 d4 d5 d6 b1]
    go_enter Try.func6, Try.ntmps6
    go_wp2
    go_ret2
    exact ⟨rfl, box_below _ _⟩
  · have hz := Lib.hid (zB_eq d1 d2 d3 d4 d5 d6)
    have hb := box_below w (.cells #[.int .i64 l, .int .u64 (UV h), .int .u64 (UV d0), .int .u64 (UV d1), .int .u64 (UV d2), .int .u64 (UV d3), .int .u64 (UV d4), .int .u64 (UV d5), .int .u64 (UV d6)] 25)
    have HB := Lib.hid hb
    have B1 := Lib.hid b1
    clear hb
    go_enter Try.func6, Try.ntmps6
    go_wp2
    clear b1
    go_loop [4] (fun i => ∃ k : Nat, 1 ≤ k ∧ k ≤ 7 ∧ i = .int .i64 k ∧ Hid (∀ j, 1 ≤ j → j < k → dsel d1 d2 d3 d4 d5 d6 j = 0#64)) (fun i => 7 - (intOf i).toNat)
    case atStart => exact ⟨1, by omega, by omega, rfl, fun j h1 h2 => by omega⟩
    case round =>
      obtain ⟨k, hk1, hk2, rfl, hj⟩ := hrel
      rcases (show k = 1 ∨ k = 2 ∨ k = 3 ∨ k = 4 ∨ k = 5 ∨ k = 6 ∨ k = 7 by omega) with rfl | rfl | rfl | rfl | rfl | rfl | rfl
      · rcases Bool.eq_false_or_eq_true (d1 != 0#64) with c | c
        · have R := Lib.hid (readE_bad l d0 d1 d2 d3 d4 d5 d6 B1.out 1 (by omega) (by omega) (by simpa [dsel] using c))
          go_wp2
          go_ret2
          exact ⟨by rw [R.out]; rfl, HB.out⟩
        · have c' : d1 = 0#64 := by simpa using c
          have C := Lib.hid c'
          clear c'
          go_wp2
          go_round
          case rel =>
            refine ⟨2, by omega, by omega, rfl, fun j h1 h2 => ?_⟩
            rcases (show j < 1 ∨ j = 1 by omega) with h3 | h3
            · exact hj.out j h1 h3
            · subst h3; simpa [dsel] using C.out
          case measure => simp [intOf]
      · rcases Bool.eq_false_or_eq_true (d2 != 0#64) with c | c
        · have R := Lib.hid (readE_bad l d0 d1 d2 d3 d4 d5 d6 B1.out 2 (by omega) (by omega) (by simpa [dsel] using c))
          go_wp2
          go_ret2
          exact ⟨by rw [R.out]; rfl, HB.out⟩
        · have c' : d2 = 0#64 := by simpa using c
          have C := Lib.hid c'
          clear c'
          go_wp2
          go_round
          case rel =>
            refine ⟨3, by omega, by omega, rfl, fun j h1 h2 => ?_⟩
            rcases (show j < 2 ∨ j = 2 by omega) with h3 | h3
            · exact hj.out j h1 h3
            · subst h3; simpa [dsel] using C.out
          case measure => simp [intOf]
      · rcases Bool.eq_false_or_eq_true (d3 != 0#64) with c | c
        · have R := Lib.hid (readE_bad l d0 d1 d2 d3 d4 d5 d6 B1.out 3 (by omega) (by omega) (by simpa [dsel] using c))
          go_wp2
          go_ret2
          exact ⟨by rw [R.out]; rfl, HB.out⟩
        · have c' : d3 = 0#64 := by simpa using c
          have C := Lib.hid c'
          clear c'
          go_wp2
          go_round
          case rel =>
            refine ⟨4, by omega, by omega, rfl, fun j h1 h2 => ?_⟩
            rcases (show j < 3 ∨ j = 3 by omega) with h3 | h3
            · exact hj.out j h1 h3
            · subst h3; simpa [dsel] using C.out
          case measure => simp [intOf]
      · rcases Bool.eq_false_or_eq_true (d4 != 0#64) with c | c
        · have R := Lib.hid (readE_bad l d0 d1 d2 d3 d4 d5 d6 B1.out 4 (by omega) (by omega) (by simpa [dsel] using c))
          go_wp2
          go_ret2
          exact ⟨by rw [R.out]; rfl, HB.out⟩
        · have c' : d4 = 0#64 := by simpa using c
          have C := Lib.hid c'
          clear c'
          go_wp2
          go_round
          case rel =>
            refine ⟨5, by omega, by omega, rfl, fun j h1 h2 => ?_⟩
            rcases (show j < 4 ∨ j = 4 by omega) with h3 | h3
            · exact hj.out j h1 h3
            · subst h3; simpa [dsel] using C.out
          case measure => simp [intOf]
      · rcases Bool.eq_false_or_eq_true (d5 != 0#64) with c | c
        · have R := Lib.hid (readE_bad l d0 d1 d2 d3 d4 d5 d6 B1.out 5 (by omega) (by omega) (by simpa [dsel] using c))
          go_wp2
          go_ret2
          exact ⟨by rw [R.out]; rfl, HB.out⟩
        · have c' : d5 = 0#64 := by simpa using c
          have C := Lib.hid c'
          clear c'
          go_wp2
          go_round
          case rel =>
            refine ⟨6, by omega, by omega, rfl, fun j h1 h2 => ?_⟩
            rcases (show j < 5 ∨ j = 5 by omega) with h3 | h3
            · exact hj.out j h1 h3
            · subst h3; simpa [dsel] using C.out
          case measure => simp [intOf]
      · rcases Bool.eq_false_or_eq_true (d6 != 0#64) with c | c
        · have R := Lib.hid (readE_bad l d0 d1 d2 d3 d4 d5 d6 B1.out 6 (by omega) (by omega) (by simpa [dsel] using c))
          go_wp2
          go_ret2
          exact ⟨by rw [R.out]; rfl, HB.out⟩
        · have c' : d6 = 0#64 := by simpa using c
          have C := Lib.hid c'
          clear c'
          go_wp2
          go_round
          case rel =>
            refine ⟨7, by omega, by omega, rfl, fun j h1 h2 => ?_⟩
            rcases (show j < 6 ∨ j = 6 by omega) with h3 | h3
            · exact hj.out j h1 h3
            · subst h3; simpa [dsel] using C.out
          case measure => simp [intOf]
      · have hzz : zB d1 d2 d3 d4 d5 d6 = true := hz.out.2 ⟨hj.out 1 (by omega) (by omega), hj.out 2 (by omega) (by omega), hj.out 3 (by omega) (by omega), hj.out 4 (by omega) (by omega), hj.out 5 (by omega) (by omega), hj.out 6 (by omega) (by omega)⟩
        have HZ := Lib.hid hzz
        clear hzz
        by_cases b3 : 4294967295#64 < d0
        · have b4 : 4294967296#64 ≤ d0 := by rw [BitVec.lt_def] at b3; rw [BitVec.le_def]; exact b3
          have R := Lib.hid (readE_big l d0 d1 d2 d3 d4 d5 d6 B1.out HZ.out b3)
          go_wp2
          go_ret2
          exact ⟨by rw [R.out]; rfl, HB.out⟩
        · have b4 : ¬ 4294967296#64 ≤ d0 := by rw [BitVec.lt_def] at b3; rw [BitVec.le_def]; exact b3
          have R := Lib.hid (readE_ok l d0 d1 d2 d3 d4 d5 d6 B1.out HZ.out b3)
          go_wp2
          go_ret2
          exact ⟨by rw [R.out]; rfl, HB.out⟩
end Go.Proofs.Ytiababibapcmnaa
