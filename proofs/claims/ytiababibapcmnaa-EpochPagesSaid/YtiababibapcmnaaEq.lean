/- The walks of the epoch page: writing, what is safe. Own work. -/
import Derived.Test.YtiababibapcmnaaEp
namespace Go.Proofs.Ytiababibapcmnaa
open Go.RowKit
set_option linter.unusedVariables false
/-- The page and the code of WriteEpoch. -/
def writeE (p : Pg) (e : BitVec 32) : Pg × Int := if (p.l != 97) = true then (⟨0, 0#64, 0#64, 0#64, 0#64, 0#64, 0#64, 0#64, 0#64⟩, 1) else (⟨p.l, p.h, e.setWidth 64, 0#64, 0#64, 0#64, 0#64, 0#64, 0#64⟩, 0)
theorem writeE_line (p : Pg) (e : BitVec 32) (h : (p.l != 97) = true) : writeE p e = (⟨0, 0#64, 0#64, 0#64, 0#64, 0#64, 0#64, 0#64, 0#64⟩, 1) := by unfold writeE; rw [if_pos h]
theorem writeE_ok (p : Pg) (e : BitVec 32) (h : (p.l != 97) = false) : writeE p e = (⟨p.l, p.h, e.setWidth 64, 0#64, 0#64, 0#64, 0#64, 0#64, 0#64⟩, 0) := by unfold writeE; rw [if_neg (by simp [h])]
theorem readE_back (l : Int) (e : BitVec 32) (h : (l != 97) = false) : readE l (e.setWidth 64) 0#64 0#64 0#64 0#64 0#64 0#64 = (e, 0) := by
  rw [readE_ok l _ _ _ _ _ _ _ h (by decide) (by rw [BitVec.lt_def, BitVec.toNat_setWidth]; have := e.isLt; show ¬ 4294967295 < _; omega)]
  congr 1
  apply BitVec.eq_of_toNat_eq
  rw [BitVec.toNat_setWidth, BitVec.toNat_setWidth]
  have := e.isLt
  omega
set_option maxRecDepth 100000 in
set_option maxHeartbeats 4000000 in
theorem WriteEpoch_any (p : Pg) (e : BitVec 32) (w : World) :
    Calls Try.prog 7 #[p.val, .int .u32 (UV e)] w fun e' w' => e' = .returned (.tuple #[(writeE p e).1.val, .int .i64 (writeE p e).2]) ∧ Below w.heap.size w w' := by
  obtain ⟨l, h, d0, d1, d2, d3, d4, d5, d6⟩ := p
  rcases Bool.eq_false_or_eq_true (l != 97) with b1 | b1
  · have R := Lib.hid (writeE_line ⟨l, h, d0, d1, d2, d3, d4, d5, d6⟩ e b1)
    unfold Pg.val pageV
    go_enter Try.func7, Try.ntmps7
    go_wp2
    refine bodyPost_ret (v := .tuple #[(Pg.mk 0 0#64 0#64 0#64 0#64 0#64 0#64 0#64 0#64).val, .int .i64 1]) (by simp [results, Try.results7, go_sem, Pg.val, pageV]) rfl ⟨by rw [R.out]; rfl, ?_⟩
    repeat (first | exact Below.refl _ _ | (refine Below.alloc ?_ (by simp; try omega) _) | (refine Below.setCell ?_ (by simp) _))
  · have R := Lib.hid (writeE_ok ⟨l, h, d0, d1, d2, d3, d4, d5, d6⟩ e b1)
    unfold Pg.val pageV
    go_enter Try.func7, Try.ntmps7
    go_wp2
    refine bodyPost_ret (v := .tuple #[(Pg.mk l h (e.setWidth 64) 0#64 0#64 0#64 0#64 0#64 0#64).val, .int .i64 0]) (by simp [results, Try.results7, go_sem, Pg.val, pageV]) rfl ⟨by rw [R.out]; rfl, ?_⟩
    repeat (first | exact Below.refl _ _ | (refine Below.alloc ?_ (by simp; try omega) _) | (refine Below.setCell ?_ (by simp) _))
set_option maxRecDepth 100000 in
set_option maxHeartbeats 4000000 in
theorem WriteEpochR_any (p : Pg) (e : BitVec 32) (w : World) :
    Calls Try.prog 8 #[p.val, .int .u32 (UV e)] w fun e' w' => e' = .returned (.tuple #[(writeE p e).1.val, .int .i64 (writeE p e).2]) ∧ Below w.heap.size w w' := by
  obtain ⟨l, h, d0, d1, d2, d3, d4, d5, d6⟩ := p
  rcases Bool.eq_false_or_eq_true (l != 97) with b1 | b1
  · have R := Lib.hid (writeE_line ⟨l, h, d0, d1, d2, d3, d4, d5, d6⟩ e b1)
    unfold Pg.val pageV
    go_enter Try.func8, Try.ntmps8
    go_wp2
    refine bodyPost_ret (v := .tuple #[(Pg.mk 0 0#64 0#64 0#64 0#64 0#64 0#64 0#64 0#64).val, .int .i64 1]) (by simp [results, Try.results8, go_sem, Pg.val, pageV]) rfl ⟨by rw [R.out]; rfl, ?_⟩
    repeat (first | exact Below.refl _ _ | (refine Below.alloc ?_ (by simp; try omega) _) | (refine Below.setCell ?_ (by simp) _))
  · have R := Lib.hid (writeE_ok ⟨l, h, d0, d1, d2, d3, d4, d5, d6⟩ e b1)
    unfold Pg.val pageV
    go_enter Try.func8, Try.ntmps8
    go_wp2
    refine bodyPost_ret (v := .tuple #[(Pg.mk l h (e.setWidth 64) 0#64 0#64 0#64 0#64 0#64 0#64).val, .int .i64 0]) (by simp [results, Try.results8, go_sem, Pg.val, pageV]) rfl ⟨by rw [R.out]; rfl, ?_⟩
    repeat (first | exact Below.refl _ _ | (refine Below.alloc ?_ (by simp; try omega) _) | (refine Below.setCell ?_ (by simp) _))
def safeB (g r : BitVec 32) : Bool := decide (r.setWidth 64 + 2#64 ≤ g.setWidth 64)
theorem Safe_any (g r : BitVec 32) (w : World) : Calls Try.prog 11 #[.int .u32 (UV g), .int .u32 (UV r)] w fun e w' => e = .returned (.bool (safeB g r)) ∧ w = w' := by
  go_enter Try.func11, Try.ntmps11
  go_wp2
  go_ret
  exact ⟨rfl, rfl⟩
theorem SafeR_any (g r : BitVec 32) (w : World) : Calls Try.prog 12 #[.int .u32 (UV g), .int .u32 (UV r)] w fun e w' => e = .returned (.bool (safeB g r)) ∧ w = w' := by
  go_enter Try.func12, Try.ntmps12
  go_wp2
  go_ret
  exact ⟨rfl, rfl⟩
theorem awake_any (w : World) : Calls Try.prog 9 #[] w fun e w' => e = .returned (.bool true) ∧ w = w' := by
  have e1 : safeB 5#32 3#32 = true := by decide
  have e2 : safeB 4#32 3#32 = false := by decide
  go_enter Try.func9, Try.ntmps9
  go_wp2_with (go_at_call 11; refine (Safe_any _ _ _).mono ?_; rintro e w' ⟨rfl, rfl⟩)
  go_ret
  exact ⟨rfl, rfl⟩
end Go.Proofs.Ytiababibapcmnaa
