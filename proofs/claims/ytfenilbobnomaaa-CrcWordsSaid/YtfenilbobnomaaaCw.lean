/- The walks of package crc and of its reference. Own work. -/
import Derived.Test.YtfenilbobnomaaaMem
import Derived.Test.YtfenilbobnomaaaCp
namespace Go.Proofs.Ytfenilbobnomaaa
open Go.RowKit
set_option linter.unusedVariables false
def z256 : Array Value := Array.replicate 256 (.int .u64 0)
theorem zero256 (w : World) : (zeroValue 36).run Try.prog w = .ok (.agg z256) w := by kernel_rfl
def tabV (j : Nat) : Value := .int .u64 (UV (tabB (BitVec.ofNat 8 j)))
def IsTab (cs : Array Value) : Prop := cs.size = 256 ∧ ∀ j, j < 256 → cs[j]? = some (tabV j)
theorem stepN_succ_y (m : Nat) (r : BitVec 64) (h : (stepN m r &&& 1#64 == 1#64) = true) : stepN (m + 1) r = stepN m r >>> 1 ^^^ 14514072000185962306#64 := by
  rw [stepN, stepB, if_pos h]
theorem stepN_succ_n (m : Nat) (r : BitVec 64) (h : (stepN m r &&& 1#64 == 1#64) = false) : stepN (m + 1) r = stepN m r >>> 1 := by
  rw [stepN, stepB, if_neg (by simp [h])]
theorem tab_ok (k : Nat) (hk : k < 256) : tabB (BitVec.ofNat 8 k) = stepN 8 (BitVec.ofNat 64 k) := by
  unfold tabB
  congr 1
  apply BitVec.eq_of_toNat_eq
  rw [BitVec.toNat_setWidth, BitVec.toNat_ofNat, BitVec.toNat_ofNat]
  omega
set_option maxRecDepth 100000 in
set_option maxHeartbeats 1000000 in
theorem table_any (w : World) :
    Calls Try.prog 15 #[] w fun e w' => ∃ cs, e = .returned (.agg cs) ∧ IsTab cs ∧ Below w.heap.size w w' := by
  have hz := zero256
  go_enter Try.func15, Try.ntmps15
  go_wp2
  go_loopw [3] (fun i wr => ∃ (k : Nat) (cs : Array Value), k ≤ 256 ∧ i = .int .i64 k ∧ Below w.heap.size w wr ∧ Blk wr w.heap.size 36 cs ∧ cs.size = 256 ∧ ∀ j, j < k → cs[j]? = some (tabV j)) (fun i _ => 256 - (intOf i).toNat)
  case atStart => exact ⟨0, z256, by omega, rfl, (Below.refl _ _).alloc (Nat.le_refl _) _, Blk.new _ _ _, rfl, fun j hj => by omega⟩
  case round =>
    obtain ⟨k, cs, hk, rfl, hb, hblk, hsz, htab⟩ := hrel
    have HT := Lib.hid htab
    have HB := Lib.hid hblk
    have HS := Lib.hid hsz
    clear htab hblk hsz hz
    by_cases hlt : k < 256
    · go_wp2
      go_loop [2, 8] (fun r j => ∃ m : Nat, m ≤ 8 ∧ j = .int .i64 m ∧ r = .int .u64 (UV (stepN m (BitVec.ofNat 64 k)))) (fun _ j => 8 - (intOf j).toNat)
      case atStart => exact ⟨0, by omega, rfl, rfl⟩
      case round =>
        obtain ⟨m, hm, rfl, rfl⟩ := hrel
        by_cases hml : m < 8
        · rcases Bool.eq_false_or_eq_true (stepN m (BitVec.ofNat 64 k) &&& 1#64 == 1#64) with hb1 | hb1
          · go_wp2
            go_round
            case rel => exact ⟨m + 1, by omega, by go_num, by rw [stepN_succ_y m _ hb1]⟩
            case measure => simp [intOf]; omega
          · go_wp2
            go_round
            case rel => exact ⟨m + 1, by omega, by go_num, by rw [stepN_succ_n m _ hb1]⟩
            case measure => simp [intOf]; omega
        · have h8 : m = 8 := by omega
          subst h8
          have hc := HB.out.cell k
          rw [Array.getElem?_eq_getElem (show k < cs.size by rw [HS.out]; exact hlt)] at hc
          have hf := HB.out.frozen k
          go_wp2
          go_roundw
          case rel =>
            refine ⟨k + 1, _, by omega, by go_num, hb.setCell (Nat.le_refl _) _, HB.out.setSame k _, by rw [Array.size_setIfInBounds]; exact HS.out, fun j hj => ?_⟩
            rw [Array.getElem?_setIfInBounds]
            by_cases hjk : k = j
            · subst hjk
              rw [if_pos rfl, if_pos (by rw [HS.out]; exact hlt)]
              unfold tabV
              rw [tab_ok k hlt]
            · rw [if_neg hjk]; exact HT.out j (by omega)
          case measure => simp [intOf]; omega
    · have h256 : k = 256 := by omega
      subst h256
      have hi : (Try.prog.info? 36).map (·.size) = some cs.size := by rw [HS.out]; kernel_rfl
      have Hi := Lib.hid hi
      clear hi
      go_wp2_with (first
        | (refine wpList_load_row rfl 36 _ rfl _ rfl _ _ _ _ HB.out Try.underlying36 rfl Hi.out ?_)
        | (refine wpList_store_row rfl 36 _ _ rfl _ cs rfl rfl _ _ HB.out Hi.out rfl ?c1 ?_))
      case c1 =>
        rw [Array.all_eq_true]
        intro i hi
        have h1 := HT.out i (by rw [HS.out] at hi; exact hi)
        rw [Array.getElem?_eq_getElem hi] at h1
        injection h1 with h1
        rw [h1]; rfl
      rw [setRow_self wr _ cs _ _ HB.out]
      go_wp2
      refine bodyPost_ret (v := .agg cs) (results_cell_row rfl _ _ _ _ cs _ _ rfl HB.out Try.underlying36 rfl Hi.out) rfl ⟨cs, rfl, ⟨HS.out, HT.out⟩, hb⟩
end Go.Proofs.Ytfenilbobnomaaa
