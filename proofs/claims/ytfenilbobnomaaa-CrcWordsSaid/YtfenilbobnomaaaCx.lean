/- The walks of package crc and of its reference: bytes. Own work. -/
import Derived.Test.YtfenilbobnomaaaCw
namespace Go.Proofs.Ytfenilbobnomaaa
open Go.RowKit
set_option linter.unusedVariables false
def u8V (b : BitVec 8) : Value := .int .u8 (UV b)
theorem map_get {bs : List (BitVec 8)} {k : Nat} (h : k < bs.length) : (bs.map u8V)[k]? = some (.int .u8 (UV bs[k])) := by
  rw [List.getElem?_map, List.getElem?_eq_getElem h]; rfl
theorem map_get' {bs : List (BitVec 8)} {k : Nat} {x : BitVec 8} (h : bs[k]? = some x) : (bs.map u8V)[k]? = some (.int .u8 (UV x)) := by
  rw [List.getElem?_map, h]; rfl
theorem tab_cell {w : World} {B : Nat} {cs : Array Value} (hB : Blk w B 36 cs) (hT : IsTab cs) (y : BitVec 8) : w.cell? ⟨B, (UV y).toNat, none⟩ = some (.int .u64 (UV (tabB y))) := by
  rw [hB.cell, hT.2 _ (by have := y.isLt; exact this)]
  unfold tabV
  rw [toNat_UV, BitVec.ofNat_toNat, BitVec.setWidth_eq]
set_option maxHeartbeats 1000000 in
theorem add_any (r : BitVec 64) (B : Nat) (cs : Array Value) (v : Value) (bs : List (BitVec 8)) (w : World) (hB : Blk w B 36 cs) (hT : IsTab cs) (hs : Sl w v (bs.map u8V)) :
    Calls Try.prog 16 #[.int .u64 (UV r), .pointer (some ⟨B, 0, none⟩), v] w fun e w' => e = .returned (.int .u64 (UV (runB r bs))) ∧ w = w' := by
  rcases hs.cases with ⟨a0, c0, rfl, h0⟩ | ⟨b, o, c, rfl, hl, hm, hlt, hc⟩
  · have hn : bs = [] := by simpa using h0
    subst hn
    go_enter Try.func16, Try.ntmps16
    go_wp2
    go_loop [0, 11] (fun a i => a = .int .u64 (UV r) ∧ i = .int .i64 0) (fun _ _ => 0)
    case atStart => exact ⟨rfl, rfl⟩
    case round =>
      obtain ⟨rfl, rfl⟩ := hrel
      go_wp2
      go_ret
      exact ⟨rfl, rfl⟩
  · rw [List.length_map] at hl ⊢
    unfold maxLen at hm
    have hcell : ∀ k (h : k < bs.length), w.cell? ⟨b, o + k, none⟩ = some (.int .u8 (UV bs[k])) := fun k h => hc k _ (map_get h)
    have HC := Lib.hid hcell
    have HT := Lib.hid hT
    have HB := Lib.hid hB
    have htk := Lib.hid (runB_take r bs)
    have hall := Lib.hid (List.take_length (l := bs))
    clear hc hcell hT hB hs
    go_enter Try.func16, Try.ntmps16
    go_wp2
    go_loop [0, 11] (fun a i => ∃ k : Nat, k ≤ bs.length ∧ i = .int .i64 k ∧ a = .int .u64 (UV (runB r (bs.take k)))) (fun _ i => bs.length - (intOf i).toNat)
    case atStart => exact ⟨0, by omega, rfl, rfl⟩
    case round =>
      obtain ⟨k, hk, rfl, rfl⟩ := hrel
      by_cases hlt2 : k < bs.length
      · have h1 := HC.out k hlt2
        have h2 := htk.out k hlt2
        generalize runB r (bs.take k) = R at *
        generalize bs[k] = x at *
        have h3 := tab_cell HB.out HT.out (R.setWidth 8 ^^^ x)
        have h4 := UV_nonneg (R.setWidth 8 ^^^ x)
        have h5 := UV_lt (R.setWidth 8 ^^^ x)
        have H2 := Lib.hid h2
        clear h2
        go_wp2
        go_round
        case rel => exact ⟨k + 1, by omega, by go_num, by rw [H2.out, ← byte_eq]; rfl⟩
        case measure => simp [intOf]; omega
      · have hkn : k = bs.length := by omega
        subst hkn
        go_wp2
        go_ret
        exact ⟨by rw [← hall.out]; simp, rfl⟩
end Go.Proofs.Ytfenilbobnomaaa
