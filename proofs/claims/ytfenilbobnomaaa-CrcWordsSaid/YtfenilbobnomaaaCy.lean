/- The walks of package crc and of its reference: Extend, Bytes. Own work. -/
import Derived.Test.YtfenilbobnomaaaCx
import Derived.Deep.WholeRow
import Derived.Lib.SlBytesConst
namespace Go.Proofs.Ytfenilbobnomaaa
open Go.RowKit
set_option linter.unusedVariables false
theorem IsTab.one {cs : Array Value} (h : IsTab cs) : cs.all (·.oneCell') = true := by
  rw [Array.all_eq_true]
  intro i hi
  have h1 := h.2 i (by rw [h.1] at hi; exact hi)
  rw [Array.getElem?_eq_getElem hi] at h1
  injection h1 with h1
  rw [h1]; rfl
theorem z256_size : z256.size = 256 := by simp [z256]
theorem IsTab.info {cs : Array Value} (h : IsTab cs) : (Try.prog.info? 36).map (·.size) = some cs.size := by rw [h.1]; kernel_rfl
set_option maxHeartbeats 1000000 in
theorem Extend_any (s : BitVec 64) (v : Value) (bs : List (BitVec 8)) (w : World) (hs : Sl w v (bs.map u8V)) :
    Calls Try.prog 11 #[.int .u64 (UV s), v] w fun e w' => e = .returned (.int .u64 (UV (extB s bs))) ∧ Below w.heap.size w w' := by
  have hz := zero256
  have HS := Lib.hid hs
  clear hs
  go_enter Try.func11, Try.ntmps11
  go_wp2_with fail
  refine (table_any _).mono ?_
  rintro e w1 ⟨cs, rfl, hT, hb⟩
  have HT := Lib.hid hT
  clear hT
  go_wp2_with (first
    | (refine wpList_store_row rfl 36 _ _ rfl _ cs rfl rfl _ _ (heap_alloc_new _ _) HT.out.info (z256_size.trans HT.out.1.symm) HT.out.one ?_)
    | fail)
  rw [World.setRow_alloc_new]
  go_wp2_with fail
  have hb2 : Below w.heap.size w (w1.alloc (.cells cs 36)) := hb.alloc hb.size _
  refine (add_any _ _ cs _ bs _ (Blk.new _ _ _) HT.out (HS.out.below hb2)).mono ?_
  rintro e w' ⟨rfl, rfl⟩
  go_wp2_with fail
  go_ret
  exact ⟨rfl, hb2⟩
theorem Bytes_any (v : Value) (bs : List (BitVec 8)) (w : World) (hs : Sl w v (bs.map u8V)) :
    Calls Try.prog 8 #[v] w fun e w' => e = .returned (.int .u64 (UV (extB 0#64 bs))) ∧ Below w.heap.size w w' := by
  have HS := Lib.hid hs
  clear hs
  go_enter Try.func8, Try.ntmps8
  go_wp2_with fail
  refine (Extend_any 0#64 v bs _ HS.out).mono ?_
  rintro e w' ⟨rfl, hb⟩
  go_wp2_with fail
  go_ret
  exact ⟨rfl, hb⟩
set_option maxHeartbeats 1000000 in
theorem ExtendR_any (s : BitVec 64) (v : Value) (bs : List (BitVec 8)) (w : World) (hs : Sl w v (bs.map u8V)) :
    Calls Try.prog 14 #[.int .u64 (UV s), v] w fun e w' => e = .returned (.int .u64 (UV (extB s bs))) ∧ w = w' := by
  rcases hs.cases with ⟨a0, c0, rfl, h0⟩ | ⟨b, o, c, rfl, hl, hm, hlt, hc⟩
  · have hn : bs = [] := by simpa using h0
    subst hn
    go_enter Try.func14, Try.ntmps14
    go_wp2
    go_loop [5, 6] (fun a i => a = .int .u64 (UV (~~~s)) ∧ i = .int .i64 0) (fun _ _ => 0)
    case atStart => exact ⟨rfl, rfl⟩
    case round =>
      obtain ⟨rfl, rfl⟩ := hrel
      go_wp2
      go_ret
      exact ⟨by simp [extB, runB], rfl⟩
  · rw [List.length_map] at hl ⊢
    unfold maxLen at hm
    have hcell : ∀ k (h : k < bs.length), w.cell? ⟨b, o + k, none⟩ = some (.int .u8 (UV bs[k])) := fun k h => hc k _ (map_get h)
    have HC := Lib.hid hcell
    have htk := Lib.hid (runB_take (~~~s) bs)
    have hall := Lib.hid (List.take_length (l := bs))
    clear hc hcell hs
    go_enter Try.func14, Try.ntmps14
    go_wp2
    go_loop [5, 6] (fun a i => ∃ k : Nat, k ≤ bs.length ∧ i = .int .i64 k ∧ a = .int .u64 (UV (runB (~~~s) (bs.take k)))) (fun _ i => bs.length - (intOf i).toNat)
    case atStart => exact ⟨0, by omega, rfl, rfl⟩
    case round =>
      obtain ⟨k, hk, rfl, rfl⟩ := hrel
      by_cases hlt2 : k < bs.length
      · have h1 := HC.out k hlt2
        have h2 := htk.out k hlt2
        generalize runB (~~~s) (bs.take k) = R at *
        generalize bs[k] = x at *
        have H2 := Lib.hid h2
        clear h2
        go_wp2
        go_loop [5, 7] (fun a j => ∃ m : Nat, m ≤ 8 ∧ j = .int .i64 m ∧ a = .int .u64 (UV (stepN m (R ^^^ x.setWidth 64)))) (fun _ j => 8 - (intOf j).toNat)
        case atStart => exact ⟨0, by omega, rfl, rfl⟩
        case round =>
          obtain ⟨m, hm, rfl, rfl⟩ := hrel
          by_cases hml : m < 8
          · rcases Bool.eq_false_or_eq_true (stepN m (R ^^^ x.setWidth 64) &&& 1#64 == 1#64) with hb1 | hb1
            · go_wp2
              go_round
              case rel => exact ⟨m + 1, by omega, by go_num, by rw [stepN_succ_y m _ hb1]⟩
              case measure => simp [intOf]; omega
            · go_wp2
              go_round
              case rel => exact ⟨m + 1, by omega, by go_num, by rw [stepN_succ_n m _ hb1]⟩
              case measure => simp [intOf]; omega
          · have h8 : m = 8 := by omega
            subst h8
            go_wp2
            go_round
            case rel => exact ⟨k + 1, by omega, by go_num, by rw [H2.out]; rfl⟩
            case measure => simp [intOf]; omega
      · have hkn : k = bs.length := by omega
        subst hkn
        go_wp2
        go_ret
        exact ⟨by rw [← hall.out]; simp [extB], rfl⟩
theorem BytesR_any (v : Value) (bs : List (BitVec 8)) (w : World) (hs : Sl w v (bs.map u8V)) :
    Calls Try.prog 9 #[v] w fun e w' => e = .returned (.int .u64 (UV (extB 0#64 bs))) ∧ w = w' := by
  have HS := Lib.hid hs
  clear hs
  go_enter Try.func9, Try.ntmps9
  go_wp2_with fail
  refine (ExtendR_any 0#64 v bs _ HS.out).mono ?_
  rintro e w' ⟨rfl, rfl⟩
  go_wp2_with fail
  go_ret
  exact ⟨rfl, rfl⟩
set_option maxHeartbeats 1000000 in
theorem awake_any (w : World) : Calls Try.prog 7 #[] w fun e w' => e = .returned (.bool true) ∧ Below w.heap.size w w' := by
  have k1 : extB 0#64 [49#8, 50#8, 51#8, 52#8, 53#8, 54#8, 55#8, 56#8, 57#8] = 11051210869376104954#64 := by decide +kernel
  have k2 : extB 0#64 [] = 0#64 := by decide +kernel
  have hcv := fun (w : World) (C : Array Value) (n c : Nat) => Lib.run_convert_bytes_const (P := Try.prog) w 22 5 C n c Try.underlying22 Try.underlying5
  go_enter Try.func7, Try.ntmps7
  go_wp2_with fail
  refine (Bytes_any _ [49#8, 50#8, 51#8, 52#8, 53#8, 54#8, 55#8, 56#8, 57#8] _ ?c1).mono ?_
  case c1 =>
    refine ⟨rfl, .inr ⟨w.heap.size, 0, 9, rfl, Nat.le_refl _, by decide, by simp, fun i u hu => ?_⟩⟩
    rw [cell_of_row _ _ _ _ _ _ (heap_alloc_new _ _)]
    rw [← hu]
    simp only [Nat.zero_add, List.getElem?_toArray]
    rfl
  rintro e w1 ⟨rfl, hb1⟩
  rw [k1]
  go_wp2_with fail
  refine (Bytes_any _ [] _ (Sl.nil _)).mono ?_
  rintro e w2 ⟨rfl, hb2⟩
  rw [k2]
  go_wp2_with fail
  go_ret
  have hs1 := hb1.size
  rw [World.size_alloc] at hs1
  exact ⟨rfl, (((Below.refl _ _).alloc (Nat.le_refl _) _).trans (hb1.mono (by rw [World.size_alloc]; omega))).trans (hb2.mono (by omega))⟩
theorem cut0 {w : World} {a : Option Addr} {n c k : Nat} {xs ys : List Value} (h : Sl w (.slice a n c) xs) (hk : k ≤ n) (e : xs.take k = ys) : Sl w (.slice (cutA a c 0 1) k c) ys := by
  have := h.cut (lo := 0) (hi := k) (Nat.zero_le _) hk rfl rfl
  rw [List.drop_zero, e] at this
  exact this
end Go.Proofs.Ytfenilbobnomaaa
