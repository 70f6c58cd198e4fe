/- The walks of package crc and of its reference: words. Own work. -/
import Derived.Test.YtfenilbobnomaaaCy
import Derived.Test.YtfenilbobnomaaaApp
import Derived.Deep.OwnRows
namespace Go.Proofs.Ytfenilbobnomaaa
open Go.RowKit
set_option linter.unusedVariables false
def u64V (b : BitVec 64) : Value := .int .u64 (UV b)
theorem u8_info : (Try.prog.info? 5).map (fun i => (i.zero, i.size, i.bytes)) = some (some (.int .u8 0), 1, 1) := by kernel_rfl
theorem lit0 : Value.int .u64 0 = Value.int .u64 (UV 0#64) := rfl
theorem get64 {l : List (BitVec 64)} {k : Nat} (h : k < l.length) : (l.map u64V)[k]? = some (.int .u64 (UV l[k])) := by
  rw [List.getElem?_map, List.getElem?_eq_getElem h]; rfl
theorem shr_shr8 (x : BitVec 64) (k : Nat) : x >>> (8 * k) >>> 8 = x >>> (8 * (k + 1)) := by
  apply BitVec.eq_of_getLsbD_eq; intro i hi; simp only [BitVec.getLsbD_ushiftRight]; congr 1; omega
set_option maxHeartbeats 4000000 in
theorem Words_any (v : Value) (l : List (BitVec 64)) (w : World) (hs : Sl w v (l.map u64V)) (hn : l.length ≤ 65536) :
    Calls Try.prog 12 #[v] w fun e w' => e = .returned (.int .u64 (UV (extB 0#64 (wordBytes l)))) ∧ Below w.heap.size w w' := by
  obtain ⟨a, n, c, rfl⟩ : ∃ a n c, v = .slice a n c := by
    rcases hs.cases with ⟨a, c, rfl, _⟩ | ⟨b, o, c, rfl, _⟩ <;> exact ⟨_, _, _, rfl⟩
  have hl : l.length = n := by have := hs.len; simpa using this
  have HS := Lib.hid hs
  have HL := Lib.hid hl
  rw [hl] at hn
  clear hs hl
  obtain ⟨i0, hi0, hz⟩ := Option.map_eq_some_iff.1 u8_info
  simp only [Prod.mk.injEq] at hz
  have HI := Lib.hid hi0
  have HZ := Lib.hid hz
  clear hi0 hz
  go_enter Try.func12, Try.ntmps12
  go_wp2_with (refine wpList_make_own _ rfl _ _ 22 rfl w.heap.size 5 i0 (.int .u8 0) 1 Try.underlying22 HI.out HZ.out.1 HZ.out.2.1 .i64 .i64 _ (8 * n) rfl rfl (by omega) (by rw [HZ.out.2.2]; omega) (by unfold maxLen; omega) (Nat.le_refl _) ?_; intro w1 hown hg)
  have hb1 : Below w.heap.size w w1 := (Below.refl _ _).grown hg (Nat.le_refl _) (by intro k hk; cases hk)
  have HO := Lib.hid hown
  clear hown hg HI HZ
  go_loopw [3, 12] (fun b i wr => ∃ k : Nat, k ≤ n ∧ i = .int .i64 k ∧ wr.ownsRow w.heap.size 5 1 b (8 * k) ((wordBytes (l.take k)).map u8V) ∧ Below w.heap.size w wr) (fun _ i _ => n - (intOf i).toNat)
  case atStart => exact ⟨0, by omega, rfl, HO.out, hb1⟩
  case round =>
    obtain ⟨k, hk, rfl, hown, hb⟩ := hrel
    have HW := Lib.hid hown
    clear hown HO hb1
    by_cases hlt : k < n
    · obtain ⟨p, o, rfl, hp, hc⟩ := HS.out.at_ (k := k) (by omega)
      have hc1 := (hb.cell (p := ⟨p, o + k, none⟩) hp).trans (hc _ (get64 (by rw [HL.out]; exact hlt)))
      have hbt := wordBytes_take l k (by rw [HL.out]; exact hlt)
      generalize l[k]'(by rw [HL.out]; exact hlt) = x at *
      have Hbt := Lib.hid hbt
      clear hbt hc
      go_wp2_with fail
      go_loopw [3, 5, 16] (fun b y j wq => ∃ m : Nat, m ≤ 8 ∧ j = .int .i64 m ∧ y = .int .u64 (UV (x >>> (8 * m))) ∧ wq.ownsRow w.heap.size 5 1 b (8 * k + m) ((wordBytes (l.take k) ++ wbN m x).map u8V) ∧ Below w.heap.size w wq) (fun _ _ j _ => 8 - (intOf j).toNat)
      case atStart => exact ⟨0, by omega, rfl, by simp, by simpa [wbN] using HW.out, hb⟩
      case round =>
        obtain ⟨m, hm, rfl, rfl, hown, hbq⟩ := hrel
        have HQ := Lib.hid hown
        clear hown hc1
        by_cases hml : m < 8
        · have hsq := hbq.size
          go_wp2_with (at_builtin; refine wpList_app rfl (.tmp 18) (.tmp 21) _ rfl w.heap.size 5 (.int .u8 0) 1 1 Try.underlying22 u8_info rfl (by omega) _ (8 * k + m) _ rfl (HQ.out.alloc _) _ 1 _ rfl (sl_new _ _ _ 1 1 1 rfl (by omega) (by omega)) (by intro u hu; simp at hu; subst hu; rfl) (by omega) (by omega) (by simp; omega) ?_; intro v' w' hown' hg')
          go_roundw
          case rel =>
            refine ⟨m + 1, by omega, by go_num, by rw [shr_shr8], ?_, below_grown (hbq.alloc hsq _) (HQ.out.alloc _) hg' (Nat.le_refl _) (by simp; omega)⟩
            rw [wbN, ← List.append_assoc, List.map_append]
            exact hown'
          case measure => simp [intOf]; omega
        · have h8 : m = 8 := by omega
          subst h8
          go_wp2_with fail
          go_roundw
          case rel => exact ⟨k + 1, by omega, by go_num, by rw [Hbt.out]; exact HQ.out, hbq⟩
          case measure => simp [intOf]; omega
    · have hkn : k = n := by omega
      subst hkn
      have hall : l.take k = l := List.take_of_length_le (by rw [HL.out]; exact Nat.le_refl _)
      rw [hall] at HW
      go_wp2_with fail
      refine (Bytes_any _ (wordBytes l) _ (own_sl1 HW.out)).mono ?_
      rintro e w2 ⟨rfl, hb2⟩
      go_wp2_with fail
      go_ret
      exact ⟨rfl, hb.trans (hb2.mono hb.size)⟩
theorem map_len {l : List (BitVec 8)} : (l.map u8V).length = l.length := by simp
set_option maxHeartbeats 4000000 in
theorem Little_any (x : BitVec 64) (w : World) :
    Calls Try.prog 17 #[.int .u64 (UV x)] w fun e w' => ∃ v, e = .returned v ∧ Sl w' v ((wbN 8 x).map u8V) ∧ Below w.heap.size w w' := by
  have hmk : ∀ W : World, (Instr.makeSlice 22 (.int .i64 8) (.int .i64 8)).run Try.prog W = .ok (.slice (some ⟨W.heap.size, 0, none⟩) 8 8) (W.alloc (.cells (madeCells #[.int .u8 0] 8) 5)) :=
    run_make_row' (P := Try.prog) 22 5 (.int .u8 0) 1 Try.underlying22 u8_info rfl .i64 .i64 8 (by omega) (by omega)
  go_enter Try.func17, Try.ntmps17
  go_wp2_with fail
  clear hmk
  go_loopw [4] (fun i wr => ∃ (k : Nat) (cs : Array Value), k ≤ 8 ∧ i = .int .i64 k ∧ Below w.heap.size w wr ∧ Blk wr w.heap.size 5 cs ∧ cs.size = 8 ∧
    ∀ j, j < k → cs[j]? = some (u8V ((x >>> (8 * j)).setWidth 8))) (fun i _ => 8 - (intOf i).toNat)
  case atStart => exact ⟨0, _, by omega, rfl, (Below.refl _ _).alloc (Nat.le_refl _) _, Blk.new _ _ _, by simp [size_madeCells], fun j hj => by omega⟩
  case round =>
    obtain ⟨k, cs, hk, rfl, hb, hblk, hsz, hcs⟩ := hrel
    have HB := Lib.hid hblk
    have HZ := Lib.hid hsz
    have HC := Lib.hid hcs
    clear hblk hsz hcs
    by_cases hlt : k < 8
    · have d3 := HB.out.cell k
      rw [Array.getElem?_eq_getElem (show k < cs.size by rw [HZ.out]; exact hlt)] at d3
      have d4 := HB.out.frozen k
      have hsh : shf (BitVec.ofInt 64 (8 * (k : Int))) = 8 * k := by rw [shf_int _ (by omega) (by omega)]; omega
      go_wp2_with fail
      go_roundw
      case rel =>
        refine ⟨k + 1, cs.setIfInBounds k (u8V ((x >>> (8 * k)).setWidth 8)), by omega, by go_num, hb.setCell (Nat.le_refl _) _, ?_, by rw [Array.size_setIfInBounds]; exact HZ.out, fun j hj => ?_⟩
        · exact HB.out.setSame k (u8V ((x >>> (8 * k)).setWidth 8))
        · rw [Array.getElem?_setIfInBounds]
          by_cases hjk : k = j
          · subst hjk
            rw [if_pos rfl, if_pos (by rw [HZ.out]; exact hlt)]
          · rw [if_neg hjk]; exact HC.out j (by omega)
      case measure => simp [intOf]; omega
    · have h8 : k = 8 := by omega
      subst h8
      go_wp2_with fail
      go_ret
      refine ⟨_, rfl, ?_, hb⟩
      refine ⟨by simp, ?_⟩
      rw [List.length_map, wbN_length]
      refine .inr ⟨_, _, 8, rfl, Nat.le_refl _, by decide, HB.out.lt, fun i u hu => ?_⟩
      rw [Nat.zero_add, HB.out.cell i]
      have hi : i < 8 := by
        rcases Nat.lt_or_ge i 8 with g | g
        · exact g
        · rw [List.getElem?_eq_none (by rw [List.length_map, wbN_length]; exact g)] at hu; cases hu
      rw [HC.out i hi, ← hu, List.getElem?_map, wbN_get 8 i x hi]
      rfl
set_option maxHeartbeats 4000000 in
theorem WordsR_any (v : Value) (l : List (BitVec 64)) (w : World) (hs : Sl w v (l.map u64V)) (hn : l.length ≤ 65536) :
    Calls Try.prog 13 #[v] w fun e w' => e = .returned (.int .u64 (UV (extB 0#64 (wordBytes l)))) ∧ Below w.heap.size w w' := by
  obtain ⟨a, n, c, rfl⟩ : ∃ a n c, v = .slice a n c := by
    rcases hs.cases with ⟨a, c, rfl, _⟩ | ⟨b, o, c, rfl, _⟩ <;> exact ⟨_, _, _, rfl⟩
  have hl : l.length = n := by have := hs.len; simpa using this
  have HS := Lib.hid hs
  have HL := Lib.hid hl
  rw [hl] at hn
  clear hs hl
  go_enter Try.func13, Try.ntmps13
  go_wp2_with fail
  simp only [lit0]
  go_loopw [3, 4] (fun s i wr => ∃ k : Nat, k ≤ n ∧ i = .int .i64 k ∧ s = .int .u64 (UV (extB 0#64 (wordBytes (l.take k)))) ∧ Below w.heap.size w wr) (fun _ i _ => n - (intOf i).toNat)
  case atStart => exact ⟨0, by omega, rfl, by rw [List.take_zero]; exact congrArg (fun x => Value.int .u64 (UV x)) extB_nil.symm, Below.refl _ _⟩
  case round =>
    obtain ⟨k, hk, rfl, rfl, hb⟩ := hrel
    by_cases hlt : k < n
    · obtain ⟨p, o, rfl, hp, hc⟩ := HS.out.at_ (k := k) (by omega)
      have hc1 := (hb.cell (p := ⟨p, o + k, none⟩) hp).trans (hc _ (get64 (by rw [HL.out]; exact hlt)))
      have hbt := wordBytes_take l k (by rw [HL.out]; exact hlt)
      generalize l[k]'(by rw [HL.out]; exact hlt) = x at *
      have Hbt := Lib.hid hbt
      clear hbt hc
      go_wp2_with fail
      refine (Little_any x _).mono ?_
      rintro e w1 ⟨v, rfl, hs1, hb1⟩
      have HS1 := Lib.hid hs1
      clear hs1
      have hb1' := hb.trans (hb1.mono hb.size)
      go_wp2_with fail
      refine (ExtendR_any _ v (wbN 8 x) _ HS1.out).mono ?_
      rintro e w' ⟨rfl, rfl⟩
      rw [extB_append, ← Hbt.out]
      go_wp2_with fail
      go_roundw
      case rel => exact ⟨k + 1, by omega, by go_num, rfl, hb1'⟩
      case measure => simp [intOf]; omega
    · have hkn : k = n := by omega
      subst hkn
      have hall : l.take k = l := List.take_of_length_le (by rw [HL.out]; exact Nat.le_refl _)
      have Hall := Lib.hid hall
      clear hall
      go_wp2_with fail
      go_ret
      exact ⟨by rw [← Hall.out]; simp [Hall.out], hb⟩
end Go.Proofs.Ytfenilbobnomaaa
