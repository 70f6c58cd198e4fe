/- The walks of view.Value and bodegaref9.Value. Own work. -/
import Derived.Test.YthppeaelfcmafaaVb
import Derived.Test.YthppeaelfcmafaaVd
namespace Go.Proofs.Ythppeaelfcmafaa
open Go.RowKit
set_option linter.unusedVariables false
@[go_sem high] theorem shl2_i64 (b : Int) (h0 : 0 ≤ b) (h1 : b ≤ 31) (k : IntKind) : Op.shift .shl .i64 b k (UV 2#64) = pure (.int .i64 (b * 4)) := by
  unfold Op.shift
  rw [if_neg (UV_neg _)]
  have e : min (UV 2#64).toNat IntKind.i64.bits = 2 := by decide
  simp only [e]
  have e2 : IntKind.i64.wrap (b * 2 ^ 2) = b * 4 := by rw [IntKind.wrap_i64]; omega
  rw [e2]
@[go_sem high] theorem or1_i64 (b : Int) (h0 : 0 ≤ b) (h1 : b ≤ 31) : Op.intBits .or .i64 (b * 4) 1 = pure (.int .i64 (b * 4 + 1)) := by
  rcases (show b = 0 ∨ b = 1 ∨ b = 2 ∨ b = 3 ∨ b = 4 ∨ b = 5 ∨ b = 6 ∨ b = 7 ∨ b = 8 ∨ b = 9 ∨ b = 10 ∨ b = 11 ∨ b = 12 ∨ b = 13 ∨ b = 14 ∨ b = 15 ∨ b = 16 ∨ b = 17 ∨ b = 18 ∨ b = 19 ∨ b = 20 ∨ b = 21 ∨ b = 22 ∨ b = 23 ∨ b = 24 ∨ b = 25 ∨ b = 26 ∨ b = 27 ∨ b = 28 ∨ b = 29 ∨ b = 30 ∨ b = 31 by omega) with rfl | rfl | rfl | rfl | rfl | rfl | rfl | rfl | rfl | rfl | rfl | rfl | rfl | rfl | rfl | rfl | rfl | rfl | rfl | rfl | rfl | rfl | rfl | rfl | rfl | rfl | rfl | rfl | rfl | rfl | rfl | rfl <;> rfl
theorem bits_eq (b : Int) (h0 : 0 ≤ b) (h1 : b ≤ 31) : BitVec.ofInt 64 (b * 4 + 1) = 1#64 ||| BitVec.ofInt 64 b <<< 2 := by
  rcases (show b = 0 ∨ b = 1 ∨ b = 2 ∨ b = 3 ∨ b = 4 ∨ b = 5 ∨ b = 6 ∨ b = 7 ∨ b = 8 ∨ b = 9 ∨ b = 10 ∨ b = 11 ∨ b = 12 ∨ b = 13 ∨ b = 14 ∨ b = 15 ∨ b = 16 ∨ b = 17 ∨ b = 18 ∨ b = 19 ∨ b = 20 ∨ b = 21 ∨ b = 22 ∨ b = 23 ∨ b = 24 ∨ b = 25 ∨ b = 26 ∨ b = 27 ∨ b = 28 ∨ b = 29 ∨ b = 30 ∨ b = 31 by omega) with rfl | rfl | rfl | rfl | rfl | rfl | rfl | rfl | rfl | rfl | rfl | rfl | rfl | rfl | rfl | rfl | rfl | rfl | rfl | rfl | rfl | rfl | rfl | rfl | rfl | rfl | rfl | rfl | rfl | rfl | rfl | rfl <;> decide
theorem validV_zero {num nodes : Int} {ms : List Mb} (h : validV num ms nodes = 0) : (1 ≤ nodes ∧ nodes ≤ 5) ∧ (0 ≤ num ∧ num < 16) ∧ ms.length ≠ 0 ∧ (∀ k, k < ms.length → AscM nodes ms k) ∧ (∀ k, k < ms.length → BootM ms k) ∧ ms.any Mb.f = true := by
  by_cases h1 : 1 ≤ nodes ∧ nodes ≤ 5
  case neg => rw [validV_nodes h1] at h; cases h
  by_cases h2 : 0 ≤ num ∧ num < 16
  case neg => rw [validV_num h1 h2] at h; cases h
  by_cases h3 : ms.length = 0
  case pos => rw [validV_nil h1 h2 h3] at h; cases h
  by_cases h4 : ∀ k, k < ms.length → AscM nodes ms k
  case neg => rw [validV_asc h1 h2 h3 h4] at h; cases h
  by_cases h5 : ∀ k, k < ms.length → BootM ms k
  case neg => rw [validV_boot h1 h2 h3 h4 h5] at h; cases h
  cases h6 : ms.any Mb.f with
  | true => exact ⟨h1, h2, h3, h4, h5, rfl⟩
  | false => rw [validV_full h1 h2 h3 h4 h5 h6] at h; cases h
/-- A member's bits. -/
def bitsM (m : Mb) : BitVec 64 := if m.f then (1#64 ||| BitVec.ofInt 64 m.b <<< 2) ||| 2#64 else 1#64 ||| BitVec.ofInt 64 m.b <<< 2
def stepV (x : BitVec 64) (m : Mb) : BitVec 64 := x ||| bitsM m <<< (7 * m.n).toNat
def wordV (ms : List Mb) : BitVec 64 := ms.foldl stepV 549755813888#64
/-- The value of a view and its code. -/
def valueV (num : Int) (ms : List Mb) : BitVec 64 × Int := if validV num ms 5 = 0 then (wordV ms, 0) else (0#64, validV num ms 5)
theorem valueV_bad {num : Int} {ms : List Mb} (h : validV num ms 5 ≠ 0) : valueV num ms = (0#64, validV num ms 5) := by unfold valueV; rw [if_neg h]
theorem valueV_ok {num : Int} {ms : List Mb} (h : validV num ms 5 = 0) : valueV num ms = (wordV ms, 0) := by unfold valueV; rw [if_pos h]
theorem take_foldl {α : Type} (f : α → Mb → α) (z : α) (ms : List Mb) (k : Nat) (hk : k < ms.length) : (ms.take (k + 1)).foldl f z = f ((ms.take k).foldl f z) (Mb.at ms k) := by
  rw [List.take_add_one, Mb.at_get ms k hk, List.foldl_append]
  rfl
set_option maxHeartbeats 2000000 in
set_option maxRecDepth 100000 in
theorem Value_any (num : Int) (v : Value) (ms : List Mb) (w : World) (h : SlM w v ms) :
    Calls Try.prog 11 #[.agg #[.int .i64 num, v]] w fun e w' => e = .returned (.tuple #[.int .u64 (UV (valueV num ms).1), .int .i64 (valueV num ms).2]) ∧ Below w.heap.size w w' := by
  obtain ⟨a, c, rfl⟩ := h.form
  have hm := h.small
  obtain ⟨n, hn⟩ : ∃ n, n = ms.length := ⟨_, rfl⟩
  have hm2 : n ≤ 9223372036854775807 := by unfold maxLen at hm; omega
  clear hm
  rw [← hn] at h ⊢
  have H := Lib.hid h
  have HN := Lib.hid hn
  clear h hn
  have L0 : Hid (Live w (w.alloc (.cells #[.int .i64 num, .slice a n c] 28)) _) := (Live.start w).alloc _ _
  have V := Lib.hid (fun W (hw : SlM W (.slice a n c) ms) => Valid_any num 5 (.slice a n c) ms W hw)
  by_cases g1 : validV num ms 5 = 0
  case neg =>
    have R := Lib.hid (valueV_bad g1)
    generalize validV num ms 5 = z at *
    have g1' : (z != 0) = true := by rw [bne_iff_ne]; exact g1
    clear g1
    go_enter Try.func11, Try.ntmps11
    go_wp2_with (go_at_call 19; refine (V.out _ (H.out.below L0.out.below)).mono ?_; rintro e w1 ⟨rfl, hb1⟩)
    go_ret2
    exact ⟨by rw [R.out]; rfl, (L0.out.call hb1).below⟩
  case pos =>
    have R := Lib.hid (valueV_ok g1)
    have G := Lib.hid (validV_zero g1)
    rw [g1] at V
    clear g1
    go_enter Try.func11, Try.ntmps11
    go_wp2_with (go_at_call 19; refine (V.out _ (H.out.below L0.out.below)).mono ?_; rintro e w1 ⟨rfl, hb1⟩; have L1 := Lib.hid (L0.out.call hb1); have cb := L1.out.c0)
    go_loopw [5, 17] (fun s5 s17 wr => ∃ (k : Nat) (x : BitVec 64), k ≤ n ∧ s17 = .int .i64 k ∧ s5 = .int .u64 (UV x) ∧ Hid (x = (ms.take k).foldl stepV 549755813888#64) ∧ Hid (Live w wr [(w.heap.size, 28, #[.int .i64 num, .slice a n c])])) (fun _ s17 _ => n - (intOf s17).toNat)
    case atStart => exact ⟨0, 549755813888#64, by omega, rfl, rfl, (rfl : (549755813888#64) = _), L1.out⟩
    case round =>
      obtain ⟨k, x, hk, rfl, rfl, X, L⟩ := hrel
      have cb := L.out.c0
      by_cases hlt : k < n
      · obtain ⟨b, o, rfl, hb, hcl⟩ := H.out.at_ hlt
        have q := (hcl k hlt).below L.out.below hb
        clear hcl
        unfold MbAt at q
        obtain ⟨q0, q1, q2⟩ := q
        have hltI : (k : Int) < n := by omega
        have T := Lib.hid (take_foldl stepV 549755813888#64 ms k (by rw [← HN.out]; exact hlt))
        have hA := G.out.2.2.2.1 k (by rw [← HN.out]; exact hlt)
        have hB := G.out.2.2.2.2.1 k (by rw [← HN.out]; exact hlt)
        unfold AscM at hA
        unfold BootM at hB
        obtain ⟨a1, a2, _⟩ := hA
        obtain ⟨b1, b2⟩ := hB
        generalize Mb.at ms k = m at *
        obtain ⟨mn, mb, mf⟩ := m
        dsimp only at q0 q1 q2 a1 a2 b1 b2
        have b0 : 0 ≤ mb := by omega
        have BE := Lib.hid (bits_eq mb b0 b2)
        cases mf with
        | true =>
          go_wp2_with fail
          go_roundw
          case rel =>
            refine ⟨k + 1, _, by omega, by go_num, rfl, ?_, (L.out.alloc _ _).tail⟩
            show _ = _
            rw [T.out, ← X.out]
            unfold stepV bitsM
            simp only [if_true]
            rw [← BE.out, shf_int _ (by omega) (by omega)]
          case measure => simp [intOf]; omega
        | false =>
          go_wp2_with fail
          go_roundw
          case rel =>
            refine ⟨k + 1, _, by omega, by go_num, rfl, ?_, (L.out.alloc _ _).tail⟩
            show _ = _
            rw [T.out, ← X.out]
            unfold stepV bitsM
            simp only [if_false, Bool.false_eq_true]
            rw [← BE.out, shf_int _ (by omega) (by omega)]
          case measure => simp [intOf]; omega
      · have hkn : k = n := by omega
        subst hkn
        have R2 : Hid (wordV ms = x) := by show wordV ms = x; rw [X.out, HN.out, List.take_length]; rfl
        go_wp2
        go_ret2
        exact ⟨by rw [R.out, R2.out]; rfl, L.out.below⟩
set_option maxHeartbeats 2000000 in
set_option maxRecDepth 100000 in
theorem ValueR_any (num : Int) (v : Value) (ms : List Mb) (w : World) (h : SlM w v ms) (hs : ms.length ≤ 1000000) :
    Calls Try.prog 12 #[.agg #[.int .i64 num, v]] w fun e w' => e = .returned (.tuple #[.int .u64 (UV (valueV num ms).1), .int .i64 (valueV num ms).2]) ∧ Below w.heap.size w w' := by
  obtain ⟨a, c, rfl⟩ := h.form
  have hm := h.small
  obtain ⟨n, hn⟩ : ∃ n, n = ms.length := ⟨_, rfl⟩
  have hm2 : n ≤ 9223372036854775807 := by unfold maxLen at hm; omega
  clear hm
  rw [← hn] at h ⊢
  have H := Lib.hid h
  have HN := Lib.hid hn
  clear h hn
  have L0 : Hid (Live w (w.alloc (.cells #[.int .i64 num, .slice a n c] 28)) _) := (Live.start w).alloc _ _
  have V := Lib.hid (fun W (hw : SlM W (.slice a n c) ms) => ValidView_any num 5 (.slice a n c) ms W hw hs)
  by_cases g1 : validV num ms 5 = 0
  case neg =>
    have R := Lib.hid (valueV_bad g1)
    generalize validV num ms 5 = z at *
    have g1' : (z != 0) = true := by rw [bne_iff_ne]; exact g1
    clear g1
    go_enter Try.func12, Try.ntmps12
    go_wp2_with (go_at_call 20; refine (V.out _ (H.out.below L0.out.below)).mono ?_; rintro e w1 ⟨rfl, hb1⟩)
    go_ret2
    exact ⟨by rw [R.out]; rfl, (L0.out.call hb1).below⟩
  case pos =>
    have R := Lib.hid (valueV_ok g1)
    have G := Lib.hid (validV_zero g1)
    rw [g1] at V
    clear g1
    go_enter Try.func12, Try.ntmps12
    go_wp2_with (go_at_call 20; refine (V.out _ (H.out.below L0.out.below)).mono ?_; rintro e w1 ⟨rfl, hb1⟩; have L1 := Lib.hid (L0.out.call hb1); have cb := L1.out.c0)
    go_loopw [5, 6] (fun s5 s17 wr => ∃ (k : Nat) (x : BitVec 64), k ≤ n ∧ s17 = .int .i64 k ∧ s5 = .int .u64 (UV x) ∧ Hid (x = (ms.take k).foldl stepV 549755813888#64) ∧ Hid (Live w wr [(w.heap.size, 28, #[.int .i64 num, .slice a n c])])) (fun _ s17 _ => n - (intOf s17).toNat)
    case atStart => exact ⟨0, 549755813888#64, by omega, rfl, rfl, (rfl : (549755813888#64) = _), L1.out⟩
    case round =>
      obtain ⟨k, x, hk, rfl, rfl, X, L⟩ := hrel
      have cb := L.out.c0
      by_cases hlt : k < n
      · obtain ⟨b, o, rfl, hb, hcl⟩ := H.out.at_ hlt
        have q := (hcl k hlt).below L.out.below hb
        clear hcl
        unfold MbAt at q
        obtain ⟨q0, q1, q2⟩ := q
        have hltI : (k : Int) < n := by omega
        have T := Lib.hid (take_foldl stepV 549755813888#64 ms k (by rw [← HN.out]; exact hlt))
        have hA := G.out.2.2.2.1 k (by rw [← HN.out]; exact hlt)
        have hB := G.out.2.2.2.2.1 k (by rw [← HN.out]; exact hlt)
        unfold AscM at hA
        unfold BootM at hB
        obtain ⟨a1, a2, _⟩ := hA
        obtain ⟨b1, b2⟩ := hB
        generalize Mb.at ms k = m at *
        obtain ⟨mn, mb, mf⟩ := m
        dsimp only at q0 q1 q2 a1 a2 b1 b2
        have b0 : 0 ≤ mb := by omega
        have BE := Lib.hid (bits_eq mb b0 b2)
        cases mf with
        | true =>
          go_wp2_with fail
          go_roundw
          case rel =>
            refine ⟨k + 1, _, by omega, by go_num, rfl, ?_, (L.out.alloc _ _).tail⟩
            show _ = _
            rw [T.out, ← X.out]
            unfold stepV bitsM
            simp only [if_true]
            rw [shf_int _ (by omega) (by omega)]
          case measure => simp [intOf]; omega
        | false =>
          go_wp2_with fail
          go_roundw
          case rel =>
            refine ⟨k + 1, _, by omega, by go_num, rfl, ?_, (L.out.alloc _ _).tail⟩
            show _ = _
            rw [T.out, ← X.out]
            unfold stepV bitsM
            simp only [if_false, Bool.false_eq_true]
            rw [shf_int _ (by omega) (by omega)]
          case measure => simp [intOf]; omega
      · have hkn : k = n := by omega
        subst hkn
        have R2 : Hid (wordV ms = x) := by show wordV ms = x; rw [X.out, HN.out, List.take_length]; rfl
        go_wp2
        go_ret2
        exact ⟨by rw [R.out, R2.out]; rfl, L.out.below⟩
end Go.Proofs.Ythppeaelfcmafaa
