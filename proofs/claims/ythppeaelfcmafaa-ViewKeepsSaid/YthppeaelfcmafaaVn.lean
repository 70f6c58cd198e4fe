/- The walks of view.Find and bodegaref9.Find. Own work. -/
import Derived.Test.YthppeaelfcmafaaVk
import Derived.Test.YthppeaelfcmafaaTac
namespace Go.Proofs.Ythppeaelfcmafaa
open Go.RowKit
set_option linter.unusedVariables false
/-- The member on a node. -/
def findM (ms : List Mb) (node : Int) : Option Mb := ms.find? (fun m => m.n == node)
theorem find_hit {ms : List Mb} {node : Int} {k : Nat} (h : ∀ j, j < k → (Mb.at ms j).n ≠ node) (hk : k < ms.length) (he : (Mb.at ms k).n = node) : findM ms node = some (Mb.at ms k) := by
  unfold findM
  induction ms generalizing k with
  | nil => simp at hk
  | cons m ms ih =>
    cases k with
    | zero =>
      have e : Mb.at (m :: ms) 0 = m := rfl
      rw [e] at he ⊢
      rw [List.find?_cons, beq_iff_eq.2 he]
    | succ k =>
      have h0 := h 0 (by omega)
      have e0 : Mb.at (m :: ms) 0 = m := rfl
      rw [e0] at h0
      have e1 : ∀ j, Mb.at (m :: ms) (j + 1) = Mb.at ms j := fun j => rfl
      rw [e1] at he ⊢
      rw [List.find?_cons, beq_eq_false_iff_ne.2 h0]
      exact ih (fun j hj => by have := h (j + 1) (by omega); rwa [e1] at this) (by simpa using hk) he
theorem find_miss {ms : List Mb} {node : Int} (h : ∀ j, j < ms.length → (Mb.at ms j).n ≠ node) : findM ms node = none := by
  unfold findM
  rw [List.find?_eq_none]
  intro x hx
  obtain ⟨i, hi, rfl⟩ := List.mem_iff_getElem.1 hx
  rw [Mb.at_eq _ _ hi]
  simpa using h i hi
/-- What Find returns. -/
def findV (ms : List Mb) (node : Int) : Value := .tuple #[((findM ms node).getD ⟨0, 0, false⟩).val, .bool (findM ms node).isSome]
set_option maxHeartbeats 2000000 in
set_option maxRecDepth 100000 in
theorem Find_any (num node : Int) (v : Value) (ms : List Mb) (w : World) (h : SlM w v ms) :
    Calls Try.prog 25 #[.agg #[.int .i64 num, v], .int .i64 node] w fun e w' => e = .returned (findV ms node) ∧ Below w.heap.size w w' := by
  obtain ⟨a, c, rfl⟩ := h.form
  have hm := h.small
  obtain ⟨n, hn⟩ : ∃ n, n = ms.length := ⟨_, rfl⟩
  have hm2 : n ≤ 9223372036854775807 := by unfold maxLen at hm; omega
  clear hm
  rw [← hn] at h ⊢
  have H := Lib.hid h
  have HN := Lib.hid hn
  clear h hn
  have L1 := Lib.hid (((Live.start w).alloc #[.int .i64 num, .slice a n c] 28).alloc #[.int .i64 0, .int .i64 0, .bool false] 45)
  simp only [World.size_alloc] at L1
  go_enter Try.func25, Try.ntmps25
  go_wp2
  go_loopw [7, 11] (fun _ s11 wr => ∃ k : Nat, k ≤ n ∧ s11 = .int .i64 k ∧ Hid (∀ j, j < k → (Mb.at ms j).n ≠ node) ∧ Hid (Live w wr [(w.heap.size + 1, 45, #[.int .i64 0, .int .i64 0, .bool false])])) (fun _ s11 _ => n - (intOf s11).toNat)
  case atStart => exact ⟨0, by omega, rfl, (fun j hj => absurd hj (Nat.not_lt_zero _) : ∀ j, j < 0 → (Mb.at ms j).n ≠ node), Lib.hid (L1.out.sub (by intro x hx; simp at hx; subst hx; simp))⟩
  case round =>
    obtain ⟨k, hk, rfl, A, L⟩ := hrel
    have hlw := L.out.l0
    have hlw0 : w.heap.size < wr.heap.size := by omega
    by_cases hlt : k < n
    · have hltI : (k : Int) < n := by omega
      obtain ⟨b, o, rfl, hb, hcl⟩ := H.out.at_ hlt
      have hbw : b < wr.heap.size := by omega
      have q := (hcl k hlt).below L.out.below hb
      clear hcl
      unfold MbAt at q
      obtain ⟨q0, q1, q2⟩ := q
      have hyes : Hid ((Mb.at ms k).n = node → findM ms node = some (Mb.at ms k)) := fun he => find_hit A.out (by rw [← HN.out]; exact hlt) he
      have hno : Hid ((Mb.at ms k).n ≠ node → ∀ j, j < k + 1 → (Mb.at ms j).n ≠ node) := fun he j hj => by
        rcases (show j < k ∨ j = k by omega) with h3 | h3
        · exact A.out j h3
        · rw [h3]; exact he
      generalize Mb.at ms k = m at *
      obtain ⟨mn, mb, mf⟩ := m
      dsimp only at q0 q1 q2
      have cr := L.out.c0
      have fr := L.out.f0
      by_cases e1 : mn = node
      case pos =>
        subst e1
        have R := Lib.hid (hyes.out rfl)
        go_wp2
        have LF := Lib.hid ((((L.out).set0 (by simp) 0 (.int .i64 mn)).set0 (by simp) 1 (.int .i64 mb)).set0 (by simp) 2 (.bool mf))
        have LX := Lib.hid (LF.out.alloc' (.cells #[.int .i64 mn, .int .i64 mb, .bool mf] 45))
        obtain ⟨W, hW⟩ : ∃ W, W = ((((wr.setCell ⟨w.heap.size + 1, 0, none⟩ (.int .i64 mn)).setCell ⟨w.heap.size + 1, 1, none⟩ (.int .i64 mb)).setCell ⟨w.heap.size + 1, 2, none⟩ (.bool mf)).alloc (.cells #[.int .i64 mn, .int .i64 mb, .bool mf] 45)) := ⟨_, rfl⟩
        rw [← hW] at LX ⊢
        clear hW
        have cF := LX.out.c0
        exact bodyPost_ret (v := .tuple #[.agg #[.int .i64 mn, .int .i64 mb, .bool mf], .bool true]) (by simp [results, Try.results25, go_sem, cF]) rfl ⟨by unfold findV; rw [R.out]; rfl, LX.out.below⟩
      case neg =>
        have e1' : (mn == node) = false := by rw [beq_eq_false_iff_ne]; exact e1
        have N := Lib.hid (hno.out e1)
        clear e1
        go_wp2
        go_roundw
        case rel => exact ⟨k + 1, by omega, by go_num, N, Lib.hid (L.out.alloc' _)⟩
        case measure => simp [intOf]; omega
    · have hkn : k = n := by omega
      subst hkn
      have R := Lib.hid (find_miss (ms := ms) (node := node) (fun j hj => A.out j (by rw [HN.out]; exact hj)))
      have cr := L.out.c0
      have fr := L.out.f0
      go_wp2
      have LF := Lib.hid ((((L.out).set0 (by simp) 0 (.int .i64 0)).set0 (by simp) 1 (.int .i64 0)).set0 (by simp) 2 (.bool false))
      obtain ⟨W, hW⟩ : ∃ W, W = ((wr.setCell ⟨w.heap.size + 1, 0, none⟩ (.int .i64 0)).setCell ⟨w.heap.size + 1, 1, none⟩ (.int .i64 0)).setCell ⟨w.heap.size + 1, 2, none⟩ (.bool false) := ⟨_, rfl⟩
      rw [← hW] at LF ⊢
      clear hW
      have cF := LF.out.c0
      exact bodyPost_ret (v := .tuple #[.agg #[.int .i64 0, .int .i64 0, .bool false], .bool false]) (by simp [results, Try.results25, go_sem, cF]) rfl ⟨by unfold findV; rw [R.out]; rfl, LF.out.below⟩
set_option maxHeartbeats 2000000 in
set_option maxRecDepth 100000 in
theorem FindR_any (num node : Int) (v : Value) (ms : List Mb) (w : World) (h : SlM w v ms) :
    Calls Try.prog 22 #[.agg #[.int .i64 num, v], .int .i64 node] w fun e w' => e = .returned (findV ms node) ∧ Below w.heap.size w w' := by
  obtain ⟨a, c, rfl⟩ := h.form
  have hm := h.small
  obtain ⟨n, hn⟩ : ∃ n, n = ms.length := ⟨_, rfl⟩
  have hm2 : n ≤ 9223372036854775807 := by unfold maxLen at hm; omega
  clear hm
  rw [← hn] at h ⊢
  have H := Lib.hid h
  have HN := Lib.hid hn
  clear h hn
  have L1 := Lib.hid (((Live.start w).alloc #[.int .i64 num, .slice a n c] 28).alloc #[.int .i64 0, .int .i64 0, .bool false] 45)
  simp only [World.size_alloc] at L1
  go_enter Try.func22, Try.ntmps22
  go_wp2
  go_loopw [6] (fun s11 wr => ∃ k : Nat, k ≤ n ∧ s11 = .int .i64 k ∧ Hid (∀ j, j < k → (Mb.at ms j).n ≠ node) ∧ Hid (Live w wr [(w.heap.size + 1, 45, #[.int .i64 0, .int .i64 0, .bool false]), (w.heap.size, 28, #[.int .i64 num, .slice a n c])])) (fun s11 _ => n - (intOf s11).toNat)
  case atStart => exact ⟨0, by omega, rfl, (fun j hj => absurd hj (Nat.not_lt_zero _) : ∀ j, j < 0 → (Mb.at ms j).n ≠ node), L1⟩
  case round =>
    obtain ⟨k, hk, rfl, A, L⟩ := hrel
    have hlw := L.out.l0
    have hlw0 : w.heap.size < wr.heap.size := by omega
    have cv := L.out.tail.c0
    by_cases hlt : k < n
    · have hltI : (k : Int) < n := by omega
      obtain ⟨b, o, rfl, hb, hcl⟩ := H.out.at_ hlt
      have hbw : b < wr.heap.size := by omega
      have q := (hcl k hlt).below L.out.below hb
      clear hcl
      unfold MbAt at q
      obtain ⟨q0, q1, q2⟩ := q
      have hyes : Hid ((Mb.at ms k).n = node → findM ms node = some (Mb.at ms k)) := fun he => find_hit A.out (by rw [← HN.out]; exact hlt) he
      have hno : Hid ((Mb.at ms k).n ≠ node → ∀ j, j < k + 1 → (Mb.at ms j).n ≠ node) := fun he j hj => by
        rcases (show j < k ∨ j = k by omega) with h3 | h3
        · exact A.out j h3
        · rw [h3]; exact he
      generalize Mb.at ms k = m at *
      obtain ⟨mn, mb, mf⟩ := m
      dsimp only at q0 q1 q2
      have cr := L.out.c0
      have fr := L.out.f0
      by_cases e1 : mn = node
      case pos =>
        subst e1
        have R := Lib.hid (hyes.out rfl)
        go_wp2
        have LF := Lib.hid ((((L.out).set0 (by simp) 0 (.int .i64 mn)).set0 (by simp) 1 (.int .i64 mb)).set0 (by simp) 2 (.bool mf))
        have LX := LF
        obtain ⟨W, hW⟩ : ∃ W, W = (((wr.setCell ⟨w.heap.size + 1, 0, none⟩ (.int .i64 mn)).setCell ⟨w.heap.size + 1, 1, none⟩ (.int .i64 mb)).setCell ⟨w.heap.size + 1, 2, none⟩ (.bool mf)) := ⟨_, rfl⟩
        rw [← hW] at LX ⊢
        clear hW
        have cF := LX.out.c0
        exact bodyPost_ret (v := .tuple #[.agg #[.int .i64 mn, .int .i64 mb, .bool mf], .bool true]) (by simp [results, Try.results22, go_sem, cF]) rfl ⟨by unfold findV; rw [R.out]; rfl, LX.out.below⟩
      case neg =>
        have e1' : (mn == node) = false := by rw [beq_eq_false_iff_ne]; exact e1
        have N := Lib.hid (hno.out e1)
        clear e1
        go_wp2
        go_roundw
        case rel => exact ⟨k + 1, by omega, by go_num, N, L⟩
        case measure => simp [intOf]; omega
    · have hkn : k = n := by omega
      subst hkn
      have R := Lib.hid (find_miss (ms := ms) (node := node) (fun j hj => A.out j (by rw [HN.out]; exact hj)))
      have cr := L.out.c0
      have fr := L.out.f0
      go_wp2
      have LF := Lib.hid ((((L.out).set0 (by simp) 0 (.int .i64 0)).set0 (by simp) 1 (.int .i64 0)).set0 (by simp) 2 (.bool false))
      obtain ⟨W, hW⟩ : ∃ W, W = ((wr.setCell ⟨w.heap.size + 1, 0, none⟩ (.int .i64 0)).setCell ⟨w.heap.size + 1, 1, none⟩ (.int .i64 0)).setCell ⟨w.heap.size + 1, 2, none⟩ (.bool false) := ⟨_, rfl⟩
      rw [← hW] at LF ⊢
      clear hW
      have cF := LF.out.c0
      exact bodyPost_ret (v := .tuple #[.agg #[.int .i64 0, .int .i64 0, .bool false], .bool false]) (by simp [results, Try.results22, go_sem, cF]) rfl ⟨by unfold findV; rw [R.out]; rfl, LF.out.below⟩
end Go.Proofs.Ythppeaelfcmafaa
