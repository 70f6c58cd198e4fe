/- The walks of view.Initial and bodegaref9.Initial. Own work. -/
import Derived.Test.YthppeaelfcmafaaVa
import Derived.Test.YthppeaelfcmafaaVc
namespace Go.Proofs.Ythppeaelfcmafaa
open Go.RowKit
set_option linter.unusedVariables false
def initL (k : Nat) : List Mb := (List.range k).map (fun (i : Nat) => ⟨(i : Int), 1, true⟩)
theorem initL_succ (k : Nat) : initL (k + 1) = initL k ++ [⟨(k : Int), 1, true⟩] := by unfold initL; rw [List.range_succ, List.map_append]; rfl
theorem initL_len (k : Nat) : (initL k).length = k := by simp [initL]
def initMs (nodes : Int) : List Mb := if nodesB nodes then initL nodes.toNat else []
def initC (nodes : Int) : Int := if nodesB nodes then 0 else 1
theorem initMs_len (nodes : Int) : (initMs nodes).length ≤ 5 := by
  unfold initMs
  split
  · rename_i h
    unfold nodesB at h
    rw [initL_len]
    have := of_decide_eq_true h
    omega
  · simp
/-- What an append of one member leaves. -/
theorem slm_set {w : World} {base : Nat} {e : TypeId} {n : Nat} {v : Value} {ms : List Mb} (h : w.ownsRow base e 3 v n (ms.flatMap Mb.cells)) {b : Nat} (hb : b < base) (i j : Nat) (x y : Value) : SlM ((w.setCell ⟨b, i, none⟩ x).setCell ⟨b, j, none⟩ y) v ms :=
  own_slm (ownsRow_setCell_below (ownsRow_setCell_below h (a := ⟨b, i, none⟩) hb x) (a := ⟨b, j, none⟩) hb y)
set_option maxHeartbeats 2000000 in
set_option maxRecDepth 100000 in
theorem Initial_any (nodes : Int) (w : World) :
    Calls Try.prog 16 #[.int .i64 nodes] w fun e w' => ∃ v, e = .returned (.tuple #[viewV 0 v, .int .i64 (initC nodes)]) ∧ SlM w' v (initMs nodes) ∧ Below w.heap.size w w' := by
  have L0 : Hid (Live w (w.alloc (.cells #[.int .i64 0, .slice none 0 0] 28)) _) := (Live.start w).alloc _ _
  cases hb : nodesB nodes with
  | false =>
    have RC : Hid (initC nodes = 1) := by show initC nodes = 1; unfold initC; rw [hb]; rfl
    have RM : Hid (initMs nodes = []) := by show initMs nodes = []; unfold initMs; rw [hb]; rfl
    go_enter Try.func16, Try.ntmps16
    go_wp2_with (go_at_call 35; refine (isNodes_any _ _).mono ?_; rintro e w' ⟨rfl, rfl⟩)
    refine bodyPost_ret (v := .tuple #[viewV 0 (.slice none 0 0), .int .i64 1]) (by simp [results, Try.results16, go_sem, viewV]) rfl ⟨_, by rw [RC.out], ?_, ?_⟩
    · rw [RM.out]; exact SlM.nil _
    · repeat (first | exact Below.refl _ _ | (refine Below.alloc ?_ (by simp; try omega) _) | (refine Below.setCell ?_ (by simp) _))
  | true =>
    have hn : 1 ≤ nodes ∧ nodes ≤ 5 := of_decide_eq_true hb
    obtain ⟨n, rfl⟩ := Int.eq_ofNat_of_zero_le (show 0 ≤ nodes by omega)
    have hn5 : n ≤ 5 := by omega
    have RC : Hid (initC (n : Int) = 0) := by show initC (n : Int) = 0; unfold initC; rw [hb]; rfl
    have RM : Hid (initMs (n : Int) = initL n) := by show initMs (n : Int) = _; unfold initMs; rw [hb]; rfl
    have L1 := Lib.hid (L0.out.alloc #[.int .i64 0, .slice none 0 0] 28)
    clear hn
    go_enter Try.func16, Try.ntmps16
    go_wp2_with (go_at_call 35; refine (isNodes_any _ _).mono ?_; rintro e w' ⟨rfl, rfl⟩)
    clear hb
    go_loopw [5, 12] (fun _ s12 wr => ∃ (k : Nat) (s : Value), k ≤ n ∧ s12 = .int .i64 k ∧ Hid (wr.ownsRow (w.heap.size + 2) 45 3 s k ((initL k).flatMap Mb.cells)) ∧ Hid (Live w wr [(w.heap.size + 1, 28, #[.int .i64 0, s]), (w.heap.size, 28, #[.int .i64 0, .slice none 0 0])])) (fun _ s12 _ => n - (intOf s12).toNat)
    case atStart =>
      refine ⟨0, _, by omega, rfl, (World.ownsRow_nil _ _ _ _ : World.ownsRow _ _ _ _ _ _ _), ?_⟩
      have := L1.out
      exact Lib.hid (by simpa using this)
    case round =>
      obtain ⟨k, s, hk, rfl, O, L⟩ := hrel
      have hlw := L.out.l0
      have cb := L.out.c0
      have fb := L.out.f0
      by_cases hlt : k < n
      · have hltI : (k : Int) < n := by omega
        go_wp2_with (at_builtin; refine wpList_app rfl (.tmp 16) (.tmp 19) _ rfl (w.heap.size + 2) 45 _ 3 24 Try.underlying26 mb_info rfl (by omega) _ _ _ rfl (O.out.alloc _) _ 1 _ rfl (sl_new _ _ _ 3 1 1 rfl (by omega) (by omega)) (by intro u hu; simp at hu; rcases hu with rfl | rfl | rfl <;> rfl) (by omega) (by omega) (by simp; omega) ?_; intro v' w' hown' hg'; obtain ⟨oa, oc, rfl⟩ := own_form hown'; have L2 := Lib.hid ((L.out.alloc' _).callB (below_grown (Below.refl _ _) (O.out.alloc _) hg' (Nat.le_refl _) (by simp; omega)) (by omega) (by intro x hx; simp at hx; rcases hx with rfl | rfl <;> simp)); have O2 := Lib.hid hown'; clear hown' hg' cb fb; have cb := L2.out.c0; have fb := L2.out.f0)
        go_roundw
        case rel =>
          refine ⟨k + 1, _, by omega, by go_num, ?_, L2.out.set0 (by intro x hx; simp at hx; subst hx; simp) 1 _⟩
          show World.ownsRow _ _ _ _ _ _ _
          rw [initL_succ, List.flatMap_append]
          exact ownsRow_setCell_below O2.out (a := ⟨w.heap.size + 1, 1, none⟩) (by show w.heap.size + 1 < _; omega) _
        case measure => simp [intOf]; omega
      · have hkn : k = n := by omega
        subst hkn
        have cr := L.out.tail.c0
        have fr := L.out.tail.f0
        obtain ⟨oa, oc, rfl⟩ := own_form O.out
        go_wp2
        have LF := Lib.hid ((L.out.tail.set0 (by simp) 0 (.int .i64 0)).set0 (by simp) 1 (.slice oa k oc))
        obtain ⟨W, hW⟩ : ∃ W, W = (wr.setCell ⟨w.heap.size, 0, none⟩ (.int .i64 0)).setCell ⟨w.heap.size, 1, none⟩ (.slice oa k oc) := ⟨_, rfl⟩
        have hM : SlM W (.slice oa k oc) (initL k) := by rw [hW]; exact slm_set O.out (by omega) _ _ _ _
        rw [← hW] at LF ⊢
        clear hW
        have cF := LF.out.c0
        refine bodyPost_ret (v := .tuple #[viewV 0 (.slice oa k oc), .int .i64 0]) (by simp [results, Try.results16, go_sem, viewV, cF]) rfl ⟨_, by rw [RC.out], ?_, ?_⟩
        · rw [RM.out]; exact hM
        · exact LF.out.below
set_option maxHeartbeats 2000000 in
set_option maxRecDepth 100000 in
theorem InitialR_any (nodes : Int) (w : World) :
    Calls Try.prog 17 #[.int .i64 nodes] w fun e w' => ∃ v, e = .returned (.tuple #[viewV 0 v, .int .i64 (initC nodes)]) ∧ SlM w' v (initMs nodes) ∧ Below w.heap.size w w' := by
  have L0 : Hid (Live w (w.alloc (.cells #[.int .i64 0, .slice none 0 0] 28)) _) := (Live.start w).alloc _ _
  cases hb : nodesB nodes with
  | false =>
    have RC : Hid (initC nodes = 1) := by show initC nodes = 1; unfold initC; rw [hb]; rfl
    have RM : Hid (initMs nodes = []) := by show initMs nodes = []; unfold initMs; rw [hb]; rfl
    have hn : ¬ (1 ≤ nodes ∧ nodes ≤ 5) := of_decide_eq_false hb
    clear hb
    rcases (show nodes < 1 ∨ 5 < nodes by omega) with h1 | h1
    all_goals
     (clear hn
      go_enter Try.func17, Try.ntmps17
      go_wp2
      refine bodyPost_ret (v := .tuple #[viewV 0 (.slice none 0 0), .int .i64 1]) (by simp [results, Try.results17, go_sem, viewV]) rfl ⟨_, by rw [RC.out], ?_, ?_⟩
      · rw [RM.out]; exact SlM.nil _
      · repeat (first | exact Below.refl _ _ | (refine Below.alloc ?_ (by simp; try omega) _) | (refine Below.setCell ?_ (by simp) _)))
  | true =>
    have hn : 1 ≤ nodes ∧ nodes ≤ 5 := of_decide_eq_true hb
    obtain ⟨n, rfl⟩ := Int.eq_ofNat_of_zero_le (show 0 ≤ nodes by omega)
    have hn5 : n ≤ 5 := by omega
    have RC : Hid (initC (n : Int) = 0) := by show initC (n : Int) = 0; unfold initC; rw [hb]; rfl
    have RM : Hid (initMs (n : Int) = initL n) := by show initMs (n : Int) = _; unfold initMs; rw [hb]; rfl
    have L1 := Lib.hid (L0.out.alloc #[.int .i64 0, .slice none 0 0] 28)
    have h1 : 1 ≤ (n : Int) := hn.1
    have h5 : (n : Int) ≤ 5 := hn.2
    clear hn hb
    go_enter Try.func17, Try.ntmps17
    go_wp2
    clear h1 h5
    go_loopw [5] (fun s12 wr => ∃ (k : Nat) (s : Value), k ≤ n ∧ s12 = .int .i64 k ∧ Hid (wr.ownsRow (w.heap.size + 2) 45 3 s k ((initL k).flatMap Mb.cells)) ∧ Hid (Live w wr [(w.heap.size + 1, 28, #[.int .i64 0, s]), (w.heap.size, 28, #[.int .i64 0, .slice none 0 0])])) (fun s12 _ => n - (intOf s12).toNat)
    case atStart =>
      refine ⟨0, _, by omega, rfl, (World.ownsRow_nil _ _ _ _ : World.ownsRow _ _ _ _ _ _ _), ?_⟩
      have := L1.out
      exact Lib.hid (by simpa using this)
    case round =>
      obtain ⟨k, s, hk, rfl, O, L⟩ := hrel
      have hlw := L.out.l0
      have cb := L.out.c0
      have fb := L.out.f0
      by_cases hlt : k < n
      · have hltI : (k : Int) < n := by omega
        go_wp2_with (at_builtin; refine wpList_app rfl (.tmp 20) (.tmp 23) _ rfl (w.heap.size + 2) 45 _ 3 24 Try.underlying26 mb_info rfl (by omega) _ _ _ rfl (O.out.alloc _) _ 1 _ rfl (sl_new _ _ _ 3 1 1 rfl (by omega) (by omega)) (by intro u hu; simp at hu; rcases hu with rfl | rfl | rfl <;> rfl) (by omega) (by omega) (by simp; omega) ?_; intro v' w' hown' hg'; obtain ⟨oa, oc, rfl⟩ := own_form hown'; have L2 := Lib.hid ((L.out.alloc' _).callB (below_grown (Below.refl _ _) (O.out.alloc _) hg' (Nat.le_refl _) (by simp; omega)) (by omega) (by intro x hx; simp at hx; rcases hx with rfl | rfl <;> simp)); have O2 := Lib.hid hown'; clear hown' hg' cb fb; have cb := L2.out.c0; have fb := L2.out.f0)
        go_roundw
        case rel =>
          refine ⟨k + 1, _, by omega, by go_num, ?_, L2.out.set0 (by intro x hx; simp at hx; subst hx; simp) 1 _⟩
          show World.ownsRow _ _ _ _ _ _ _
          rw [initL_succ, List.flatMap_append]
          exact ownsRow_setCell_below O2.out (a := ⟨w.heap.size + 1, 1, none⟩) (by show w.heap.size + 1 < _; omega) _
        case measure => simp [intOf]; omega
      · have hkn : k = n := by omega
        subst hkn
        have cr := L.out.tail.c0
        have fr := L.out.tail.f0
        obtain ⟨oa, oc, rfl⟩ := own_form O.out
        go_wp2
        have LF := Lib.hid ((L.out.tail.set0 (by simp) 0 (.int .i64 0)).set0 (by simp) 1 (.slice oa k oc))
        obtain ⟨W, hW⟩ : ∃ W, W = (wr.setCell ⟨w.heap.size, 0, none⟩ (.int .i64 0)).setCell ⟨w.heap.size, 1, none⟩ (.slice oa k oc) := ⟨_, rfl⟩
        have hM : SlM W (.slice oa k oc) (initL k) := by rw [hW]; exact slm_set O.out (by omega) _ _ _ _
        rw [← hW] at LF ⊢
        clear hW
        have cF := LF.out.c0
        refine bodyPost_ret (v := .tuple #[viewV 0 (.slice oa k oc), .int .i64 0]) (by simp [results, Try.results17, go_sem, viewV, cF]) rfl ⟨_, by rw [RC.out], ?_, ?_⟩
        · rw [RM.out]; exact hM
        · exact LF.out.below
end Go.Proofs.Ythppeaelfcmafaa
