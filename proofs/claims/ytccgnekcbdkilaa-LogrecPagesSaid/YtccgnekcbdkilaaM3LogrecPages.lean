/- Texts of this claim, laid together (part 3): walks of functions, what they compute, and plain laws of it. Own work. -/
import Derived.Deep.WholeRow
import Derived.Lib.SlBytesConst
import Derived.Laws.OwnMore
import Derived.OwnWalk
import Derived.Deep.OwnRows
import Derived.RangeFuncIn
import Derived.RangeFuncLeaves
import Derived.RangeFuncRecord
import Derived.RangeFuncCalls
import Derived.OrdersIn
import Derived.TacticsIn
import Derived.Test.YtccgnekcbdkilaaM2LogrecPages
/- Contracts: the reference's Valid; lists compared. Own work. -/
namespace Go.Proofs.Ytccgnekcbdkilaa
open Go.RowKit
set_option linter.unusedVariables false
set_option linter.unusedSimpArgs false
set_option maxRecDepth 100000
theorem take_eq_succ {α : Type} {xs ys : List α} {k : Nat} {x y : α} (hx : xs[k]? = some x) (hy : ys[k]? = some y) (h : xs.take k = ys.take k) : (xs.take (k + 1) = ys.take (k + 1)) ↔ x = y := by
  rw [List.take_add_one, List.take_add_one, hx, hy, h]
  simp
set_option maxHeartbeats 1000000 in
-- slices.Equal[[]bodega/api.Page,bodega/api.Page]: function 43
theorem EqualPg_ok (xs ys : List Pg) : FnP Try.prog 43 [IsSl tPg xs, IsSl tPg ys] (Is (.bool (decide (xs = ys)))) := by
  refine FnP.enter Try.func43 Try.ntmps43 rfl rfl ?_
  intro c hX
  refine JC_len (t := 0) rfl (fun hlen => ?_)
  refine JC_seq ?_
  refine JC_region ?_
  refine JL_1 rfl (op_assign rfl) ?_
  refine JL_nil ?_
  refine JQ_then (JC_seq (JC_seq ?_))
  refine JC_region ?_
  refine JL_1 rfl (op_move rfl) ?_
  refine JL_1 rfl (by first | exact op_len (Ev.rfl' rfl) rfl | exact op_lenLit (Ev.rfl' rfl) rfl) ?_
  refine JL_1 rfl (op_move rfl) ?_
  refine JL_1 rfl (by first | exact op_len (Ev.rfl' rfl) rfl | exact op_lenLit (Ev.rfl' rfl) rfl) ?_
  refine JL_1 rfl (op_neq (Ev.rfl' rfl) (Ev.rfl' rfl)) ?_
  refine JL_nil ?_
  refine JQ_then ?_
  refine JC_cond (Ev.rfl' rfl) (fun h1 => ?_) (fun h1 => ?_)
  · have e : xs ≠ ys := by rintro rfl; simp at h1
    refine JC_seq ?_
    refine JC_region ?_
    refine JL_1 rfl (op_assign rfl) ?_
    refine JL_nil ?_
    refine JQ_then (JC_ret (JQ_then_ret ?_))
    refine JQ_ret1 Try.results43 rfl () (SubL.eq ?_) (List.nil_sublist _)
    rw [decide_eq_false e]
  have hl : xs.length = ys.length := by simp at h1; omega
  clear h1
  refine JC_skip (JQ_then (JC_seq (JC_seq ?_)))
  refine JC_region ?_
  refine JL_1 rfl (op_move rfl) ?_
  refine JL_1 rfl (by first | exact op_len (Ev.rfl' rfl) rfl | exact op_lenLit (Ev.rfl' rfl) rfl) ?_
  refine JL_1 rfl (op_move rfl) ?_
  refine JL_nil ?_
  refine JQ_then (JC_block ?_)
  refine JC_loopP (fun k : Nat => k ≤ xs.length ∧ xs.take k = ys.take k) (fun k => [(0, IsSl tPg xs), (1, IsSl tPg ys), (12, Is (.int .i64 xs.length)), (13, Is (.int .i64 (k : Nat)))]) (fun _ => []) (fun k => xs.length - k) 0 ⟨Nat.zero_le _, rfl⟩ esubT lessT ?_
  rintro k ⟨hk, hs⟩
  refine JC_seq ?_
  refine JC_region ?_
  refine JL_1 rfl (op_lss (Ev.rfl' rfl) (Ev.rfl' rfl)) ?_
  refine JL_nil ?_
  refine JQ_then (JC_seq ?_)
  refine JC_cond (Ev.rfl' rfl) (fun h4 => ?_) (fun h4 => ?_)
  · have h' : (k : Int) < xs.length := of_decide_eq_true h4
    clear h4
    obtain ⟨mx, hx⟩ : ∃ m, xs[k]? = some m := ⟨xs[k], List.getElem?_eq_getElem (by omega)⟩
    obtain ⟨my, hy⟩ : ∃ m, ys[k]? = some m := ⟨ys[k], List.getElem?_eq_getElem (by omega)⟩
    refine JC_skip (JQ_then (JC_seq (JC_block (JC_seq ?_))))
    refine JC_region ?_
    refine JL_1 rfl (op_move rfl) ?_
    refine JL_1 rfl (op_assign rfl) ?_
    refine JL_nil ?_
    refine JQ_then (JC_seq ?_)
    refine JC_dr rfl (by kernel_rfl) ?_
    refine JD_stretch 9 (by kernel_rfl) ?_
    refine JW_1 (op_move rfl) ?_
    refine JW_1 (op_move rfl) ?_
    refine JW_1 (by first | exact op_index (j := _) (Ev.rfl' rfl) (Ev.rfl' rfl) rfl rfl (by first | rfl | omega) hx | exact op_index (j := _) (Ev.rfl' rfl) (Ev.rfl' rfl) rfl rfl (by first | rfl | omega) hy | exact op_index (j := _) (Ev.rfl' rfl) (Ev.rfl' rfl) rfl rfl (by first | rfl | omega) (by assumption)) ?_
    refine JW_1 (by first | exact op_loadRefsN (n := 9) (Ev.rfl' rfl) rfl rfl rfl (by rfl) nrmT | exact op_loadPtrsN (n := 9) (Ev.rfl' rfl) memT (by rfl) (by rfl) (by rfl) (by rfl) nrmT) ?_
    refine JW_1 (op_move rfl) ?_
    refine JW_1 (op_move rfl) ?_
    refine JW_1 (by first | exact op_index (j := _) (Ev.rfl' rfl) (Ev.rfl' rfl) rfl rfl (by first | rfl | omega) hx | exact op_index (j := _) (Ev.rfl' rfl) (Ev.rfl' rfl) rfl rfl (by first | rfl | omega) hy | exact op_index (j := _) (Ev.rfl' rfl) (Ev.rfl' rfl) rfl rfl (by first | rfl | omega) (by assumption)) ?_
    refine JW_1 (by first | exact op_loadRefsN (n := 9) (Ev.rfl' rfl) rfl rfl rfl (by rfl) nrmT | exact op_loadPtrsN (n := 9) (Ev.rfl' rfl) memT (by rfl) (by rfl) (by rfl) (by rfl) nrmT) ?_
    refine JW_1 (op_cmpA (vs := Pg.cells mx) (ws := Pg.cells my) (Ev.rfl' rfl) (Ev.rfl' rfl) (eqPg_guard _ _ _ mx my) (eqPg_neq mx my)) ?_
    refine ⟨rfl, ?_⟩
    refine JD_end ?_
    refine JQ_then ?_
    refine JC_cond (Ev.rfl' rfl) (fun h6 => ?_) (fun h6 => ?_)
    · have e : xs ≠ ys := by
        rintro rfl
        rw [hx] at hy
        have hm : mx = my := by simpa using hy
        subst hm
        simp at h6
      refine JC_seq ?_
      refine JC_region ?_
      refine JL_1 rfl (op_assign rfl) ?_
      refine JL_nil ?_
      refine JQ_then (JC_ret (JQ_block_ret (JQ_then_ret (JQ_then_ret (JQ_block_ret (JQ_then_ret ?_))))))
      refine JQ_ret1 Try.results43 rfl () (SubL.eq ?_) (List.nil_sublist _)
      rw [decide_eq_false e]
    have e : mx = my := by simpa [UV_inj] using h6
    clear h6
    refine JC_skip (JQ_block (JQ_then ?_))
    refine JC_region ?_
    refine JL_1 rfl (op_add (Ev.rfl' rfl) (Ev.rfl' rfl) wrapT) ?_
    refine JL_1 rfl (op_move rfl) ?_
    refine JL_nil ?_
    exact JQ_roundP (k + 1) ⟨by omega, (take_eq_succ hx hy hs).2 e⟩ (by omega) esubT lessT
  have e : xs = ys := by
    have h' : ¬ (k : Int) < xs.length := of_decide_eq_false h4
    rw [List.take_of_length_le (by omega), List.take_of_length_le (by omega)] at hs
    exact hs
  clear h4
  refine JC_exit (JQ_then_exit (JQ_then_exit (JQ_hit (JQ_then (JC_seq ?_)))))
  refine JC_region ?_
  refine JL_1 rfl (op_assign rfl) ?_
  refine JL_nil ?_
  refine JQ_then (JC_ret ?_)
  refine JQ_ret1 Try.results43 rfl () (SubL.eq ?_) (List.nil_sublist _)
  rw [decide_eq_true e]
set_option maxHeartbeats 1000000 in
-- bodegaref4.SamePages: function 44
theorem SamePages_ok (xs ys : List Pg) : FnP Try.prog 44 [IsSl tPg xs, IsSl tPg ys] (Is (.bool (decide (xs = ys)))) := by
  refine FnP.enter Try.func44 Try.ntmps44 rfl rfl ?_
  intro c hX
  refine JC_len (t := 0) rfl (fun hlen => ?_)
  refine JC_seq ?_
  refine JC_region ?_
  refine JL_1 rfl (op_assign rfl) ?_
  refine JL_nil ?_
  refine JQ_then (JC_seq (JC_seq ?_))
  refine JC_region ?_
  refine JL_1 rfl (op_move rfl) ?_
  refine JL_1 rfl (by first | exact op_len (Ev.rfl' rfl) rfl | exact op_lenLit (Ev.rfl' rfl) rfl) ?_
  refine JL_1 rfl (op_move rfl) ?_
  refine JL_1 rfl (by first | exact op_len (Ev.rfl' rfl) rfl | exact op_lenLit (Ev.rfl' rfl) rfl) ?_
  refine JL_1 rfl (op_neq (Ev.rfl' rfl) (Ev.rfl' rfl)) ?_
  refine JL_nil ?_
  refine JQ_then ?_
  refine JC_cond (Ev.rfl' rfl) (fun h1 => ?_) (fun h1 => ?_)
  · have e : xs ≠ ys := by rintro rfl; simp at h1
    refine JC_seq ?_
    refine JC_region ?_
    refine JL_1 rfl (op_assign rfl) ?_
    refine JL_nil ?_
    refine JQ_then (JC_ret (JQ_then_ret ?_))
    refine JQ_ret1 Try.results44 rfl () (SubL.eq ?_) (List.nil_sublist _)
    rw [decide_eq_false e]
  have hl : xs.length = ys.length := by simp at h1; omega
  clear h1
  refine JC_skip (JQ_then (JC_seq (JC_seq ?_)))
  refine JC_region ?_
  refine JL_1 rfl (op_assign rfl) ?_
  refine JL_nil ?_
  refine JQ_then (JC_block ?_)
  refine JC_loopP (fun k : Nat => k ≤ xs.length ∧ xs.take k = ys.take k) (fun k => [(0, IsSl tPg xs), (1, IsSl tPg ys), (5, Is (.int .i64 (k : Nat)))]) (fun _ => []) (fun k => xs.length - k) 0 ⟨Nat.zero_le _, rfl⟩ esubT lessT ?_
  rintro k ⟨hk, hs⟩
  refine JC_seq (JC_seq ?_)
  refine JC_region ?_
  refine JL_1 rfl (op_move rfl) ?_
  refine JL_1 rfl (op_move rfl) ?_
  refine JL_1 rfl (by first | exact op_len (Ev.rfl' rfl) rfl | exact op_lenLit (Ev.rfl' rfl) rfl) ?_
  refine JL_1 rfl (op_lss (Ev.rfl' rfl) (Ev.rfl' rfl)) ?_
  refine JL_nil ?_
  refine JQ_then ?_
  refine JC_cond (Ev.rfl' rfl) (fun h4 => ?_) (fun h4 => ?_)
  · have h' : (k : Int) < xs.length := of_decide_eq_true h4
    clear h4
    obtain ⟨mx, hx⟩ : ∃ m, xs[k]? = some m := ⟨xs[k], List.getElem?_eq_getElem (by omega)⟩
    obtain ⟨my, hy⟩ : ∃ m, ys[k]? = some m := ⟨ys[k], List.getElem?_eq_getElem (by omega)⟩
    refine JC_skip (JQ_then (JC_seq (JC_block (JC_seq ?_))))
    refine JC_dr rfl (by kernel_rfl) ?_
    refine JD_stretch 9 (by kernel_rfl) ?_
    refine JW_1 (op_move rfl) ?_
    refine JW_1 (op_move rfl) ?_
    refine JW_1 (by first | exact op_index (j := _) (Ev.rfl' rfl) (Ev.rfl' rfl) rfl rfl (by first | rfl | omega) hx | exact op_index (j := _) (Ev.rfl' rfl) (Ev.rfl' rfl) rfl rfl (by first | rfl | omega) hy | exact op_index (j := _) (Ev.rfl' rfl) (Ev.rfl' rfl) rfl rfl (by first | rfl | omega) (by assumption)) ?_
    refine JW_1 (by first | exact op_loadRefsN (n := 9) (Ev.rfl' rfl) rfl rfl rfl (by rfl) nrmT | exact op_loadPtrsN (n := 9) (Ev.rfl' rfl) memT (by rfl) (by rfl) (by rfl) (by rfl) nrmT) ?_
    refine JW_1 (op_move rfl) ?_
    refine JW_1 (op_move rfl) ?_
    refine JW_1 (by first | exact op_index (j := _) (Ev.rfl' rfl) (Ev.rfl' rfl) rfl rfl (by first | rfl | omega) hx | exact op_index (j := _) (Ev.rfl' rfl) (Ev.rfl' rfl) rfl rfl (by first | rfl | omega) hy | exact op_index (j := _) (Ev.rfl' rfl) (Ev.rfl' rfl) rfl rfl (by first | rfl | omega) (by assumption)) ?_
    refine JW_1 (by first | exact op_loadRefsN (n := 9) (Ev.rfl' rfl) rfl rfl rfl (by rfl) nrmT | exact op_loadPtrsN (n := 9) (Ev.rfl' rfl) memT (by rfl) (by rfl) (by rfl) (by rfl) nrmT) ?_
    refine JW_1 (op_cmpA (vs := Pg.cells mx) (ws := Pg.cells my) (Ev.rfl' rfl) (Ev.rfl' rfl) (eqPg_guard _ _ _ mx my) (eqPg_neq mx my)) ?_
    refine ⟨rfl, ?_⟩
    refine JD_end ?_
    refine JQ_then ?_
    refine JC_cond (Ev.rfl' rfl) (fun h6 => ?_) (fun h6 => ?_)
    · have e : xs ≠ ys := by
        rintro rfl
        rw [hx] at hy
        have hm : mx = my := by simpa using hy
        subst hm
        simp at h6
      refine JC_seq ?_
      refine JC_region ?_
      refine JL_1 rfl (op_assign rfl) ?_
      refine JL_nil ?_
      refine JQ_then (JC_ret (JQ_block_ret (JQ_then_ret (JQ_then_ret (JQ_block_ret (JQ_then_ret ?_))))))
      refine JQ_ret1 Try.results44 rfl () (SubL.eq ?_) (List.nil_sublist _)
      rw [decide_eq_false e]
    have e : mx = my := by simpa [UV_inj] using h6
    clear h6
    refine JC_skip (JQ_block (JQ_then ?_))
    refine JC_region ?_
    refine JL_1 rfl (op_move rfl) ?_
    refine JL_1 rfl (op_add (Ev.rfl' rfl) (Ev.rfl' rfl) wrapT) ?_
    refine JL_1 rfl (op_assign rfl) ?_
    refine JL_nil ?_
    exact JQ_roundP (k + 1) ⟨by omega, (take_eq_succ hx hy hs).2 e⟩ (by omega) esubT lessT
  have e : xs = ys := by
    have h' : ¬ (k : Int) < xs.length := of_decide_eq_false h4
    rw [List.take_of_length_le (by omega), List.take_of_length_le (by omega)] at hs
    exact hs
  clear h4
  refine JC_exit (JQ_then_exit (JQ_then_exit (JQ_hit (JQ_then (JC_seq ?_)))))
  refine JC_region ?_
  refine JL_1 rfl (op_assign rfl) ?_
  refine JL_nil ?_
  refine JQ_then (JC_ret ?_)
  refine JQ_ret1 Try.results44 rfl () (SubL.eq ?_) (List.nil_sublist _)
  rw [decide_eq_true e]
set_option maxHeartbeats 1000000 in
-- slices.Equal[[]uint64,uint64]: function 49
theorem EqualU_ok (xs ys : List (BitVec 64)) : FnP Try.prog 49 [IsSl tU64 xs, IsSl tU64 ys] (Is (.bool (decide (xs = ys)))) := by
  refine FnP.enter Try.func49 Try.ntmps49 rfl rfl ?_
  intro c hX
  refine JC_len (t := 0) rfl (fun hlen => ?_)
  refine JC_seq ?_
  refine JC_region ?_
  refine JL_1 rfl (op_assign rfl) ?_
  refine JL_nil ?_
  refine JQ_then (JC_seq (JC_seq ?_))
  refine JC_region ?_
  refine JL_1 rfl (op_move rfl) ?_
  refine JL_1 rfl (by first | exact op_len (Ev.rfl' rfl) rfl | exact op_lenLit (Ev.rfl' rfl) rfl) ?_
  refine JL_1 rfl (op_move rfl) ?_
  refine JL_1 rfl (by first | exact op_len (Ev.rfl' rfl) rfl | exact op_lenLit (Ev.rfl' rfl) rfl) ?_
  refine JL_1 rfl (op_neq (Ev.rfl' rfl) (Ev.rfl' rfl)) ?_
  refine JL_nil ?_
  refine JQ_then ?_
  refine JC_cond (Ev.rfl' rfl) (fun h1 => ?_) (fun h1 => ?_)
  · have e : xs ≠ ys := by rintro rfl; simp at h1
    refine JC_seq ?_
    refine JC_region ?_
    refine JL_1 rfl (op_assign rfl) ?_
    refine JL_nil ?_
    refine JQ_then (JC_ret (JQ_then_ret ?_))
    refine JQ_ret1 Try.results49 rfl () (SubL.eq ?_) (List.nil_sublist _)
    rw [decide_eq_false e]
  have hl : xs.length = ys.length := by simp at h1; omega
  clear h1
  refine JC_skip (JQ_then (JC_seq (JC_seq ?_)))
  refine JC_region ?_
  refine JL_1 rfl (op_move rfl) ?_
  refine JL_1 rfl (by first | exact op_len (Ev.rfl' rfl) rfl | exact op_lenLit (Ev.rfl' rfl) rfl) ?_
  refine JL_1 rfl (op_move rfl) ?_
  refine JL_nil ?_
  refine JQ_then (JC_block ?_)
  refine JC_loopP (fun k : Nat => k ≤ xs.length ∧ xs.take k = ys.take k) (fun k => [(0, IsSl tU64 xs), (1, IsSl tU64 ys), (12, Is (.int .i64 xs.length)), (13, Is (.int .i64 (k : Nat)))]) (fun _ => []) (fun k => xs.length - k) 0 ⟨Nat.zero_le _, rfl⟩ esubT lessT ?_
  rintro k ⟨hk, hs⟩
  refine JC_seq ?_
  refine JC_region ?_
  refine JL_1 rfl (op_lss (Ev.rfl' rfl) (Ev.rfl' rfl)) ?_
  refine JL_nil ?_
  refine JQ_then (JC_seq ?_)
  refine JC_cond (Ev.rfl' rfl) (fun h4 => ?_) (fun h4 => ?_)
  · have h' : (k : Int) < xs.length := of_decide_eq_true h4
    clear h4
    obtain ⟨mx, hx⟩ : ∃ m, xs[k]? = some m := ⟨xs[k], List.getElem?_eq_getElem (by omega)⟩
    obtain ⟨my, hy⟩ : ∃ m, ys[k]? = some m := ⟨ys[k], List.getElem?_eq_getElem (by omega)⟩
    refine JC_skip (JQ_then (JC_seq (JC_block (JC_seq ?_))))
    refine JC_region ?_
    refine JL_1 rfl (op_move rfl) ?_
    refine JL_1 rfl (op_assign rfl) ?_
    refine JL_nil ?_
    refine JQ_then (JC_seq ?_)
    refine JC_dr rfl (by kernel_rfl) ?_
    refine JD_stretch 9 (by kernel_rfl) ?_
    refine JW_1 (op_move rfl) ?_
    refine JW_1 (op_move rfl) ?_
    refine JW_1 (by first | exact op_index (j := _) (Ev.rfl' rfl) (Ev.rfl' rfl) rfl rfl (by first | rfl | omega) hx | exact op_index (j := _) (Ev.rfl' rfl) (Ev.rfl' rfl) rfl rfl (by first | rfl | omega) hy | exact op_index (j := _) (Ev.rfl' rfl) (Ev.rfl' rfl) rfl rfl (by first | rfl | omega) (by assumption)) ?_
    refine JW_1 (by first | exact op_loadRef (Ev.rfl' rfl) rfl rfl rfl | exact op_loadPtr (Ev.rfl' rfl) memT (by rfl) (by rfl) (by rfl)) ?_
    refine JW_1 (op_move rfl) ?_
    refine JW_1 (op_move rfl) ?_
    refine JW_1 (by first | exact op_index (j := _) (Ev.rfl' rfl) (Ev.rfl' rfl) rfl rfl (by first | rfl | omega) hx | exact op_index (j := _) (Ev.rfl' rfl) (Ev.rfl' rfl) rfl rfl (by first | rfl | omega) hy | exact op_index (j := _) (Ev.rfl' rfl) (Ev.rfl' rfl) rfl rfl (by first | rfl | omega) (by assumption)) ?_
    refine JW_1 (by first | exact op_loadRef (Ev.rfl' rfl) rfl rfl rfl | exact op_loadPtr (Ev.rfl' rfl) memT (by rfl) (by rfl) (by rfl)) ?_
    refine JW_1 (op_neq (Ev.rfl' rfl) (Ev.rfl' rfl)) ?_
    refine ⟨rfl, ?_⟩
    refine JD_end ?_
    refine JQ_then ?_
    refine JC_cond (Ev.rfl' rfl) (fun h6 => ?_) (fun h6 => ?_)
    · have e : xs ≠ ys := by
        rintro rfl
        rw [hx] at hy
        have hm : mx = my := by simpa using hy
        subst hm
        simp at h6
      refine JC_seq ?_
      refine JC_region ?_
      refine JL_1 rfl (op_assign rfl) ?_
      refine JL_nil ?_
      refine JQ_then (JC_ret (JQ_block_ret (JQ_then_ret (JQ_then_ret (JQ_block_ret (JQ_then_ret ?_))))))
      refine JQ_ret1 Try.results49 rfl () (SubL.eq ?_) (List.nil_sublist _)
      rw [decide_eq_false e]
    have e : mx = my := by simpa [UV_inj] using h6
    clear h6
    refine JC_skip (JQ_block (JQ_then ?_))
    refine JC_region ?_
    refine JL_1 rfl (op_add (Ev.rfl' rfl) (Ev.rfl' rfl) wrapT) ?_
    refine JL_1 rfl (op_move rfl) ?_
    refine JL_nil ?_
    exact JQ_roundP (k + 1) ⟨by omega, (take_eq_succ hx hy hs).2 e⟩ (by omega) esubT lessT
  have e : xs = ys := by
    have h' : ¬ (k : Int) < xs.length := of_decide_eq_false h4
    rw [List.take_of_length_le (by omega), List.take_of_length_le (by omega)] at hs
    exact hs
  clear h4
  refine JC_exit (JQ_then_exit (JQ_then_exit (JQ_hit (JQ_then (JC_seq ?_)))))
  refine JC_region ?_
  refine JL_1 rfl (op_assign rfl) ?_
  refine JL_nil ?_
  refine JQ_then (JC_ret ?_)
  refine JQ_ret1 Try.results49 rfl () (SubL.eq ?_) (List.nil_sublist _)
  rw [decide_eq_true e]
set_option maxHeartbeats 1000000 in
-- bodegaref1.SameWords: function 18
theorem SameWords_ok (xs ys : List (BitVec 64)) : FnP Try.prog 18 [IsSl tU64 xs, IsSl tU64 ys] (Is (.bool (decide (xs = ys)))) := by
  refine FnP.enter Try.func18 Try.ntmps18 rfl rfl ?_
  intro c hX
  refine JC_len (t := 0) rfl (fun hlen => ?_)
  refine JC_seq ?_
  refine JC_region ?_
  refine JL_1 rfl (op_assign rfl) ?_
  refine JL_nil ?_
  refine JQ_then (JC_seq (JC_seq ?_))
  refine JC_region ?_
  refine JL_1 rfl (op_move rfl) ?_
  refine JL_1 rfl (by first | exact op_len (Ev.rfl' rfl) rfl | exact op_lenLit (Ev.rfl' rfl) rfl) ?_
  refine JL_1 rfl (op_move rfl) ?_
  refine JL_1 rfl (by first | exact op_len (Ev.rfl' rfl) rfl | exact op_lenLit (Ev.rfl' rfl) rfl) ?_
  refine JL_1 rfl (op_neq (Ev.rfl' rfl) (Ev.rfl' rfl)) ?_
  refine JL_nil ?_
  refine JQ_then ?_
  refine JC_cond (Ev.rfl' rfl) (fun h1 => ?_) (fun h1 => ?_)
  · have e : xs ≠ ys := by rintro rfl; simp at h1
    refine JC_seq ?_
    refine JC_region ?_
    refine JL_1 rfl (op_assign rfl) ?_
    refine JL_nil ?_
    refine JQ_then (JC_ret (JQ_then_ret ?_))
    refine JQ_ret1 Try.results18 rfl () (SubL.eq ?_) (List.nil_sublist _)
    rw [decide_eq_false e]
  have hl : xs.length = ys.length := by simp at h1; omega
  clear h1
  refine JC_skip (JQ_then (JC_seq (JC_seq ?_)))
  refine JC_region ?_
  refine JL_1 rfl (op_assign rfl) ?_
  refine JL_nil ?_
  refine JQ_then (JC_block ?_)
  refine JC_loopP (fun k : Nat => k ≤ xs.length ∧ xs.take k = ys.take k) (fun k => [(0, IsSl tU64 xs), (1, IsSl tU64 ys), (5, Is (.int .i64 (k : Nat)))]) (fun _ => []) (fun k => xs.length - k) 0 ⟨Nat.zero_le _, rfl⟩ esubT lessT ?_
  rintro k ⟨hk, hs⟩
  refine JC_seq (JC_seq ?_)
  refine JC_region ?_
  refine JL_1 rfl (op_move rfl) ?_
  refine JL_1 rfl (op_move rfl) ?_
  refine JL_1 rfl (by first | exact op_len (Ev.rfl' rfl) rfl | exact op_lenLit (Ev.rfl' rfl) rfl) ?_
  refine JL_1 rfl (op_lss (Ev.rfl' rfl) (Ev.rfl' rfl)) ?_
  refine JL_nil ?_
  refine JQ_then ?_
  refine JC_cond (Ev.rfl' rfl) (fun h4 => ?_) (fun h4 => ?_)
  · have h' : (k : Int) < xs.length := of_decide_eq_true h4
    clear h4
    obtain ⟨mx, hx⟩ : ∃ m, xs[k]? = some m := ⟨xs[k], List.getElem?_eq_getElem (by omega)⟩
    obtain ⟨my, hy⟩ : ∃ m, ys[k]? = some m := ⟨ys[k], List.getElem?_eq_getElem (by omega)⟩
    refine JC_skip (JQ_then (JC_seq (JC_block (JC_seq ?_))))
    refine JC_dr rfl (by kernel_rfl) ?_
    refine JD_stretch 9 (by kernel_rfl) ?_
    refine JW_1 (op_move rfl) ?_
    refine JW_1 (op_move rfl) ?_
    refine JW_1 (by first | exact op_index (j := _) (Ev.rfl' rfl) (Ev.rfl' rfl) rfl rfl (by first | rfl | omega) hx | exact op_index (j := _) (Ev.rfl' rfl) (Ev.rfl' rfl) rfl rfl (by first | rfl | omega) hy | exact op_index (j := _) (Ev.rfl' rfl) (Ev.rfl' rfl) rfl rfl (by first | rfl | omega) (by assumption)) ?_
    refine JW_1 (by first | exact op_loadRef (Ev.rfl' rfl) rfl rfl rfl | exact op_loadPtr (Ev.rfl' rfl) memT (by rfl) (by rfl) (by rfl)) ?_
    refine JW_1 (op_move rfl) ?_
    refine JW_1 (op_move rfl) ?_
    refine JW_1 (by first | exact op_index (j := _) (Ev.rfl' rfl) (Ev.rfl' rfl) rfl rfl (by first | rfl | omega) hx | exact op_index (j := _) (Ev.rfl' rfl) (Ev.rfl' rfl) rfl rfl (by first | rfl | omega) hy | exact op_index (j := _) (Ev.rfl' rfl) (Ev.rfl' rfl) rfl rfl (by first | rfl | omega) (by assumption)) ?_
    refine JW_1 (by first | exact op_loadRef (Ev.rfl' rfl) rfl rfl rfl | exact op_loadPtr (Ev.rfl' rfl) memT (by rfl) (by rfl) (by rfl)) ?_
    refine JW_1 (op_neq (Ev.rfl' rfl) (Ev.rfl' rfl)) ?_
    refine ⟨rfl, ?_⟩
    refine JD_end ?_
    refine JQ_then ?_
    refine JC_cond (Ev.rfl' rfl) (fun h6 => ?_) (fun h6 => ?_)
    · have e : xs ≠ ys := by
        rintro rfl
        rw [hx] at hy
        have hm : mx = my := by simpa using hy
        subst hm
        simp at h6
      refine JC_seq ?_
      refine JC_region ?_
      refine JL_1 rfl (op_assign rfl) ?_
      refine JL_nil ?_
      refine JQ_then (JC_ret (JQ_block_ret (JQ_then_ret (JQ_then_ret (JQ_block_ret (JQ_then_ret ?_))))))
      refine JQ_ret1 Try.results18 rfl () (SubL.eq ?_) (List.nil_sublist _)
      rw [decide_eq_false e]
    have e : mx = my := by simpa [UV_inj] using h6
    clear h6
    refine JC_skip (JQ_block (JQ_then ?_))
    refine JC_region ?_
    refine JL_1 rfl (op_move rfl) ?_
    refine JL_1 rfl (op_add (Ev.rfl' rfl) (Ev.rfl' rfl) wrapT) ?_
    refine JL_1 rfl (op_assign rfl) ?_
    refine JL_nil ?_
    exact JQ_roundP (k + 1) ⟨by omega, (take_eq_succ hx hy hs).2 e⟩ (by omega) esubT lessT
  have e : xs = ys := by
    have h' : ¬ (k : Int) < xs.length := of_decide_eq_false h4
    rw [List.take_of_length_le (by omega), List.take_of_length_le (by omega)] at hs
    exact hs
  clear h4
  refine JC_exit (JQ_then_exit (JQ_then_exit (JQ_hit (JQ_then (JC_seq ?_)))))
  refine JC_region ?_
  refine JL_1 rfl (op_assign rfl) ?_
  refine JL_nil ?_
  refine JQ_then (JC_ret ?_)
  refine JQ_ret1 Try.results18 rfl () (SubL.eq ?_) (List.nil_sublist _)
  rw [decide_eq_true e]
-- bodegaref1.InHeap: function 40
theorem InHeap_ok (n lines : Int) (hl : 98 ≤ lines ∧ lines ≤ 256) : FnP Try.prog 40 [Is (.int .i64 n), Is (.int .i64 lines)] (Is (.bool (!(decide (n < 96) || decide (n ≥ lines))))) := by
  refine FnP.enter Try.func40 Try.ntmps40 rfl rfl ?_
  intro c hX
  refine JC_seq ?_
  refine JC_region ?_
  refine JL_1 rfl (op_assign rfl) ?_
  refine JL_nil ?_
  refine JQ_then (JC_seq ?_)
  refine JC_region ?_
  refine JL_1 rfl (op_move rfl) ?_
  refine JL_1 rfl (op_geq (Ev.rfl' rfl) (Ev.rfl' rfl)) ?_
  refine JL_1 rfl (op_move rfl) ?_
  (first | refine JL_i0 rfl rfl rfl (fun hg => (by have hg0 := hg; (try simp at hg); first | exact op_moveE (Ev.sub rfl (SubL.iteT (by first | assumption | (simp; done) | (simp; omega) | (simp_all; done)) SubL.rfl')) | exact op_moveE (Ev.rfl' rfl))) ?_ | refine JL_i rfl rfl rfl (fun hp hg => (by have hpg := Bool.and_eq_true_iff.2 ⟨hp, hg⟩; have hg0 := hg; (try simp at hg); first | exact op_moveE (Ev.sub rfl (SubL.iteT (by first | assumption | (simp; done) | (simp; omega) | (simp_all; done)) SubL.rfl')) | exact op_moveE (Ev.rfl' rfl))) ?_)
  (first | refine JL_i0 rfl rfl rfl (fun hg => (by have hg0 := hg; (try simp at hg); exact op_leq evG evG)) ?_ | refine JL_i rfl rfl rfl (fun hp hg => (by have hpg := Bool.and_eq_true_iff.2 ⟨hp, hg⟩; have hg0 := hg; (try simp at hg); exact op_leq evG evG)) ?_)
  refine JL_1 rfl (op_and (Ev.rfl' rfl) rfl (fun h => by first | exact SubL.rfl' | exact SubL.iteT (by first | (rw [h]; rfl) | (simp_all; done)) SubL.rfl')) ?_
  refine JL_1 rfl (op_move rfl) ?_
  (first | refine JL_i0 rfl rfl rfl (fun hg => (by have hg0 := hg; (try simp at hg); first | exact op_moveE (Ev.sub rfl (SubL.iteT (by first | assumption | (simp; done) | (simp; omega) | (simp_all; done)) SubL.rfl')) | exact op_moveE (Ev.rfl' rfl))) ?_ | refine JL_i rfl rfl rfl (fun hp hg => (by have hpg := Bool.and_eq_true_iff.2 ⟨hp, hg⟩; have hg0 := hg; (try simp at hg); first | exact op_moveE (Ev.sub rfl (SubL.iteT (by first | assumption | (simp; done) | (simp; omega) | (simp_all; done)) SubL.rfl')) | exact op_moveE (Ev.rfl' rfl))) ?_)
  (first | refine JL_i0 rfl rfl rfl (fun hg => (by have hg0 := hg; (try simp at hg); exact op_geq evG evG)) ?_ | refine JL_i rfl rfl rfl (fun hp hg => (by have hpg := Bool.and_eq_true_iff.2 ⟨hp, hg⟩; have hg0 := hg; (try simp at hg); exact op_geq evG evG)) ?_)
  refine JL_1 rfl (op_and (Ev.rfl' rfl) rfl (fun h => by first | exact SubL.rfl' | exact SubL.iteT (by first | (rw [h]; rfl) | (simp_all; done)) SubL.rfl')) ?_
  refine JL_1 rfl (op_move rfl) ?_
  (first | refine JL_i0 rfl rfl rfl (fun hg => (by have hg0 := hg; (try simp at hg); first | exact op_moveE (Ev.sub rfl (SubL.iteT (by first | assumption | (simp; done) | (simp; omega) | (simp_all; done)) SubL.rfl')) | exact op_moveE (Ev.rfl' rfl))) ?_ | refine JL_i rfl rfl rfl (fun hp hg => (by have hpg := Bool.and_eq_true_iff.2 ⟨hp, hg⟩; have hg0 := hg; (try simp at hg); first | exact op_moveE (Ev.sub rfl (SubL.iteT (by first | assumption | (simp; done) | (simp; omega) | (simp_all; done)) SubL.rfl')) | exact op_moveE (Ev.rfl' rfl))) ?_)
  (first | refine JL_i0 rfl rfl rfl (fun hg => (by have hg0 := hg; (try simp at hg); first | exact op_moveE (Ev.sub rfl (SubL.iteT (by first | assumption | (simp; done) | (simp; omega) | (simp_all; done)) SubL.rfl')) | exact op_moveE (Ev.rfl' rfl))) ?_ | refine JL_i rfl rfl rfl (fun hp hg => (by have hpg := Bool.and_eq_true_iff.2 ⟨hp, hg⟩; have hg0 := hg; (try simp at hg); first | exact op_moveE (Ev.sub rfl (SubL.iteT (by first | assumption | (simp; done) | (simp; omega) | (simp_all; done)) SubL.rfl')) | exact op_moveE (Ev.rfl' rfl))) ?_)
  (first | refine JL_i0 rfl rfl rfl (fun hg => (by have hg0 := hg; (try simp at hg); exact op_lss evG evG)) ?_ | refine JL_i rfl rfl rfl (fun hp hg => (by have hpg := Bool.and_eq_true_iff.2 ⟨hp, hg⟩; have hg0 := hg; (try simp at hg); exact op_lss evG evG)) ?_)
  refine JL_1 rfl (op_and (Ev.rfl' rfl) rfl (fun h => by first | exact SubL.rfl' | exact SubL.iteT (by first | (rw [h]; rfl) | (simp_all; done)) SubL.rfl')) ?_
  refine JL_1 rfl (op_assign rfl) ?_
  refine JL_nil ?_
  refine JQ_then (JC_ret ?_)
  refine JQ_ret1 Try.results40 rfl () (SubL.eq ?_) (List.nil_sublist _)
  congr 2
  rw [Bool.eq_iff_iff]
  simp
  omega
-- logrec.Same: function 15
theorem Same_ok (s t : Int) (xs ys : List Pg) : FnP Try.prog 15 [IsRec s xs, IsRec t ys] (Is (.bool (s == t && decide (xs = ys)))) := by
  refine FnP.enter Try.func15 Try.ntmps15 rfl rfl ?_
  intro c hX
  refine JC_seq ?_
  refine JC_region ?_
  (refine JL_n rfl (op_box (Ev.rfl' rfl) cellsT) ?_; intro i2)
  (refine JL_n rfl (op_box (Ev.rfl' rfl) cellsT) ?_; intro i3)
  refine JL_1 rfl (op_assign rfl) ?_
  refine JL_nil ?_
  refine JQ_then (JC_seq ?_)
  refine JC_region ?_
  refine JL_1 rfl (by first | exact op_fieldPtr (k := 0) (Ev.rfl' rfl) rfl rfl rfl rfl | exact op_fieldRefN (k := 0) (Ev.rfl' rfl) rfl rfl rfl rfl nrmT) ?_
  refine JL_1 rfl (by first | exact op_loadRef (Ev.rfl' rfl) rfl rfl rfl | exact op_loadPtr (Ev.rfl' rfl) memT (by rfl) (by rfl) (by rfl)) ?_
  refine JL_1 rfl (by first | exact op_fieldPtr (k := 0) (Ev.rfl' rfl) rfl rfl rfl rfl | exact op_fieldRefN (k := 0) (Ev.rfl' rfl) rfl rfl rfl rfl nrmT) ?_
  refine JL_1 rfl (by first | exact op_loadRef (Ev.rfl' rfl) rfl rfl rfl | exact op_loadPtr (Ev.rfl' rfl) memT (by rfl) (by rfl) (by rfl)) ?_
  refine JL_1 rfl (op_eql (Ev.rfl' rfl) (Ev.rfl' rfl)) ?_
  refine JL_1 rfl (op_move rfl) ?_
  (first | refine JL_i0 rfl rfl rfl (fun hg => (by have hg0 := hg; (try simp at hg); first | exact op_fieldPtr (k := 1) evG rfl rfl rfl rfl | exact op_fieldRefN (k := 1) evG rfl rfl rfl rfl nrmT)) ?_ | refine JL_i rfl rfl rfl (fun hp hg => (by have hpg := Bool.and_eq_true_iff.2 ⟨hp, hg⟩; have hg0 := hg; (try simp at hg); first | exact op_fieldPtr (k := 1) evG rfl rfl rfl rfl | exact op_fieldRefN (k := 1) evG rfl rfl rfl rfl nrmT)) ?_)
  (first | refine JL_i0 rfl rfl rfl (fun hg => (by have hg0 := hg; (try simp at hg); first | exact op_loadRef evG rfl rfl rfl | exact op_loadPtr evG memT (by rfl) (by rfl) (by rfl))) ?_ | refine JL_i rfl rfl rfl (fun hp hg => (by have hpg := Bool.and_eq_true_iff.2 ⟨hp, hg⟩; have hg0 := hg; (try simp at hg); first | exact op_loadRef evG rfl rfl rfl | exact op_loadPtr evG memT (by rfl) (by rfl) (by rfl))) ?_)
  (first | refine JL_i0 rfl rfl rfl (fun hg => (by have hg0 := hg; (try simp at hg); first | exact op_fieldPtr (k := 1) evG rfl rfl rfl rfl | exact op_fieldRefN (k := 1) evG rfl rfl rfl rfl nrmT)) ?_ | refine JL_i rfl rfl rfl (fun hp hg => (by have hpg := Bool.and_eq_true_iff.2 ⟨hp, hg⟩; have hg0 := hg; (try simp at hg); first | exact op_fieldPtr (k := 1) evG rfl rfl rfl rfl | exact op_fieldRefN (k := 1) evG rfl rfl rfl rfl nrmT)) ?_)
  (first | refine JL_i0 rfl rfl rfl (fun hg => (by have hg0 := hg; (try simp at hg); first | exact op_loadRef evG rfl rfl rfl | exact op_loadPtr evG memT (by rfl) (by rfl) (by rfl))) ?_ | refine JL_i rfl rfl rfl (fun hp hg => (by have hpg := Bool.and_eq_true_iff.2 ⟨hp, hg⟩; have hg0 := hg; (try simp at hg); first | exact op_loadRef evG rfl rfl rfl | exact op_loadPtr evG memT (by rfl) (by rfl) (by rfl))) ?_)
  (first | refine JL_i0 rfl rfl rfl (fun hg => (by have hg0 := hg; (try simp at hg); exact op_call Try.call43 (EqualPg_ok _ _) ⟨evS, ⟨evS, trivial⟩⟩)) ?_ | refine JL_i rfl rfl rfl (fun hp hg => (by have hpg := Bool.and_eq_true_iff.2 ⟨hp, hg⟩; have hg0 := hg; (try simp at hg); exact op_call Try.call43 (EqualPg_ok _ _) ⟨evS, ⟨evS, trivial⟩⟩)) ?_)
  refine JL_1 rfl (op_and (Ev.rfl' rfl) rfl (fun h => by first | exact SubL.rfl' | exact SubL.iteT (by first | (rw [h]; rfl) | (simp_all; done)) SubL.rfl')) ?_
  refine JL_1 rfl (op_assign rfl) ?_
  refine JL_nil ?_
  refine JQ_then (JC_ret ?_)
  refine JQ_ret1 Try.results15 rfl () (SubL.eq ?_) (List.nil_sublist _)
  rfl
-- bodegaref4.SameRecord: function 16
theorem SameR_ok (s t : Int) (xs ys : List Pg) : FnP Try.prog 16 [IsRec s xs, IsRec t ys] (Is (.bool (s == t && decide (xs = ys)))) := by
  refine FnP.enter Try.func16 Try.ntmps16 rfl rfl ?_
  intro c hX
  refine JC_seq ?_
  refine JC_region ?_
  (refine JL_n rfl (op_box (Ev.rfl' rfl) cellsT) ?_; intro i2)
  (refine JL_n rfl (op_box (Ev.rfl' rfl) cellsT) ?_; intro i3)
  refine JL_1 rfl (op_assign rfl) ?_
  refine JL_nil ?_
  refine JQ_then (JC_seq ?_)
  refine JC_region ?_
  refine JL_1 rfl (by first | exact op_fieldPtr (k := 0) (Ev.rfl' rfl) rfl rfl rfl rfl | exact op_fieldRefN (k := 0) (Ev.rfl' rfl) rfl rfl rfl rfl nrmT) ?_
  refine JL_1 rfl (by first | exact op_loadRef (Ev.rfl' rfl) rfl rfl rfl | exact op_loadPtr (Ev.rfl' rfl) memT (by rfl) (by rfl) (by rfl)) ?_
  refine JL_1 rfl (by first | exact op_fieldPtr (k := 0) (Ev.rfl' rfl) rfl rfl rfl rfl | exact op_fieldRefN (k := 0) (Ev.rfl' rfl) rfl rfl rfl rfl nrmT) ?_
  refine JL_1 rfl (by first | exact op_loadRef (Ev.rfl' rfl) rfl rfl rfl | exact op_loadPtr (Ev.rfl' rfl) memT (by rfl) (by rfl) (by rfl)) ?_
  refine JL_1 rfl (op_eql (Ev.rfl' rfl) (Ev.rfl' rfl)) ?_
  refine JL_1 rfl (op_move rfl) ?_
  (first | refine JL_i0 rfl rfl rfl (fun hg => (by have hg0 := hg; (try simp at hg); first | exact op_fieldPtr (k := 1) evG rfl rfl rfl rfl | exact op_fieldRefN (k := 1) evG rfl rfl rfl rfl nrmT)) ?_ | refine JL_i rfl rfl rfl (fun hp hg => (by have hpg := Bool.and_eq_true_iff.2 ⟨hp, hg⟩; have hg0 := hg; (try simp at hg); first | exact op_fieldPtr (k := 1) evG rfl rfl rfl rfl | exact op_fieldRefN (k := 1) evG rfl rfl rfl rfl nrmT)) ?_)
  (first | refine JL_i0 rfl rfl rfl (fun hg => (by have hg0 := hg; (try simp at hg); first | exact op_loadRef evG rfl rfl rfl | exact op_loadPtr evG memT (by rfl) (by rfl) (by rfl))) ?_ | refine JL_i rfl rfl rfl (fun hp hg => (by have hpg := Bool.and_eq_true_iff.2 ⟨hp, hg⟩; have hg0 := hg; (try simp at hg); first | exact op_loadRef evG rfl rfl rfl | exact op_loadPtr evG memT (by rfl) (by rfl) (by rfl))) ?_)
  (first | refine JL_i0 rfl rfl rfl (fun hg => (by have hg0 := hg; (try simp at hg); first | exact op_fieldPtr (k := 1) evG rfl rfl rfl rfl | exact op_fieldRefN (k := 1) evG rfl rfl rfl rfl nrmT)) ?_ | refine JL_i rfl rfl rfl (fun hp hg => (by have hpg := Bool.and_eq_true_iff.2 ⟨hp, hg⟩; have hg0 := hg; (try simp at hg); first | exact op_fieldPtr (k := 1) evG rfl rfl rfl rfl | exact op_fieldRefN (k := 1) evG rfl rfl rfl rfl nrmT)) ?_)
  (first | refine JL_i0 rfl rfl rfl (fun hg => (by have hg0 := hg; (try simp at hg); first | exact op_loadRef evG rfl rfl rfl | exact op_loadPtr evG memT (by rfl) (by rfl) (by rfl))) ?_ | refine JL_i rfl rfl rfl (fun hp hg => (by have hpg := Bool.and_eq_true_iff.2 ⟨hp, hg⟩; have hg0 := hg; (try simp at hg); first | exact op_loadRef evG rfl rfl rfl | exact op_loadPtr evG memT (by rfl) (by rfl) (by rfl))) ?_)
  (first | refine JL_i0 rfl rfl rfl (fun hg => (by have hg0 := hg; (try simp at hg); exact op_call Try.call44 (SamePages_ok _ _) ⟨evS, ⟨evS, trivial⟩⟩)) ?_ | refine JL_i rfl rfl rfl (fun hp hg => (by have hpg := Bool.and_eq_true_iff.2 ⟨hp, hg⟩; have hg0 := hg; (try simp at hg); exact op_call Try.call44 (SamePages_ok _ _) ⟨evS, ⟨evS, trivial⟩⟩)) ?_)
  refine JL_1 rfl (op_and (Ev.rfl' rfl) rfl (fun h => by first | exact SubL.rfl' | exact SubL.iteT (by first | (rw [h]; rfl) | (simp_all; done)) SubL.rfl')) ?_
  refine JL_1 rfl (op_assign rfl) ?_
  refine JL_nil ?_
  refine JQ_then (JC_ret ?_)
  refine JQ_ret1 Try.results16 rfl () (SubL.eq ?_) (List.nil_sublist _)
  rfl
-- bodegalaw8.in: function 13
theorem in_ok (s : Int) (xs : List Pg) : FnP Try.prog 13 [IsRec s xs] (IsRec s xs) := by
  refine FnP.enter Try.func13 Try.ntmps13 rfl rfl ?_
  intro c hX
  refine JC_seq ?_
  refine JC_region ?_
  (refine JL_n rfl (op_box (Ev.rfl' rfl) cellsT) ?_; intro i1)
  (refine JL_n rfl (op_allocN rfl nrmT rfl) ?_; intro i2)
  refine JL_nil ?_
  refine JQ_then (JC_seq ?_)
  refine JC_region ?_
  refine JL_1 rfl (by first | exact op_fieldPtr (k := 0) (Ev.rfl' rfl) rfl rfl rfl rfl | exact op_fieldRefN (k := 0) (Ev.rfl' rfl) rfl rfl rfl rfl nrmT) ?_
  refine JL_1 rfl (by first | exact op_loadRef (Ev.rfl' rfl) rfl rfl rfl | exact op_loadPtr (Ev.rfl' rfl) memT (by rfl) (by rfl) (by rfl)) ?_
  refine JL_1 rfl (by first | exact op_fieldPtr (k := 1) (Ev.rfl' rfl) rfl rfl rfl rfl | exact op_fieldRefN (k := 1) (Ev.rfl' rfl) rfl rfl rfl rfl nrmT) ?_
  refine JL_1 rfl (by first | exact op_loadRef (Ev.rfl' rfl) rfl rfl rfl | exact op_loadPtr (Ev.rfl' rfl) memT (by rfl) (by rfl) (by rfl)) ?_
  refine JL_1 rfl (op_buildN (qs := [(0, _), (1, _)]) rfl rfl rfl rfl ⟨⟨rfl, _, (Ev.rfl' rfl), cellsT⟩, ⟨⟨rfl, _, (Ev.rfl' rfl), cellsT⟩, trivial⟩⟩ (by rfl) nrmT) ?_
  refine JL_s0 (op_storeN (Ev.rfl' rfl) (Ev.rfl' rfl) cellsT replT nrmT (by rfl) (by rfl) (by rfl)) ?_
  refine JL_nil ?_
  refine JQ_then (JC_ret ?_)
  exact JQ_ret (Bs := [IsRec s xs]) Try.results13 ⟨⟨_, _, _, _, rfl, memT, rfl, .inr ⟨rfl, _, rfl, rfl, subT⟩⟩, trivial⟩ () SubL.rfl' (List.nil_sublist _)
-- bodegalaw8.out: function 22
theorem out_ok (s : Int) (xs : List Pg) : FnP Try.prog 22 [IsRec s xs] (IsRec s xs) := by
  refine FnP.enter Try.func22 Try.ntmps22 rfl rfl ?_
  intro c hX
  refine JC_seq ?_
  refine JC_region ?_
  (refine JL_n rfl (op_box (Ev.rfl' rfl) cellsT) ?_; intro i1)
  (refine JL_n rfl (op_allocN rfl nrmT rfl) ?_; intro i2)
  refine JL_nil ?_
  refine JQ_then (JC_seq ?_)
  refine JC_region ?_
  refine JL_1 rfl (by first | exact op_fieldPtr (k := 0) (Ev.rfl' rfl) rfl rfl rfl rfl | exact op_fieldRefN (k := 0) (Ev.rfl' rfl) rfl rfl rfl rfl nrmT) ?_
  refine JL_1 rfl (by first | exact op_loadRef (Ev.rfl' rfl) rfl rfl rfl | exact op_loadPtr (Ev.rfl' rfl) memT (by rfl) (by rfl) (by rfl)) ?_
  refine JL_1 rfl (by first | exact op_fieldPtr (k := 1) (Ev.rfl' rfl) rfl rfl rfl rfl | exact op_fieldRefN (k := 1) (Ev.rfl' rfl) rfl rfl rfl rfl nrmT) ?_
  refine JL_1 rfl (by first | exact op_loadRef (Ev.rfl' rfl) rfl rfl rfl | exact op_loadPtr (Ev.rfl' rfl) memT (by rfl) (by rfl) (by rfl)) ?_
  refine JL_1 rfl (op_buildN (qs := [(0, _), (1, _)]) rfl rfl rfl rfl ⟨⟨rfl, _, (Ev.rfl' rfl), cellsT⟩, ⟨⟨rfl, _, (Ev.rfl' rfl), cellsT⟩, trivial⟩⟩ (by rfl) nrmT) ?_
  refine JL_s0 (op_storeN (Ev.rfl' rfl) (Ev.rfl' rfl) cellsT replT nrmT (by rfl) (by rfl) (by rfl)) ?_
  refine JL_nil ?_
  refine JQ_then (JC_ret ?_)
  exact JQ_ret (Bs := [IsRec s xs]) Try.results22 ⟨⟨_, _, _, _, rfl, memT, rfl, .inr ⟨rfl, _, rfl, rfl, subT⟩⟩, trivial⟩ () SubL.rfl' (List.nil_sublist _)
end Go.Proofs.Ytccgnekcbdkilaa

/- Contract of the reference's Valid. Own work. -/
namespace Go.Proofs.Ytccgnekcbdkilaa
open Go.RowKit
set_option linter.unusedVariables false
set_option linter.unusedSimpArgs false
set_option maxRecDepth 100000
theorem any_of {q : Pg → Bool} {ms : List Pg} {k : Nat} {p : Pg} (h : ms[k]? = some p) (hq : q p = true) : ms.any q = true :=
  List.any_eq_true.2 ⟨p, List.mem_of_getElem? h, hq⟩
theorem any_none {q : Pg → Bool} {ms : List Pg} (h : ∀ k, k < ms.length → q (Pg.at ms k) = false) : ms.any q = false := by
  rw [List.any_eq_false]
  intro p hp
  obtain ⟨k, hk⟩ := List.mem_iff_getElem?.1 hp
  have hl : k < ms.length := (List.getElem?_eq_some_iff.1 hk).1
  have := h k hl
  rw [Pg.at_get ms k hl] at hk
  injection hk with hk
  rw [← hk, this]; simp
set_option maxHeartbeats 2000000 in
-- bodegaref4.ValidRecord: function 14
theorem ValidLR_ok (seq lines : Int) (ms : List Pg) : FnP Try.prog 14 [IsRec seq ms, Is (.int .i64 lines)] (Is (.int .i64 (validR seq ms lines))) := by
  refine FnP.enter Try.func14 Try.ntmps14 rfl rfl ?_
  intro c hX
  refine JC_lenV (t := 0) 1 rfl rfl (fun hlen => ?_)
  refine JC_seq ?_
  refine JC_region ?_
  (refine JL_n rfl (op_box (Ev.rfl' rfl) cellsT) ?_; intro i2)
  refine JL_1 rfl (op_assign rfl) ?_
  refine JL_nil ?_
  refine JQ_then (JC_seq (JC_seq ?_))
  refine JC_region ?_
  refine JL_1 rfl (op_move rfl) ?_
  refine JL_1 rfl (op_lss (Ev.rfl' rfl) (Ev.rfl' rfl)) ?_
  refine JL_1 rfl (op_move rfl) ?_
  (first | refine JL_i0 rfl rfl rfl (fun hg => (by have hg0 := hg; (try simp at hg); first | exact op_moveE (Ev.sub rfl (SubL.iteT (by first | assumption | (simp; done) | (simp; omega) | (simp_all; done)) SubL.rfl')) | exact op_moveE (Ev.rfl' rfl))) ?_ | refine JL_i rfl rfl rfl (fun hp hg => (by have hpg := Bool.and_eq_true_iff.2 ⟨hp, hg⟩; have hg0 := hg; (try simp at hg); first | exact op_moveE (Ev.sub rfl (SubL.iteT (by first | assumption | (simp; done) | (simp; omega) | (simp_all; done)) SubL.rfl')) | exact op_moveE (Ev.rfl' rfl))) ?_)
  (first | refine JL_i0 rfl rfl rfl (fun hg => (by have hg0 := hg; (try simp at hg); exact op_gtr evG evG)) ?_ | refine JL_i rfl rfl rfl (fun hp hg => (by have hpg := Bool.and_eq_true_iff.2 ⟨hp, hg⟩; have hg0 := hg; (try simp at hg); exact op_gtr evG evG)) ?_)
  refine JL_1 rfl (op_or (Ev.rfl' rfl) rfl (fun h => by first | exact SubL.rfl' | exact SubL.iteT (by first | (rw [h]; rfl) | (simp_all; done)) SubL.rfl')) ?_
  refine JL_nil ?_
  refine JQ_then ?_
  refine JC_cond (Ev.rfl' rfl) (fun h1 => ?_) (fun h1 => ?_)
  · have g1 : ¬ (98 ≤ lines ∧ lines ≤ 256) := by simp at h1; omega
    refine JC_seq ?_
    refine JC_region ?_
    refine JL_1 rfl (op_assign rfl) ?_
    refine JL_nil ?_
    refine JQ_then (JC_ret (JQ_then_ret ?_))
    refine JQ_ret1 Try.results14 rfl () (SubL.eq ?_) (List.nil_sublist _)
    rw [validR_18 g1]
  have g1 : 98 ≤ lines ∧ lines ≤ 256 := by simp at h1; omega
  clear h1
  refine JC_skip (JQ_then (JC_seq (JC_seq ?_)))
  refine JC_region ?_
  refine JL_1 rfl (by first | exact op_fieldPtr (k := 0) (Ev.rfl' rfl) rfl rfl rfl rfl | exact op_fieldRefN (k := 0) (Ev.rfl' rfl) rfl rfl rfl rfl nrmT) ?_
  refine JL_1 rfl (by first | exact op_loadRef (Ev.rfl' rfl) rfl rfl rfl | exact op_loadPtr (Ev.rfl' rfl) memT (by rfl) (by rfl) (by rfl)) ?_
  refine JL_1 rfl (op_lss (Ev.rfl' rfl) (Ev.rfl' rfl)) ?_
  refine JL_1 rfl (op_move rfl) ?_
  (first | refine JL_i0 rfl rfl rfl (fun hg => (by have hg0 := hg; (try simp at hg); first | exact op_fieldPtr (k := 0) evG rfl rfl rfl rfl | exact op_fieldRefN (k := 0) evG rfl rfl rfl rfl nrmT)) ?_ | refine JL_i rfl rfl rfl (fun hp hg => (by have hpg := Bool.and_eq_true_iff.2 ⟨hp, hg⟩; have hg0 := hg; (try simp at hg); first | exact op_fieldPtr (k := 0) evG rfl rfl rfl rfl | exact op_fieldRefN (k := 0) evG rfl rfl rfl rfl nrmT)) ?_)
  (first | refine JL_i0 rfl rfl rfl (fun hg => (by have hg0 := hg; (try simp at hg); first | exact op_loadRef evG rfl rfl rfl | exact op_loadPtr evG memT (by rfl) (by rfl) (by rfl))) ?_ | refine JL_i rfl rfl rfl (fun hp hg => (by have hpg := Bool.and_eq_true_iff.2 ⟨hp, hg⟩; have hg0 := hg; (try simp at hg); first | exact op_loadRef evG rfl rfl rfl | exact op_loadPtr evG memT (by rfl) (by rfl) (by rfl))) ?_)
  (first | refine JL_i0 rfl rfl rfl (fun hg => (by have hg0 := hg; (try simp at hg); exact op_geq evG evG)) ?_ | refine JL_i rfl rfl rfl (fun hp hg => (by have hpg := Bool.and_eq_true_iff.2 ⟨hp, hg⟩; have hg0 := hg; (try simp at hg); exact op_geq evG evG)) ?_)
  refine JL_1 rfl (op_or (Ev.rfl' rfl) rfl (fun h => by first | exact SubL.rfl' | exact SubL.iteT (by first | (rw [h]; rfl) | (simp_all; done)) SubL.rfl')) ?_
  refine JL_1 rfl (op_move rfl) ?_
  (first | refine JL_i0 rfl rfl rfl (fun hg => (by have hg0 := hg; (try simp at hg); first | exact op_fieldPtr (k := 1) evG rfl rfl rfl rfl | exact op_fieldRefN (k := 1) evG rfl rfl rfl rfl nrmT)) ?_ | refine JL_i rfl rfl rfl (fun hp hg => (by have hpg := Bool.and_eq_true_iff.2 ⟨hp, hg⟩; have hg0 := hg; (try simp at hg); first | exact op_fieldPtr (k := 1) evG rfl rfl rfl rfl | exact op_fieldRefN (k := 1) evG rfl rfl rfl rfl nrmT)) ?_)
  (first | refine JL_i0 rfl rfl rfl (fun hg => (by have hg0 := hg; (try simp at hg); first | exact op_loadRef evG rfl rfl rfl | exact op_loadPtr evG memT (by rfl) (by rfl) (by rfl))) ?_ | refine JL_i rfl rfl rfl (fun hp hg => (by have hpg := Bool.and_eq_true_iff.2 ⟨hp, hg⟩; have hg0 := hg; (try simp at hg); first | exact op_loadRef evG rfl rfl rfl | exact op_loadPtr evG memT (by rfl) (by rfl) (by rfl))) ?_)
  (first | refine JL_i0 rfl rfl rfl (fun hg => (by have hg0 := hg; (try simp at hg); first | exact op_len evG rfl | exact op_lenLit evG rfl)) ?_ | refine JL_i rfl rfl rfl (fun hp hg => (by have hpg := Bool.and_eq_true_iff.2 ⟨hp, hg⟩; have hg0 := hg; (try simp at hg); first | exact op_len evG rfl | exact op_lenLit evG rfl)) ?_)
  (first | refine JL_i0 rfl rfl rfl (fun hg => (by have hg0 := hg; (try simp at hg); exact op_lss evG evG)) ?_ | refine JL_i rfl rfl rfl (fun hp hg => (by have hpg := Bool.and_eq_true_iff.2 ⟨hp, hg⟩; have hg0 := hg; (try simp at hg); exact op_lss evG evG)) ?_)
  refine JL_1 rfl (op_or (Ev.rfl' rfl) rfl (fun h => by first | exact SubL.rfl' | exact SubL.iteT (by first | (rw [h]; rfl) | (simp_all; done)) SubL.rfl')) ?_
  refine JL_1 rfl (op_move rfl) ?_
  (first | refine JL_i0 rfl rfl rfl (fun hg => (by have hg0 := hg; (try simp at hg); first | exact op_fieldPtr (k := 1) evG rfl rfl rfl rfl | exact op_fieldRefN (k := 1) evG rfl rfl rfl rfl nrmT)) ?_ | refine JL_i rfl rfl rfl (fun hp hg => (by have hpg := Bool.and_eq_true_iff.2 ⟨hp, hg⟩; have hg0 := hg; (try simp at hg); first | exact op_fieldPtr (k := 1) evG rfl rfl rfl rfl | exact op_fieldRefN (k := 1) evG rfl rfl rfl rfl nrmT)) ?_)
  (first | refine JL_i0 rfl rfl rfl (fun hg => (by have hg0 := hg; (try simp at hg); first | exact op_loadRef evG rfl rfl rfl | exact op_loadPtr evG memT (by rfl) (by rfl) (by rfl))) ?_ | refine JL_i rfl rfl rfl (fun hp hg => (by have hpg := Bool.and_eq_true_iff.2 ⟨hp, hg⟩; have hg0 := hg; (try simp at hg); first | exact op_loadRef evG rfl rfl rfl | exact op_loadPtr evG memT (by rfl) (by rfl) (by rfl))) ?_)
  (first | refine JL_i0 rfl rfl rfl (fun hg => (by have hg0 := hg; (try simp at hg); first | exact op_len evG rfl | exact op_lenLit evG rfl)) ?_ | refine JL_i rfl rfl rfl (fun hp hg => (by have hpg := Bool.and_eq_true_iff.2 ⟨hp, hg⟩; have hg0 := hg; (try simp at hg); first | exact op_len evG rfl | exact op_lenLit evG rfl)) ?_)
  (first | refine JL_i0 rfl rfl rfl (fun hg => (by have hg0 := hg; (try simp at hg); exact op_gtr evG evG)) ?_ | refine JL_i rfl rfl rfl (fun hp hg => (by have hpg := Bool.and_eq_true_iff.2 ⟨hp, hg⟩; have hg0 := hg; (try simp at hg); exact op_gtr evG evG)) ?_)
  refine JL_1 rfl (op_or (Ev.rfl' rfl) rfl (fun h => by first | exact SubL.rfl' | exact SubL.iteT (by first | (rw [h]; rfl) | (simp_all; done)) SubL.rfl')) ?_
  refine JL_nil ?_
  refine JQ_then ?_
  refine JC_cond (Ev.rfl' rfl) (fun h3 => ?_) (fun h3 => ?_)
  · have g2 : ¬ okR1 seq ms := by unfold okR1; simp at h3; omega
    refine JC_seq ?_
    refine JC_region ?_
    refine JL_1 rfl (op_assign rfl) ?_
    refine JL_nil ?_
    refine JQ_then (JC_ret (JQ_then_ret ?_))
    refine JQ_ret1 Try.results14 rfl () (SubL.eq ?_) (List.nil_sublist _)
    rw [validR_1 g1 g2]
  have g2 : okR1 seq ms := by unfold okR1; simp at h3; omega
  clear h3
  refine JC_skip (JQ_then (JC_seq (JC_seq ?_)))
  refine JC_region ?_
  refine JL_1 rfl (op_assign rfl) ?_
  refine JL_nil ?_
  refine JQ_then (JC_block ?_)
  refine JC_loopP (fun k : Nat => k ≤ ms.length ∧ ∀ j, j < k → outB lines (Pg.at ms j) = false) (fun i => [(1, Is (.int .i64 lines)), (2, Is (.pointer (some ⟨i2, 0, none⟩))), (5, Is (.int .i64 (i : Nat)))]) (fun _ => [blk i2 25 [Is (.int .i64 seq), IsSl tPg ms]]) (fun i => ms.length - i) 0 ⟨Nat.zero_le _, fun j h => by omega⟩ esubT lessT ?_
  rintro k ⟨hk, hs⟩
  refine JC_seq (JC_seq ?_)
  refine JC_region ?_
  refine JL_1 rfl (op_move rfl) ?_
  refine JL_1 rfl (by first | exact op_fieldPtr (k := 1) (Ev.rfl' rfl) rfl rfl rfl rfl | exact op_fieldRefN (k := 1) (Ev.rfl' rfl) rfl rfl rfl rfl nrmT) ?_
  refine JL_1 rfl (by first | exact op_loadRef (Ev.rfl' rfl) rfl rfl rfl | exact op_loadPtr (Ev.rfl' rfl) memT (by rfl) (by rfl) (by rfl)) ?_
  refine JL_1 rfl (by first | exact op_len (Ev.rfl' rfl) rfl | exact op_lenLit (Ev.rfl' rfl) rfl) ?_
  refine JL_1 rfl (op_lss (Ev.rfl' rfl) (Ev.rfl' rfl)) ?_
  refine JL_nil ?_
  refine JQ_then ?_
  refine JC_cond (Ev.rfl' rfl) (fun h6 => ?_) (fun h6 => ?_)
  · have h' : (k : Int) < ms.length := of_decide_eq_true h6
    have hz := Pg.at_get ms k (by omega)
    clear h6
    refine JC_skip (JQ_then (JC_seq (JC_block (JC_seq ?_))))
    refine JC_region ?_
    refine JL_1 rfl (by first | exact op_fieldPtr (k := 1) (Ev.rfl' rfl) rfl rfl rfl rfl | exact op_fieldRefN (k := 1) (Ev.rfl' rfl) rfl rfl rfl rfl nrmT) ?_
    refine JL_1 rfl (by first | exact op_loadRef (Ev.rfl' rfl) rfl rfl rfl | exact op_loadPtr (Ev.rfl' rfl) memT (by rfl) (by rfl) (by rfl)) ?_
    refine JL_1 rfl (op_move rfl) ?_
    refine JL_1 rfl (by first | exact op_index (j := _) (Ev.rfl' rfl) (Ev.rfl' rfl) rfl rfl (by first | rfl | omega) hz | exact op_index (j := _) (Ev.rfl' rfl) (Ev.rfl' rfl) rfl rfl (by first | rfl | omega) (hz1 (by omega)) | exact op_index (j := _) (Ev.rfl' rfl) (Ev.rfl' rfl) rfl rfl (by first | rfl | omega) (by assumption)) ?_
    refine JL_1 rfl (by first | exact op_fieldPtr (k := 0) (Ev.rfl' rfl) rfl rfl rfl rfl | exact op_fieldRefN (k := 0) (Ev.rfl' rfl) rfl rfl rfl rfl nrmT) ?_
    refine JL_1 rfl (by first | exact op_loadRef (Ev.rfl' rfl) rfl rfl rfl | exact op_loadPtr (Ev.rfl' rfl) memT (by rfl) (by rfl) (by rfl)) ?_
    refine JL_1 rfl (op_move rfl) ?_
    refine JL_1 rfl (by first | ((refine op_call Try.call40 (InHeap_ok _ _ ?_) ⟨evS, ⟨evS, trivial⟩⟩); all_goals (first | assumption))) ?_
    refine JL_1 rfl (op_not (Ev.rfl' rfl)) ?_
    refine JL_nil ?_
    refine JQ_then ?_
    refine JC_cond (Ev.rfl' rfl) (fun h8 => ?_) (fun h8 => ?_)
    · refine JC_seq ?_
      refine JC_region ?_
      refine JL_1 rfl (op_assign rfl) ?_
      refine JL_nil ?_
      refine JQ_then (JC_ret (JQ_block_ret (JQ_then_ret (JQ_then_ret (JQ_block_ret (JQ_then_ret ?_))))))
      refine JQ_ret1 Try.results14 rfl () (SubL.eq ?_) (List.nil_sublist _)
      rw [validR_2 g1 g2 (any_of hz (by unfold outB; simpa using h8))]
    refine JC_skip (JQ_block (JQ_then ?_))
    refine JC_region ?_
    refine JL_1 rfl (op_move rfl) ?_
    refine JL_1 rfl (op_add (Ev.rfl' rfl) (Ev.rfl' rfl) wrapT) ?_
    refine JL_1 rfl (op_assign rfl) ?_
    refine JL_nil ?_
    exact JQ_roundP (k + 1) ⟨by omega, fun j hj => by
      by_cases hjk : j = k
      · subst hjk; unfold outB; simpa using h8
      · exact hs j (by omega)⟩ (by omega) esubT lessT
  have hkl : k = ms.length := by have := of_decide_eq_false h6; omega
  subst hkl
  clear h6
  have g3 := any_none hs
  refine JC_exit (JQ_then_exit (JQ_then_exit (JQ_hit (JQ_then (JC_seq (JC_seq ?_))))))
  refine JC_region ?_
  refine JL_1 rfl (op_assign rfl) ?_
  refine JL_nil ?_
  refine JQ_then (JC_block ?_)
  refine JC_loopP (fun k : Nat => k ≤ ms.length ∧ ∀ j, j < k → (AscP ms j ∧ headB (Pg.at ms j) = true)) (fun i => [(2, Is (.pointer (some ⟨i2, 0, none⟩))), (6, Is (.int .i64 (i : Nat)))]) (fun _ => [blk i2 25 [Is (.int .i64 seq), IsSl tPg ms]]) (fun i => ms.length - i) 0 ⟨Nat.zero_le _, fun j h => by omega⟩ esubT lessT ?_
  rintro k ⟨hk, ht⟩
  refine JC_seq (JC_seq ?_)
  refine JC_region ?_
  refine JL_1 rfl (op_move rfl) ?_
  refine JL_1 rfl (by first | exact op_fieldPtr (k := 1) (Ev.rfl' rfl) rfl rfl rfl rfl | exact op_fieldRefN (k := 1) (Ev.rfl' rfl) rfl rfl rfl rfl nrmT) ?_
  refine JL_1 rfl (by first | exact op_loadRef (Ev.rfl' rfl) rfl rfl rfl | exact op_loadPtr (Ev.rfl' rfl) memT (by rfl) (by rfl) (by rfl)) ?_
  refine JL_1 rfl (by first | exact op_len (Ev.rfl' rfl) rfl | exact op_lenLit (Ev.rfl' rfl) rfl) ?_
  refine JL_1 rfl (op_lss (Ev.rfl' rfl) (Ev.rfl' rfl)) ?_
  refine JL_nil ?_
  refine JQ_then ?_
  refine JC_cond (Ev.rfl' rfl) (fun h11 => ?_) (fun h11 => ?_)
  · have h' : (k : Int) < ms.length := of_decide_eq_true h11
    have hz := Pg.at_get ms k (by omega)
    have hz1 : 0 < k → ms[k - 1]? = some (Pg.at ms (k - 1)) := fun h => Pg.at_get ms (k - 1) (by omega)
    clear h11
    refine JC_skip (JQ_then (JC_seq (JC_block (JC_seq ?_))))
    refine JC_region ?_
    refine JL_1 rfl (by first | exact op_fieldPtr (k := 1) (Ev.rfl' rfl) rfl rfl rfl rfl | exact op_fieldRefN (k := 1) (Ev.rfl' rfl) rfl rfl rfl rfl nrmT) ?_
    refine JL_1 rfl (by first | exact op_loadRef (Ev.rfl' rfl) rfl rfl rfl | exact op_loadPtr (Ev.rfl' rfl) memT (by rfl) (by rfl) (by rfl)) ?_
    refine JL_1 rfl (op_move rfl) ?_
    refine JL_1 rfl (by first | exact op_index (j := _) (Ev.rfl' rfl) (Ev.rfl' rfl) rfl rfl (by first | rfl | omega) hz | exact op_index (j := _) (Ev.rfl' rfl) (Ev.rfl' rfl) rfl rfl (by first | rfl | omega) (hz1 (by omega)) | exact op_index (j := _) (Ev.rfl' rfl) (Ev.rfl' rfl) rfl rfl (by first | rfl | omega) (by assumption)) ?_
    refine JL_1 rfl (by first | exact op_fieldPtr (k := 1) (Ev.rfl' rfl) rfl rfl rfl rfl | exact op_fieldRefN (k := 1) (Ev.rfl' rfl) rfl rfl rfl rfl nrmT) ?_
    refine JL_1 rfl (by first | exact op_loadRef (Ev.rfl' rfl) rfl rfl rfl | exact op_loadPtr (Ev.rfl' rfl) memT (by rfl) (by rfl) (by rfl)) ?_
    refine JL_1 rfl (op_call Try.call41 (NextR_ok _) ⟨evS, trivial⟩) ?_
    refine JL_1 rfl (op_move rfl) ?_
    refine JL_1 rfl (op_extract (Ev.rfl' rfl) rfl) ?_
    refine JL_1 rfl (op_extract (Ev.rfl' rfl) rfl) ?_
    refine JL_1 rfl (op_assign rfl) ?_
    refine JL_1 rfl (op_assign rfl) ?_
    refine JL_nil ?_
    refine JQ_then (JC_seq ?_)
    refine JC_dr rfl (by kernel_rfl) ?_
    refine JD_stretch 32 (by kernel_rfl) ?_
    refine JW_1 (op_move rfl) ?_
    refine JW_1 (op_gtr (Ev.rfl' rfl) (Ev.rfl' rfl)) ?_
    refine JW_1 (op_move rfl) ?_
    (first | refine JW_i0 rfl rfl (fun hg => (by have hg0 := hg; (try simp at hg); first | exact op_fieldPtr (k := 1) evG rfl rfl rfl rfl | exact op_fieldRefN (k := 1) evG rfl rfl rfl rfl nrmT)) ?_ | refine JW_i rfl rfl (fun hp hg => (by have hpg := Bool.and_eq_true_iff.2 ⟨hp, hg⟩; have hg0 := hg; (try simp at hg); first | exact op_fieldPtr (k := 1) evG rfl rfl rfl rfl | exact op_fieldRefN (k := 1) evG rfl rfl rfl rfl nrmT)) ?_)
    (first | refine JW_i0 rfl rfl (fun hg => (by have hg0 := hg; (try simp at hg); first | exact op_loadRef evG rfl rfl rfl | exact op_loadPtr evG memT (by rfl) (by rfl) (by rfl))) ?_ | refine JW_i rfl rfl (fun hp hg => (by have hpg := Bool.and_eq_true_iff.2 ⟨hp, hg⟩; have hg0 := hg; (try simp at hg); first | exact op_loadRef evG rfl rfl rfl | exact op_loadPtr evG memT (by rfl) (by rfl) (by rfl))) ?_)
    (first | refine JW_i0 rfl rfl (fun hg => (by have hg0 := hg; (try simp at hg); first | exact op_moveE (Ev.sub rfl (SubL.iteT (by first | assumption | (simp; done) | (simp; omega) | (simp_all; done)) SubL.rfl')) | exact op_moveE (Ev.rfl' rfl))) ?_ | refine JW_i rfl rfl (fun hp hg => (by have hpg := Bool.and_eq_true_iff.2 ⟨hp, hg⟩; have hg0 := hg; (try simp at hg); first | exact op_moveE (Ev.sub rfl (SubL.iteT (by first | assumption | (simp; done) | (simp; omega) | (simp_all; done)) SubL.rfl')) | exact op_moveE (Ev.rfl' rfl))) ?_)
    (first | refine JW_i0 rfl rfl (fun hg => (by have hg0 := hg; (try simp at hg); exact op_sub evG evG wrapT)) ?_ | refine JW_i rfl rfl (fun hp hg => (by have hpg := Bool.and_eq_true_iff.2 ⟨hp, hg⟩; have hg0 := hg; (try simp at hg); exact op_sub evG evG wrapT)) ?_)
    (first | refine JW_i0 rfl rfl (fun hg => (by have hg0 := hg; (try simp at hg); first | exact op_index (j := _) evG evG rfl rfl (by first | rfl | omega) hz | exact op_index (j := _) evG evG rfl rfl (by first | rfl | omega) (hz1 (by omega)) | exact op_index (j := _) evG evG rfl rfl (by first | rfl | omega) (by assumption))) ?_ | refine JW_i rfl rfl (fun hp hg => (by have hpg := Bool.and_eq_true_iff.2 ⟨hp, hg⟩; have hg0 := hg; (try simp at hg); first | exact op_index (j := _) evG evG rfl rfl (by first | rfl | omega) hz | exact op_index (j := _) evG evG rfl rfl (by first | rfl | omega) (hz1 (by omega)) | exact op_index (j := _) evG evG rfl rfl (by first | rfl | omega) (by assumption))) ?_)
    (first | refine JW_i0 rfl rfl (fun hg => (by have hg0 := hg; (try simp at hg); first | exact op_fieldPtr (k := 0) evG rfl rfl rfl rfl | exact op_fieldRefN (k := 0) evG rfl rfl rfl rfl nrmT)) ?_ | refine JW_i rfl rfl (fun hp hg => (by have hpg := Bool.and_eq_true_iff.2 ⟨hp, hg⟩; have hg0 := hg; (try simp at hg); first | exact op_fieldPtr (k := 0) evG rfl rfl rfl rfl | exact op_fieldRefN (k := 0) evG rfl rfl rfl rfl nrmT)) ?_)
    (first | refine JW_i0 rfl rfl (fun hg => (by have hg0 := hg; (try simp at hg); first | exact op_loadRef evG rfl rfl rfl | exact op_loadPtr evG memT (by rfl) (by rfl) (by rfl))) ?_ | refine JW_i rfl rfl (fun hp hg => (by have hpg := Bool.and_eq_true_iff.2 ⟨hp, hg⟩; have hg0 := hg; (try simp at hg); first | exact op_loadRef evG rfl rfl rfl | exact op_loadPtr evG memT (by rfl) (by rfl) (by rfl))) ?_)
    (first | refine JW_i0 rfl rfl (fun hg => (by have hg0 := hg; (try simp at hg); first | exact op_fieldPtr (k := 1) evG rfl rfl rfl rfl | exact op_fieldRefN (k := 1) evG rfl rfl rfl rfl nrmT)) ?_ | refine JW_i rfl rfl (fun hp hg => (by have hpg := Bool.and_eq_true_iff.2 ⟨hp, hg⟩; have hg0 := hg; (try simp at hg); first | exact op_fieldPtr (k := 1) evG rfl rfl rfl rfl | exact op_fieldRefN (k := 1) evG rfl rfl rfl rfl nrmT)) ?_)
    (first | refine JW_i0 rfl rfl (fun hg => (by have hg0 := hg; (try simp at hg); first | exact op_loadRef evG rfl rfl rfl | exact op_loadPtr evG memT (by rfl) (by rfl) (by rfl))) ?_ | refine JW_i rfl rfl (fun hp hg => (by have hpg := Bool.and_eq_true_iff.2 ⟨hp, hg⟩; have hg0 := hg; (try simp at hg); first | exact op_loadRef evG rfl rfl rfl | exact op_loadPtr evG memT (by rfl) (by rfl) (by rfl))) ?_)
    (first | refine JW_i0 rfl rfl (fun hg => (by have hg0 := hg; (try simp at hg); first | exact op_moveE (Ev.sub rfl (SubL.iteT (by first | assumption | (simp; done) | (simp; omega) | (simp_all; done)) SubL.rfl')) | exact op_moveE (Ev.rfl' rfl))) ?_ | refine JW_i rfl rfl (fun hp hg => (by have hpg := Bool.and_eq_true_iff.2 ⟨hp, hg⟩; have hg0 := hg; (try simp at hg); first | exact op_moveE (Ev.sub rfl (SubL.iteT (by first | assumption | (simp; done) | (simp; omega) | (simp_all; done)) SubL.rfl')) | exact op_moveE (Ev.rfl' rfl))) ?_)
    (first | refine JW_i0 rfl rfl (fun hg => (by have hg0 := hg; (try simp at hg); first | exact op_index (j := _) evG evG rfl rfl (by first | rfl | omega) hz | exact op_index (j := _) evG evG rfl rfl (by first | rfl | omega) (hz1 (by omega)) | exact op_index (j := _) evG evG rfl rfl (by first | rfl | omega) (by assumption))) ?_ | refine JW_i rfl rfl (fun hp hg => (by have hpg := Bool.and_eq_true_iff.2 ⟨hp, hg⟩; have hg0 := hg; (try simp at hg); first | exact op_index (j := _) evG evG rfl rfl (by first | rfl | omega) hz | exact op_index (j := _) evG evG rfl rfl (by first | rfl | omega) (hz1 (by omega)) | exact op_index (j := _) evG evG rfl rfl (by first | rfl | omega) (by assumption))) ?_)
    (first | refine JW_i0 rfl rfl (fun hg => (by have hg0 := hg; (try simp at hg); first | exact op_fieldPtr (k := 0) evG rfl rfl rfl rfl | exact op_fieldRefN (k := 0) evG rfl rfl rfl rfl nrmT)) ?_ | refine JW_i rfl rfl (fun hp hg => (by have hpg := Bool.and_eq_true_iff.2 ⟨hp, hg⟩; have hg0 := hg; (try simp at hg); first | exact op_fieldPtr (k := 0) evG rfl rfl rfl rfl | exact op_fieldRefN (k := 0) evG rfl rfl rfl rfl nrmT)) ?_)
    (first | refine JW_i0 rfl rfl (fun hg => (by have hg0 := hg; (try simp at hg); first | exact op_loadRef evG rfl rfl rfl | exact op_loadPtr evG memT (by rfl) (by rfl) (by rfl))) ?_ | refine JW_i rfl rfl (fun hp hg => (by have hpg := Bool.and_eq_true_iff.2 ⟨hp, hg⟩; have hg0 := hg; (try simp at hg); first | exact op_loadRef evG rfl rfl rfl | exact op_loadPtr evG memT (by rfl) (by rfl) (by rfl))) ?_)
    (first | refine JW_i0 rfl rfl (fun hg => (by have hg0 := hg; (try simp at hg); exact op_geq evG evG)) ?_ | refine JW_i rfl rfl (fun hp hg => (by have hpg := Bool.and_eq_true_iff.2 ⟨hp, hg⟩; have hg0 := hg; (try simp at hg); exact op_geq evG evG)) ?_)
    refine JW_1 (op_and (Ev.rfl' rfl) rfl (fun h => by first | exact SubL.rfl' | exact SubL.iteT (by first | (rw [h]; rfl) | (simp_all; done)) SubL.rfl')) ?_
    refine JW_1 (op_move rfl) ?_
    (first | refine JW_i0 rfl rfl (fun hg => (by have hg0 := hg; (try simp at hg); first | exact op_fieldPtr (k := 1) evG rfl rfl rfl rfl | exact op_fieldRefN (k := 1) evG rfl rfl rfl rfl nrmT)) ?_ | refine JW_i rfl rfl (fun hp hg => (by have hpg := Bool.and_eq_true_iff.2 ⟨hp, hg⟩; have hg0 := hg; (try simp at hg); first | exact op_fieldPtr (k := 1) evG rfl rfl rfl rfl | exact op_fieldRefN (k := 1) evG rfl rfl rfl rfl nrmT)) ?_)
    (first | refine JW_i0 rfl rfl (fun hg => (by have hg0 := hg; (try simp at hg); first | exact op_loadRef evG rfl rfl rfl | exact op_loadPtr evG memT (by rfl) (by rfl) (by rfl))) ?_ | refine JW_i rfl rfl (fun hp hg => (by have hpg := Bool.and_eq_true_iff.2 ⟨hp, hg⟩; have hg0 := hg; (try simp at hg); first | exact op_loadRef evG rfl rfl rfl | exact op_loadPtr evG memT (by rfl) (by rfl) (by rfl))) ?_)
    (first | refine JW_i0 rfl rfl (fun hg => (by have hg0 := hg; (try simp at hg); first | exact op_moveE (Ev.sub rfl (SubL.iteT (by first | assumption | (simp; done) | (simp; omega) | (simp_all; done)) SubL.rfl')) | exact op_moveE (Ev.rfl' rfl))) ?_ | refine JW_i rfl rfl (fun hp hg => (by have hpg := Bool.and_eq_true_iff.2 ⟨hp, hg⟩; have hg0 := hg; (try simp at hg); first | exact op_moveE (Ev.sub rfl (SubL.iteT (by first | assumption | (simp; done) | (simp; omega) | (simp_all; done)) SubL.rfl')) | exact op_moveE (Ev.rfl' rfl))) ?_)
    (first | refine JW_i0 rfl rfl (fun hg => (by have hg0 := hg; (try simp at hg); first | exact op_index (j := _) evG evG rfl rfl (by first | rfl | omega) hz | exact op_index (j := _) evG evG rfl rfl (by first | rfl | omega) (hz1 (by omega)) | exact op_index (j := _) evG evG rfl rfl (by first | rfl | omega) (by assumption))) ?_ | refine JW_i rfl rfl (fun hp hg => (by have hpg := Bool.and_eq_true_iff.2 ⟨hp, hg⟩; have hg0 := hg; (try simp at hg); first | exact op_index (j := _) evG evG rfl rfl (by first | rfl | omega) hz | exact op_index (j := _) evG evG rfl rfl (by first | rfl | omega) (hz1 (by omega)) | exact op_index (j := _) evG evG rfl rfl (by first | rfl | omega) (by assumption))) ?_)
    (first | refine JW_i0 rfl rfl (fun hg => (by have hg0 := hg; (try simp at hg); first | exact op_fieldPtr (k := 1) evG rfl rfl rfl rfl | exact op_fieldRefN (k := 1) evG rfl rfl rfl rfl nrmT)) ?_ | refine JW_i rfl rfl (fun hp hg => (by have hpg := Bool.and_eq_true_iff.2 ⟨hp, hg⟩; have hg0 := hg; (try simp at hg); first | exact op_fieldPtr (k := 1) evG rfl rfl rfl rfl | exact op_fieldRefN (k := 1) evG rfl rfl rfl rfl nrmT)) ?_)
    (first | refine JW_i0 rfl rfl (fun hg => (by have hg0 := hg; (try simp at hg); first | exact op_loadRef evG rfl rfl rfl | exact op_loadPtr evG memT (by rfl) (by rfl) (by rfl))) ?_ | refine JW_i rfl rfl (fun hp hg => (by have hpg := Bool.and_eq_true_iff.2 ⟨hp, hg⟩; have hg0 := hg; (try simp at hg); first | exact op_loadRef evG rfl rfl rfl | exact op_loadPtr evG memT (by rfl) (by rfl) (by rfl))) ?_)
    (first | refine JW_i0 rfl rfl (fun hg => (by have hg0 := hg; (try simp at hg); exact op_call Try.call42 (UnlockedR_ok _) ⟨evS, trivial⟩)) ?_ | refine JW_i rfl rfl (fun hp hg => (by have hpg := Bool.and_eq_true_iff.2 ⟨hp, hg⟩; have hg0 := hg; (try simp at hg); exact op_call Try.call42 (UnlockedR_ok _) ⟨evS, trivial⟩)) ?_)
    (first | refine JW_i0 rfl rfl (fun hg => (by have hg0 := hg; (try simp at hg); exact op_not evG)) ?_ | refine JW_i rfl rfl (fun hp hg => (by have hpg := Bool.and_eq_true_iff.2 ⟨hp, hg⟩; have hg0 := hg; (try simp at hg); exact op_not evG)) ?_)
    refine JW_1 (op_or (Ev.rfl' rfl) rfl (fun h => by first | exact SubL.rfl' | exact SubL.iteT (by first | (rw [h]; rfl) | (simp_all; done)) SubL.rfl')) ?_
    refine JW_1 (op_move rfl) ?_
    (first | refine JW_i0 rfl rfl (fun hg => (by have hg0 := hg; (try simp at hg); first | exact op_moveE (Ev.sub rfl (SubL.iteT (by first | assumption | (simp; done) | (simp; omega) | (simp_all; done)) SubL.rfl')) | exact op_moveE (Ev.rfl' rfl))) ?_ | refine JW_i rfl rfl (fun hp hg => (by have hpg := Bool.and_eq_true_iff.2 ⟨hp, hg⟩; have hg0 := hg; (try simp at hg); first | exact op_moveE (Ev.sub rfl (SubL.iteT (by first | assumption | (simp; done) | (simp; omega) | (simp_all; done)) SubL.rfl')) | exact op_moveE (Ev.rfl' rfl))) ?_)
    (first | refine JW_i0 rfl rfl (fun hg => (by have hg0 := hg; (try simp at hg); exact op_neq evG evG)) ?_ | refine JW_i rfl rfl (fun hp hg => (by have hpg := Bool.and_eq_true_iff.2 ⟨hp, hg⟩; have hg0 := hg; (try simp at hg); exact op_neq evG evG)) ?_)
    refine JW_1 (op_or (Ev.rfl' rfl) rfl (fun h => by first | exact SubL.rfl' | exact SubL.iteT (by first | (rw [h]; rfl) | (simp_all; done)) SubL.rfl')) ?_
    refine ⟨rfl, ?_⟩
    refine JD_end ?_
    refine JQ_then ?_
    refine JC_cond (Ev.rfl' rfl) (fun h14 => ?_) (fun h14 => ?_)
    · have g4 : ¬ (AscP ms k ∧ headB (Pg.at ms k) = true) := fun h => by
        obtain ⟨h1, h2⟩ := h
        unfold AscP at h1
        simp [headB] at h2
        simp [h2] at h14
        have := h1 h14.1
        omega
      refine JC_seq ?_
      refine JC_region ?_
      refine JL_1 rfl (op_assign rfl) ?_
      refine JL_nil ?_
      refine JQ_then (JC_ret (JQ_block_ret (JQ_then_ret (JQ_then_ret (JQ_block_ret (JQ_then_ret ?_))))))
      refine JQ_ret1 Try.results14 rfl () (SubL.eq ?_) (List.nil_sublist _)
      rw [validR_3 g1 g2 g3 (fun h => g4 ⟨h.1 k (by omega), h.2 k (by omega)⟩)]
    have g4 : AscP ms k ∧ headB (Pg.at ms k) = true := by
      simp at h14
      refine ⟨fun h0 => ?_, ?_⟩
      · have := h14.1.1 h0; omega
      · simp [headB, h14.2, h14.1.2]
    refine JC_skip (JQ_block (JQ_then ?_))
    refine JC_region ?_
    refine JL_1 rfl (op_move rfl) ?_
    refine JL_1 rfl (op_add (Ev.rfl' rfl) (Ev.rfl' rfl) wrapT) ?_
    refine JL_1 rfl (op_assign rfl) ?_
    refine JL_nil ?_
    exact JQ_roundP (k + 1) ⟨by omega, fun j hj => by
      by_cases hjk : j = k
      · subst hjk; exact g4
      · exact ht j (by omega)⟩ (by omega) esubT lessT
  refine JC_exit (JQ_then_exit (JQ_then_exit (JQ_hit (JQ_then (JC_seq ?_)))))
  refine JC_region ?_
  refine JL_1 rfl (op_assign rfl) ?_
  refine JL_nil ?_
  refine JQ_then (JC_ret ?_)
  refine JQ_ret1 Try.results14 rfl () (SubL.eq ?_) (List.nil_sublist _)
  have hkl : k = ms.length := by have := of_decide_eq_false h11; omega
  subst hkl
  rw [validR_0 g1 g2 g3 ⟨fun j hj => (ht j hj).1, fun j hj => (ht j hj).2⟩]
end Go.Proofs.Ytccgnekcbdkilaa

/- Plain laws of the checksum. Own work. -/
namespace Go.Proofs.Ytccgnekcbdkilaa
set_option linter.unusedVariables false
set_option linter.unusedSimpArgs false
def polyB : BitVec 64 := 14514072000185962306#64
def stepB (r : BitVec 64) : BitVec 64 := if (r &&& 1#64 == 1#64) = true then r >>> 1 ^^^ 14514072000185962306#64 else r >>> 1
def stepN : Nat → BitVec 64 → BitVec 64
  | 0, r => r
  | n + 1, r => stepB (stepN n r)
def tabB (i : BitVec 8) : BitVec 64 := stepN 8 (i.setWidth 64)
/-- A byte more, bit by bit. -/
def byteR (r : BitVec 64) (b : BitVec 8) : BitVec 64 := stepN 8 (r ^^^ b.setWidth 64)
/-- A byte more, by the table. -/
def byteP (r : BitVec 64) (b : BitVec 8) : BitVec 64 := r >>> 8 ^^^ tabB (r.setWidth 8 ^^^ b)
def runB (r : BitVec 64) (bs : List (BitVec 8)) : BitVec 64 := bs.foldl byteR r
def extB (s : BitVec 64) (bs : List (BitVec 8)) : BitVec 64 := ~~~ runB (~~~ s) bs

theorem bit_eq (r : BitVec 64) : (r &&& 1#64 == 1#64) = r.getLsbD 0 := by
  rw [Bool.eq_iff_iff, beq_iff_eq]
  constructor
  · intro h
    have h1 := congrArg (fun x => BitVec.getLsbD x 0) h
    simpa [BitVec.getLsbD_and] using h1
  · intro h
    apply BitVec.eq_of_getLsbD_eq
    intro i hi
    rw [BitVec.getLsbD_and, BitVec.getLsbD_one]
    by_cases h0 : i = 0
    · subst h0; simp [h]
    · simp [h0]
theorem stepB_bit (r : BitVec 64) : stepB r = r >>> 1 ^^^ (if r.getLsbD 0 = true then 14514072000185962306#64 else 0#64) := by
  unfold stepB
  rw [bit_eq]
  cases r.getLsbD 0 <;> simp
theorem stepB_xor (x y : BitVec 64) : stepB (x ^^^ y) = stepB x ^^^ stepB y := by
  rw [stepB_bit, stepB_bit, stepB_bit]
  have h : (x ^^^ y) >>> 1 = x >>> 1 ^^^ y >>> 1 := by
    apply BitVec.eq_of_getLsbD_eq; intro i hi; simp [BitVec.getLsbD_xor, BitVec.getLsbD_ushiftRight]
  rw [h, BitVec.getLsbD_xor]
  generalize x >>> 1 = a
  generalize y >>> 1 = b
  cases x.getLsbD 0 <;> cases y.getLsbD 0 <;> simp only [Bool.xor_false, Bool.xor_true, Bool.not_true, Bool.not_false, if_true, if_false, Bool.false_eq_true]
  · simp
  · simp [BitVec.xor_assoc]
  · rw [BitVec.xor_zero, BitVec.xor_assoc, BitVec.xor_assoc, BitVec.xor_comm b]
  · apply BitVec.eq_of_getLsbD_eq; intro i hi
    simp only [BitVec.getLsbD_xor, BitVec.getLsbD_zero, Bool.xor_false]
    generalize a.getLsbD i = p
    generalize b.getLsbD i = q
    generalize (14514072000185962306#64).getLsbD i = t
    cases p <;> cases q <;> cases t <;> rfl
theorem stepN_xor (n : Nat) (x y : BitVec 64) : stepN n (x ^^^ y) = stepN n x ^^^ stepN n y := by
  induction n with
  | zero => rfl
  | succ n ih => simp only [stepN, ih, stepB_xor]
theorem stepB_shl (x : BitVec 64) (h : x.getLsbD 0 = false) : stepB x = x >>> 1 := by rw [stepB_bit, h]; simp
theorem stepN_shl (n : Nat) (hn : n ≤ 8) (x : BitVec 64) (h : ∀ i, i < 8 → x.getLsbD i = false) : stepN n x = x >>> n := by
  induction n with
  | zero => simp [stepN]
  | succ n ih =>
    rw [stepN, ih (by omega), stepB_shl]
    · apply BitVec.eq_of_getLsbD_eq; intro i hi; simp only [BitVec.getLsbD_ushiftRight]; congr 1; omega
    · rw [BitVec.getLsbD_ushiftRight]; exact h _ (by omega)
theorem byte_eq (r : BitVec 64) (b : BitVec 8) : byteP r b = byteR r b := by
  unfold byteP byteR tabB
  have h : r ^^^ b.setWidth 64 = (r >>> 8) <<< 8 ^^^ (r.setWidth 8 ^^^ b).setWidth 64 := by
    apply BitVec.eq_of_getLsbD_eq
    intro i hi
    simp only [BitVec.getLsbD_xor, BitVec.getLsbD_shiftLeft, BitVec.getLsbD_ushiftRight, BitVec.getLsbD_setWidth]
    by_cases h8 : i < 8
    · simp [h8, hi]
    · have : 8 + (i - 8) = i := by omega
      have hb : b.getLsbD i = false := BitVec.getLsbD_of_ge _ _ (by omega)
      simp [h8, hi, this, hb]
  have h0 : ∀ i, i < 8 → (r >>> 8 <<< 8).getLsbD i = false := by
    intro i hi
    simp [BitVec.getLsbD_shiftLeft, hi]
  rw [h, stepN_xor, stepN_shl 8 (by omega) (r >>> 8 <<< 8) h0]
  congr 1
  apply BitVec.eq_of_getLsbD_eq
  intro i hi
  simp only [BitVec.getLsbD_shiftLeft, BitVec.getLsbD_ushiftRight]
  by_cases h2 : 8 + i < 64
  · simp [h2]
  · have : r.getLsbD (8 + i) = false := BitVec.getLsbD_of_ge _ _ (by omega)
    simp [this]
theorem runB_take (r : BitVec 64) (bs : List (BitVec 8)) (k : Nat) (h : k < bs.length) : runB r (bs.take (k + 1)) = byteR (runB r (bs.take k)) bs[k] := by
  unfold runB
  rw [List.take_succ_eq_append_getElem h, List.foldl_append]
  rfl
theorem runB_append (r : BitVec 64) (xs ys : List (BitVec 8)) : runB r (xs ++ ys) = runB (runB r xs) ys := by
  unfold runB; rw [List.foldl_append]
theorem extB_append (s : BitVec 64) (xs ys : List (BitVec 8)) : extB (extB s xs) ys = extB s (xs ++ ys) := by
  unfold extB; rw [BitVec.not_not, runB_append]
theorem extB_nil : extB 0#64 [] = 0#64 := by decide
def xor3 : List (BitVec 8) → List (BitVec 8) → List (BitVec 8) → List (BitVec 8)
  | x :: a, y :: b, z :: c => (x ^^^ y ^^^ z) :: xor3 a b c
  | _, _, _ => []
theorem xor3_length : ∀ (a b c : List (BitVec 8)), a.length = b.length → a.length = c.length → (xor3 a b c).length = a.length
  | [], [], [], _, _ => rfl
  | x :: a, y :: b, z :: c, h1, h2 => by
    simp only [List.length_cons] at h1 h2
    rw [xor3, List.length_cons, List.length_cons, xor3_length a b c (by omega) (by omega)]
theorem xor3_get : ∀ (a b c : List (BitVec 8)) (j : Nat) (x y z : BitVec 8), a[j]? = some x → b[j]? = some y → c[j]? = some z → (xor3 a b c)[j]? = some (x ^^^ y ^^^ z)
  | p :: a, q :: b, r :: c, 0, x, y, z, h1, h2, h3 => by
    simp at h1 h2 h3; subst h1 h2 h3; rfl
  | p :: a, q :: b, r :: c, j + 1, x, y, z, h1, h2, h3 => by
    rw [xor3, List.getElem?_cons_succ]
    exact xor3_get a b c j x y z (by simpa using h1) (by simpa using h2) (by simpa using h3)
theorem byteR_xor3 (r s t : BitVec 64) (x y z : BitVec 8) : byteR (r ^^^ s ^^^ t) (x ^^^ y ^^^ z) = byteR r x ^^^ byteR s y ^^^ byteR t z := by
  unfold byteR
  rw [← stepN_xor, ← stepN_xor]
  congr 1
  apply BitVec.eq_of_getLsbD_eq
  intro i hi
  simp only [BitVec.getLsbD_xor, BitVec.getLsbD_setWidth, hi, decide_true, Bool.true_and]
  generalize r.getLsbD i = r'; generalize s.getLsbD i = s'; generalize t.getLsbD i = t'
  generalize x.getLsbD i = x'; generalize y.getLsbD i = y'; generalize z.getLsbD i = z'
  cases r' <;> cases s' <;> cases t' <;> cases x' <;> cases y' <;> cases z' <;> rfl
theorem runB_xor3 : ∀ (a b c : List (BitVec 8)) (r s t : BitVec 64), a.length = b.length → a.length = c.length → runB (r ^^^ s ^^^ t) (xor3 a b c) = runB r a ^^^ runB s b ^^^ runB t c
  | [], [], [], _, _, _, _, _ => rfl
  | x :: a, y :: b, z :: c, r, s, t, h1, h2 => by
    simp only [List.length_cons] at h1 h2
    have ih := runB_xor3 a b c (byteR r x) (byteR s y) (byteR t z) (by omega) (by omega)
    unfold runB at *
    rw [xor3, List.foldl_cons, List.foldl_cons, List.foldl_cons, List.foldl_cons, byteR_xor3, ih]
theorem extB_xor3 (a b c : List (BitVec 8)) (h1 : a.length = b.length) (h2 : a.length = c.length) : extB 0#64 (xor3 a b c) = extB 0#64 a ^^^ extB 0#64 b ^^^ extB 0#64 c := by
  unfold extB
  have h : (~~~(0#64 : BitVec 64)) = ~~~0#64 ^^^ ~~~0#64 ^^^ ~~~0#64 := by decide
  have e := runB_xor3 a b c (~~~0#64) (~~~0#64) (~~~0#64) h1 h2
  rw [← h] at e
  rw [e]
  generalize runB (~~~0#64) a = p
  generalize runB (~~~0#64) b = q
  generalize runB (~~~0#64) c = r
  apply BitVec.eq_of_getLsbD_eq
  intro i hi
  simp only [BitVec.getLsbD_not, BitVec.getLsbD_xor, hi, decide_true, Bool.true_and]
  cases p.getLsbD i <;> cases q.getLsbD i <;> cases r.getLsbD i <;> rfl
/-- The first bytes of a word, the least significant one first. -/
def wbN : Nat → BitVec 64 → List (BitVec 8)
  | 0, _ => []
  | k + 1, x => wbN k x ++ [(x >>> (8 * k)).setWidth 8]
theorem wbN_length (k : Nat) (x : BitVec 64) : (wbN k x).length = k := by
  induction k with
  | zero => rfl
  | succ k ih => rw [wbN, List.length_append, ih]; rfl
theorem wbN_get (n j : Nat) (x : BitVec 64) (h : j < n) : (wbN n x)[j]? = some ((x >>> (8 * j)).setWidth 8) := by
  induction n with
  | zero => omega
  | succ n ih =>
    rw [wbN]
    by_cases hj : j < n
    · rw [List.getElem?_append_left (by rw [wbN_length]; exact hj)]; exact ih hj
    · have : j = n := by omega
      subst this
      rw [List.getElem?_append_right (by rw [wbN_length]; omega), wbN_length, Nat.sub_self]; rfl
/-- The bytes of words. -/
def wordBytes (l : List (BitVec 64)) : List (BitVec 8) := l.flatMap (wbN 8)
theorem wordBytes_length (l : List (BitVec 64)) : (wordBytes l).length = 8 * l.length := by
  unfold wordBytes
  induction l with
  | nil => rfl
  | cons x l ih => rw [List.flatMap_cons, List.length_append, ih, wbN_length, List.length_cons]; omega
theorem wordBytes_take (l : List (BitVec 64)) (k : Nat) (h : k < l.length) : wordBytes (l.take (k + 1)) = wordBytes (l.take k) ++ wbN 8 l[k] := by
  unfold wordBytes
  rw [List.take_succ_eq_append_getElem h, List.flatMap_append, List.flatMap_singleton]
end Go.Proofs.Ytccgnekcbdkilaa

/- The walks of package crc and of its reference. Own work. -/
namespace Go.Proofs.Ytccgnekcbdkilaa
open Go.RowKit
set_option linter.unusedVariables false
set_option linter.unusedSimpArgs false
def z256 : Array Value := Array.replicate 256 (.int .u64 0)
theorem zero256 (w : World) : (zeroValue 91).run Try.prog w = .ok (.agg z256) w := by kernel_rfl
def tabV (j : Nat) : Value := .int .u64 (UV (tabB (BitVec.ofNat 8 j)))
def IsTab (cs : Array Value) : Prop := cs.size = 256 ∧ ∀ j, j < 256 → cs[j]? = some (tabV j)
theorem stepN_succ_y (m : Nat) (r : BitVec 64) (h : (stepN m r &&& 1#64 == 1#64) = true) : stepN (m + 1) r = stepN m r >>> 1 ^^^ 14514072000185962306#64 := by
  rw [stepN, stepB, if_pos h]
theorem stepN_succ_n (m : Nat) (r : BitVec 64) (h : (stepN m r &&& 1#64 == 1#64) = false) : stepN (m + 1) r = stepN m r >>> 1 := by
  rw [stepN, stepB, if_neg (by simp [h])]
theorem tab_ok (k : Nat) (hk : k < 256) : tabB (BitVec.ofNat 8 k) = stepN 8 (BitVec.ofNat 64 k) := by
  unfold tabB
  congr 1
  apply BitVec.eq_of_toNat_eq
  rw [BitVec.toNat_setWidth, BitVec.toNat_ofNat, BitVec.toNat_ofNat]
  omega
set_option maxRecDepth 100000 in
set_option maxHeartbeats 1000000 in
theorem table_any (w : World) :
    Calls Try.prog 64 #[] w fun e w' => ∃ cs, e = .returned (.agg cs) ∧ IsTab cs ∧ Below w.heap.size w w' := by
  have hz := zero256
  go_enter Try.func64, Try.ntmps64
  go_wp2
  go_loopw [3] (fun i wr => ∃ (k : Nat) (cs : Array Value), k ≤ 256 ∧ i = .int .i64 k ∧ Below w.heap.size w wr ∧ Blk wr w.heap.size 91 cs ∧ cs.size = 256 ∧ ∀ j, j < k → cs[j]? = some (tabV j)) (fun i _ => 256 - (intOf i).toNat)
  case atStart => exact ⟨0, z256, by omega, rfl, (Below.refl _ _).alloc (Nat.le_refl _) _, Blk.new _ _ _, rfl, fun j hj => by omega⟩
  case round =>
    obtain ⟨k, cs, hk, rfl, hb, hblk, hsz, htab⟩ := hrel
    have HT := Lib.hid htab
    have HB := Lib.hid hblk
    have HS := Lib.hid hsz
    clear htab hblk hsz hz
    by_cases hlt : k < 256
    · go_wp2
      go_loop [2, 8] (fun r j => ∃ m : Nat, m ≤ 8 ∧ j = .int .i64 m ∧ r = .int .u64 (UV (stepN m (BitVec.ofNat 64 k)))) (fun _ j => 8 - (intOf j).toNat)
      case atStart => exact ⟨0, by omega, rfl, rfl⟩
      case round =>
        obtain ⟨m, hm, rfl, rfl⟩ := hrel
        by_cases hml : m < 8
        · rcases Bool.eq_false_or_eq_true (stepN m (BitVec.ofNat 64 k) &&& 1#64 == 1#64) with hb1 | hb1
          · go_wp2
            go_round
            case rel => exact ⟨m + 1, by omega, by go_num, by rw [stepN_succ_y m _ hb1]⟩
            case measure => simp [intOf]; omega
          · go_wp2
            go_round
            case rel => exact ⟨m + 1, by omega, by go_num, by rw [stepN_succ_n m _ hb1]⟩
            case measure => simp [intOf]; omega
        · have h8 : m = 8 := by omega
          subst h8
          have hc := HB.out.cell k
          rw [Array.getElem?_eq_getElem (show k < cs.size by rw [HS.out]; exact hlt)] at hc
          have hf := HB.out.frozen k
          go_wp2
          go_roundw
          case rel =>
            refine ⟨k + 1, _, by omega, by go_num, hb.setCell (Nat.le_refl _) _, HB.out.setSame k _, by rw [Array.size_setIfInBounds]; exact HS.out, fun j hj => ?_⟩
            rw [Array.getElem?_setIfInBounds]
            by_cases hjk : k = j
            · subst hjk
              rw [if_pos rfl, if_pos (by rw [HS.out]; exact hlt)]
              unfold tabV
              rw [tab_ok k hlt]
            · rw [if_neg hjk]; exact HT.out j (by omega)
          case measure => simp [intOf]; omega
    · have h256 : k = 256 := by omega
      subst h256
      have hi : (Try.prog.info? 91).map (·.size) = some cs.size := by rw [HS.out]; kernel_rfl
      have Hi := Lib.hid hi
      clear hi
      go_wp2_with (first
        | (refine wpList_load_row rfl 91 _ rfl _ rfl _ _ _ _ HB.out Try.underlying91 rfl Hi.out ?_)
        | (refine wpList_store_row rfl 91 _ _ rfl _ cs rfl rfl _ _ HB.out Hi.out rfl ?c1 ?_))
      case c1 =>
        rw [Array.all_eq_true]
        intro i hi
        have h1 := HT.out i (by rw [HS.out] at hi; exact hi)
        rw [Array.getElem?_eq_getElem hi] at h1
        injection h1 with h1
        rw [h1]; rfl
      rw [setRow_self wr _ cs _ _ HB.out]
      go_wp2
      refine bodyPost_ret (v := .agg cs) (results_cell_row rfl _ _ _ _ cs _ _ rfl HB.out Try.underlying91 rfl Hi.out) rfl ⟨cs, rfl, ⟨HS.out, HT.out⟩, hb⟩
end Go.Proofs.Ytccgnekcbdkilaa

/- The walks of package crc and of its reference: bytes. Own work. -/
namespace Go.Proofs.Ytccgnekcbdkilaa
open Go.RowKit
set_option linter.unusedVariables false
set_option linter.unusedSimpArgs false
def u8V (b : BitVec 8) : Value := .int .u8 (UV b)
theorem map_get {bs : List (BitVec 8)} {k : Nat} (h : k < bs.length) : (bs.map u8V)[k]? = some (.int .u8 (UV bs[k])) := by
  rw [List.getElem?_map, List.getElem?_eq_getElem h]; rfl
theorem map_get' {bs : List (BitVec 8)} {k : Nat} {x : BitVec 8} (h : bs[k]? = some x) : (bs.map u8V)[k]? = some (.int .u8 (UV x)) := by
  rw [List.getElem?_map, h]; rfl
theorem tab_cell {w : World} {B : Nat} {cs : Array Value} (hB : Blk w B 91 cs) (hT : IsTab cs) (y : BitVec 8) : w.cell? ⟨B, (UV y).toNat, none⟩ = some (.int .u64 (UV (tabB y))) := by
  rw [hB.cell, hT.2 _ (by have := y.isLt; exact this)]
  unfold tabV
  rw [toNat_UV, BitVec.ofNat_toNat, BitVec.setWidth_eq]
set_option maxHeartbeats 1000000 in
theorem add_any (r : BitVec 64) (B : Nat) (cs : Array Value) (v : Value) (bs : List (BitVec 8)) (w : World) (hB : Blk w B 91 cs) (hT : IsTab cs) (hs : Sl w v (bs.map u8V)) :
    Calls Try.prog 65 #[.int .u64 (UV r), .pointer (some ⟨B, 0, none⟩), v] w fun e w' => e = .returned (.int .u64 (UV (runB r bs))) ∧ w = w' := by
  rcases hs.cases with ⟨a0, c0, rfl, h0⟩ | ⟨b, o, c, rfl, hl, hm, hlt, hc⟩
  · have hn : bs = [] := by simpa using h0
    subst hn
    go_enter Try.func65, Try.ntmps65
    go_wp2
    go_loop [0, 11] (fun a i => a = .int .u64 (UV r) ∧ i = .int .i64 0) (fun _ _ => 0)
    case atStart => exact ⟨rfl, rfl⟩
    case round =>
      obtain ⟨rfl, rfl⟩ := hrel
      go_wp2
      go_ret
      exact ⟨rfl, rfl⟩
  · rw [List.length_map] at hl ⊢
    unfold maxLen at hm
    have hcell : ∀ k (h : k < bs.length), w.cell? ⟨b, o + k, none⟩ = some (.int .u8 (UV bs[k])) := fun k h => hc k _ (map_get h)
    have HC := Lib.hid hcell
    have HT := Lib.hid hT
    have HB := Lib.hid hB
    have htk := Lib.hid (runB_take r bs)
    have hall := Lib.hid (List.take_length (l := bs))
    clear hc hcell hT hB hs
    go_enter Try.func65, Try.ntmps65
    go_wp2
    go_loop [0, 11] (fun a i => ∃ k : Nat, k ≤ bs.length ∧ i = .int .i64 k ∧ a = .int .u64 (UV (runB r (bs.take k)))) (fun _ i => bs.length - (intOf i).toNat)
    case atStart => exact ⟨0, by omega, rfl, rfl⟩
    case round =>
      obtain ⟨k, hk, rfl, rfl⟩ := hrel
      by_cases hlt2 : k < bs.length
      · have h1 := HC.out k hlt2
        have h2 := htk.out k hlt2
        generalize runB r (bs.take k) = R at *
        generalize bs[k] = x at *
        have h3 := tab_cell HB.out HT.out (R.setWidth 8 ^^^ x)
        have h4 := UV_nonneg (R.setWidth 8 ^^^ x)
        have h5 := UV_lt (R.setWidth 8 ^^^ x)
        have H2 := Lib.hid h2
        clear h2
        go_wp2
        go_round
        case rel => exact ⟨k + 1, by omega, by go_num, by rw [H2.out, ← byte_eq]; rfl⟩
        case measure => simp [intOf]; omega
      · have hkn : k = bs.length := by omega
        subst hkn
        go_wp2
        go_ret
        exact ⟨by rw [← hall.out]; simp, rfl⟩
end Go.Proofs.Ytccgnekcbdkilaa

/- The walks of package crc and of its reference: Extend, Bytes. Own work. -/
namespace Go.Proofs.Ytccgnekcbdkilaa
open Go.RowKit
set_option linter.unusedVariables false
set_option linter.unusedSimpArgs false
theorem IsTab.one {cs : Array Value} (h : IsTab cs) : cs.all (·.oneCell') = true := by
  rw [Array.all_eq_true]
  intro i hi
  have h1 := h.2 i (by rw [h.1] at hi; exact hi)
  rw [Array.getElem?_eq_getElem hi] at h1
  injection h1 with h1
  rw [h1]; rfl
theorem z256_size : z256.size = 256 := by simp [z256]
theorem IsTab.info {cs : Array Value} (h : IsTab cs) : (Try.prog.info? 91).map (·.size) = some cs.size := by rw [h.1]; kernel_rfl
set_option maxHeartbeats 1000000 in
theorem Extend_any (s : BitVec 64) (v : Value) (bs : List (BitVec 8)) (w : World) (hs : Sl w v (bs.map u8V)) :
    Calls Try.prog 63 #[.int .u64 (UV s), v] w fun e w' => e = .returned (.int .u64 (UV (extB s bs))) ∧ Below w.heap.size w w' := by
  have hz := zero256
  have HS := Lib.hid hs
  clear hs
  go_enter Try.func63, Try.ntmps63
  go_wp2_with fail
  refine (table_any _).mono ?_
  rintro e w1 ⟨cs, rfl, hT, hb⟩
  have HT := Lib.hid hT
  clear hT
  go_wp2_with (first
    | (refine wpList_store_row rfl 91 _ _ rfl _ cs rfl rfl _ _ (heap_alloc_new _ _) HT.out.info (z256_size.trans HT.out.1.symm) HT.out.one ?_)
    | fail)
  rw [World.setRow_alloc_new]
  go_wp2_with fail
  have hb2 : Below w.heap.size w (w1.alloc (.cells cs 91)) := hb.alloc hb.size _
  refine (add_any _ _ cs _ bs _ (Blk.new _ _ _) HT.out (HS.out.below hb2)).mono ?_
  rintro e w' ⟨rfl, rfl⟩
  go_wp2_with fail
  go_ret
  exact ⟨rfl, hb2⟩
theorem Bytes_any (v : Value) (bs : List (BitVec 8)) (w : World) (hs : Sl w v (bs.map u8V)) :
    Calls Try.prog 56 #[v] w fun e w' => e = .returned (.int .u64 (UV (extB 0#64 bs))) ∧ Below w.heap.size w w' := by
  have HS := Lib.hid hs
  clear hs
  go_enter Try.func56, Try.ntmps56
  go_wp2_with fail
  refine (Extend_any 0#64 v bs _ HS.out).mono ?_
  rintro e w' ⟨rfl, hb⟩
  go_wp2_with fail
  go_ret
  exact ⟨rfl, hb⟩
set_option maxHeartbeats 1000000 in
theorem ExtendR_any (s : BitVec 64) (v : Value) (bs : List (BitVec 8)) (w : World) (hs : Sl w v (bs.map u8V)) :
    Calls Try.prog 57 #[.int .u64 (UV s), v] w fun e w' => e = .returned (.int .u64 (UV (extB s bs))) ∧ w = w' := by
  rcases hs.cases with ⟨a0, c0, rfl, h0⟩ | ⟨b, o, c, rfl, hl, hm, hlt, hc⟩
  · have hn : bs = [] := by simpa using h0
    subst hn
    go_enter Try.func57, Try.ntmps57
    go_wp2
    go_loop [5, 6] (fun a i => a = .int .u64 (UV (~~~s)) ∧ i = .int .i64 0) (fun _ _ => 0)
    case atStart => exact ⟨rfl, rfl⟩
    case round =>
      obtain ⟨rfl, rfl⟩ := hrel
      go_wp2
      go_ret
      exact ⟨by simp [extB, runB], rfl⟩
  · rw [List.length_map] at hl ⊢
    unfold maxLen at hm
    have hcell : ∀ k (h : k < bs.length), w.cell? ⟨b, o + k, none⟩ = some (.int .u8 (UV bs[k])) := fun k h => hc k _ (map_get h)
    have HC := Lib.hid hcell
    have htk := Lib.hid (runB_take (~~~s) bs)
    have hall := Lib.hid (List.take_length (l := bs))
    clear hc hcell hs
    go_enter Try.func57, Try.ntmps57
    go_wp2
    go_loop [5, 6] (fun a i => ∃ k : Nat, k ≤ bs.length ∧ i = .int .i64 k ∧ a = .int .u64 (UV (runB (~~~s) (bs.take k)))) (fun _ i => bs.length - (intOf i).toNat)
    case atStart => exact ⟨0, by omega, rfl, rfl⟩
    case round =>
      obtain ⟨k, hk, rfl, rfl⟩ := hrel
      by_cases hlt2 : k < bs.length
      · have h1 := HC.out k hlt2
        have h2 := htk.out k hlt2
        generalize runB (~~~s) (bs.take k) = R at *
        generalize bs[k] = x at *
        have H2 := Lib.hid h2
        clear h2
        go_wp2
        go_loop [5, 7] (fun a j => ∃ m : Nat, m ≤ 8 ∧ j = .int .i64 m ∧ a = .int .u64 (UV (stepN m (R ^^^ x.setWidth 64)))) (fun _ j => 8 - (intOf j).toNat)
        case atStart => exact ⟨0, by omega, rfl, rfl⟩
        case round =>
          obtain ⟨m, hm, rfl, rfl⟩ := hrel
          by_cases hml : m < 8
          · rcases Bool.eq_false_or_eq_true (stepN m (R ^^^ x.setWidth 64) &&& 1#64 == 1#64) with hb1 | hb1
            · go_wp2
              go_round
              case rel => exact ⟨m + 1, by omega, by go_num, by rw [stepN_succ_y m _ hb1]⟩
              case measure => simp [intOf]; omega
            · go_wp2
              go_round
              case rel => exact ⟨m + 1, by omega, by go_num, by rw [stepN_succ_n m _ hb1]⟩
              case measure => simp [intOf]; omega
          · have h8 : m = 8 := by omega
            subst h8
            go_wp2
            go_round
            case rel => exact ⟨k + 1, by omega, by go_num, by rw [H2.out]; rfl⟩
            case measure => simp [intOf]; omega
      · have hkn : k = bs.length := by omega
        subst hkn
        go_wp2
        go_ret
        exact ⟨by rw [← hall.out]; simp [extB], rfl⟩
theorem cut0 {w : World} {a : Option Addr} {n c k : Nat} {xs ys : List Value} (h : Sl w (.slice a n c) xs) (hk : k ≤ n) (e : xs.take k = ys) : Sl w (.slice (cutA a c 0 1) k c) ys := by
  have := h.cut (lo := 0) (hi := k) (Nat.zero_le _) hk rfl rfl
  rw [List.drop_zero, e] at this
  exact this
end Go.Proofs.Ytccgnekcbdkilaa

/- append onto a row of the call's own, whatever the source. Own work, on the kit's laws. -/
namespace Go.Proofs.Ytccgnekcbdkilaa
open Go.RowKit
set_option linter.unusedVariables false
set_option linter.unusedSimpArgs false
section
variable {P : Program} {w : World}
theorem app_nil (base : Nat) (t ty e : TypeId) (i : TypeInfo) (size : Nat) (ht : P.underlying t = some (.slice e)) (hi : P.info? e = some i)
    (v : Value) (n : Nat) (xs : List Value) (hown : w.ownsRow base e size v n xs) (c : Nat) : (Builtin.append_ #[t, t] ty #[v, .slice none 0 c]).run P w = .ok v w := by
  rcases hown.2 with ⟨rfl, rfl⟩ | ⟨g, cap, cur, rfl, _, _, hnc, _⟩
  · simp [Builtin.append_, run_underlying ht, sizeOf, typeInfo, hi, Builtin.lenOf, Builtin.firstCells]
  · simp [Builtin.append_, run_underlying ht, sizeOf, typeInfo, hi, Builtin.lenOf, Builtin.firstCells, hnc, storeCells]
theorem run_app (base : Nat) (t ty e : TypeId) (z : Value) (size bytes : Nat) (ht : P.underlying t = some (.slice e)) (hinfo : (P.info? e).map (fun i => (i.zero, i.size, i.bytes)) = some (some z, size, bytes))
    (hzs : z.cells.size = size) (hsz : 0 < size)
    (v : Value) (n : Nat) (xs : List Value) (hown : w.ownsRow base e size v n xs)
    (xv : Value) (m : Nat) (news : List Value) (hr : SlN w xv size m news) (h1 : ∀ u ∈ news, u.oneCell' = true)
    (hn : n + m ≤ 1073741824) (hbytes : (n + m) * bytes ≤ 140737488355328) (hbase : base ≤ w.heap.size) :
    ∃ v' w', (Builtin.append_ #[t, t] ty #[v, xv]).run P w = .ok v' w' ∧ w'.ownsRow base e size v' (n + m) (xs ++ news) ∧ w.grownBy w' v.ownBlock := by
  obtain ⟨i, hi, hzz⟩ := Option.map_eq_some_iff.1 hinfo
  simp only [Prod.mk.injEq] at hzz
  obtain ⟨hz, hs, hb⟩ := hzz
  have hml : n + m ≤ maxLen := by unfold maxLen; omega
  obtain ⟨hlen, hr⟩ := hr
  rcases hr with ⟨a, c, rfl, rfl⟩ | ⟨b, o, c, rfl, hmc, hcm, hlt, hcell⟩
  · have hnil : news = [] := List.eq_nil_of_length_eq_zero (by simpa using hlen)
    subst hnil
    cases a with
    | none => exact ⟨v, w, app_nil base t ty e i size ht hi v n xs hown c, by simpa using hown, World.grownBy.refl w _⟩
    | some ad =>
      obtain ⟨v', w', r1, r2, r3, _⟩ := run_append_own (P := P) w base t ty e i z size bytes ht hi hz hs hb hzs hsz v n xs hown ad 0 c [] (by simp) (by simp) (by simp) hml hbytes hbase
      exact ⟨v', w', r1, r2, r3⟩
  · obtain ⟨v', w', r1, r2, r3, _⟩ := run_append_own (P := P) w base t ty e i z size bytes ht hi hz hs hb hzs hsz v n xs hown ⟨b, o, none⟩ m c news hlen
      (fun j u hu => by rw [addr_add]; exact hcell j u hu) h1 hml hbytes hbase
    exact ⟨v', w', r1, r2, r3⟩
theorem wp_app {o : Oper} {a : Act} {K : Act → World → Prop} {Q : Exit → Act → World → Prop} (s x : Operand) (t : TypeId)
    (ho : o.op = .call { callee := .builtin .append, args := #[s, x], argTypes := #[t, t] })
    (base : Nat) (e : TypeId) (z : Value) (size bytes : Nat) (ht : P.underlying t = some (.slice e)) (hinfo : (P.info? e).map (fun i => (i.zero, i.size, i.bytes)) = some (some z, size, bytes))
    (hzs : z.cells.size = size) (hsz : 0 < size)
    (v : Value) (n : Nat) (xs : List Value) (hs : a.eval s = v) (hown : w.ownsRow base e size v n xs)
    (xv : Value) (m : Nat) (news : List Value) (hx : a.eval x = xv) (hr : SlN w xv size m news) (h1 : ∀ u ∈ news, u.oneCell' = true)
    (hn : n + m ≤ 1073741824) (hbytes : (n + m) * bytes ≤ 140737488355328) (hbase : base ≤ w.heap.size)
    (h : ∀ v' w', w'.ownsRow base e size v' (n + m) (xs ++ news) → w.grownBy w' v.ownBlock → K (a.put o.dst v') w') : o.wp P a w K Q := by
  obtain ⟨v', w', hrun, h2, h3⟩ := run_app (P := P) base t o.type e z size bytes ht hinfo hzs hsz v n xs hown xv m news hr h1 hn hbytes hbase
  unfold Oper.wp execOp
  simp only [ho, resolve, invoke, builtin, Sem.run_bind, Sem.run_pure, Result.andThen_ok, List.map_toArray, List.map_cons, List.map_nil, hs, hx, hrun]
  exact h v' w' h2 h3
theorem wpList_app {ops : Array Oper} {rest : List Oper} {o : Oper} {a : Act} {Q : Exit → Act → World → Prop} (hgd : o.guard = none) (s x : Operand) (t : TypeId)
    (ho : o.op = .call { callee := .builtin .append, args := #[s, x], argTypes := #[t, t] })
    (base : Nat) (e : TypeId) (z : Value) (size bytes : Nat) (ht : P.underlying t = some (.slice e)) (hinfo : (P.info? e).map (fun i => (i.zero, i.size, i.bytes)) = some (some z, size, bytes))
    (hzs : z.cells.size = size) (hsz : 0 < size)
    (v : Value) (n : Nat) (xs : List Value) (hs : a.eval s = v) (hown : w.ownsRow base e size v n xs)
    (xv : Value) (m : Nat) (news : List Value) (hx : a.eval x = xv) (hr : SlN w xv size m news) (h1 : ∀ u ∈ news, u.oneCell' = true)
    (hn : n + m ≤ 1073741824) (hbytes : (n + m) * bytes ≤ 140737488355328) (hbase : base ≤ w.heap.size)
    (h : ∀ v' w', w'.ownsRow base e size v' (n + m) (xs ++ news) → w.grownBy w' v.ownBlock → wpList P ops Q rest (a.put o.dst v') w') : wpList P ops Q (o :: rest) a w :=
  wpList_plain hgd fun _ hK => wp_app s x t ho base e z size bytes ht hinfo hzs hsz v n xs hs hown xv m news hx hr h1 hn hbytes hbase fun v' w' h2 h3 => hK _ _ (h v' w' h2 h3)
end
/-- An owned row is a slice. -/
theorem own_form {w : World} {base : Nat} {e : TypeId} {size n : Nat} {v : Value} {xs : List Value} (h : w.ownsRow base e size v n xs) : ∃ a c, v = .slice a n c := by
  rcases h.2 with ⟨rfl, rfl⟩ | ⟨g, cap, cur, rfl, _⟩
  · exact ⟨_, _, rfl⟩
  · exact ⟨_, _, rfl⟩
theorem own_below {w w' : World} {base : Nat} {e : TypeId} {size n : Nat} {v : Value} {xs : List Value} (h : w.ownsRow base e size v n xs) {B : Nat} (hb : Below B w w') (hB : w.heap.size ≤ B) : w'.ownsRow base e size v n xs := by
  refine ⟨h.1, ?_⟩
  rcases h.2 with h2 | ⟨g, cap, cur, rfl, h1, h2, h3⟩
  · exact .inl h2
  · have hl : g < w.heap.size := by
      rcases Nat.lt_or_ge g w.heap.size with hl | hl
      · exact hl
      · rw [Array.getElem?_eq_none hl] at h2; cases h2
    exact .inr ⟨g, cap, cur, rfl, h1, by rw [hb.block g (by omega)]; exact h2, h3⟩
/-- An owned row reads as a slice. -/
theorem own_sl {w : World} {base : Nat} {e : TypeId} {size n : Nat} {v : Value} {xs : List Value} (h : w.ownsRow base e size v n xs) : SlN w v size n xs := by
  refine ⟨h.1, ?_⟩
  rcases h.2 with ⟨rfl, rfl⟩ | ⟨g, cap, cur, rfl, h1, h2, h3, h4, h5, h6⟩
  · exact .inl ⟨_, _, rfl, rfl⟩
  · refine .inr ⟨g, 0, cap, rfl, h3, h4, ?_, fun i u hu => ?_⟩
    · rcases Nat.lt_or_ge g w.heap.size with hl | hl
      · exact hl
      · rw [Array.getElem?_eq_none hl] at h2; cases h2
    · rw [Nat.zero_add, cell_of_row w g i cur e _ h2]
      rw [← h6] at hu
      have hi : i < n * size := by
        rcases Nat.lt_or_ge i (n * size) with g' | g'
        · exact g'
        · rw [List.getElem?_eq_none (by rw [List.length_take]; omega)] at hu; cases hu
      rw [List.getElem?_take_of_lt hi, Array.getElem?_toList] at hu
      exact hu
theorem own_sl1 {w : World} {base : Nat} {e : TypeId} {n : Nat} {v : Value} {xs : List Value} (h : w.ownsRow base e 1 v n xs) : Sl w v xs := by
  have h1 := own_sl h
  have h2 : xs.length = n := by have := h.1; omega
  unfold Sl
  rw [h2]
  exact h1
/-- A new block of cells reads as the one-element slice over it. -/
theorem sl_new (w : World) (cs : Array Value) (t : TypeId) (s n c : Nat) (h : cs.size = n * s) (hc : n ≤ c) (hm : c ≤ 1073741824) : SlN (w.alloc (.cells cs t)) (.slice (some ⟨w.heap.size, 0, none⟩) n c) s n cs.toList := by
  refine ⟨by rw [Array.length_toList, h], .inr ⟨_, _, c, rfl, hc, by unfold maxLen; omega, by simp, fun i u hu => ?_⟩⟩
  rw [Nat.zero_add, (Blk.new w t cs).cell i]
  rw [Array.getElem?_toList] at hu
  exact hu
/-- What a grown world keeps below the base. -/
theorem below_grown {B : Nat} {w0 w w' : World} {base : Nat} {e : TypeId} {size n : Nat} {v : Value} {xs : List Value} (h : Below B w0 w) (hown : w.ownsRow base e size v n xs) (hg : w.grownBy w' v.ownBlock) (hB : B ≤ base) (hw : B ≤ w.heap.size) : Below B w0 w' :=
  h.grown hg hw fun k hk => Nat.le_trans hB (hown.lt k hk).1
end Go.Proofs.Ytccgnekcbdkilaa

/- The walks of package crc and of its reference: words. Own work. -/
namespace Go.Proofs.Ytccgnekcbdkilaa
open Go.RowKit
set_option linter.unusedVariables false
set_option linter.unusedSimpArgs false
def u64V (b : BitVec 64) : Value := .int .u64 (UV b)
theorem u8_info : (Try.prog.info? 5).map (fun i => (i.zero, i.size, i.bytes)) = some (some (.int .u8 0), 1, 1) := by kernel_rfl
theorem lit0 : Value.int .u64 0 = Value.int .u64 (UV 0#64) := rfl
theorem get64 {l : List (BitVec 64)} {k : Nat} (h : k < l.length) : (l.map u64V)[k]? = some (.int .u64 (UV l[k])) := by
  rw [List.getElem?_map, List.getElem?_eq_getElem h]; rfl
theorem shr_shr8 (x : BitVec 64) (k : Nat) : x >>> (8 * k) >>> 8 = x >>> (8 * (k + 1)) := by
  apply BitVec.eq_of_getLsbD_eq; intro i hi; simp only [BitVec.getLsbD_ushiftRight]; congr 1; omega
set_option maxHeartbeats 4000000 in
theorem Words_any (v : Value) (l : List (BitVec 64)) (w : World) (hs : Sl w v (l.map u64V)) (hn : l.length ≤ 65536) :
    Calls Try.prog 45 #[v] w fun e w' => e = .returned (.int .u64 (UV (extB 0#64 (wordBytes l)))) ∧ Below w.heap.size w w' := by
  obtain ⟨a, n, c, rfl⟩ : ∃ a n c, v = .slice a n c := by
    rcases hs.cases with ⟨a, c, rfl, _⟩ | ⟨b, o, c, rfl, _⟩ <;> exact ⟨_, _, _, rfl⟩
  have hl : l.length = n := by have := hs.len; simpa using this
  have HS := Lib.hid hs
  have HL := Lib.hid hl
  rw [hl] at hn
  clear hs hl
  obtain ⟨i0, hi0, hz⟩ := Option.map_eq_some_iff.1 u8_info
  simp only [Prod.mk.injEq] at hz
  have HI := Lib.hid hi0
  have HZ := Lib.hid hz
  clear hi0 hz
  go_enter Try.func45, Try.ntmps45
  go_wp2_with (refine wpList_make_own _ rfl _ _ 85 rfl w.heap.size 5 i0 (.int .u8 0) 1 Try.underlying85 HI.out HZ.out.1 HZ.out.2.1 .i64 .i64 _ (8 * n) rfl rfl (by omega) (by rw [HZ.out.2.2]; omega) (by unfold maxLen; omega) (Nat.le_refl _) ?_; intro w1 hown hg)
  have hb1 : Below w.heap.size w w1 := (Below.refl _ _).grown hg (Nat.le_refl _) (by intro k hk; cases hk)
  have HO := Lib.hid hown
  clear hown hg HI HZ
  go_loopw [3, 12] (fun b i wr => ∃ k : Nat, k ≤ n ∧ i = .int .i64 k ∧ wr.ownsRow w.heap.size 5 1 b (8 * k) ((wordBytes (l.take k)).map u8V) ∧ Below w.heap.size w wr) (fun _ i _ => n - (intOf i).toNat)
  case atStart => exact ⟨0, by omega, rfl, HO.out, hb1⟩
  case round =>
    obtain ⟨k, hk, rfl, hown, hb⟩ := hrel
    have HW := Lib.hid hown
    clear hown HO hb1
    by_cases hlt : k < n
    · obtain ⟨p, o, rfl, hp, hc⟩ := HS.out.at_ (k := k) (by omega)
      have hc1 := (hb.cell (p := ⟨p, o + k, none⟩) hp).trans (hc _ (get64 (by rw [HL.out]; exact hlt)))
      have hbt := wordBytes_take l k (by rw [HL.out]; exact hlt)
      generalize l[k]'(by rw [HL.out]; exact hlt) = x at *
      have Hbt := Lib.hid hbt
      clear hbt hc
      go_wp2_with fail
      go_loopw [3, 5, 16] (fun b y j wq => ∃ m : Nat, m ≤ 8 ∧ j = .int .i64 m ∧ y = .int .u64 (UV (x >>> (8 * m))) ∧ wq.ownsRow w.heap.size 5 1 b (8 * k + m) ((wordBytes (l.take k) ++ wbN m x).map u8V) ∧ Below w.heap.size w wq) (fun _ _ j _ => 8 - (intOf j).toNat)
      case atStart => exact ⟨0, by omega, rfl, by simp, by simpa [wbN] using HW.out, hb⟩
      case round =>
        obtain ⟨m, hm, rfl, rfl, hown, hbq⟩ := hrel
        have HQ := Lib.hid hown
        clear hown hc1
        by_cases hml : m < 8
        · have hsq := hbq.size
          go_wp2_with (at_builtin; refine wpList_app rfl (.tmp 18) (.tmp 21) _ rfl w.heap.size 5 (.int .u8 0) 1 1 Try.underlying85 u8_info rfl (by omega) _ (8 * k + m) _ rfl (HQ.out.alloc _) _ 1 _ rfl (sl_new _ _ _ 1 1 1 rfl (by omega) (by omega)) (by intro u hu; simp at hu; subst hu; rfl) (by omega) (by omega) (by simp; omega) ?_; intro v' w' hown' hg')
          go_roundw
          case rel =>
            refine ⟨m + 1, by omega, by go_num, by rw [shr_shr8], ?_, below_grown (hbq.alloc hsq _) (HQ.out.alloc _) hg' (Nat.le_refl _) (by simp; omega)⟩
            rw [wbN, ← List.append_assoc, List.map_append]
            exact hown'
          case measure => simp [intOf]; omega
        · have h8 : m = 8 := by omega
          subst h8
          go_wp2_with fail
          go_roundw
          case rel => exact ⟨k + 1, by omega, by go_num, by rw [Hbt.out]; exact HQ.out, hbq⟩
          case measure => simp [intOf]; omega
    · have hkn : k = n := by omega
      subst hkn
      have hall : l.take k = l := List.take_of_length_le (by rw [HL.out]; exact Nat.le_refl _)
      rw [hall] at HW
      go_wp2_with fail
      refine (Bytes_any _ (wordBytes l) _ (own_sl1 HW.out)).mono ?_
      rintro e w2 ⟨rfl, hb2⟩
      go_wp2_with fail
      go_ret
      exact ⟨rfl, hb.trans (hb2.mono hb.size)⟩
theorem map_len {l : List (BitVec 8)} : (l.map u8V).length = l.length := by simp
set_option maxHeartbeats 4000000 in
theorem Little_any (x : BitVec 64) (w : World) :
    Calls Try.prog 58 #[.int .u64 (UV x)] w fun e w' => ∃ v, e = .returned v ∧ Sl w' v ((wbN 8 x).map u8V) ∧ Below w.heap.size w w' := by
  have hmk : ∀ W : World, (Instr.makeSlice 85 (.int .i64 8) (.int .i64 8)).run Try.prog W = .ok (.slice (some ⟨W.heap.size, 0, none⟩) 8 8) (W.alloc (.cells (madeCells #[.int .u8 0] 8) 5)) :=
    run_make_row' (P := Try.prog) 85 5 (.int .u8 0) 1 Try.underlying85 u8_info rfl .i64 .i64 8 (by omega) (by omega)
  go_enter Try.func58, Try.ntmps58
  go_wp2_with fail
  clear hmk
  go_loopw [4] (fun i wr => ∃ (k : Nat) (cs : Array Value), k ≤ 8 ∧ i = .int .i64 k ∧ Below w.heap.size w wr ∧ Blk wr w.heap.size 5 cs ∧ cs.size = 8 ∧
    ∀ j, j < k → cs[j]? = some (u8V ((x >>> (8 * j)).setWidth 8))) (fun i _ => 8 - (intOf i).toNat)
  case atStart => exact ⟨0, _, by omega, rfl, (Below.refl _ _).alloc (Nat.le_refl _) _, Blk.new _ _ _, by simp [size_madeCells], fun j hj => by omega⟩
  case round =>
    obtain ⟨k, cs, hk, rfl, hb, hblk, hsz, hcs⟩ := hrel
    have HB := Lib.hid hblk
    have HZ := Lib.hid hsz
    have HC := Lib.hid hcs
    clear hblk hsz hcs
    by_cases hlt : k < 8
    · have d3 := HB.out.cell k
      rw [Array.getElem?_eq_getElem (show k < cs.size by rw [HZ.out]; exact hlt)] at d3
      have d4 := HB.out.frozen k
      have hsh : shf (BitVec.ofInt 64 (8 * (k : Int))) = 8 * k := by rw [shf_int _ (by omega) (by omega)]; omega
      go_wp2_with fail
      go_roundw
      case rel =>
        refine ⟨k + 1, cs.setIfInBounds k (u8V ((x >>> (8 * k)).setWidth 8)), by omega, by go_num, hb.setCell (Nat.le_refl _) _, ?_, by rw [Array.size_setIfInBounds]; exact HZ.out, fun j hj => ?_⟩
        · exact HB.out.setSame k (u8V ((x >>> (8 * k)).setWidth 8))
        · rw [Array.getElem?_setIfInBounds]
          by_cases hjk : k = j
          · subst hjk
            rw [if_pos rfl, if_pos (by rw [HZ.out]; exact hlt)]
          · rw [if_neg hjk]; exact HC.out j (by omega)
      case measure => simp [intOf]; omega
    · have h8 : k = 8 := by omega
      subst h8
      go_wp2_with fail
      go_ret
      refine ⟨_, rfl, ?_, hb⟩
      refine ⟨by simp, ?_⟩
      rw [List.length_map, wbN_length]
      refine .inr ⟨_, _, 8, rfl, Nat.le_refl _, by decide, HB.out.lt, fun i u hu => ?_⟩
      rw [Nat.zero_add, HB.out.cell i]
      have hi : i < 8 := by
        rcases Nat.lt_or_ge i 8 with g | g
        · exact g
        · rw [List.getElem?_eq_none (by rw [List.length_map, wbN_length]; exact g)] at hu; cases hu
      rw [HC.out i hi, ← hu, List.getElem?_map, wbN_get 8 i x hi]
      rfl
set_option maxHeartbeats 4000000 in
theorem WordsR_any (v : Value) (l : List (BitVec 64)) (w : World) (hs : Sl w v (l.map u64V)) (hn : l.length ≤ 65536) :
    Calls Try.prog 46 #[v] w fun e w' => e = .returned (.int .u64 (UV (extB 0#64 (wordBytes l)))) ∧ Below w.heap.size w w' := by
  obtain ⟨a, n, c, rfl⟩ : ∃ a n c, v = .slice a n c := by
    rcases hs.cases with ⟨a, c, rfl, _⟩ | ⟨b, o, c, rfl, _⟩ <;> exact ⟨_, _, _, rfl⟩
  have hl : l.length = n := by have := hs.len; simpa using this
  have HS := Lib.hid hs
  have HL := Lib.hid hl
  rw [hl] at hn
  clear hs hl
  go_enter Try.func46, Try.ntmps46
  go_wp2_with fail
  simp only [lit0]
  go_loopw [3, 4] (fun s i wr => ∃ k : Nat, k ≤ n ∧ i = .int .i64 k ∧ s = .int .u64 (UV (extB 0#64 (wordBytes (l.take k)))) ∧ Below w.heap.size w wr) (fun _ i _ => n - (intOf i).toNat)
  case atStart => exact ⟨0, by omega, rfl, by rw [List.take_zero]; exact congrArg (fun x => Value.int .u64 (UV x)) extB_nil.symm, Below.refl _ _⟩
  case round =>
    obtain ⟨k, hk, rfl, rfl, hb⟩ := hrel
    by_cases hlt : k < n
    · obtain ⟨p, o, rfl, hp, hc⟩ := HS.out.at_ (k := k) (by omega)
      have hc1 := (hb.cell (p := ⟨p, o + k, none⟩) hp).trans (hc _ (get64 (by rw [HL.out]; exact hlt)))
      have hbt := wordBytes_take l k (by rw [HL.out]; exact hlt)
      generalize l[k]'(by rw [HL.out]; exact hlt) = x at *
      have Hbt := Lib.hid hbt
      clear hbt hc
      go_wp2_with fail
      refine (Little_any x _).mono ?_
      rintro e w1 ⟨v, rfl, hs1, hb1⟩
      have HS1 := Lib.hid hs1
      clear hs1
      have hb1' := hb.trans (hb1.mono hb.size)
      go_wp2_with fail
      refine (ExtendR_any _ v (wbN 8 x) _ HS1.out).mono ?_
      rintro e w' ⟨rfl, rfl⟩
      rw [extB_append, ← Hbt.out]
      go_wp2_with fail
      go_roundw
      case rel => exact ⟨k + 1, by omega, by go_num, rfl, hb1'⟩
      case measure => simp [intOf]; omega
    · have hkn : k = n := by omega
      subst hkn
      have hall : l.take k = l := List.take_of_length_le (by rw [HL.out]; exact Nat.le_refl _)
      have Hall := Lib.hid hall
      clear hall
      go_wp2_with fail
      go_ret
      exact ⟨by rw [← Hall.out]; simp [Hall.out], hb⟩
end Go.Proofs.Ytccgnekcbdkilaa

/- Contracts: checksums of words; the words of a record. Own work. -/
namespace Go.Proofs.Ytccgnekcbdkilaa
open Go.RowKit
set_option linter.unusedVariables false
set_option linter.unusedSimpArgs false
set_option maxRecDepth 100000
theorem sl_of_at {φ : Fz} {w : World} {a : Option Addr} {n c : Nat} {xs : List (BitVec 64)} (hm : Mem φ [] w) (h : SlAt tU64 φ a n c xs) : Sl w (.slice a n c) (xs.map u64V) := by
  obtain ⟨h1, h2, h3, h4⟩ := h
  refine ⟨by simp, ?_⟩
  rw [List.length_map]
  rcases h4 with h4 | ⟨b, o, rfl, h4⟩
  · exact .inl ⟨a, c, by rw [h4], by omega⟩
  · by_cases h0 : n = 0
    · exact .inl ⟨_, c, by rw [h0], by omega⟩
    · have key : ∀ i u, (xs.map u64V)[i]? = some u → w.cell? ⟨b, o + i, none⟩ = some u := fun i u hu => by
        rw [List.getElem?_map] at hu
        obtain ⟨x, hx, rfl⟩ := Option.map_eq_some_iff.1 hu
        obtain ⟨v, h5, h6, _⟩ := h4 i x hx 0 (Is (.int .u64 (UV x))) rfl
        have h7 := hm.base _ _ _ h5
        have h8 : i * tU64.size = i := Nat.mul_one i
        rw [h8] at h7
        rw [show v = _ from h6] at h7
        exact h7
      refine .inr ⟨b, o, c, by rw [h1], by omega, h3, ?_, key⟩
      obtain ⟨x, hx⟩ : ∃ x, xs[0]? = some x := ⟨xs[0]'(by omega), List.getElem?_eq_getElem (by omega)⟩
      exact cell_lt (key 0 (u64V x) (by rw [List.getElem?_map, hx]; rfl))
/-- The checksum of words. -/
def crcW (l : List (BitVec 64)) : BitVec 64 := extB 0#64 (wordBytes l)
theorem CrcWords_ok (l : List (BitVec 64)) (hn : l.length ≤ 65536) : FnP Try.prog 45 [IsSl tU64 l] (Is (.int .u64 (UV (crcW l)))) :=
  FnP.of_calls fun φ w vs hv hm => by
    match vs, hv with
    | [v], ⟨⟨a, n, cp, e, h⟩, _⟩ => subst e; exact Words_any _ l w (sl_of_at hm h) hn
theorem CrcWordsR_ok (l : List (BitVec 64)) (hn : l.length ≤ 65536) : FnP Try.prog 46 [IsSl tU64 l] (Is (.int .u64 (UV (crcW l)))) :=
  FnP.of_calls fun φ w vs hv hm => by
    match vs, hv with
    | [v], ⟨⟨a, n, cp, e, h⟩, _⟩ => subst e; exact WordsR_any _ l w (sl_of_at hm h) hn
/-- The data of a page, the words of a write, the words ahead of the checksum, the body. -/
@[reducible] def Pg.data (p : Pg) : List (BitVec 64) := [p.d0, p.d1, p.d2, p.d3, p.d4, p.d5, p.d6]
def pgW (p : Pg) : List (BitVec 64) := [BitVec.ofInt 64 p.l, p.h] ++ p.data
def bodyP (seq : Int) (ms : List Pg) (k : Nat) : List (BitVec 64) := [BitVec.ofInt 64 seq, BitVec.ofInt 64 ms.length] ++ (ms.take k).flatMap pgW
theorem bodyP_len (seq : Int) (ms : List Pg) (k : Nat) (h : k ≤ ms.length) : (bodyP seq ms k).length = 2 + 9 * k := by
  have : ∀ l : List Pg, (l.flatMap pgW).length = 9 * l.length := fun l => by
    induction l with
    | nil => rfl
    | cons p l ih => rw [List.flatMap_cons, List.length_append, ih]; simp [pgW]; omega
  unfold bodyP
  rw [List.length_append, this, List.length_take, Nat.min_eq_left h]; rfl
theorem bodyP_succ {seq : Int} {ms : List Pg} {k : Nat} {p : Pg} (h : ms[k]? = some p) : bodyP seq ms (k + 1) = bodyP seq ms k ++ [BitVec.ofInt 64 p.l, p.h] ++ p.data := by
  unfold bodyP
  rw [List.take_add_one, h]
  simp [pgW]
noncomputable def bodyW (seq : Int) (ms : List Pg) : List (BitVec 64) := if validR seq ms 256 = 0 then bodyP seq ms ms.length ++ [crcW (bodyP seq ms ms.length)] else []
set_option maxHeartbeats 2000000 in
-- logrec.Body: function 17
theorem Body_ok (seq : Int) (ms : List Pg) : FnP Try.prog 17 [IsRec seq ms] (IsSl tU64 (bodyW seq ms)) := by
  refine FnP.enter Try.func17 Try.ntmps17 rfl rfl ?_
  intro c hX
  refine JC_lenV (t := 0) 1 rfl rfl (fun hlen => ?_)
  refine JC_seq ?_
  refine JC_region ?_
  (refine JL_n rfl (op_box (Ev.rfl' rfl) cellsT) ?_; intro i1)
  refine JL_1 rfl (op_assign rfl) ?_
  refine JL_nil ?_
  refine JQ_then (JC_seq (JC_seq ?_))
  refine JC_region ?_
  refine JL_1 rfl (by first | exact op_loadRefsN (n := 2) (Ev.rfl' rfl) rfl rfl rfl (by rfl) nrmT | exact op_loadPtrsN (n := 2) (Ev.rfl' rfl) memT (by rfl) (by rfl) (by rfl) (by rfl) nrmT) ?_
  refine JL_1 rfl (op_call Try.call12 (ValidL_ok _ _ _) ⟨evS, ⟨evS, trivial⟩⟩) ?_
  refine JL_1 rfl (op_neq (Ev.rfl' rfl) (Ev.rfl' rfl)) ?_
  refine JL_nil ?_
  refine JQ_then ?_
  refine JC_cond (Ev.rfl' rfl) (fun h1 => ?_) (fun h1 => ?_)
  · have g : ¬ validR seq ms 256 = 0 := by simpa using h1
    refine JC_seq ?_
    refine JC_region ?_
    refine JL_1 rfl (op_assign rfl) ?_
    refine JL_nil ?_
    refine JQ_then (JC_ret (JQ_then_ret ?_))
    exact JQ_ret1 Try.results17 rfl () (by rw [bodyW, if_neg g]; exact SubL.nil) (List.nil_sublist _)
  have g : validR seq ms 256 = 0 := by simpa using h1
  have hl : 1 ≤ ms.length ∧ ms.length ≤ 12 := ⟨(validR_ok g).2.1.2.2.1, (validR_ok g).2.1.2.2.2⟩
  clear h1
  refine JC_skip (JQ_then (JC_seq ?_))
  refine JC_region ?_
  refine JL_1 rfl (by first | exact op_fieldPtr (k := 0) (Ev.rfl' rfl) rfl rfl rfl rfl | exact op_fieldRefN (k := 0) (Ev.rfl' rfl) rfl rfl rfl rfl nrmT) ?_
  refine JL_1 rfl (by first | exact op_loadRef (Ev.rfl' rfl) rfl rfl rfl | exact op_loadPtr (Ev.rfl' rfl) memT (by rfl) (by rfl) (by rfl)) ?_
  refine JL_1 rfl (op_conv (Ev.rfl' rfl) rfl rfl convT) ?_
  refine JL_1 rfl (by first | exact op_fieldPtr (k := 1) (Ev.rfl' rfl) rfl rfl rfl rfl | exact op_fieldRefN (k := 1) (Ev.rfl' rfl) rfl rfl rfl rfl nrmT) ?_
  refine JL_1 rfl (by first | exact op_loadRef (Ev.rfl' rfl) rfl rfl rfl | exact op_loadPtr (Ev.rfl' rfl) memT (by rfl) (by rfl) (by rfl)) ?_
  refine JL_1 rfl (by first | exact op_len (Ev.rfl' rfl) rfl | exact op_lenLit (Ev.rfl' rfl) rfl) ?_
  refine JL_1 rfl (op_conv (Ev.rfl' rfl) rfl rfl convT) ?_
  (refine JL_n rfl (op_buildSliceO (T := tU64) ([BitVec.ofInt 64 seq, BitVec.ofInt 64 ms.length]) (size := 1) (qs := [(0, _), (1, _)]) rfl rfl rfl ⟨⟨rfl, _, (Ev.rfl' rfl), cellsT⟩, ⟨⟨rfl, _, (Ev.rfl' rfl), cellsT⟩, trivial⟩⟩ (by rfl) (by rfl) subzT) ?_; intro i16)
  refine JL_1 rfl (op_assign rfl) ?_
  refine JL_nil ?_
  refine JQ_then (JC_seq (JC_seq ?_))
  refine JC_region ?_
  refine JL_1 rfl (by first | exact op_fieldPtr (k := 1) (Ev.rfl' rfl) rfl rfl rfl rfl | exact op_fieldRefN (k := 1) (Ev.rfl' rfl) rfl rfl rfl rfl nrmT) ?_
  refine JL_1 rfl (by first | exact op_loadRef (Ev.rfl' rfl) rfl rfl rfl | exact op_loadPtr (Ev.rfl' rfl) memT (by rfl) (by rfl) (by rfl)) ?_
  refine JL_1 rfl (by first | exact op_len (Ev.rfl' rfl) rfl | exact op_lenLit (Ev.rfl' rfl) rfl) ?_
  refine JL_1 rfl (op_move rfl) ?_
  refine JL_nil ?_
  refine JQ_then (JC_block ?_)
  refine JC_loopP (fun i : Nat × (Option Addr × Nat) => i.1 ≤ ms.length) (fun i => [(18, IsSl tPg ms), (19, Is (.int .i64 ms.length)), (20, Is (.int .i64 (i.1 : Nat))), (3, Is (slV (bodyP seq ms i.1).length i.2))]) (fun i => [buf (slV (bodyP seq ms i.1).length i.2) 28 tU64 (bodyP seq ms i.1)]) (fun i => ms.length - i.1) (0, (some ⟨i16, 0, none⟩, 2)) (Nat.zero_le _) esubT lessT ?_
  rintro ⟨k, i3⟩ hk
  dsimp only at hk ⊢
  refine JC_seq ?_
  refine JC_region ?_
  refine JL_1 rfl (op_lss (Ev.rfl' rfl) (Ev.rfl' rfl)) ?_
  refine JL_nil ?_
  refine JQ_then (JC_seq ?_)
  refine JC_cond (Ev.rfl' rfl) (fun h5 => ?_) (fun h5 => ?_)
  · have h' : (k : Int) < ms.length := of_decide_eq_true h5
    have hz := Pg.at_get ms k (by omega)
    have hkl := bodyP_len seq ms k hk
    have hsu := bodyP_succ (seq := seq) hz
    generalize Pg.at ms k = p at *
    clear h5
    refine JC_skip (JQ_then (JC_seq (JC_block (JC_seq ?_))))
    refine JC_region ?_
    refine JL_1 rfl (by first | exact op_index (j := _) (Ev.rfl' rfl) (Ev.rfl' rfl) rfl rfl (by first | rfl | omega) hz | exact op_index (j := _) (Ev.rfl' rfl) (Ev.rfl' rfl) rfl rfl (by first | rfl | omega) (by assumption)) ?_
    refine JL_1 rfl (by first | exact op_loadRefsN (n := 9) (Ev.rfl' rfl) rfl rfl rfl (by rfl) nrmT | exact op_loadPtrsN (n := 9) (Ev.rfl' rfl) memT (by rfl) (by rfl) (by rfl) (by rfl) nrmT) ?_
    (refine JL_n rfl (op_allocN rfl nrmT rfl) ?_; intro i5)
    refine JL_s0 (op_storeN (Ev.rfl' rfl) (Ev.rfl' rfl) cellsT replT nrmT (by rfl) (by rfl) (by rfl)) ?_
    refine JL_nil ?_
    refine JQ_then (JC_seq ?_)
    refine JC_freezeB hX (b := i5) replT ?_
    refine JC_set 5 (IsRef (tPg.cells p)) rfl (SubL.fact memT) ?_
    refine JC_region ?_
    refine JL_1 rfl (op_move rfl) ?_
    refine JL_1 rfl (by first | exact op_fieldPtr (k := 0) (Ev.rfl' rfl) rfl rfl rfl rfl | exact op_fieldRefN (k := 0) (Ev.rfl' rfl) rfl rfl rfl rfl nrmT) ?_
    refine JL_1 rfl (by first | exact op_loadRef (Ev.rfl' rfl) rfl rfl rfl | exact op_loadPtr (Ev.rfl' rfl) memT (by rfl) (by rfl) (by rfl)) ?_
    refine JL_1 rfl (op_conv (Ev.rfl' rfl) rfl rfl convT) ?_
    refine JL_1 rfl (by first | exact op_fieldPtr (k := 1) (Ev.rfl' rfl) rfl rfl rfl rfl | exact op_fieldRefN (k := 1) (Ev.rfl' rfl) rfl rfl rfl rfl nrmT) ?_
    refine JL_1 rfl (by first | exact op_loadRef (Ev.rfl' rfl) rfl rfl rfl | exact op_loadPtr (Ev.rfl' rfl) memT (by rfl) (by rfl) (by rfl)) ?_
    refine JL_1 rfl (op_buildSlice (size := 1) (qs := [(0, _), (1, _)]) rfl rfl rfl ⟨⟨rfl, _, (Ev.rfl' rfl), cellsT⟩, ⟨⟨rfl, _, (Ev.rfl' rfl), cellsT⟩, trivial⟩⟩ (by rfl) (by rfl)) ?_
    (refine JL_s rfl (op_app (Ev.rfl' rfl) (fun _ => replT) (by first | exact Ev.rfl' rfl | exact Ev.sub rfl (by first | exact SubL.row (xs := [BitVec.ofInt 64 p.l, p.h]) (by rfl) (by rfl) subsT | exact subT)) (by exact appT rfl rfl rfl) lenT) ?_; intro i31)
    refine JL_1 rfl (op_assign rfl) ?_
    refine JL_nil ?_
    refine JQ_then ?_
    refine JC_region ?_
    refine JL_1 rfl (op_move rfl) ?_
    refine JL_1 rfl (by first | exact op_fieldPtr (k := 2) (Ev.rfl' rfl) rfl rfl rfl rfl | exact op_fieldRefN (k := 2) (Ev.rfl' rfl) rfl rfl rfl rfl nrmT) ?_
    refine JL_1 rfl (op_sliceRef (T := tU64) (p.data) (Ev.rfl' rfl) rfl rfl (by rfl) (by rfl) subzT) ?_
    (refine JL_s rfl (op_app (Ev.rfl' rfl) (fun _ => replT) evS (by exact appT rfl rfl rfl) lenT) ?_; intro i35)
    refine JL_1 rfl (op_assign rfl) ?_
    refine JL_nil ?_
    refine JQ_block (JQ_then ?_)
    refine JC_region ?_
    refine JL_1 rfl (op_add (Ev.rfl' rfl) (Ev.rfl' rfl) wrapT) ?_
    refine JL_1 rfl (op_move rfl) ?_
    refine JL_nil ?_
    rw [← hsu]
    exact JQ_roundP (k + 1, i35) (by dsimp only; omega) (by dsimp only; omega) esubT lessT
  have hkl : k = ms.length := by have := of_decide_eq_false h5; omega
  subst hkl
  have hkl2 := bodyP_len seq ms ms.length (Nat.le_refl _)
  clear h5
  refine JC_exit (JQ_then_exit (JQ_then_exit (JQ_hit (JQ_then (JC_seq ?_)))))
  refine JC_region ?_
  refine JL_1 rfl (op_move rfl) ?_
  refine JL_1 rfl (op_move rfl) ?_
  refine JL_1 rfl (by first | ((refine op_call Try.call45 (CrcWords_ok _ ?_) ⟨evS, trivial⟩); all_goals (first | omega)) | ((refine op_callB lendT Try.call45 (CrcWords_ok _ ?_) ⟨evS, trivial⟩ pureT); all_goals (first | omega))) ?_
  refine JL_1 rfl (op_buildSlice (size := 1) (qs := [(0, _)]) rfl rfl rfl ⟨⟨rfl, _, (Ev.rfl' rfl), cellsT⟩, trivial⟩ (by rfl) (by rfl)) ?_
  (refine JL_s rfl (op_app (Ev.rfl' rfl) (fun _ => replT) (by first | exact Ev.rfl' rfl | exact Ev.sub rfl (by first | exact SubL.row (xs := [crcW (bodyP seq ms ms.length)]) (by rfl) (by rfl) subsT | exact subT)) (by exact appT rfl rfl rfl) lenT) ?_; intro i41)
  refine JL_1 rfl (op_assign rfl) ?_
  refine JL_nil ?_
  refine JQ_then (JC_ret ?_)
  refine JQ_freeze hX replT ?_
  exact JQ_ret1 Try.results17 rfl () (by rw [bodyW, if_pos g]; exact SubL.fact memT) (List.nil_sublist _)
end Go.Proofs.Ytccgnekcbdkilaa

/- Contract: the reference's body. Own work. -/
namespace Go.Proofs.Ytccgnekcbdkilaa
open Go.RowKit
set_option linter.unusedVariables false
set_option linter.unusedSimpArgs false
set_option maxRecDepth 100000
theorem take_add1 {α : Type} {xs : List α} {k : Nat} {x : α} (h : xs[k]? = some x) : xs.take (k + 1) = xs.take k ++ [x] := by
  rw [List.take_add_one, h]; rfl
set_option maxHeartbeats 2000000 in
-- bodegaref4.Body: function 19
theorem BodyR_ok (seq : Int) (ms : List Pg) : FnP Try.prog 19 [IsRec seq ms] (IsSl tU64 (bodyW seq ms)) := by
  refine FnP.enter Try.func19 Try.ntmps19 rfl rfl ?_
  intro c hX
  refine JC_lenV (t := 0) 1 rfl rfl (fun hlen => ?_)
  refine JC_seq ?_
  refine JC_region ?_
  (refine JL_n rfl (op_box (Ev.rfl' rfl) cellsT) ?_; intro i1)
  refine JL_1 rfl (op_assign rfl) ?_
  refine JL_nil ?_
  refine JQ_then (JC_seq (JC_seq ?_))
  refine JC_region ?_
  refine JL_1 rfl (by first | exact op_loadRefsN (n := 2) (Ev.rfl' rfl) rfl rfl rfl (by rfl) nrmT | exact op_loadPtrsN (n := 2) (Ev.rfl' rfl) memT (by rfl) (by rfl) (by rfl) (by rfl) nrmT) ?_
  refine JL_1 rfl (op_call Try.call14 (ValidLR_ok _ _ _) ⟨evS, ⟨evS, trivial⟩⟩) ?_
  refine JL_1 rfl (op_neq (Ev.rfl' rfl) (Ev.rfl' rfl)) ?_
  refine JL_nil ?_
  refine JQ_then ?_
  refine JC_cond (Ev.rfl' rfl) (fun h1 => ?_) (fun h1 => ?_)
  · have g : ¬ validR seq ms 256 = 0 := by simpa using h1
    refine JC_seq ?_
    refine JC_region ?_
    refine JL_1 rfl (op_assign rfl) ?_
    refine JL_nil ?_
    refine JQ_then (JC_ret (JQ_then_ret ?_))
    exact JQ_ret1 Try.results19 rfl () (by rw [bodyW, if_neg g]; exact SubL.nil) (List.nil_sublist _)
  have g : validR seq ms 256 = 0 := by simpa using h1
  have hl : 1 ≤ ms.length ∧ ms.length ≤ 12 := ⟨(validR_ok g).2.1.2.2.1, (validR_ok g).2.1.2.2.2⟩
  clear h1
  refine JC_skip (JQ_then (JC_seq ?_))
  refine JC_region ?_
  refine JL_1 rfl (by first | exact op_fieldPtr (k := 0) (Ev.rfl' rfl) rfl rfl rfl rfl | exact op_fieldRefN (k := 0) (Ev.rfl' rfl) rfl rfl rfl rfl nrmT) ?_
  refine JL_1 rfl (by first | exact op_loadRef (Ev.rfl' rfl) rfl rfl rfl | exact op_loadPtr (Ev.rfl' rfl) memT (by rfl) (by rfl) (by rfl)) ?_
  refine JL_1 rfl (op_conv (Ev.rfl' rfl) rfl rfl convT) ?_
  refine JL_1 rfl (by first | exact op_fieldPtr (k := 1) (Ev.rfl' rfl) rfl rfl rfl rfl | exact op_fieldRefN (k := 1) (Ev.rfl' rfl) rfl rfl rfl rfl nrmT) ?_
  refine JL_1 rfl (by first | exact op_loadRef (Ev.rfl' rfl) rfl rfl rfl | exact op_loadPtr (Ev.rfl' rfl) memT (by rfl) (by rfl) (by rfl)) ?_
  refine JL_1 rfl (by first | exact op_len (Ev.rfl' rfl) rfl | exact op_lenLit (Ev.rfl' rfl) rfl) ?_
  refine JL_1 rfl (op_conv (Ev.rfl' rfl) rfl rfl convT) ?_
  (refine JL_n rfl (op_buildSliceO (T := tU64) ([BitVec.ofInt 64 seq, BitVec.ofInt 64 ms.length]) (size := 1) (qs := [(0, _), (1, _)]) rfl rfl rfl ⟨⟨rfl, _, (Ev.rfl' rfl), cellsT⟩, ⟨⟨rfl, _, (Ev.rfl' rfl), cellsT⟩, trivial⟩⟩ (by rfl) (by rfl) subzT) ?_; intro i16)
  refine JL_1 rfl (op_assign rfl) ?_
  refine JL_nil ?_
  refine JQ_then (JC_seq (JC_seq ?_))
  refine JC_region ?_
  refine JL_1 rfl (op_assign rfl) ?_
  refine JL_nil ?_
  refine JQ_then (JC_block ?_)
  refine JC_loopP (fun i : Nat × (Option Addr × Nat) => i.1 ≤ ms.length) (fun i => [(1, Is (.pointer (some ⟨i1, 0, none⟩))), (4, Is (.int .i64 (i.1 : Nat))), (3, Is (slV (bodyP seq ms i.1).length i.2))]) (fun i => [buf (slV (bodyP seq ms i.1).length i.2) 28 tU64 (bodyP seq ms i.1), blk i1 25 [Is (.int .i64 seq), IsSl tPg ms]]) (fun i => ms.length - i.1) (0, (some ⟨i16, 0, none⟩, 2)) (Nat.zero_le _) esubT lessT ?_
  rintro ⟨k, i3⟩ hk
  dsimp only at hk ⊢
  refine JC_seq (JC_seq ?_)
  refine JC_region ?_
  refine JL_1 rfl (op_move rfl) ?_
  refine JL_1 rfl (by first | exact op_fieldPtr (k := 1) (Ev.rfl' rfl) rfl rfl rfl rfl | exact op_fieldRefN (k := 1) (Ev.rfl' rfl) rfl rfl rfl rfl nrmT) ?_
  refine JL_1 rfl (by first | exact op_loadRef (Ev.rfl' rfl) rfl rfl rfl | exact op_loadPtr (Ev.rfl' rfl) memT (by rfl) (by rfl) (by rfl)) ?_
  refine JL_1 rfl (by first | exact op_len (Ev.rfl' rfl) rfl | exact op_lenLit (Ev.rfl' rfl) rfl) ?_
  refine JL_1 rfl (op_lss (Ev.rfl' rfl) (Ev.rfl' rfl)) ?_
  refine JL_nil ?_
  refine JQ_then ?_
  refine JC_cond (Ev.rfl' rfl) (fun h5 => ?_) (fun h5 => ?_)
  · have h' : (k : Int) < ms.length := of_decide_eq_true h5
    have hz := Pg.at_get ms k (by omega)
    have hkl := bodyP_len seq ms k hk
    have hsu := bodyP_succ (seq := seq) hz
    generalize Pg.at ms k = p at *
    clear h5
    refine JC_skip (JQ_then (JC_seq (JC_block (JC_seq ?_))))
    refine JC_dr rfl (by kernel_rfl) ?_
    refine JD_stretch 15 (by kernel_rfl) ?_
    refine JW_1 (op_move rfl) ?_
    refine JW_1 (by first | exact op_fieldPtr (k := 1) (Ev.rfl' rfl) rfl rfl rfl rfl | exact op_fieldRefN (k := 1) (Ev.rfl' rfl) rfl rfl rfl rfl nrmT) ?_
    refine JW_1 (by first | exact op_loadRef (Ev.rfl' rfl) rfl rfl rfl | exact op_loadPtr (Ev.rfl' rfl) memT (by rfl) (by rfl) (by rfl)) ?_
    refine JW_1 (op_move rfl) ?_
    refine JW_1 (by first | exact op_index (j := _) (Ev.rfl' rfl) (Ev.rfl' rfl) rfl rfl (by first | rfl | omega) hz | exact op_index (j := _) (Ev.rfl' rfl) (Ev.rfl' rfl) rfl rfl (by first | rfl | omega) hd | exact op_index (j := _) (Ev.rfl' rfl) (Ev.rfl' rfl) rfl rfl (by first | rfl | omega) (by assumption)) ?_
    refine JW_1 (by first | exact op_fieldPtr (k := 0) (Ev.rfl' rfl) rfl rfl rfl rfl | exact op_fieldRefN (k := 0) (Ev.rfl' rfl) rfl rfl rfl rfl nrmT) ?_
    refine JW_1 (by first | exact op_loadRef (Ev.rfl' rfl) rfl rfl rfl | exact op_loadPtr (Ev.rfl' rfl) memT (by rfl) (by rfl) (by rfl)) ?_
    refine JW_1 (op_conv (Ev.rfl' rfl) rfl rfl convT) ?_
    refine JW_1 (by first | exact op_fieldPtr (k := 1) (Ev.rfl' rfl) rfl rfl rfl rfl | exact op_fieldRefN (k := 1) (Ev.rfl' rfl) rfl rfl rfl rfl nrmT) ?_
    refine JW_1 (by first | exact op_loadRef (Ev.rfl' rfl) rfl rfl rfl | exact op_loadPtr (Ev.rfl' rfl) memT (by rfl) (by rfl) (by rfl)) ?_
    refine JW_1 (op_move rfl) ?_
    refine JW_1 (by first | exact op_index (j := _) (Ev.rfl' rfl) (Ev.rfl' rfl) rfl rfl (by first | rfl | omega) hz | exact op_index (j := _) (Ev.rfl' rfl) (Ev.rfl' rfl) rfl rfl (by first | rfl | omega) hd | exact op_index (j := _) (Ev.rfl' rfl) (Ev.rfl' rfl) rfl rfl (by first | rfl | omega) (by assumption)) ?_
    refine JW_1 (by first | exact op_fieldPtr (k := 1) (Ev.rfl' rfl) rfl rfl rfl rfl | exact op_fieldRefN (k := 1) (Ev.rfl' rfl) rfl rfl rfl rfl nrmT) ?_
    refine JW_1 (by first | exact op_loadRef (Ev.rfl' rfl) rfl rfl rfl | exact op_loadPtr (Ev.rfl' rfl) memT (by rfl) (by rfl) (by rfl)) ?_
    refine JW_1 (op_buildSlice (size := 1) (qs := [(0, _), (1, _)]) rfl rfl rfl ⟨⟨rfl, _, (Ev.rfl' rfl), cellsT⟩, ⟨⟨rfl, _, (Ev.rfl' rfl), cellsT⟩, trivial⟩⟩ (by rfl) (by rfl)) ?_
    refine ⟨rfl, ?_⟩
    (refine JD_s (by kernel_rfl) rfl rfl (op_app (Ev.rfl' rfl) (fun _ => replT) (by first | exact Ev.rfl' rfl | exact Ev.sub rfl (by first | exact SubL.row (xs := [BitVec.ofInt 64 p.l, p.h]) (by rfl) (by rfl) subsT | exact subT)) (by exact appT rfl rfl rfl) lenT) ?_; intro i39)
    refine JD_1 (by kernel_rfl) rfl rfl (op_assign rfl) ?_
    refine JD_end ?_
    refine JQ_then (JC_seq ?_)
    refine JC_region ?_
    refine JL_1 rfl (op_assign rfl) ?_
    refine JL_nil ?_
    refine JQ_then (JC_block ?_)
    refine JC_loopP (fun i : Nat × (Option Addr × Nat) => i.1 ≤ 7) (fun i => [(1, Is (.pointer (some ⟨i1, 0, none⟩))), (4, Is (.int .i64 (k : Nat))), (5, Is (.int .i64 (i.1 : Nat))), (3, Is (slV (bodyP seq ms k ++ [BitVec.ofInt 64 p.l, p.h] ++ p.data.take i.1).length i.2))]) (fun i => [buf (slV (bodyP seq ms k ++ [BitVec.ofInt 64 p.l, p.h] ++ p.data.take i.1).length i.2) 28 tU64 (bodyP seq ms k ++ [BitVec.ofInt 64 p.l, p.h] ++ p.data.take i.1), blk i1 25 [Is (.int .i64 seq), IsSl tPg ms]]) (fun i => 7 - i.1) (0, i39) (Nat.zero_le _) (by simp only [List.take_zero, List.append_nil]; exact esubT) (by simp only [List.take_zero, List.append_nil]; exact lessT) ?_
    rintro ⟨j, i4⟩ hj
    dsimp only at hj ⊢
    refine JC_seq (JC_seq ?_)
    refine JC_region ?_
    refine JL_1 rfl (op_move rfl) ?_
    refine JL_1 rfl (op_lss (Ev.rfl' rfl) (Ev.rfl' rfl)) ?_
    refine JL_nil ?_
    refine JQ_then ?_
    refine JC_cond (Ev.rfl' rfl) (fun h9 => ?_) (fun h9 => ?_)
    · have hj' : (j : Int) < 7 := of_decide_eq_true h9
      obtain ⟨x, hd⟩ : ∃ x, p.data[j]? = some x := ⟨p.data[j]'(by simp; omega), List.getElem?_eq_getElem _⟩
      have hts := take_add1 hd
      clear h9
      refine JC_skip (JQ_then (JC_seq (JC_block ?_)))
      refine JC_region ?_
      refine JL_1 rfl (op_move rfl) ?_
      refine JL_1 rfl (by first | exact op_fieldPtr (k := 1) (Ev.rfl' rfl) rfl rfl rfl rfl | exact op_fieldRefN (k := 1) (Ev.rfl' rfl) rfl rfl rfl rfl nrmT) ?_
      refine JL_1 rfl (by first | exact op_loadRef (Ev.rfl' rfl) rfl rfl rfl | exact op_loadPtr (Ev.rfl' rfl) memT (by rfl) (by rfl) (by rfl)) ?_
      refine JL_1 rfl (op_move rfl) ?_
      refine JL_1 rfl (op_move rfl) ?_
      refine JL_1 rfl (by first | exact op_index (j := _) (Ev.rfl' rfl) (Ev.rfl' rfl) rfl rfl (by first | rfl | omega) hz | exact op_index (j := _) (Ev.rfl' rfl) (Ev.rfl' rfl) rfl rfl (by first | rfl | omega) hd | exact op_index (j := _) (Ev.rfl' rfl) (Ev.rfl' rfl) rfl rfl (by first | rfl | omega) (by assumption)) ?_
      refine JL_1 rfl (by first | exact op_fieldPtr (k := 2) (Ev.rfl' rfl) rfl rfl rfl rfl | exact op_fieldRefN (k := 2) (Ev.rfl' rfl) rfl rfl rfl rfl nrmT) ?_
      refine JL_1 rfl (by first | exact op_indexRef (j := _) (T := tU64) (p.data) (Ev.rfl' rfl) (Ev.rfl' rfl) rfl rfl (by rfl) subsT (by first | rfl | omega) hz | exact op_indexRef (j := _) (T := tU64) (p.data) (Ev.rfl' rfl) (Ev.rfl' rfl) rfl rfl (by rfl) subsT (by first | rfl | omega) hd | exact op_indexRef (j := _) (T := tU64) (p.data) (Ev.rfl' rfl) (Ev.rfl' rfl) rfl rfl (by rfl) subsT (by first | rfl | omega) (by assumption)) ?_
      refine JL_1 rfl (by first | exact op_loadRef (Ev.rfl' rfl) rfl rfl rfl | exact op_loadPtr (Ev.rfl' rfl) memT (by rfl) (by rfl) (by rfl)) ?_
      refine JL_1 rfl (op_buildSlice (size := 1) (qs := [(0, _)]) rfl rfl rfl ⟨⟨rfl, _, (Ev.rfl' rfl), cellsT⟩, trivial⟩ (by rfl) (by rfl)) ?_
      (refine JL_s rfl (op_app (Ev.rfl' rfl) (fun _ => replT) (by first | exact Ev.rfl' rfl | exact Ev.sub rfl (by first | exact SubL.row (xs := [x]) (by rfl) (by rfl) subsT | exact subT)) (by exact appT rfl rfl rfl) lenT) ?_; intro i54)
      refine JL_1 rfl (op_assign rfl) ?_
      refine JL_nil ?_
      refine JQ_block (JQ_then ?_)
      refine JC_region ?_
      refine JL_1 rfl (op_move rfl) ?_
      refine JL_1 rfl (op_add (Ev.rfl' rfl) (Ev.rfl' rfl) wrapT) ?_
      refine JL_1 rfl (op_assign rfl) ?_
      refine JL_nil ?_
      rw [List.append_assoc (bodyP seq ms k ++ [BitVec.ofInt 64 p.l, p.h]), ← hts]
      exact JQ_roundP (j + 1, i54) (by dsimp only; omega) (by dsimp only; omega) esubT lessT
    have hj7 : j = 7 := by have := of_decide_eq_false h9; omega
    subst hj7
    have hts : p.data.take 7 = p.data := rfl
    clear h9
    refine JC_exit (JQ_then_exit (JQ_then_exit (JQ_hit (JQ_block (JQ_then ?_)))))
    refine JC_region ?_
    refine JL_1 rfl (op_move rfl) ?_
    refine JL_1 rfl (op_add (Ev.rfl' rfl) (Ev.rfl' rfl) wrapT) ?_
    refine JL_1 rfl (op_assign rfl) ?_
    refine JL_nil ?_
    rw [hts, ← hsu]
    exact JQ_roundP (k + 1, i4) (by dsimp only; omega) (by dsimp only; omega) esubT lessT
  have hkl : k = ms.length := by have := of_decide_eq_false h5; omega
  subst hkl
  have hkl2 := bodyP_len seq ms ms.length (Nat.le_refl _)
  clear h5
  refine JC_exit (JQ_then_exit (JQ_then_exit (JQ_hit (JQ_then (JC_seq ?_)))))
  refine JC_region ?_
  refine JL_1 rfl (op_move rfl) ?_
  refine JL_1 rfl (op_move rfl) ?_
  refine JL_1 rfl (by first | ((refine op_call Try.call46 (CrcWordsR_ok _ ?_) ⟨evS, trivial⟩); all_goals (first | omega)) | ((refine op_callB lendT Try.call46 (CrcWordsR_ok _ ?_) ⟨evS, trivial⟩ pureT); all_goals (first | omega))) ?_
  refine JL_1 rfl (op_buildSlice (size := 1) (qs := [(0, _)]) rfl rfl rfl ⟨⟨rfl, _, (Ev.rfl' rfl), cellsT⟩, trivial⟩ (by rfl) (by rfl)) ?_
  (refine JL_s rfl (op_app (Ev.rfl' rfl) (fun _ => replT) (by first | exact Ev.rfl' rfl | exact Ev.sub rfl (by first | exact SubL.row (xs := [crcW (bodyP seq ms ms.length)]) (by rfl) (by rfl) subsT | exact subT)) (by exact appT rfl rfl rfl) lenT) ?_; intro i59)
  refine JL_1 rfl (op_assign rfl) ?_
  refine JL_nil ?_
  refine JQ_then (JC_ret ?_)
  refine JQ_freeze hX replT ?_
  exact JQ_ret1 Try.results19 rfl () (by rw [bodyW, if_pos g]; exact SubL.fact memT) (List.nil_sublist _)
end Go.Proofs.Ytccgnekcbdkilaa

/- Contract: a write read from its words. Own work. -/
namespace Go.Proofs.Ytccgnekcbdkilaa
open Go.RowKit
set_option linter.unusedVariables false
set_option linter.unusedSimpArgs false
set_option maxRecDepth 100000
def capL (w : BitVec 64) : Int := if 256 < UV w then 256 else UV w
theorem capL_in (w : BitVec 64) : -9223372036854775808 ≤ capL w ∧ capL w ≤ 9223372036854775807 := by
  have := UV_nonneg w
  unfold capL
  split <;> omega
def pgL : List (BitVec 64) → Pg
  | [w0, w1, w2, w3, w4, w5, w6, w7, w8] => ⟨capL w0, w1, w2, w3, w4, w5, w6, w7, w8⟩
  | _ => ⟨0, 0#64, 0#64, 0#64, 0#64, 0#64, 0#64, 0#64, 0#64⟩
theorem nine {xs : List (BitVec 64)} (h : xs.length = 9) : ∃ a b c d e f g i j, xs = [a, b, c, d, e, f, g, i, j] := by
  match xs, h with
  | [a, b, c, d, e, f, g, i, j], _ => exact ⟨a, b, c, d, e, f, g, i, j, rfl⟩
set_option maxHeartbeats 1000000 in
-- logrec.page: function 48
theorem page_ok (xs : List (BitVec 64)) (h9 : xs.length = 9) : FnP Try.prog 48 [IsSl tU64 xs] (IsPg (pgL xs)) := by
  obtain ⟨w0, w1, w2, w3, w4, w5, w6, w7, w8, rfl⟩ := nine h9
  have hc := capL_in w0
  unfold capL at hc
  refine FnP.enter Try.func48 Try.ntmps48 rfl rfl ?_
  intro c hX
  refine JC_seq ?_
  refine JC_region ?_
  (refine JL_n rfl (op_allocN rfl nrmT rfl) ?_; intro i2)
  refine JL_nil ?_
  refine JQ_then (JC_seq ?_)
  refine JC_dr rfl (by kernel_rfl) ?_
  refine JD_stretch 11 (by kernel_rfl) ?_
  refine JW_1 (op_move rfl) ?_
  refine JW_1 (by first | exact op_index (j := 0) (Ev.rfl' rfl) (Ev.rfl' rfl) rfl rfl (by first | rfl | omega) rfl | exact op_index (j := 0) (Ev.rfl' rfl) (Ev.rfl' rfl) rfl rfl (by first | rfl | omega) (by assumption)) ?_
  refine JW_1 (by first | exact op_loadRef (Ev.rfl' rfl) rfl rfl rfl | exact op_loadPtr (Ev.rfl' rfl) memT (by rfl) (by rfl) (by rfl)) ?_
  refine JW_1 (op_min (Ev.rfl' rfl) (Ev.rfl' rfl)) ?_
  refine JW_1 (op_conv (Ev.rfl' rfl) rfl rfl convT) ?_
  refine JW_1 (op_move rfl) ?_
  refine JW_1 (by first | exact op_index (j := 1) (Ev.rfl' rfl) (Ev.rfl' rfl) rfl rfl (by first | rfl | omega) rfl | exact op_index (j := 1) (Ev.rfl' rfl) (Ev.rfl' rfl) rfl rfl (by first | rfl | omega) (by assumption)) ?_
  refine JW_1 (by first | exact op_loadRef (Ev.rfl' rfl) rfl rfl rfl | exact op_loadPtr (Ev.rfl' rfl) memT (by rfl) (by rfl) (by rfl)) ?_
  refine JW_1 (op_buildN (qs := [(0, _), (1, _)]) rfl rfl rfl rfl ⟨⟨rfl, _, (Ev.rfl' rfl), cellsT⟩, ⟨⟨rfl, _, (Ev.rfl' rfl), cellsT⟩, trivial⟩⟩ (by rfl) nrmT) ?_
  refine JW_n (op_allocN rfl nrmT rfl) ?_
  refine JW_write rfl rfl rfl (by kernel_rfl) (op_storeWN evS cellsT rfl rfl rfl nrmT) ?_
  refine ⟨rfl, ?_⟩
  intro i3
  refine JD_end ?_
  refine JQ_then (JC_seq ?_)
  refine JC_dr rfl (by kernel_rfl) ?_
  refine JD_stretch 4 (by kernel_rfl) ?_
  refine JW_1 (by first | exact op_fieldPtr (k := 2) (Ev.rfl' rfl) rfl rfl rfl rfl | exact op_fieldRefN (k := 2) (Ev.rfl' rfl) rfl rfl rfl rfl nrmT) ?_
  refine JW_1 (op_sliceOwn (Ev.rfl' rfl) rfl rfl) ?_
  refine JW_1 (op_move rfl) ?_
  refine JW_1 (op_slice (Ev.rfl' rfl) rfl rfl ⟨_, _, (Ev.rfl' rfl), (show _ = ((2 : Nat) : Int) by first | rfl | omega)⟩ rfl (by omega) (by omega)) ?_
  refine ⟨rfl, ?_⟩
  (refine JD_s (by kernel_rfl) rfl rfl (op_copyOwnB (m := 7) (ys := [w2, w3, w4, w5, w6, w7, w8]) (T := tU64) (Bs := [Is (.int .u64 (UV w2)), Is (.int .u64 (UV w3)), Is (.int .u64 (UV w4)), Is (.int .u64 (UV w5)), Is (.int .u64 (UV w6)), Is (.int .u64 (UV w7)), Is (.int .u64 (UV w8))]) (Ev.rfl' rfl) evS rfl rfl idxT (by rfl) replT (by first | exact Nat.le_of_ble_eq_true rfl | (simp; done) | (simp; omega) | omega)) ?_; intro i17)
  refine JD_end ?_
  refine JQ_then (JC_seq ?_)
  refine JC_region ?_
  refine JL_1 rfl (by first | exact op_loadRefsN (n := 9) (Ev.rfl' rfl) rfl rfl rfl (by rfl) nrmT | exact op_loadPtrsN (n := 9) (Ev.rfl' rfl) memT (by rfl) (by rfl) (by rfl) (by rfl) nrmT) ?_
  refine JL_s0 (op_storeN (Ev.rfl' rfl) (Ev.rfl' rfl) cellsT replT nrmT (by rfl) (by rfl) (by rfl)) ?_
  refine JL_nil ?_
  refine JQ_then (JC_ret ?_)
  exact JQ_ret (Bs := [IsPg (pgL [w0, w1, w2, w3, w4, w5, w6, w7, w8])]) Try.results48 ⟨⟨_, _, _, _, rfl, memT, rfl, .inr ⟨rfl, _, rfl, rfl, subT⟩⟩, trivial⟩ () SubL.rfl' (List.nil_sublist _)
end Go.Proofs.Ytccgnekcbdkilaa

/- Contract: the reference's parse. Own work. -/
namespace Go.Proofs.Ytccgnekcbdkilaa
open Go.RowKit
set_option linter.unusedVariables false
set_option linter.unusedSimpArgs false
set_option maxRecDepth 100000
def wd (b : List (BitVec 64)) (k : Nat) : BitVec 64 := b.getD k 0#64
theorem wd_get {b : List (BitVec 64)} {k : Nat} (h : k < b.length) : b[k]? = some (wd b k) := by
  unfold wd; rw [List.getD_eq_getElem?_getD, List.getElem?_eq_getElem h]; rfl
/-- The data words of the write at i, the write. -/
@[reducible] def dataAt (b : List (BitVec 64)) (i : Nat) : List (BitVec 64) := [wd b (2 + 9 * i + 2), wd b (2 + 9 * i + 3), wd b (2 + 9 * i + 4), wd b (2 + 9 * i + 5), wd b (2 + 9 * i + 6), wd b (2 + 9 * i + 7), wd b (2 + 9 * i + 8)]
def pgAt (b : List (BitVec 64)) (i : Nat) : Pg := ⟨capL (wd b (2 + 9 * i)), wd b (2 + 9 * i + 1), wd b (2 + 9 * i + 2), wd b (2 + 9 * i + 3), wd b (2 + 9 * i + 4), wd b (2 + 9 * i + 5), wd b (2 + 9 * i + 6), wd b (2 + 9 * i + 7), wd b (2 + 9 * i + 8)⟩
theorem dataAt_get {b : List (BitVec 64)} {i j : Nat} (h : j < 7) : (dataAt b i)[j]? = some (wd b (2 + 9 * i + (2 + j))) := by
  match j, h with
  | 0, _ => rfl
  | 1, _ => rfl
  | 2, _ => rfl
  | 3, _ => rfl
  | 4, _ => rfl
  | 5, _ => rfl
  | 6, _ => rfl
def pagesW (b : List (BitVec 64)) (n : Nat) : List Pg := (List.range n).map (pgAt b)
theorem pagesW_len (b : List (BitVec 64)) (n : Nat) : (pagesW b n).length = n := by simp [pagesW]
theorem pagesW_succ (b : List (BitVec 64)) (n : Nat) : pagesW b (n + 1) = pagesW b n ++ [pgAt b n] := by
  unfold pagesW; rw [List.range_succ, List.map_append]; rfl
def nW (b : List (BitVec 64)) : Nat := (wd b 1).toNat
def preB (b : List (BitVec 64)) : Prop := 3 ≤ b.length ∧ UV (wd b 0) < 1073741824 ∧ 1 ≤ nW b ∧ nW b ≤ 12 ∧ 3 + 9 * nW b ≤ b.length
instance (b : List (BitVec 64)) : Decidable (preB b) := by unfold preB; infer_instance
noncomputable def parseV (b : List (BitVec 64)) (lines : Int) : Int × List Pg × Int :=
  if ¬ (98 ≤ lines ∧ lines ≤ 256) then (0, [], 18) else if ¬ preB b then (0, [], 14)
  else if validR (UV (wd b 0)) (pagesW b (nW b)) lines = 0 ∧ bodyW (UV (wd b 0)) (pagesW b (nW b)) = b.take (3 + 9 * nW b) then (UV (wd b 0), pagesW b (nW b), 0) else (0, [], 14)
section
variable {b : List (BitVec 64)} {lines : Int}
theorem parseV_18 (h : ¬ (98 ≤ lines ∧ lines ≤ 256)) : parseV b lines = (0, [], 18) := by unfold parseV; rw [if_pos h]
theorem parseV_pre (h : 98 ≤ lines ∧ lines ≤ 256) (h1 : ¬ preB b) : parseV b lines = (0, [], 14) := by unfold parseV; rw [if_neg (not_not_intro h), if_pos h1]
theorem parseV_bad (h : 98 ≤ lines ∧ lines ≤ 256) (h1 : preB b) (h2 : ¬ (validR (UV (wd b 0)) (pagesW b (nW b)) lines = 0 ∧ bodyW (UV (wd b 0)) (pagesW b (nW b)) = b.take (3 + 9 * nW b))) : parseV b lines = (0, [], 14) := by
  unfold parseV; rw [if_neg (not_not_intro h), if_neg (not_not_intro h1), if_neg h2]
theorem parseV_ok (h : 98 ≤ lines ∧ lines ≤ 256) (h1 : preB b) (h2 : validR (UV (wd b 0)) (pagesW b (nW b)) lines = 0 ∧ bodyW (UV (wd b 0)) (pagesW b (nW b)) = b.take (3 + 9 * nW b)) : parseV b lines = (UV (wd b 0), pagesW b (nW b), 0) := by
  unfold parseV; rw [if_neg (not_not_intro h), if_neg (not_not_intro h1), if_pos h2]
theorem pagesW_get {n k : Nat} (h : k < n) : (pagesW b n)[k]? = some (pgAt b k) := by
  unfold pagesW; rw [List.getElem?_map, List.getElem?_range h]; rfl
theorem parseV_far (h : 98 ≤ lines ∧ lines ≤ 256) (h1 : preB b) {k : Nat} (hk : k < nW b) (hf : 256 ≤ UV (wd b (2 + 9 * k))) : parseV b lines = (0, [], 14) := by
  refine parseV_bad h h1 fun ⟨h2, _⟩ => ?_
  obtain ⟨_, _, h3, _⟩ := validR_ok h2
  rw [any_of (pagesW_get hk)] at h3
  · cases h3
  · unfold outB
    have : (pgAt b k).l = 256 := by
      show capL _ = 256
      unfold capL; split <;> omega
    rw [this]; simp; omega
end
@[reducible] def IsParse (v : Int × List Pg × Int) : VP := IsTup [IsRec v.1 v.2.1, Is (.int .i64 v.2.2)]
/-- A page of which some data have been written. -/
def pgPart (l : Int) (h : BitVec 64) (ds : List (BitVec 64)) : List VP := Is (.int .i64 l) :: Is (.int .u64 (UV h)) :: (ds.map (fun x => Is (.int .u64 (UV x))) ++ List.replicate (7 - ds.length) (Is (.int .u64 0)))
theorem pgPart_len {l : Int} {h : BitVec 64} {ds : List (BitVec 64)} (hd : ds.length ≤ 7) : (pgPart l h ds).length = 9 := by
  simp [pgPart]; omega
theorem pgPart_set {l : Int} {h x : BitVec 64} {ds : List (BitVec 64)} {j : Nat} (hj : ds.length = j) (h7 : j < 7) : ovr (pgPart l h ds) (0 + 2 + j * 1) [Is (.int .u64 (UV x))] = pgPart l h (ds ++ [x]) := by
  subst hj
  unfold pgPart
  rw [show 0 + 2 + ds.length * 1 = ds.length + 1 + 1 by omega]
  simp only [ovr, List.set_cons_succ, List.map_append, List.length_append, List.length_singleton, List.map_cons, List.map_nil]
  rw [List.set_append_right _ _ (by simp), show 7 - ds.length = (7 - (ds.length + 1)) + 1 by omega, List.replicate_succ]
  simp
set_option maxHeartbeats 4000000 in
-- bodegaref4.Parse: function 21
theorem ParseR_ok (b : List (BitVec 64)) (lines : Int) : FnP Try.prog 21 [IsSl tU64 b, Is (.int .i64 lines)] (IsParse (parseV b lines)) := by
  have hz := Lib.hid (show ∀ k : Nat, k < b.length → b[k]? = some (wd b k) from fun k h => wd_get h)
  have hn : (nW b : Int) = UV (wd b 1) := rfl
  have q0 := UV_nonneg (wd b 0)
  refine FnP.enter Try.func21 Try.ntmps21 rfl rfl ?_
  intro c hX
  refine JC_len (t := 0) rfl (fun hlen => ?_)
  refine JC_seq ?_
  refine JC_region ?_
  (refine JL_n rfl (op_allocN rfl nrmT rfl) ?_; intro i4)
  refine JL_1 rfl (op_assign rfl) ?_
  refine JL_nil ?_
  refine JQ_then (JC_seq (JC_seq ?_))
  refine JC_region ?_
  refine JL_1 rfl (op_move rfl) ?_
  refine JL_1 rfl (op_lss (Ev.rfl' rfl) (Ev.rfl' rfl)) ?_
  refine JL_1 rfl (op_move rfl) ?_
  (first | refine JL_i0 rfl rfl rfl (fun hg => (by have hg0 := hg; (try simp at hg); first | exact op_moveE (Ev.sub rfl (SubL.iteT (by first | assumption | (simp; done) | (simp; omega) | (simp_all; done)) SubL.rfl')) | exact op_moveE (Ev.rfl' rfl))) ?_ | refine JL_i rfl rfl rfl (fun hp hg => (by have hpg := Bool.and_eq_true_iff.2 ⟨hp, hg⟩; have hg0 := hg; (try simp at hg); first | exact op_moveE (Ev.sub rfl (SubL.iteT (by first | assumption | (simp; done) | (simp; omega) | (simp_all; done)) SubL.rfl')) | exact op_moveE (Ev.rfl' rfl))) ?_)
  (first | refine JL_i0 rfl rfl rfl (fun hg => (by have hg0 := hg; (try simp at hg); exact op_gtr evG evG)) ?_ | refine JL_i rfl rfl rfl (fun hp hg => (by have hpg := Bool.and_eq_true_iff.2 ⟨hp, hg⟩; have hg0 := hg; (try simp at hg); exact op_gtr evG evG)) ?_)
  refine JL_1 rfl (op_or (Ev.rfl' rfl) rfl (fun h => by first | exact SubL.rfl' | exact SubL.iteT (by first | (rw [h]; rfl) | (simp_all; done)) SubL.rfl')) ?_
  refine JL_nil ?_
  refine JQ_then ?_
  refine JC_cond (Ev.rfl' rfl) (fun h1 => ?_) (fun h1 => ?_)
  · have g1 : ¬ (98 ≤ lines ∧ lines ≤ 256) := by simp at h1; omega
    refine JC_seq ?_
    refine JC_region ?_
    refine JL_1 rfl (op_buildN (qs := []) rfl rfl rfl rfl trivial (by rfl) nrmT) ?_
    refine JL_s0 (op_storeN (Ev.rfl' rfl) (Ev.rfl' rfl) cellsT replT nrmT (by rfl) (by rfl) (by rfl)) ?_
    refine JL_1 rfl (op_assign rfl) ?_
    refine JL_nil ?_
    refine JQ_then (JC_ret (JQ_then_ret ?_))
    exact JQ_ret (Bs := [IsRec 0 [], Is (.int .i64 18)]) Try.results21 ⟨⟨_, _, _, _, rfl, memT, rfl, .inr ⟨rfl, _, rfl, rfl, subT⟩⟩, ⟨⟨_, rfl, subT⟩, trivial⟩⟩ () (SubL.eq (by rw [parseV_18 g1]; rfl)) (List.nil_sublist _)
  have g1 : 98 ≤ lines ∧ lines ≤ 256 := by simp at h1; omega
  clear h1
  refine JC_skip (JQ_then (JC_seq (JC_seq ?_)))
  refine JC_region ?_
  refine JL_1 rfl (op_move rfl) ?_
  refine JL_1 rfl (by first | exact op_len (Ev.rfl' rfl) rfl | exact op_lenLit (Ev.rfl' rfl) rfl) ?_
  refine JL_1 rfl (op_lss (Ev.rfl' rfl) (Ev.rfl' rfl)) ?_
  refine JL_1 rfl (op_move rfl) ?_
  (first | refine JL_i0 rfl rfl rfl (fun hg => (by have hg0 := hg; (try simp at hg); first | exact op_moveE (Ev.sub rfl (SubL.iteT (by first | assumption | (simp; done) | (simp; omega) | (simp_all; done)) SubL.rfl')) | exact op_moveE (Ev.rfl' rfl))) ?_ | refine JL_i rfl rfl rfl (fun hp hg => (by have hpg := Bool.and_eq_true_iff.2 ⟨hp, hg⟩; have hg0 := hg; (try simp at hg); first | exact op_moveE (Ev.sub rfl (SubL.iteT (by first | assumption | (simp; done) | (simp; omega) | (simp_all; done)) SubL.rfl')) | exact op_moveE (Ev.rfl' rfl))) ?_)
  (first | refine JL_i0 rfl rfl rfl (fun hg => (by have hg0 := hg; (try simp at hg); first | exact op_index (j := 0) evG evG rfl rfl (by first | rfl | omega) (hz.out _ (by omega)) | exact op_index (j := 0) evG evG rfl rfl (by first | rfl | omega) hx0 | exact op_index (j := 0) evG evG rfl rfl (by first | rfl | omega) (hx.out _ (by omega)) | exact op_index (j := 0) evG evG rfl rfl (by first | rfl | omega) (by assumption))) ?_ | refine JL_i rfl rfl rfl (fun hp hg => (by have hpg := Bool.and_eq_true_iff.2 ⟨hp, hg⟩; have hg0 := hg; (try simp at hg); first | exact op_index (j := 0) evG evG rfl rfl (by first | rfl | omega) (hz.out _ (by omega)) | exact op_index (j := 0) evG evG rfl rfl (by first | rfl | omega) hx0 | exact op_index (j := 0) evG evG rfl rfl (by first | rfl | omega) (hx.out _ (by omega)) | exact op_index (j := 0) evG evG rfl rfl (by first | rfl | omega) (by assumption))) ?_)
  (first | refine JL_i0 rfl rfl rfl (fun hg => (by have hg0 := hg; (try simp at hg); first | exact op_loadRef evG rfl rfl rfl | exact op_loadPtr evG memT (by rfl) (by rfl) (by rfl))) ?_ | refine JL_i rfl rfl rfl (fun hp hg => (by have hpg := Bool.and_eq_true_iff.2 ⟨hp, hg⟩; have hg0 := hg; (try simp at hg); first | exact op_loadRef evG rfl rfl rfl | exact op_loadPtr evG memT (by rfl) (by rfl) (by rfl))) ?_)
  (first | refine JL_i0 rfl rfl rfl (fun hg => (by have hg0 := hg; (try simp at hg); exact op_geq evG evG)) ?_ | refine JL_i rfl rfl rfl (fun hp hg => (by have hpg := Bool.and_eq_true_iff.2 ⟨hp, hg⟩; have hg0 := hg; (try simp at hg); exact op_geq evG evG)) ?_)
  refine JL_1 rfl (op_or (Ev.rfl' rfl) rfl (fun h => by first | exact SubL.rfl' | exact SubL.iteT (by first | (rw [h]; rfl) | (simp_all; done)) SubL.rfl')) ?_
  refine JL_1 rfl (op_move rfl) ?_
  (first | refine JL_i0 rfl rfl rfl (fun hg => (by have hg0 := hg; (try simp at hg); first | exact op_moveE (Ev.sub rfl (SubL.iteT (by first | assumption | (simp; done) | (simp; omega) | (simp_all; done)) SubL.rfl')) | exact op_moveE (Ev.rfl' rfl))) ?_ | refine JL_i rfl rfl rfl (fun hp hg => (by have hpg := Bool.and_eq_true_iff.2 ⟨hp, hg⟩; have hg0 := hg; (try simp at hg); first | exact op_moveE (Ev.sub rfl (SubL.iteT (by first | assumption | (simp; done) | (simp; omega) | (simp_all; done)) SubL.rfl')) | exact op_moveE (Ev.rfl' rfl))) ?_)
  (first | refine JL_i0 rfl rfl rfl (fun hg => (by have hg0 := hg; (try simp at hg); first | exact op_index (j := 1) evG evG rfl rfl (by first | rfl | omega) (hz.out _ (by omega)) | exact op_index (j := 1) evG evG rfl rfl (by first | rfl | omega) hx0 | exact op_index (j := 1) evG evG rfl rfl (by first | rfl | omega) (hx.out _ (by omega)) | exact op_index (j := 1) evG evG rfl rfl (by first | rfl | omega) (by assumption))) ?_ | refine JL_i rfl rfl rfl (fun hp hg => (by have hpg := Bool.and_eq_true_iff.2 ⟨hp, hg⟩; have hg0 := hg; (try simp at hg); first | exact op_index (j := 1) evG evG rfl rfl (by first | rfl | omega) (hz.out _ (by omega)) | exact op_index (j := 1) evG evG rfl rfl (by first | rfl | omega) hx0 | exact op_index (j := 1) evG evG rfl rfl (by first | rfl | omega) (hx.out _ (by omega)) | exact op_index (j := 1) evG evG rfl rfl (by first | rfl | omega) (by assumption))) ?_)
  (first | refine JL_i0 rfl rfl rfl (fun hg => (by have hg0 := hg; (try simp at hg); first | exact op_loadRef evG rfl rfl rfl | exact op_loadPtr evG memT (by rfl) (by rfl) (by rfl))) ?_ | refine JL_i rfl rfl rfl (fun hp hg => (by have hpg := Bool.and_eq_true_iff.2 ⟨hp, hg⟩; have hg0 := hg; (try simp at hg); first | exact op_loadRef evG rfl rfl rfl | exact op_loadPtr evG memT (by rfl) (by rfl) (by rfl))) ?_)
  (first | refine JL_i0 rfl rfl rfl (fun hg => (by have hg0 := hg; (try simp at hg); exact op_lss evG evG)) ?_ | refine JL_i rfl rfl rfl (fun hp hg => (by have hpg := Bool.and_eq_true_iff.2 ⟨hp, hg⟩; have hg0 := hg; (try simp at hg); exact op_lss evG evG)) ?_)
  refine JL_1 rfl (op_or (Ev.rfl' rfl) rfl (fun h => by first | exact SubL.rfl' | exact SubL.iteT (by first | (rw [h]; rfl) | (simp_all; done)) SubL.rfl')) ?_
  refine JL_1 rfl (op_move rfl) ?_
  (first | refine JL_i0 rfl rfl rfl (fun hg => (by have hg0 := hg; (try simp at hg); first | exact op_moveE (Ev.sub rfl (SubL.iteT (by first | assumption | (simp; done) | (simp; omega) | (simp_all; done)) SubL.rfl')) | exact op_moveE (Ev.rfl' rfl))) ?_ | refine JL_i rfl rfl rfl (fun hp hg => (by have hpg := Bool.and_eq_true_iff.2 ⟨hp, hg⟩; have hg0 := hg; (try simp at hg); first | exact op_moveE (Ev.sub rfl (SubL.iteT (by first | assumption | (simp; done) | (simp; omega) | (simp_all; done)) SubL.rfl')) | exact op_moveE (Ev.rfl' rfl))) ?_)
  (first | refine JL_i0 rfl rfl rfl (fun hg => (by have hg0 := hg; (try simp at hg); first | exact op_index (j := 1) evG evG rfl rfl (by first | rfl | omega) (hz.out _ (by omega)) | exact op_index (j := 1) evG evG rfl rfl (by first | rfl | omega) hx0 | exact op_index (j := 1) evG evG rfl rfl (by first | rfl | omega) (hx.out _ (by omega)) | exact op_index (j := 1) evG evG rfl rfl (by first | rfl | omega) (by assumption))) ?_ | refine JL_i rfl rfl rfl (fun hp hg => (by have hpg := Bool.and_eq_true_iff.2 ⟨hp, hg⟩; have hg0 := hg; (try simp at hg); first | exact op_index (j := 1) evG evG rfl rfl (by first | rfl | omega) (hz.out _ (by omega)) | exact op_index (j := 1) evG evG rfl rfl (by first | rfl | omega) hx0 | exact op_index (j := 1) evG evG rfl rfl (by first | rfl | omega) (hx.out _ (by omega)) | exact op_index (j := 1) evG evG rfl rfl (by first | rfl | omega) (by assumption))) ?_)
  (first | refine JL_i0 rfl rfl rfl (fun hg => (by have hg0 := hg; (try simp at hg); first | exact op_loadRef evG rfl rfl rfl | exact op_loadPtr evG memT (by rfl) (by rfl) (by rfl))) ?_ | refine JL_i rfl rfl rfl (fun hp hg => (by have hpg := Bool.and_eq_true_iff.2 ⟨hp, hg⟩; have hg0 := hg; (try simp at hg); first | exact op_loadRef evG rfl rfl rfl | exact op_loadPtr evG memT (by rfl) (by rfl) (by rfl))) ?_)
  (first | refine JL_i0 rfl rfl rfl (fun hg => (by have hg0 := hg; (try simp at hg); exact op_gtr evG evG)) ?_ | refine JL_i rfl rfl rfl (fun hp hg => (by have hpg := Bool.and_eq_true_iff.2 ⟨hp, hg⟩; have hg0 := hg; (try simp at hg); exact op_gtr evG evG)) ?_)
  refine JL_1 rfl (op_or (Ev.rfl' rfl) rfl (fun h => by first | exact SubL.rfl' | exact SubL.iteT (by first | (rw [h]; rfl) | (simp_all; done)) SubL.rfl')) ?_
  refine JL_1 rfl (op_move rfl) ?_
  (first | refine JL_i0 rfl rfl rfl (fun hg => (by have hg0 := hg; (try simp at hg); first | exact op_moveE (Ev.sub rfl (SubL.iteT (by first | assumption | (simp; done) | (simp; omega) | (simp_all; done)) SubL.rfl')) | exact op_moveE (Ev.rfl' rfl))) ?_ | refine JL_i rfl rfl rfl (fun hp hg => (by have hpg := Bool.and_eq_true_iff.2 ⟨hp, hg⟩; have hg0 := hg; (try simp at hg); first | exact op_moveE (Ev.sub rfl (SubL.iteT (by first | assumption | (simp; done) | (simp; omega) | (simp_all; done)) SubL.rfl')) | exact op_moveE (Ev.rfl' rfl))) ?_)
  (first | refine JL_i0 rfl rfl rfl (fun hg => (by have hg0 := hg; (try simp at hg); first | exact op_len evG rfl | exact op_lenLit evG rfl)) ?_ | refine JL_i rfl rfl rfl (fun hp hg => (by have hpg := Bool.and_eq_true_iff.2 ⟨hp, hg⟩; have hg0 := hg; (try simp at hg); first | exact op_len evG rfl | exact op_lenLit evG rfl)) ?_)
  (first | refine JL_i0 rfl rfl rfl (fun hg => (by have hg0 := hg; (try simp at hg); first | exact op_moveE (Ev.sub rfl (SubL.iteT (by first | assumption | (simp; done) | (simp; omega) | (simp_all; done)) SubL.rfl')) | exact op_moveE (Ev.rfl' rfl))) ?_ | refine JL_i rfl rfl rfl (fun hp hg => (by have hpg := Bool.and_eq_true_iff.2 ⟨hp, hg⟩; have hg0 := hg; (try simp at hg); first | exact op_moveE (Ev.sub rfl (SubL.iteT (by first | assumption | (simp; done) | (simp; omega) | (simp_all; done)) SubL.rfl')) | exact op_moveE (Ev.rfl' rfl))) ?_)
  (first | refine JL_i0 rfl rfl rfl (fun hg => (by have hg0 := hg; (try simp at hg); first | exact op_index (j := 1) evG evG rfl rfl (by first | rfl | omega) (hz.out _ (by omega)) | exact op_index (j := 1) evG evG rfl rfl (by first | rfl | omega) hx0 | exact op_index (j := 1) evG evG rfl rfl (by first | rfl | omega) (hx.out _ (by omega)) | exact op_index (j := 1) evG evG rfl rfl (by first | rfl | omega) (by assumption))) ?_ | refine JL_i rfl rfl rfl (fun hp hg => (by have hpg := Bool.and_eq_true_iff.2 ⟨hp, hg⟩; have hg0 := hg; (try simp at hg); first | exact op_index (j := 1) evG evG rfl rfl (by first | rfl | omega) (hz.out _ (by omega)) | exact op_index (j := 1) evG evG rfl rfl (by first | rfl | omega) hx0 | exact op_index (j := 1) evG evG rfl rfl (by first | rfl | omega) (hx.out _ (by omega)) | exact op_index (j := 1) evG evG rfl rfl (by first | rfl | omega) (by assumption))) ?_)
  (first | refine JL_i0 rfl rfl rfl (fun hg => (by have hg0 := hg; (try simp at hg); first | exact op_loadRef evG rfl rfl rfl | exact op_loadPtr evG memT (by rfl) (by rfl) (by rfl))) ?_ | refine JL_i rfl rfl rfl (fun hp hg => (by have hpg := Bool.and_eq_true_iff.2 ⟨hp, hg⟩; have hg0 := hg; (try simp at hg); first | exact op_loadRef evG rfl rfl rfl | exact op_loadPtr evG memT (by rfl) (by rfl) (by rfl))) ?_)
  (first | refine JL_i0 rfl rfl rfl (fun hg => (by have hg0 := hg; (try simp at hg); exact op_conv evG rfl rfl convT)) ?_ | refine JL_i rfl rfl rfl (fun hp hg => (by have hpg := Bool.and_eq_true_iff.2 ⟨hp, hg⟩; have hg0 := hg; (try simp at hg); exact op_conv evG rfl rfl convT)) ?_)
  (first | refine JL_i0 rfl rfl rfl (fun hg => (by have hg0 := hg; (try simp at hg); exact op_mul evG evG wrapT)) ?_ | refine JL_i rfl rfl rfl (fun hp hg => (by have hpg := Bool.and_eq_true_iff.2 ⟨hp, hg⟩; have hg0 := hg; (try simp at hg); exact op_mul evG evG wrapT)) ?_)
  (first | refine JL_i0 rfl rfl rfl (fun hg => (by have hg0 := hg; (try simp at hg); exact op_add evG evG wrapT)) ?_ | refine JL_i rfl rfl rfl (fun hp hg => (by have hpg := Bool.and_eq_true_iff.2 ⟨hp, hg⟩; have hg0 := hg; (try simp at hg); exact op_add evG evG wrapT)) ?_)
  (first | refine JL_i0 rfl rfl rfl (fun hg => (by have hg0 := hg; (try simp at hg); exact op_lss evG evG)) ?_ | refine JL_i rfl rfl rfl (fun hp hg => (by have hpg := Bool.and_eq_true_iff.2 ⟨hp, hg⟩; have hg0 := hg; (try simp at hg); exact op_lss evG evG)) ?_)
  refine JL_1 rfl (op_or (Ev.rfl' rfl) rfl (fun h => by first | exact SubL.rfl' | exact SubL.iteT (by first | (rw [h]; rfl) | (simp_all; done)) SubL.rfl')) ?_
  refine JL_nil ?_
  refine JQ_then ?_
  refine JC_cond (Ev.rfl' rfl) (fun h3 => ?_) (fun h3 => ?_)
  · have g2 : ¬ preB b := by unfold preB; simp at h3; omega
    refine JC_seq ?_
    refine JC_region ?_
    refine JL_1 rfl (op_buildN (qs := []) rfl rfl rfl rfl trivial (by rfl) nrmT) ?_
    refine JL_s0 (op_storeN (Ev.rfl' rfl) (Ev.rfl' rfl) cellsT replT nrmT (by rfl) (by rfl) (by rfl)) ?_
    refine JL_1 rfl (op_assign rfl) ?_
    refine JL_nil ?_
    refine JQ_then (JC_ret (JQ_then_ret ?_))
    exact JQ_ret (Bs := [IsRec 0 [], Is (.int .i64 14)]) Try.results21 ⟨⟨_, _, _, _, rfl, memT, rfl, .inr ⟨rfl, _, rfl, rfl, subT⟩⟩, ⟨⟨_, rfl, subT⟩, trivial⟩⟩ () (SubL.eq (by rw [parseV_pre g1 g2]; rfl)) (List.nil_sublist _)
  have g2 : preB b := by unfold preB; simp at h3; omega
  obtain ⟨p1, p2, p3, p4, p5⟩ := id g2
  clear h3
  refine JC_skip (JQ_then (JC_seq ?_))
  refine JC_region ?_
  refine JL_1 rfl (op_move rfl) ?_
  refine JL_1 rfl (by first | exact op_index (j := 0) (Ev.rfl' rfl) (Ev.rfl' rfl) rfl rfl (by first | rfl | omega) (hz.out _ (by omega)) | exact op_index (j := 0) (Ev.rfl' rfl) (Ev.rfl' rfl) rfl rfl (by first | rfl | omega) hx0 | exact op_index (j := 0) (Ev.rfl' rfl) (Ev.rfl' rfl) rfl rfl (by first | rfl | omega) (hx.out _ (by omega)) | exact op_index (j := 0) (Ev.rfl' rfl) (Ev.rfl' rfl) rfl rfl (by first | rfl | omega) (by assumption)) ?_
  refine JL_1 rfl (by first | exact op_loadRef (Ev.rfl' rfl) rfl rfl rfl | exact op_loadPtr (Ev.rfl' rfl) memT (by rfl) (by rfl) (by rfl)) ?_
  refine JL_1 rfl (op_conv (Ev.rfl' rfl) rfl rfl convT) ?_
  refine JL_1 rfl (op_buildN (qs := [(0, _)]) rfl rfl rfl rfl ⟨⟨rfl, _, (Ev.rfl' rfl), cellsT⟩, trivial⟩ (by rfl) nrmT) ?_
  (refine JL_n rfl (op_allocN rfl nrmT rfl) ?_; intro i6)
  refine JL_s0 (op_storeN (Ev.rfl' rfl) (Ev.rfl' rfl) cellsT replT nrmT (by rfl) (by rfl) (by rfl)) ?_
  refine JL_nil ?_
  refine JQ_then (JC_seq (JC_seq ?_))
  refine JC_buf0 31 tPg ?_
  refine JC_region ?_
  refine JL_1 rfl (op_assign rfl) ?_
  refine JL_nil ?_
  refine JQ_then (JC_block ?_)
  refine JC_loopP (fun i : Nat × (Option Addr × Nat) => i.1 ≤ nW b) (fun i => [(0, IsSl tU64 b), (1, Is (.int .i64 lines)), (4, Is (.pointer (some ⟨i4, 0, none⟩))), (6, Is (.pointer (some ⟨i6, 0, none⟩))), (7, Is (.int .i64 (i.1 : Nat)))]) (fun i => [blk i4 25 [Is (.int .i64 0), Is (.slice none 0 0)], blk i6 25 [Is (.int .i64 (UV (wd b 0))), Is (slV (pagesW b i.1).length i.2)], buf (slV (pagesW b i.1).length i.2) 31 tPg (pagesW b i.1)]) (fun i => nW b - i.1) (0, (none, 0)) (Nat.zero_le _) esubT lessT ?_
  rintro ⟨k, s⟩ hk
  dsimp only at hk ⊢
  have hpl := pagesW_len b k
  refine JC_seq (JC_seq ?_)
  refine JC_region ?_
  refine JL_1 rfl (op_move rfl) ?_
  refine JL_1 rfl (op_move rfl) ?_
  refine JL_1 rfl (by first | exact op_index (j := 1) (Ev.rfl' rfl) (Ev.rfl' rfl) rfl rfl (by first | rfl | omega) (hz.out _ (by omega)) | exact op_index (j := 1) (Ev.rfl' rfl) (Ev.rfl' rfl) rfl rfl (by first | rfl | omega) hx0 | exact op_index (j := 1) (Ev.rfl' rfl) (Ev.rfl' rfl) rfl rfl (by first | rfl | omega) (hx.out _ (by omega)) | exact op_index (j := 1) (Ev.rfl' rfl) (Ev.rfl' rfl) rfl rfl (by first | rfl | omega) (by assumption)) ?_
  refine JL_1 rfl (by first | exact op_loadRef (Ev.rfl' rfl) rfl rfl rfl | exact op_loadPtr (Ev.rfl' rfl) memT (by rfl) (by rfl) (by rfl)) ?_
  refine JL_1 rfl (op_conv (Ev.rfl' rfl) rfl rfl convT) ?_
  refine JL_1 rfl (op_lss (Ev.rfl' rfl) (Ev.rfl' rfl)) ?_
  refine JL_nil ?_
  refine JQ_then ?_
  refine JC_cond (Ev.rfl' rfl) (fun h7 => ?_) (fun h7 => ?_)
  · have h' : k < nW b := by have := of_decide_eq_true h7; omega
    clear h7
    have hx := Lib.hid (show ∀ j : Nat, j < 9 → ((b.take b.length).drop (2 + 9 * k))[j]? = some (wd b (2 + 9 * k + j)) from fun j hj => by
      rw [List.take_length, List.getElem?_drop]; exact hz.out _ (by omega))
    have hx0 : ((b.take b.length).drop (2 + 9 * k))[0]? = some (wd b (2 + 9 * k)) := hx.out 0 (by omega)
    refine JC_skip (JQ_then (JC_seq (JC_block (JC_seq ?_))))
    refine JC_region ?_
    refine JL_1 rfl (op_move rfl) ?_
    refine JL_1 rfl (op_move rfl) ?_
    refine JL_1 rfl (op_mul (Ev.rfl' rfl) (Ev.rfl' rfl) wrapT) ?_
    refine JL_1 rfl (op_add (Ev.rfl' rfl) (Ev.rfl' rfl) wrapT) ?_
    refine JL_1 rfl (op_slice (Ev.rfl' rfl) rfl rfl ⟨_, _, (Ev.rfl' rfl), (show _ = ((2 + 9 * k : Nat) : Int) by first | rfl | omega)⟩ rfl (by omega) (by omega)) ?_
    refine JL_1 rfl (op_assign rfl) ?_
    refine JL_nil ?_
    refine JQ_then (JC_seq (JC_seq ?_))
    refine JC_region ?_
    refine JL_1 rfl (op_move rfl) ?_
    refine JL_1 rfl (by first | exact op_index (j := 0) (Ev.rfl' rfl) (Ev.rfl' rfl) rfl rfl (by first | rfl | omega) (hz.out _ (by omega)) | exact op_index (j := 0) (Ev.rfl' rfl) (Ev.rfl' rfl) rfl rfl (by first | rfl | omega) hx0 | exact op_index (j := 0) (Ev.rfl' rfl) (Ev.rfl' rfl) rfl rfl (by first | rfl | omega) (hx.out _ (by omega)) | exact op_index (j := 0) (Ev.rfl' rfl) (Ev.rfl' rfl) rfl rfl (by first | rfl | omega) (by assumption)) ?_
    refine JL_1 rfl (by first | exact op_loadRef (Ev.rfl' rfl) rfl rfl rfl | exact op_loadPtr (Ev.rfl' rfl) memT (by rfl) (by rfl) (by rfl)) ?_
    refine JL_1 rfl (op_geq (Ev.rfl' rfl) (Ev.rfl' rfl)) ?_
    refine JL_nil ?_
    refine JQ_then ?_
    refine JC_cond (Ev.rfl' rfl) (fun h10 => ?_) (fun h10 => ?_)
    · have h10' : 256 ≤ UV (wd b (2 + 9 * k)) := by simpa using h10
      refine JC_seq ?_
      refine JC_region ?_
      refine JL_1 rfl (op_buildN (qs := []) rfl rfl rfl rfl trivial (by rfl) nrmT) ?_
      refine JL_s0 (op_storeN (Ev.rfl' rfl) (Ev.rfl' rfl) cellsT replT nrmT (by rfl) (by rfl) (by rfl)) ?_
      refine JL_1 rfl (op_assign rfl) ?_
      refine JL_nil ?_
      refine JQ_then (JC_ret (JQ_then_ret (JQ_block_ret (JQ_then_ret (JQ_then_ret (JQ_block_ret (JQ_then_ret ?_)))))))
      exact JQ_ret (Bs := [IsRec 0 [], Is (.int .i64 14)]) Try.results21 ⟨⟨_, _, _, _, rfl, memT, rfl, .inr ⟨rfl, _, rfl, rfl, subT⟩⟩, ⟨⟨_, rfl, subT⟩, trivial⟩⟩ () (SubL.eq (by rw [parseV_far g1 g2 h' h10']; rfl)) (List.nil_sublist _)
    have h10' : UV (wd b (2 + 9 * k)) < 256 := by simpa using h10
    have hp0 := UV_nonneg (wd b (2 + 9 * k))
    clear h10
    refine JC_skip (JQ_then (JC_seq ?_))
    refine JC_dr rfl (by kernel_rfl) ?_
    refine JD_stretch 10 (by kernel_rfl) ?_
    refine JW_1 (op_move rfl) ?_
    refine JW_1 (by first | exact op_index (j := 0) (Ev.rfl' rfl) (Ev.rfl' rfl) rfl rfl (by first | rfl | omega) (hz.out _ (by omega)) | exact op_index (j := 0) (Ev.rfl' rfl) (Ev.rfl' rfl) rfl rfl (by first | rfl | omega) hx0 | exact op_index (j := 0) (Ev.rfl' rfl) (Ev.rfl' rfl) rfl rfl (by first | rfl | omega) (hx.out _ (by omega)) | exact op_index (j := 0) (Ev.rfl' rfl) (Ev.rfl' rfl) rfl rfl (by first | rfl | omega) (by assumption)) ?_
    refine JW_1 (by first | exact op_loadRef (Ev.rfl' rfl) rfl rfl rfl | exact op_loadPtr (Ev.rfl' rfl) memT (by rfl) (by rfl) (by rfl)) ?_
    refine JW_1 (op_conv (Ev.rfl' rfl) rfl rfl convT) ?_
    refine JW_1 (op_move rfl) ?_
    refine JW_1 (by first | exact op_index (j := 1) (Ev.rfl' rfl) (Ev.rfl' rfl) rfl rfl (by first | rfl | omega) (hz.out _ (by omega)) | exact op_index (j := 1) (Ev.rfl' rfl) (Ev.rfl' rfl) rfl rfl (by first | rfl | omega) hx0 | exact op_index (j := 1) (Ev.rfl' rfl) (Ev.rfl' rfl) rfl rfl (by first | rfl | omega) (hx.out _ (by omega)) | exact op_index (j := 1) (Ev.rfl' rfl) (Ev.rfl' rfl) rfl rfl (by first | rfl | omega) (by assumption)) ?_
    refine JW_1 (by first | exact op_loadRef (Ev.rfl' rfl) rfl rfl rfl | exact op_loadPtr (Ev.rfl' rfl) memT (by rfl) (by rfl) (by rfl)) ?_
    refine JW_1 (op_buildN (qs := [(0, _), (1, _)]) rfl rfl rfl rfl ⟨⟨rfl, _, (Ev.rfl' rfl), cellsT⟩, ⟨⟨rfl, _, (Ev.rfl' rfl), cellsT⟩, trivial⟩⟩ (by rfl) nrmT) ?_
    refine JW_n (op_allocN rfl nrmT rfl) ?_
    refine JW_write rfl rfl rfl (by kernel_rfl) (op_storeWN evS cellsT rfl rfl rfl nrmT) ?_
    refine ⟨rfl, ?_⟩
    intro i9
    refine JD_end ?_
    refine JQ_then (JC_seq (JC_seq ?_))
    refine JC_region ?_
    refine JL_1 rfl (op_assign rfl) ?_
    refine JL_nil ?_
    refine JQ_then (JC_block ?_)
    refine JC_loopP (fun j : Nat => j ≤ 7) (fun j => [(0, IsSl tU64 b), (1, Is (.int .i64 lines)), (4, Is (.pointer (some ⟨i4, 0, none⟩))), (6, Is (.pointer (some ⟨i6, 0, none⟩))), (7, Is (.int .i64 (k : Nat))), (8, IsSl tU64 ((b.take b.length).drop (2 + 9 * k))), (9, Is (.pointer (some ⟨i9, 0, none⟩))), (10, Is (.int .i64 (j : Nat)))]) (fun j => [blk i9 31 (pgPart (UV (wd b (2 + 9 * k))) (wd b (2 + 9 * k + 1)) ((dataAt b k).take j)), blk i4 25 [Is (.int .i64 0), Is (.slice none 0 0)], blk i6 25 [Is (.int .i64 (UV (wd b 0))), Is (slV (pagesW b k).length s)], buf (slV (pagesW b k).length s) 31 tPg (pagesW b k)]) (fun j => 7 - j) 0 (Nat.zero_le _) esubT lessT ?_
    rintro j hj
    refine JC_seq (JC_seq ?_)
    refine JC_region ?_
    refine JL_1 rfl (op_move rfl) ?_
    refine JL_1 rfl (op_lss (Ev.rfl' rfl) (Ev.rfl' rfl)) ?_
    refine JL_nil ?_
    refine JQ_then ?_
    refine JC_cond (Ev.rfl' rfl) (fun h14 => ?_) (fun h14 => ?_)
    · have hj' : j < 7 := by have := of_decide_eq_true h14; omega
      clear h14
      have hxj := hx.out (2 + j) (by omega)
      have hst := pgPart_set (l := UV (wd b (2 + 9 * k))) (h := wd b (2 + 9 * k + 1)) (x := wd b (2 + 9 * k + (2 + j))) (ds := (dataAt b k).take j) (j := j) (by simp; omega) hj'
      rw [← take_add1 (dataAt_get hj')] at hst
      have hpp := pgPart_len (l := UV (wd b (2 + 9 * k))) (h := wd b (2 + 9 * k + 1)) (ds := (dataAt b k).take j) (by simp; omega)
      refine JC_skip (JQ_then (JC_seq (JC_block ?_)))
      refine JC_region ?_
      refine JL_1 rfl (op_move rfl) ?_
      refine JL_1 rfl (op_move rfl) ?_
      refine JL_1 rfl (op_move rfl) ?_
      refine JL_1 rfl (op_add (Ev.rfl' rfl) (Ev.rfl' rfl) wrapT) ?_
      refine JL_1 rfl (by first | exact op_index (j := _) (Ev.rfl' rfl) (Ev.rfl' rfl) rfl rfl (by first | rfl | omega) hxj | exact op_index (j := _) (Ev.rfl' rfl) (Ev.rfl' rfl) rfl rfl (by first | rfl | omega) (by assumption)) ?_
      refine JL_1 rfl (by first | exact op_loadRef (Ev.rfl' rfl) rfl rfl rfl | exact op_loadPtr (Ev.rfl' rfl) memT (by rfl) (by rfl) (by rfl)) ?_
      refine JL_1 rfl (by first | exact op_fieldPtr (k := 2) (Ev.rfl' rfl) rfl rfl rfl rfl | exact op_fieldRefN (k := 2) (Ev.rfl' rfl) rfl rfl rfl rfl nrmT) ?_
      refine JL_1 rfl (op_indexArr (k := j) (sz := 1) (Ev.rfl' rfl) (Ev.rfl' rfl) rfl rfl idxT (by first | decide | omega)) ?_
      refine JL_s0 (op_storeA (n := 1) (Rs := pgPart (UV (wd b (2 + 9 * k))) (wd b (2 + 9 * k + 1)) ((dataAt b k).take (j + 1))) (Ev.rfl' rfl) (Ev.rfl' rfl) cellsT replT hst (by rfl) (by rfl) (by first | (simp; done) | (simp; omega) | omega)) ?_
      refine JL_nil ?_
      refine JQ_block (JQ_then ?_)
      refine JC_region ?_
      refine JL_1 rfl (op_move rfl) ?_
      refine JL_1 rfl (op_add (Ev.rfl' rfl) (Ev.rfl' rfl) wrapT) ?_
      refine JL_1 rfl (op_assign rfl) ?_
      refine JL_nil ?_
      exact JQ_roundP (j + 1) (by omega) (by omega) esubT lessT
    have hj7 : j = 7 := by have := of_decide_eq_false h14; omega
    subst hj7
    clear h14
    refine JC_exit (JQ_then_exit (JQ_then_exit (JQ_hit (JQ_then ?_))))
    refine JC_blkEq (b := i9) (As' := tPg.cells (pgAt b k)) replT (by
        have : capL (wd b (2 + 9 * k)) = UV (wd b (2 + 9 * k)) := by unfold capL; rw [if_neg (by omega)]
        show _ = Is (.int .i64 (capL (wd b (2 + 9 * k)))) :: _
        rw [this]; rfl) ?_
    refine JC_region ?_
    refine JL_1 rfl (by first | exact op_fieldPtr (k := 1) (Ev.rfl' rfl) rfl rfl rfl rfl | exact op_fieldRefN (k := 1) (Ev.rfl' rfl) rfl rfl rfl rfl nrmT) ?_
    refine JL_1 rfl (by first | exact op_loadRef (Ev.rfl' rfl) rfl rfl rfl | exact op_loadPtr (Ev.rfl' rfl) memT (by rfl) (by rfl) (by rfl)) ?_
    refine JL_1 rfl (by first | exact op_loadRefsN (n := 9) (Ev.rfl' rfl) rfl rfl rfl (by rfl) nrmT | exact op_loadPtrsN (n := 9) (Ev.rfl' rfl) memT (by rfl) (by rfl) (by rfl) (by rfl) nrmT) ?_
    refine JL_1 rfl (op_buildSlice (size := 9) (qs := [(0, _)]) rfl rfl rfl ⟨⟨rfl, _, (Ev.rfl' rfl), cellsT⟩, trivial⟩ (by rfl) (by rfl)) ?_
    (refine JL_s rfl (op_app (Ev.rfl' rfl) (fun _ => replT) (by first | exact Ev.rfl' rfl | exact Ev.sub rfl (by first | exact SubL.row (xs := [pgAt b k]) (by rfl) (by rfl) subsT | exact subT)) (by exact appT rfl rfl rfl) lenT) ?_; intro i98)
    refine JL_1 rfl (by first | exact op_fieldPtr (k := 1) (Ev.rfl' rfl) rfl rfl rfl rfl | exact op_fieldRefN (k := 1) (Ev.rfl' rfl) rfl rfl rfl rfl nrmT) ?_
    refine JL_s0 (op_storeN (Ev.rfl' rfl) (Ev.rfl' rfl) cellsT replT nrmT (by rfl) (by rfl) (by rfl)) ?_
    refine JL_nil ?_
    refine JQ_block (JQ_then ?_)
    refine JC_region ?_
    refine JL_1 rfl (op_move rfl) ?_
    refine JL_1 rfl (op_add (Ev.rfl' rfl) (Ev.rfl' rfl) wrapT) ?_
    refine JL_1 rfl (op_assign rfl) ?_
    refine JL_nil ?_
    rw [← pagesW_succ]
    exact JQ_roundP (k + 1, i98) (by dsimp only; omega) (by dsimp only; omega) esubT lessT
  have hkn : k = nW b := by have := of_decide_eq_false h7; omega
  subst hkn
  clear h7
  refine JC_exit (JQ_then_exit (JQ_then_exit (JQ_hit (JQ_then (JC_seq (JC_seq ?_))))))
  refine JC_freeze hX replT ?_
  refine JC_dr rfl (by kernel_rfl) ?_
  refine JD_stretch 17 (by kernel_rfl) ?_
  refine JW_1 (by first | exact op_loadRefsN (n := 2) (Ev.rfl' rfl) rfl rfl rfl (by rfl) nrmT | exact op_loadPtrsN (n := 2) (Ev.rfl' rfl) memT (by rfl) (by rfl) (by rfl) (by rfl) nrmT) ?_
  refine JW_1 (op_move rfl) ?_
  refine JW_1 (op_call Try.call14 (ValidLR_ok _ _ _) ⟨evS, ⟨evS, trivial⟩⟩) ?_
  refine JW_1 (op_neq (Ev.rfl' rfl) (Ev.rfl' rfl)) ?_
  refine JW_1 (op_move rfl) ?_
  (first | refine JW_i0 rfl rfl (fun hg => (by have hg0 := hg; (try simp at hg); first | exact op_loadRefsN (n := 2) evG rfl rfl rfl (by rfl) nrmT | exact op_loadPtrsN (n := 2) evG memT (by rfl) (by rfl) (by rfl) (by rfl) nrmT)) ?_ | refine JW_i rfl rfl (fun hp hg => (by have hpg := Bool.and_eq_true_iff.2 ⟨hp, hg⟩; have hg0 := hg; (try simp at hg); first | exact op_loadRefsN (n := 2) evG rfl rfl rfl (by rfl) nrmT | exact op_loadPtrsN (n := 2) evG memT (by rfl) (by rfl) (by rfl) (by rfl) nrmT)) ?_)
  (first | refine JW_i0 rfl rfl (fun hg => (by have hg0 := hg; (try simp at hg); exact op_call Try.call19 (BodyR_ok _ _) ⟨evS, trivial⟩)) ?_ | refine JW_i rfl rfl (fun hp hg => (by have hpg := Bool.and_eq_true_iff.2 ⟨hp, hg⟩; have hg0 := hg; (try simp at hg); exact op_call Try.call19 (BodyR_ok _ _) ⟨evS, trivial⟩)) ?_)
  (first | refine JW_i0 rfl rfl (fun hg => (by have hg0 := hg; (try simp at hg); first | exact op_moveE (Ev.sub rfl (SubL.iteT (by first | assumption | (simp; done) | (simp; omega) | (simp_all; done)) SubL.rfl')) | exact op_moveE (Ev.rfl' rfl))) ?_ | refine JW_i rfl rfl (fun hp hg => (by have hpg := Bool.and_eq_true_iff.2 ⟨hp, hg⟩; have hg0 := hg; (try simp at hg); first | exact op_moveE (Ev.sub rfl (SubL.iteT (by first | assumption | (simp; done) | (simp; omega) | (simp_all; done)) SubL.rfl')) | exact op_moveE (Ev.rfl' rfl))) ?_)
  (first | refine JW_i0 rfl rfl (fun hg => (by have hg0 := hg; (try simp at hg); first | exact op_fieldPtr (k := 1) evG rfl rfl rfl rfl | exact op_fieldRefN (k := 1) evG rfl rfl rfl rfl nrmT)) ?_ | refine JW_i rfl rfl (fun hp hg => (by have hpg := Bool.and_eq_true_iff.2 ⟨hp, hg⟩; have hg0 := hg; (try simp at hg); first | exact op_fieldPtr (k := 1) evG rfl rfl rfl rfl | exact op_fieldRefN (k := 1) evG rfl rfl rfl rfl nrmT)) ?_)
  (first | refine JW_i0 rfl rfl (fun hg => (by have hg0 := hg; (try simp at hg); first | exact op_loadRef evG rfl rfl rfl | exact op_loadPtr evG memT (by rfl) (by rfl) (by rfl))) ?_ | refine JW_i rfl rfl (fun hp hg => (by have hpg := Bool.and_eq_true_iff.2 ⟨hp, hg⟩; have hg0 := hg; (try simp at hg); first | exact op_loadRef evG rfl rfl rfl | exact op_loadPtr evG memT (by rfl) (by rfl) (by rfl))) ?_)
  (first | refine JW_i0 rfl rfl (fun hg => (by have hg0 := hg; (try simp at hg); first | exact op_len evG rfl | exact op_lenLit evG rfl)) ?_ | refine JW_i rfl rfl (fun hp hg => (by have hpg := Bool.and_eq_true_iff.2 ⟨hp, hg⟩; have hg0 := hg; (try simp at hg); first | exact op_len evG rfl | exact op_lenLit evG rfl)) ?_)
  (first | refine JW_i0 rfl rfl (fun hg => (by have hg0 := hg; (try simp at hg); exact op_mul evG evG wrapT)) ?_ | refine JW_i rfl rfl (fun hp hg => (by have hpg := Bool.and_eq_true_iff.2 ⟨hp, hg⟩; have hg0 := hg; (try simp at hg); exact op_mul evG evG wrapT)) ?_)
  (first | refine JW_i0 rfl rfl (fun hg => (by have hg0 := hg; (try simp at hg); exact op_add evG evG wrapT)) ?_ | refine JW_i rfl rfl (fun hp hg => (by have hpg := Bool.and_eq_true_iff.2 ⟨hp, hg⟩; have hg0 := hg; (try simp at hg); exact op_add evG evG wrapT)) ?_)
  (first | refine JW_i0 rfl rfl (fun hg => (by have hg0 := hg; (try simp at hg); exact op_slice evG rfl rfl rfl ⟨_, _, evG, (show _ = ((3 + 9 * nW b : Nat) : Int) by first | rfl | omega)⟩ (by omega) (by omega))) ?_ | refine JW_i rfl rfl (fun hp hg => (by have hpg := Bool.and_eq_true_iff.2 ⟨hp, hg⟩; have hg0 := hg; (try simp at hg); exact op_slice evG rfl rfl rfl ⟨_, _, evG, (show _ = ((3 + 9 * nW b : Nat) : Int) by first | rfl | omega)⟩ (by omega) (by omega))) ?_)
  (first | refine JW_i0 rfl rfl (fun hg => (by have hg0 := hg; (try simp at hg); exact op_call Try.call18 (SameWords_ok _ _) ⟨evS, ⟨evS, trivial⟩⟩)) ?_ | refine JW_i rfl rfl (fun hp hg => (by have hpg := Bool.and_eq_true_iff.2 ⟨hp, hg⟩; have hg0 := hg; (try simp at hg); exact op_call Try.call18 (SameWords_ok _ _) ⟨evS, ⟨evS, trivial⟩⟩)) ?_)
  (first | refine JW_i0 rfl rfl (fun hg => (by have hg0 := hg; (try simp at hg); exact op_not evG)) ?_ | refine JW_i rfl rfl (fun hp hg => (by have hpg := Bool.and_eq_true_iff.2 ⟨hp, hg⟩; have hg0 := hg; (try simp at hg); exact op_not evG)) ?_)
  refine JW_1 (op_or (Ev.rfl' rfl) rfl (fun h => by first | exact SubL.rfl' | exact SubL.iteT (by first | (rw [h]; rfl) | (simp_all; done)) SubL.rfl')) ?_
  refine ⟨rfl, ?_⟩
  refine JD_end ?_
  refine JQ_then ?_
  refine JC_cond (Ev.rfl' rfl) (fun h18 => ?_) (fun h18 => ?_)
  · have g3 : ¬ (validR (UV (wd b 0)) (pagesW b (nW b)) lines = 0 ∧ bodyW (UV (wd b 0)) (pagesW b (nW b)) = b.take (3 + 9 * nW b)) := fun ⟨e1, e2⟩ => by
      rw [e1, e2] at h18; simp at h18
    refine JC_seq ?_
    refine JC_region ?_
    refine JL_1 rfl (op_buildN (qs := []) rfl rfl rfl rfl trivial (by rfl) nrmT) ?_
    refine JL_s0 (op_storeN (Ev.rfl' rfl) (Ev.rfl' rfl) cellsT replT nrmT (by rfl) (by rfl) (by rfl)) ?_
    refine JL_1 rfl (op_assign rfl) ?_
    refine JL_nil ?_
    refine JQ_then (JC_ret (JQ_then_ret ?_))
    exact JQ_ret (Bs := [IsRec 0 [], Is (.int .i64 14)]) Try.results21 ⟨⟨_, _, _, _, rfl, memT, rfl, .inr ⟨rfl, _, rfl, rfl, subT⟩⟩, ⟨⟨_, rfl, subT⟩, trivial⟩⟩ () (SubL.eq (by rw [parseV_bad g1 g2 g3]; rfl)) (List.nil_sublist _)
  have g3 : validR (UV (wd b 0)) (pagesW b (nW b)) lines = 0 ∧ bodyW (UV (wd b 0)) (pagesW b (nW b)) = b.take (3 + 9 * nW b) := by simpa using h18
  refine JC_skip (JQ_then (JC_seq ?_))
  refine JC_region ?_
  refine JL_1 rfl (by first | exact op_loadRefsN (n := 2) (Ev.rfl' rfl) rfl rfl rfl (by rfl) nrmT | exact op_loadPtrsN (n := 2) (Ev.rfl' rfl) memT (by rfl) (by rfl) (by rfl) (by rfl) nrmT) ?_
  refine JL_s0 (op_storeN (Ev.rfl' rfl) (Ev.rfl' rfl) cellsT replT nrmT (by rfl) (by rfl) (by rfl)) ?_
  refine JL_1 rfl (op_assign rfl) ?_
  refine JL_nil ?_
  refine JQ_then (JC_ret ?_)
  exact JQ_ret (Bs := [IsRec (UV (wd b 0)) (pagesW b (nW b)), Is (.int .i64 0)]) Try.results21 ⟨⟨_, _, _, _, rfl, memT, rfl, .inr ⟨rfl, _, rfl, rfl, subT⟩⟩, ⟨⟨_, rfl, subT⟩, trivial⟩⟩ () (SubL.eq (by rw [parseV_ok g1 g2 g3]; rfl)) (List.nil_sublist _)
end Go.Proofs.Ytccgnekcbdkilaa

/- Inside a fence: regions, tests, blocks, loops; functions that hold a range over a function. Own work. -/
namespace Go.Proofs.Ytccgnekcbdkilaa
open Go.RowKit
set_option linter.unusedVariables false
set_option linter.unusedSimpArgs false
/-- The fence that lets all in, for an activation or for a round of a loop. -/
def WF (r : Option Nat) : Fence := { Fence.wide with round := r }
section
variable {P : Program} {r : Option Nat} {n : Nat}
theorem WF.room (k : Nat) : (WF r).room k := fun _ h => by simp [WF, Fence.wide] at h
theorem WF.deep : (WF r).depth.isSome = true → 1 ≤ n := fun h => by simp [WF, Fence.wide] at h
theorem calls_in {f : FuncId} {args : Array Value} {w : World} {R : Ending → World → Prop} (h : Calls P f args w R) : CallsIn (WF r) n P f args w R :=
  (callsIn_wide (n := n)).2 h
theorem rows_in {row : String} {args : Array Value} {w : World} {R : Value → World → Prop} (h : Rows P row args w R) : RowsIn (WF r) n P row args w R := fun c cs _ =>
  let ⟨v, w', h1, h2⟩ := h c cs
  ⟨v, w', h1, stepsIn_wide.2 h2⟩
theorem op_in {o : Oper} {a : Act} {w : World} {K K' : Act → World → Prop} {Q : Exit → Act → World → Prop} (hd : ∀ c, o.op ≠ .defer c) (hK : ∀ a w, K a w → K' a w) (h : o.wp P a w K Q) : o.wpIn (WF r) n P a w K' Q := by
  refine ⟨fun _ _ => trivial, ?_⟩
  rw [Oper.semAt_eq _ _ _ hd]
  unfold Oper.wp at h
  generalize (execOp a.eval o).run P w = res at *
  cases res with
  | ok x w' =>
    cases x <;> simp only [Oper.upon, Oper.uponIn] at h ⊢
    all_goals first
      | exact hK _ _ h
      | exact ⟨WF.deep, CallsIn.mono (calls_in h) fun e w'' he => by cases e <;> first | exact hK _ _ he | exact he⟩
      | exact ⟨WF.deep, RowsIn.mono (rows_in h) fun v w'' he => hK _ _ he⟩
  | halt x w' => cases x <;> simp only [Oper.upon, Oper.uponIn] at h ⊢ <;> exact h
def noDefer (l : List Oper) : Bool := l.all fun o => match o.op with
  | .defer _ => false
  | _ => true
theorem noDefer_spec {l : List Oper} (h : noDefer l = true) {o : Oper} (ho : o ∈ l) : ∀ c, o.op ≠ .defer c := fun c e => by
  have := List.all_eq_true.1 h o ho
  rw [e] at this; cases this
theorem wpList_in {ops : Array Oper} {Q : Exit → Act → World → Prop} (hq : ¬ LetsOut Q) : ∀ (l : List Oper) (a : Act) (w : World), noDefer l = true → wpList P ops Q l a w → wpListIn (WF r) n P ops Q l a w
  | [], a, w, _, h => h
  | o :: l, a, w, hn, h => by
    have hn' : noDefer l = true := by
      unfold noDefer at *
      rw [List.all_cons, Bool.and_eq_true] at hn; exact hn.2
    unfold wpList at h
    unfold wpListIn
    cases hw : Region.wanted o (yielded ops a.tmps) with
    | true =>
      rw [hw] at h
      simp only [if_true] at h ⊢
      rcases h with h | h
      · exact op_in (noDefer_spec hn (List.mem_cons_self ..)) (fun a w => wpList_in hq l a w hn') h
      · exact absurd h.2 hq
    | false =>
      rw [hw] at h
      simp only [Bool.false_eq_true, if_false] at h ⊢
      exact ⟨fun _ _ => trivial, wpList_in hq l _ w hn' h⟩
theorem wpAny_in {md : Region.Mode} {ops : Array Oper} {Q : Exit → Act → World → Prop} (hq : ¬ LetsOut Q) (hn : noDefer ops.toList = true) : ∀ (fuel : Nat) (listed : Array Bool) (a : Act) (w : World), wpAny P md ops Q fuel listed a w → wpAnyIn (WF r) n P md ops Q fuel listed a w
  | 0, _, _, _, h => h
  | fuel + 1, listed, a, w, h => by
    refine ⟨h.1, fun i hi => ?_⟩
    have h2 := h.2 i hi
    unfold wpOp at h2
    unfold wpOpIn
    cases ho : ops[i]? with
    | none =>
      rw [ho] at h2
      exact wpAny_in hq hn fuel _ a w h2
    | some o =>
      rw [ho] at h2
      dsimp only at h2 ⊢
      cases hw : Region.wanted o (yielded ops a.tmps) with
      | true =>
        rw [hw] at h2
        simp only [if_true] at h2 ⊢
        rcases h2 with h2 | h2
        · exact op_in (noDefer_spec hn (Array.mem_toList_iff.2 (Array.mem_of_getElem? ho))) (fun a w => wpAny_in hq hn fuel _ a w) h2
        · exact absurd h2.2 hq
      | false =>
        rw [hw] at h2
        simp only [Bool.false_eq_true, if_false] at h2 ⊢
        exact ⟨fun _ _ => trivial, wpAny_in hq hn fuel _ _ w h2⟩
/-! ### Judgements -/
variable {c : Ctx} {N : Nat} {E : Env} {L : List Item} {Q : Exit → Act → World → Prop}
def JCI (P : Program) (r : Option Nat) (n : Nat) (c : Ctx) (N : Nat) (code : Code) (E : Env) (L : List Item) (Q : Exit → Act → World → Prop) : Prop :=
  ∀ φ a w, St c N (look E) L φ a w → code.wpIn (WF r) n P Q a w
theorem JCI_region {id : Nat} {l : List Oper} (hq : ¬ LetsOut Q) (hn : noDefer l = true) (h : JL P l.toArray Q c N l E L) : JCI P r n c N (Code.region id l.toArray false) E L Q := fun φ a w st =>
  wpIn_region_lit (wpList_in hq l a w hn (h φ a w st))
theorem JD_any {l : List Oper} {nd : List Nat} (hB : (goodB l.toArray nd && ordB l.toArray nd && opsAll (fun _ o => dstB N o.dst) l 0) = true) (h : JD P l.toArray Q c N nd 0 l E L) {φ : Fz} {a : Act} {w : World} (st : St c N (look E) L φ a w) :
    wpAny P .any l.toArray Q l.toArray.size (Array.replicate l.toArray.size false) a { w with drawn := w.drawn + 1 } := by
  simp only [Bool.and_eq_true] at hB
  have h1 := h (good_of hB.1.1 hB.1.2) (by simpa using hB.2) (by simp) (fun i => by simp) φ a { w with drawn := w.drawn + 1 } (Array.replicate l.toArray.size false)
    ⟨⟨by simp, fun i hi => (by rw [getD_replicate_false] at hi; cases hi)⟩, fun i hi => ⟨fun h => (by rw [getD_in (by simpa using hi) (getD_replicate_false _ _)] at h; cases h), fun h => by omega⟩⟩
    ⟨st.defers, st.size, st.env, st.mem.drew⟩
  have hu : unl l.toArray.size (Array.replicate l.toArray.size false) = l.toArray.size := by
    unfold unl
    have : ∀ n, n ≤ l.toArray.size → (List.range n).countP (fun i => !(Array.replicate l.toArray.size false).getD i true) = n := fun n => by
      intro hn
      rw [List.countP_eq_length.2 (fun i hi => by
        have : i < n := List.mem_range.1 hi
        rw [getD_in (by simp at hn ⊢; omega) (getD_replicate_false _ _)]; rfl), List.length_range]
    exact this _ (Nat.le_refl _)
  rw [hu] at h1
  exact h1
theorem JCI_dr {id : Nat} {l : List Oper} (hq : ¬ LetsOut Q) (hn : noDefer l = true) (hm : P.follows .mixedOrders = true) (hB : (goodB l.toArray (needs l []) && ordB l.toArray (needs l []) && opsAll (fun _ o => dstB N o.dst) l 0) = true) (h : JD P l.toArray Q c N (needs l []) 0 l E L) :
    JCI P r n c N (Code.region id l.toArray true) E L Q := fun φ a w st => wpIn_region_any hm (wpAny_in hq (by simpa using hn) _ _ _ _ (JD_any hB h st))
theorem JCI_seq {x y : Code} (h : JCI P r n c N x E L (Exit.then (y.wpIn (WF r) n P Q) Q)) : JCI P r n c N (Code.seq x y) E L Q := fun φ a w st => wpIn_seq (h φ a w st)
theorem JCI_skip (h : JQ c N E L Q .normal) : JCI P r n c N Code.skip E L Q := fun φ a w st => wpIn_skip (h φ a w st)
theorem JCI_block {id : Nat} {x : Code} (h : JCI P r n c N x E L (Exit.inBlock id Q)) : JCI P r n c N (Code.block id x) E L Q := fun φ a w st => wpIn_block (h φ a w st)
theorem JCI_exit {id : Nat} (h : JQ c N E L Q (.exit id)) : JCI P r n c N (Code.exit id) E L Q := fun φ a w st => wpIn_exit (h φ a w st)
theorem JCI_ret (h : JQ c N E L Q .ret) : JCI P r n c N Code.ret E L Q := fun φ a w st => wpIn_ret (h φ a w st)
theorem JCI_cond {x : Operand} {y z : Code} {b : Bool} (hx : Ev (look E) L x (Is (.bool b))) (ht : b = true → JCI P r n c N y E L Q) (hf : b = false → JCI P r n c N z E L Q) : JCI P r n c N (Code.cond x y z) E L Q := fun φ a w st =>
  wpIn_cond_split (st.ev hx) (fun h => ht h φ a w st) (fun h => hf h φ a w st)
theorem JQ_thenI {y : Code} {Q' : Exit → Act → World → Prop} (h : JCI P r n c N y E L Q) : JQ c N E L (Exit.then (y.wpIn (WF r) n P Q) Q') .normal := h
theorem wpIn_loop_ghost {F : Fence} {a : Act} {w : World} {x : Code} (I : Nat → Act → World → Prop) (n₀ : Nat) (h₀ : I n₀ a w)
    (round : ∀ k a w, I k a w → x.wpIn F n P (Exit.then (fun a' w' => ∃ k', k' < k ∧ I k' a' w') Q) a w) : (Code.loop x).wpIn F n P Q a w := by
  refine wpIn_loop (fun a w => ∃ n, I n a w) (fun a w => leastOf (fun n => I n a w)) ⟨n₀, h₀⟩ ?_
  intro a w hI
  refine wpIn_mono (round _ a w (leastOf_spec hI).1) ?_
  intro e a' w' hq
  cases e with
  | normal =>
    obtain ⟨n', hlt, hI'⟩ := hq
    exact show (∃ n, I n a' w') ∧ leastOf (fun n => I n a' w') < leastOf (fun n => I n a w) from ⟨⟨n', hI'⟩, Nat.lt_of_le_of_lt ((leastOf_spec ⟨n', hI'⟩).2 n' hI') hlt⟩
  | exit id => exact hq
  | goto l => exact hq
  | ret => exact hq
  | panic ch => exact hq
  | outgrown => exact hq
theorem JCI_loop {x : Code} {ι : Type} (I : ι → Prop) (Ef : ι → Env) (Lf : ι → List Item) (μ : ι → Nat) (i0 : ι) (h0 : I i0) (hE : ESub L E (Ef i0)) (hL : SubP (Lf i0) L)
    (round : ∀ i, I i → JCI P r n c N x (Ef i) (Lf i) (Exit.then (Round c N I Ef Lf μ (μ i)) Q)) : JCI P r n c N (Code.loop x) E L Q := by
  intro φ a w st
  refine wpIn_loop_ghost (fun n a w => ∃ i φ, I i ∧ μ i = n ∧ St c N (look (Ef i)) (Lf i) φ a w) (μ i0) ⟨i0, φ, h0, rfl, st.lessP hE hL⟩ ?_
  rintro k a w ⟨i, φ, hi, rfl, st⟩
  refine wpIn_mono (round i hi φ a w st) ?_
  intro e a w h
  cases e with
  | normal => obtain ⟨i', φ, hi', hlt, st⟩ := h; exact ⟨μ i', hlt, i', φ, hi', rfl, st⟩
  | exit id => exact h
  | goto l => exact h
  | ret => exact h
  | panic ch => exact h
  | outgrown => exact h
/-! ### Loops over functions: their record, the block behind it -/
/-- The record of a loop. -/
def loopI (l : Nat) (rec : Loop) : Item := ⟨some l, fun _ o => o = some (.loop rec), fun _ h => h⟩
/-- The block for what the rounds put off: nothing. -/
def defI (d : Nat) : Item := ⟨some d, fun _ o => o = some (.deferred (some [])), fun _ h => h⟩
theorem kpt_putObj (X : List Nat) (w : World) (b : Nat) (o : Obj) (hb : b ∈ X) : Kpt X w (w.putObj b o) :=
  ⟨rfl, rfl, rfl, by simp, fun k _ hk => World.putObj_heap_other (fun e => hk (by rw [e]; exact hb))⟩
theorem HP.putLoop {φ : Fz} {w : World} {l : Nat} {rec rec' : Loop} {L' : List Item} (h : HP c φ L w) (hr : Repl L (loopI l rec) (loopI l rec') L') : w.heap[l]? = some (.loop rec) ∧ HP c φ L' (w.putObj l (.loop rec')) := by
  have hit := h.mem.items _ hr.mem
  have h1 : w.heap[l]? = some (.loop rec) := hit.1
  have hlt : l < w.heap.size := (hit.2 l rfl).1
  refine ⟨h1, h.upd hr (kpt_putObj _ _ _ _ (by simp [names, loopI])) ⟨?_, fun b hb => ?_⟩ fun b hb => .inr hb⟩
  · exact World.putObj_heap_same hlt
  · have e : b = l := by injection hb with hb; exact hb.symm
    subst e
    exact ⟨by simpa using hlt, (hit.2 b rfl).2⟩
theorem FnP.enterI {f : FuncId} {fn : Func} {x : Code} {As : List VP} {R : VP} (hf : P.funcs[f]? = some fn) (hN : fn.ntmps = N) (hb : fn.body = some x) (hn : Nat.ble As.length N = true)
    (h : ∀ c : Ctx, (c.X = [] ∧ c.ds = []) → JCI P none 0 c N x (argE 0 As) [] (bodyPostM (WF none) 0 P fn (Post c (fun _ : Unit => R) (fun _ => [])))) : FnP P f As R := by
  subst hN
  intro φ w vs hA hm
  have hlen := hA.len
  have hn' : As.length ≤ fn.ntmps := Nat.le_of_ble_eq_true hn
  refine callsIn_wide.1 (callsIn_of_wp_marks (F := WF none) hf hb trivial (h ⟨w, φ, [], []⟩ ⟨rfl, rfl⟩ φ _ w ⟨rfl, ?_, ?_, HP.start hm⟩) rfl)
  · simp only [Array.size_append, List.size_toArray, Array.size_replicate]; omega
  · refine argE_look As vs 0 hA fun j hj => ?_
    simp only [Nat.zero_add]
    rw [Array.getD_eq_getD_getElem?, Array.getElem?_append_left (by simpa using hj), List.getD_eq_getElem?_getD]
    simp
theorem results_run {fn : Func} {rs : List ResultVar} {Bs : List VP} (hr : fn.results = rs.toArray) (hE : RetE P E L rs Bs) {φ : Fz} {a : Act} {w : World} (st : St c N (look E) L φ a w) : ∃ v, (results fn a.tmps).run P w = .ok v w ∧ (retVP Bs).ok φ v := by
  obtain ⟨vs, h1, h2⟩ := run_results (A := look E) st hE
  have hlen := h2.len
  have hrun : (results fn a.tmps).run P w = .ok (if h : vs.toArray.size = 1 then vs.toArray[0] else .tuple vs.toArray) w := by
    unfold results
    rw [hr, List.mapM_toArray]
    simp only [Sem.run_bind, Sem.run_map, Sem.run_pure]
    erw [h1]
    rfl
  refine ⟨_, hrun, ?_⟩
  match Bs, vs, h2 with
  | [], [], _ => exact ⟨[], rfl, trivial⟩
  | [B], [v], h => exact h.1
  | B :: B' :: Bs, v :: v' :: vs, h => exact ⟨_, rfl, h⟩
/-- A return of a function that holds a range over a function, ahead of the loop. -/
theorem JQ_retM {fn : Func} {R : VP} {rs : List ResultVar} {Bs : List VP} (hr : fn.results = rs.toArray) (hE : RetE P E L rs Bs) (hB : SubL L (retVP Bs) R) (hD0 : c.ds = []) : JQ c N E L (bodyPostM (WF none) 0 P fn (Post c (fun _ : Unit => R) (fun _ => []))) .ret := by
  intro φ a w st
  obtain ⟨v, h1, h2⟩ := results_run hr hE st
  have h3 : a.defers = [] := st.defers.trans hD0
  show LeavesInM _ _ _ _ _ _ a.defers .returning w
  rw [h3]
  exact ⟨v, h1, (), v, φ, rfl, hB _ _ st.mem.mem.facts h2, st.mem.lessP (SubP.nil _)⟩
/-- Behind the loop. -/
theorem JQ_retD {fn : Func} {R : VP} {rs : List ResultVar} {Bs : List VP} {d : Nat} {L' : List Item} (c0 : Ctx) (hr : fn.results = rs.toArray) (hd : Drop1 L (defI d) L') (hE : RetE P E L' rs Bs) (hB : SubL L' (retVP Bs) R) (hc : c = { c0 with ds := [{ target := .collected d, args := #[] }] }) : JQ c N E L (bodyPostM (WF none) 0 P fn (Post c0 (fun _ : Unit => R) (fun _ => []))) .ret := by
  intro φ a w st
  have h3 : a.defers = [{ target := .collected d, args := #[] }] := by rw [st.defers, hc]
  have hit := st.mem.mem.items _ hd.mem.1
  have hK : w.heap[d]? = some (.deferred (some [])) := hit.1
  have hlt : d < w.heap.size := (hit.2 d rfl).1
  have hmem : HP c φ L' (w.putObj d (.deferred none)) := by
    have hs := hd.sep st.mem.mem.sep
    refine ⟨⟨fun b i v e => ?_, fun it hi => ?_, hs.1⟩, ?_, fun b hb => ?_, st.mem.old⟩
    · have h1 := st.mem.mem.base b i v e
      have hne : b ≠ d := fun e' => by
        have := (hit.2 d rfl).2 i
        rw [← e', e] at this; cases this
      rw [cell_kept (World.putObj_heap_other hne)]; exact h1
    · obtain ⟨h1, h2⟩ := st.mem.mem.items it (hd.mem.2 it hi)
      refine ⟨?_, fun b hb => ⟨by simpa using (h2 b hb).1, (h2 b hb).2⟩⟩
      cases hat : it.at_ with
      | none => rw [hat] at h1; exact h1
      | some b =>
        rw [hat] at h1
        simp only [Option.bind_some] at h1 ⊢
        have hne : b ≠ d := fun e => hs.2 it hi d rfl (by rw [hat, e])
        rw [World.putObj_heap_other hne]; exact h1
    · refine st.mem.kept.tr (kpt_putObj [d] w d _ (by simp)) fun y hy hl => ?_
      rw [List.mem_singleton] at hy
      subst hy
      exact (st.mem.mine y (mem_names.2 ⟨_, hd.mem.1, rfl⟩)).resolve_left (by omega)
    · obtain ⟨x, hx, hxb⟩ := mem_names.1 hb
      exact st.mem.mine b (mem_names.2 ⟨x, hd.mem.2 x hx, hxb⟩)
  have st' : St c N (look E) L' φ a (w.putObj d (.deferred none)) := ⟨st.defers, st.size, st.env, hmem⟩
  obtain ⟨v, h1, h2⟩ := results_run hr hE st'
  show LeavesInM _ _ _ _ _ _ a.defers .returning w
  rw [h3]
  refine ⟨by simp, .inl ⟨d, _, rfl, run_takeDeferred hK, v, h1, (), v, φ, rfl, hB _ _ st'.mem.mem.facts h2, ?_⟩⟩
  have h5 := st'.mem.lessP (SubP.nil L')
  rw [hc] at h5
  exact ⟨h5.mem, h5.kept, h5.mine, h5.old⟩
end
end Go.Proofs.Ytccgnekcbdkilaa

/- A loop over a function: its rounds, the call of yield, the statement. Own work. -/
namespace Go.Proofs.Ytccgnekcbdkilaa
open Go.RowKit
set_option linter.unusedVariables false
set_option linter.unusedSimpArgs false
section
variable {P : Program} {r : Option Nat} {n : Nat} {c : Ctx} {N : Nat} {E : Env} {L : List Item} {Q : Exit → Act → World → Prop} {ops : Array Oper} {rest : List Oper}
def JLI (P : Program) (r : Option Nat) (n : Nat) (ops : Array Oper) (Q : Exit → Act → World → Prop) (c : Ctx) (N : Nat) (rest : List Oper) (E : Env) (L : List Item) : Prop :=
  ∀ φ a w, St c N (look E) L φ a w → wpListIn (WF r) n P ops Q rest a w
variable {d : Option Tmp} {ty : TypeId} {pos : String} {af : Array Edge} {t : Tmp} {op : Op}
theorem JLI_1 {F : VP} (hd : Nat.blt t N = true) (hn : noDefer [⟨some t, op, ty, pos, af, none⟩] = true) (hs : OpP P c ⟨some t, op, ty, pos, af, none⟩ (look E) L F) (h : JLI P r n ops Q c N rest ((t, F) :: E) L) : JLI P r n ops Q c N (⟨some t, op, ty, pos, af, none⟩ :: rest) E L := by
  intro φ a w st
  unfold wpListIn
  rw [if_pos (by simp [Region.wanted])]
  refine op_in (Q := Q) (noDefer_spec hn (List.mem_cons_self ..)) (fun _ _ h => h) ?_
  refine hs.toS φ a w _ _ st.mem (fun x _ B hx => st.ev hx) fun _ φ' v w' hle hv hm => h φ' _ _ ?_
  have h1 := st.put (d := some t) (B := F) (fun t' e => by injection e with e; subst e; exact Nat.le_of_ble_eq_true hd) hle hv hm
  rw [← look_putE] at h1
  exact h1
theorem JLI_nil (h : JQ c N E L Q .normal) : JLI P r n ops Q c N [] E L := fun φ a w st => h φ a w st
theorem JCI_regionI {id : Nat} {l : List Oper} (h : JLI P r n l.toArray Q c N l E L) : JCI P r n c N (Code.region id l.toArray false) E L Q := fun φ a w st => wpIn_region_lit (h φ a w st)
/-- The call of yield. -/
theorem JLI_yield {l : Nat} {rec : Loop} {x y p : Tmp} {ts : Array TypeId} {B : VP} {ι : Type} {L' : ι → List Item} (hcb : ∀ b i v, c.φ b i = some v → c.w.cell? ⟨b, i, none⟩ = some v) (hd : Nat.blt t N = true) (hx : look E x = some (Is (.func (.yield l) #[] #[]))) (hy : look E y = some B)
    (hL : loopI l rec ∈ L) (hp : rec.params = #[p])
    (hY : ∀ φ w v, Fle c.φ φ → Mem φ L w → B.ok φ v → RoundIn (WF none) (n - 1) P l rec.fn (rec.tmps.setIfInBounds p v) rec.assign rec.body w fun e w' => ∃ i φ', e = .returned (.bool true) ∧ HP ⟨w, φ, names L, []⟩ φ' (L' i) w')
    (h : ∀ i, JLI P none n ops Q c N rest ((t, Is (.bool true)) :: E) (L' i)) : JLI P none n ops Q c N (⟨some t, .call { callee := .value (.tmp x), args := #[.tmp y], argTypes := ts }, ty, pos, af, none⟩ :: rest) E L := by
  intro φ a w st
  unfold wpListIn
  rw [if_pos (by simp [Region.wanted])]
  have h1 : a.tmps.getD x undef = .func (.yield l) #[] #[] := st.env x _ hx
  have h2 : B.ok φ (a.tmps.getD y undef) := st.env y _ hy
  have h3 : w.heap[l]? = some (.loop rec) := (st.mem.mem.items _ hL).1
  have e1 : a.eval (.tmp x) = .func (.yield l) #[] #[] := h1
  have e2 : a.eval (.tmp y) = a.tmps.getD y undef := rfl
  have hrun : (execOp a.eval ⟨some t, .call { callee := .value (.tmp x), args := #[.tmp y], argTypes := ts }, ty, pos, af, none⟩).run P w = .ok (.round l rec.fn (rec.tmps.setIfInBounds p (a.tmps.getD y undef)) rec.assign rec.body) w := by
    have hy' := run_yield (P := P) (args := #[a.tmps.getD y undef]) h3 (by rw [hp]; rfl)
    rw [hp] at hy'
    have hm : (#[Operand.tmp y].map a.eval) = #[a.tmps.getD y undef] := by simp [e2]
    simp only [execOp, resolve, e1, Deferred.ofValue, hm, Sem.run_bind, Sem.run_pure, Result.andThen_ok, invoke]
    simpa using hy'
  refine ⟨fun _ _ => trivial, ?_⟩
  rw [Oper.semAt_eq _ _ _ (fun c e => by cases e), hrun]
  refine ⟨WF.deep, (hY φ w _ (st.mem.fle hcb) st.mem.mem h2).mono ?_⟩
  rintro e w' ⟨i, φ', rfl, h4⟩
  refine h i φ' _ _ ?_
  have h5 : HP c φ' (L' i ++ []) w' := HP.call (L := L) (by simpa using st.mem) h4
  rw [List.append_nil] at h5
  have h6 := st.put (d := some t) (B := Is (.bool true)) (v := .bool true) (fun t' e => by injection e with e; subst e; exact Nat.le_of_ble_eq_true hd) (h4.fle st.mem.mem.base) rfl h5
  rw [← look_putE] at h6
  exact h6
theorem JCI_set {x : Code} {A : VP} (t : Nat) (B : VP) (hl : look E t = some A) (hs : SubL L A B) (h : JCI P r n c N x ((t, B) :: E) L Q) : JCI P r n c N x E L Q := fun φ a w st =>
  h φ a w (st.tell (hs φ _ st.mem.mem.facts (st.env t A hl)))
theorem JCI_less {x : Code} {E' : Env} {L' : List Item} (hE : ESub L E E') (hL : SubP L' L) (h : JCI P r n c N x E' L' Q) : JCI P r n c N x E L Q := fun φ a w st => h φ a w (st.lessP hE hL)
theorem JCI_buf0 {α : Type} {x : Code} (e : TypeId) (T : Ty α) (h : JCI P r n c N x E (buf (.slice none 0 0) e T [] :: L) Q) : JCI P r n c N x E L Q := fun φ a w st =>
  h φ a w ⟨st.defers, st.size, st.env, st.mem.buf0 e T⟩
theorem JCI_freeze {α : Type} {T : Ty α} {xs : List α} {x : Code} {v : Value} {e : TypeId} {L' : List Item} {p0 : Prop} (hX : c.X = [] ∧ p0) (hr : Repl L (buf v e T xs) (fact v (IsSl T xs)) L') (h : JCI P r n c N x E L' Q) : JCI P r n c N x E L Q := fun φ a w st =>
  let ⟨φ', h1, h2⟩ := st.mem.freeze hX hr
  h φ' a w ⟨st.defers, st.size, fun t B hB => B.mono h1 (st.env t B hB), h2⟩
/-! ### A round -/
def busy (rec : Loop) : Loop := { rec with state := .busy }
theorem JQ_begin {l : Nat} {rec : Loop} {R : Ending → World → Prop} {body : Code} {L1 : List Item} {F' : Exit → Act → World → Prop} (hr : rec.state = .ready) (hL : Repl L (loopI l rec) (loopI l (busy rec)) L1) (h : JCI P (some l) n c N body E L1 (roundPost P l R)) :
    JQ c N E L (Exit.then (fun a₁ w₁ => ∃ w₂, (Instr.beginRound l).run P w₁ = .ok () w₂ ∧ body.wpIn (WF (some l)) n P (roundPost P l R) a₁ w₂) F') .normal := by
  intro φ a w st
  obtain ⟨h1, h2⟩ := st.mem.putLoop hL
  exact ⟨_, run_beginRound h1 hr, h φ a _ ⟨st.defers, st.size, st.env, h2⟩⟩
theorem JQ_endRound {l : Nat} {rec : Loop} {L1 : List Item} {ι : Type} {L' : ι → List Item} (hr : rec.state = .ready) (hp : rec.pending = none) (hL : Repl L (loopI l (busy rec)) (loopI l rec) L1) (i : ι) (hs : SubP (L' i) L1) :
    JQ c N E L (roundPost P l fun e w' => ∃ i φ', e = .returned (.bool true) ∧ HP c φ' (L' i) w') .normal := by
  intro φ a w st
  obtain ⟨h1, h2⟩ := st.mem.putLoop hL
  have h3 := run_endRound (P := P) none h1
  have e : ({ busy rec with state := if (none : Option Code).isNone then .ready else .done, pending := none } : Loop) = rec := by
    cases rec
    simp only [busy] at *
    simp [hr, hp]
  rw [e] at h3
  exact ⟨_, _, h3, i, φ, rfl, h2.lessP hs⟩
/-- A round out of the walks of its assignment and its body. -/
theorem roundIn_J {l : Nat} {rec : Loop} {p : Tmp} {B : VP} {L : List Item} {ι : Type} {L' : ι → List Item} {φ0 : Fz} (hE : ∀ t D, look E t = some D → D.ok φ0 (rec.tmps.getD t undef)) (hN : rec.tmps.size = N) (hp : Nat.blt p N = true) {φ : Fz} {w : World} {v : Value} (hle : Fle φ0 φ) (hm : Mem φ L w) (hv : B.ok φ v)
    (h : JCI P (some l) n ⟨w, φ, names L, []⟩ N rec.assign ((p, B) :: E) L (Exit.then (fun a₁ w₁ => ∃ w₂, (Instr.beginRound l).run P w₁ = .ok () w₂ ∧ rec.body.wpIn (WF (some l)) n P (roundPost P l fun e w' => ∃ i φ', e = .returned (.bool true) ∧ HP ⟨w, φ, names L, []⟩ φ' (L' i) w') a₁ w₂) (fun _ _ _ => False))) :
    RoundIn (WF none) n P l rec.fn (rec.tmps.setIfInBounds p v) rec.assign rec.body w fun e w' => ∃ i φ', e = .returned (.bool true) ∧ HP ⟨w, φ, names L, []⟩ φ' (L' i) w' := by
  refine roundIn_of_wpIn trivial (h φ _ w ⟨rfl, ?_, fun t D hD => ?_, HP.start hm⟩)
  · simpa using hN
  · simp only [look] at hD
    by_cases hpt : p = t
    · subst hpt
      have : Nat.beq p p = true := by simp
      rw [this] at hD
      simp only [cond_true, Option.some.injEq] at hD
      subst hD
      have hlt : p < rec.tmps.size := by rw [hN]; exact Nat.le_of_ble_eq_true hp
      simp [hlt]; exact hv
    · rw [beq_ff hpt] at hD
      have h1 := hE t D (by simpa using hD)
      have : (rec.tmps.setIfInBounds p v).getD t undef = rec.tmps.getD t undef := by
        rw [Array.getD_eq_getD_getElem?, Array.getD_eq_getD_getElem?, Array.getElem?_setIfInBounds_ne hpt]
      show D.ok φ ((rec.tmps.setIfInBounds p v).getD t undef)
      rw [this]
      exact D.mono hle h1
/-- The statement. -/
theorem JCI_range {g p : Tmp} {assign body : Code} {gf : FuncId} {Cs : List VP} {ι : Type} {L' : ι → List Item} (hds : c.ds = []) (hg : look E g = some (IsFn gf Cs)) (hc : ∀ (args : Array Value) (w : World), (callFunc gf args).run P w = .ok (.enter gf args) w)
    (h : ∀ (fn : FuncId) (φ : Fz) (tmps : Array Value) (l d : Nat) (rec : Loop) (W1 : World) (cs : List Value), (∀ t D, look E t = some D → D.ok φ (tmps.getD t undef)) → tmps.size = N → rec = { state := .ready, pending := none, fn := fn, tmps := tmps, params := #[p], assign, body, defers := d } →
      Mem φ (loopI l rec :: defI d :: L) W1 → Alls φ Cs cs → CallsIn (WF none) (n - 1) P gf (#[.func (.yield l) #[] #[]] ++ cs.toArray) W1 fun e w' => ∃ v i φ', e = .returned v ∧ HP ⟨W1, φ, names (loopI l rec :: defI d :: L), []⟩ φ' (loopI l rec :: defI d :: L' i) w')
    (hrest : ∀ d i, JQ { c with ds := [{ target := .collected d, args := #[] }] } N E (defI d :: L' i) Q .normal) : JCI P none n c N (Code.rangeFunc (.tmp g) #[p] assign body) E L Q := by
  intro φ a w st
  refine wpIn_rangeFunc ?_
  intro fn hfn
  obtain ⟨cs, h1, h2⟩ := st.env g _ hg
  have h1' : a.eval (.tmp g) = .func (.func gf) #[] cs.toArray := h1
  obtain ⟨rec, hrec⟩ : ∃ rec : Loop, rec = { state := .ready, pending := none, fn, tmps := a.tmps, params := #[p], assign, body, defers := w.heap.size } := ⟨_, rfl⟩
  obtain ⟨W1, hW1⟩ : ∃ W1, (w.alloc (.deferred (some []))).alloc (.loop rec) = W1 := ⟨_, rfl⟩
  have hm1 : HP c φ (defI w.heap.size :: L) (w.alloc (.deferred (some []))) := st.mem.new (hp_new (b := 0) (it := defI w.heap.size) (o := .deferred (some [])) st.mem rfl rfl)
  have hm2 : HP c φ (loopI (w.heap.size + 1) rec :: defI w.heap.size :: L) W1 := by
    rw [← hW1]
    exact hm1.new (hp_new (b := 0) (it := loopI (w.heap.size + 1) rec) (o := .loop rec) hm1 (by simp [loopI, World.size_alloc]) rfl)
  refine ⟨w.heap.size + 1, [{ target := .collected w.heap.size, args := #[] }], W1, { target := .fn (.func gf) cs.toArray, args := #[.func (.yield (w.heap.size + 1)) #[] #[]] }, W1, gf,
    #[.func (.yield (w.heap.size + 1)) #[] #[]] ++ cs.toArray, W1, ?_, ?_, ?_, ?_, WF.deep, ?_⟩
  · rw [← hW1, hrec]; exact run_enterLoop_outer _ _ _ _ _
  · simp only [resolve, h1']
    simp [go_sem]
  · intro f' hf'; trivial
  · simp [invoke, go_sem, hc]
  · refine (h fn φ a.tmps (w.heap.size + 1) w.heap.size rec W1 cs st.env st.size hrec hm2.mem h2).mono ?_
    rintro e w' ⟨v, i, φ', rfl, h3⟩
    have h4 : HP c φ' ((loopI (w.heap.size + 1) rec :: defI w.heap.size :: L' i) ++ []) w' := HP.call (L := loopI (w.heap.size + 1) rec :: defI w.heap.size :: L) (by simpa using hm2) h3
    rw [List.append_nil] at h4
    obtain ⟨h5, h6⟩ := h4.putLoop (rec' := { rec with state := .exhausted }) (Repl.head _ _ _)
    have h7 := run_endLoop (P := P) h5 (by rw [hrec]; simp)
    have hpd : rec.pending = none := by rw [hrec]
    have h7' : (Instr.endLoop (w.heap.size + 1)).run P w' = .ok none (w'.putObj (w.heap.size + 1) (.loop { rec with state := .exhausted })) := by rw [h7, hpd]
    refine ⟨none, _, h7', ?_⟩
    refine hrest w.heap.size i φ' _ _ ⟨?_, st.size, fun t D hD => D.mono (h3.fle hm2.mem.base) (st.env t D hD), ?_⟩
    · show [_] ++ a.defers = _
      rw [st.defers, hds]; rfl
    · have h8 := h6.less (List.sublist_cons_self _ _)
      exact ⟨h8.mem, h8.kept, h8.mine, h8.old⟩
end
end Go.Proofs.Ytccgnekcbdkilaa

/- Contracts: chunks of words, as a loop gets them. Own work. -/
namespace Go.Proofs.Ytccgnekcbdkilaa
open Go.RowKit
set_option linter.unusedVariables false
set_option linter.unusedSimpArgs false
set_option maxRecDepth 100000
-- slices.Chunk[[]uint64,uint64]: function 47
theorem Chunk_ok (xs : List (BitVec 64)) : FnP Try.prog 47 [IsSl tU64 xs, Is (.int .i64 9)] (IsFn 59 [IsRef [IsSl tU64 xs], IsRef [Is (.int .i64 9)]]) := by
  refine FnP.enter Try.func47 Try.ntmps47 rfl rfl ?_
  intro c hX
  (repeat (first | with_reducible refine JC_seq ?_ | with_reducible refine JQ_then ?_ | with_reducible refine JC_block ?_ | with_reducible refine JC_skip ?_ | with_reducible refine JC_exit ?_ | with_reducible refine JQ_then_exit ?_ | with_reducible refine JQ_then_ret ?_ | with_reducible refine JQ_block ?_ | with_reducible refine JQ_block_ret ?_ | with_reducible refine JQ_hit ?_ | ((with_reducible refine JQ_block_miss ?_ ?_); (focus exact rfl)) | with_reducible refine JC_ret ?_ | with_reducible refine JQ_end ?_))
  refine JC_region ?_
  (refine JL_n rfl (op_box (Ev.rfl' rfl) cellsT) ?_; intro i2)
  (refine JL_n rfl (op_box (Ev.rfl' rfl) cellsT) ?_; intro i3)
  refine JL_1 rfl (op_assign rfl) ?_
  refine JL_nil ?_
  (repeat (first | with_reducible refine JC_seq ?_ | with_reducible refine JQ_then ?_ | with_reducible refine JC_block ?_ | with_reducible refine JC_skip ?_ | with_reducible refine JC_exit ?_ | with_reducible refine JQ_then_exit ?_ | with_reducible refine JQ_then_ret ?_ | with_reducible refine JQ_block ?_ | with_reducible refine JQ_block_ret ?_ | with_reducible refine JQ_hit ?_ | ((with_reducible refine JQ_block_miss ?_ ?_); (focus exact rfl)) | with_reducible refine JC_ret ?_ | with_reducible refine JQ_end ?_))
  (repeat (first | with_reducible refine JC_seq ?_ | with_reducible refine JQ_then ?_ | with_reducible refine JC_block ?_ | with_reducible refine JC_skip ?_ | with_reducible refine JC_exit ?_ | with_reducible refine JQ_then_exit ?_ | with_reducible refine JQ_then_ret ?_ | with_reducible refine JQ_block ?_ | with_reducible refine JQ_block_ret ?_ | with_reducible refine JQ_hit ?_ | ((with_reducible refine JQ_block_miss ?_ ?_); (focus exact rfl)) | with_reducible refine JC_ret ?_ | with_reducible refine JQ_end ?_))
  refine JC_region ?_
  refine JL_1 rfl (by first | exact op_loadRef (Ev.rfl' rfl) rfl rfl rfl | exact op_loadPtr (Ev.rfl' rfl) memT (by rfl) (by rfl) (by rfl)) ?_
  refine JL_1 rfl (op_lss (Ev.rfl' rfl) (Ev.rfl' rfl)) ?_
  refine JL_nil ?_
  (repeat (first | with_reducible refine JC_seq ?_ | with_reducible refine JQ_then ?_ | with_reducible refine JC_block ?_ | with_reducible refine JC_skip ?_ | with_reducible refine JC_exit ?_ | with_reducible refine JQ_then_exit ?_ | with_reducible refine JQ_then_ret ?_ | with_reducible refine JQ_block ?_ | with_reducible refine JQ_block_ret ?_ | with_reducible refine JQ_hit ?_ | ((with_reducible refine JQ_block_miss ?_ ?_); (focus exact rfl)) | with_reducible refine JC_ret ?_ | with_reducible refine JQ_end ?_))
  refine JC_cond (Ev.rfl' rfl) (fun h => ?_) (fun h => ?_)
  · simp at h
  (repeat (first | with_reducible refine JC_seq ?_ | with_reducible refine JQ_then ?_ | with_reducible refine JC_block ?_ | with_reducible refine JC_skip ?_ | with_reducible refine JC_exit ?_ | with_reducible refine JQ_then_exit ?_ | with_reducible refine JQ_then_ret ?_ | with_reducible refine JQ_block ?_ | with_reducible refine JQ_block_ret ?_ | with_reducible refine JQ_hit ?_ | ((with_reducible refine JQ_block_miss ?_ ?_); (focus exact rfl)) | with_reducible refine JC_ret ?_ | with_reducible refine JQ_end ?_))
  refine JC_freezeB hX (b := i2) replT ?_
  refine JC_freezeB hX (b := i3) replT ?_
  (repeat (first | with_reducible refine JC_seq ?_ | with_reducible refine JQ_then ?_ | with_reducible refine JC_block ?_ | with_reducible refine JC_skip ?_ | with_reducible refine JC_exit ?_ | with_reducible refine JQ_then_exit ?_ | with_reducible refine JQ_then_ret ?_ | with_reducible refine JQ_block ?_ | with_reducible refine JQ_block_ret ?_ | with_reducible refine JQ_hit ?_ | ((with_reducible refine JQ_block_miss ?_ ?_); (focus exact rfl)) | with_reducible refine JC_ret ?_ | with_reducible refine JQ_end ?_))
  refine JC_region ?_
  refine JL_1 rfl (op_makeFunc (Cs := [IsRef [IsSl tU64 xs], IsRef [Is (.int .i64 9)]]) ⟨evS, ⟨evS, trivial⟩⟩) ?_
  refine JL_1 rfl (op_assign rfl) ?_
  refine JL_nil ?_
  (repeat (first | with_reducible refine JC_seq ?_ | with_reducible refine JQ_then ?_ | with_reducible refine JC_block ?_ | with_reducible refine JC_skip ?_ | with_reducible refine JC_exit ?_ | with_reducible refine JQ_then_exit ?_ | with_reducible refine JQ_then_ret ?_ | with_reducible refine JQ_block ?_ | with_reducible refine JQ_block_ret ?_ | with_reducible refine JQ_hit ?_ | ((with_reducible refine JQ_block_miss ?_ ?_); (focus exact rfl)) | with_reducible refine JC_ret ?_ | with_reducible refine JQ_end ?_))
  exact JQ_ret1 Try.results47 rfl () SubL.rfl' (List.nil_sublist _)
/-- The chunk at k. -/
def chunkAt (xs : List (BitVec 64)) (k : Nat) : List (BitVec 64) := (xs.take (9 * k + 9)).drop (9 * k)
set_option maxHeartbeats 1000000 in
-- slices.Chunk[[]uint64,uint64]$1: function 59
theorem chunk_in {ι : Type} (n : Nat) (xs : List (BitVec 64)) (m : Nat) (hx : xs.length = 9 * m) (hm : m ≤ 1000) (l p : Nat) (rec : Loop) (Lf : Nat → ι → List Item) (hLf : ∀ k s, loopI l rec ∈ Lf k s) (hp : rec.params = #[p]) (φ0 : Fz) (w0 : World) (s0 : ι) (hm0 : Mem φ0 (Lf 0 s0) w0) (cs : List Value)
    (hcs : Alls φ0 [IsRef [IsSl tU64 xs], IsRef [Is (.int .i64 9)]] cs)
    (hY : ∀ n' k s, k < m → ∀ φ w v, Fle φ0 φ → Mem φ (Lf k s) w → (IsSl tU64 (chunkAt xs k)).ok φ v → RoundIn (WF none) n' Try.prog l rec.fn (rec.tmps.setIfInBounds p v) rec.assign rec.body w fun e w' => ∃ s' φ', e = .returned (.bool true) ∧ HP ⟨w, φ, names (Lf k s), []⟩ φ' (Lf (k + 1) s') w') :
    CallsIn (WF none) n Try.prog 59 (#[.func (.yield l) #[] #[]] ++ cs.toArray) w0 fun e w' => ∃ v s φ', e = .returned v ∧ HP ⟨w0, φ0, names (Lf 0 s0), []⟩ φ' (Lf m s) w' := by
  have HY := Lib.hid hY
  clear hY
  obtain ⟨c, hc⟩ : ∃ c : Ctx, c = ⟨w0, φ0, names (Lf 0 s0), []⟩ := ⟨_, rfl⟩
  have hcb : ∀ b i v, c.φ b i = some v → c.w.cell? ⟨b, i, none⟩ = some v := by rw [hc]; exact hm0.base
  have hcφ : c.φ = φ0 := by rw [hc]
  have hds : c.ds = [] := by rw [hc]
  have key : JCI Try.prog none n c (Try.f59.ntmps) (Try.f59.body.getD .skip) (argE 0 [Is (.func (.yield l) #[] #[]), IsRef [IsSl tU64 xs], IsRef [Is (.int .i64 9)]]) (Lf 0 s0) (bodyPost Try.prog Try.f59 (Post c (fun _ : ι => Top) (fun s => Lf m s))) := by
    show JCI Try.prog none n c 31 _ _ _ _
    simp only [Try.f59, Option.getD_some]
    (repeat (first | with_reducible refine JCI_seq ?_ | with_reducible refine JQ_thenI ?_ | with_reducible refine JCI_block ?_ | with_reducible refine JCI_skip ?_ | with_reducible refine JCI_exit ?_ | with_reducible refine JQ_then_exit ?_ | with_reducible refine JQ_then_ret ?_ | with_reducible refine JQ_block ?_ | with_reducible refine JQ_block_ret ?_ | with_reducible refine JQ_hit ?_ | ((with_reducible refine JQ_block_miss ?_ ?_); (focus exact rfl)) | with_reducible refine JCI_ret ?_))
    (repeat (first | with_reducible refine JCI_seq ?_ | with_reducible refine JQ_thenI ?_ | with_reducible refine JCI_block ?_ | with_reducible refine JCI_skip ?_ | with_reducible refine JCI_exit ?_ | with_reducible refine JQ_then_exit ?_ | with_reducible refine JQ_then_ret ?_ | with_reducible refine JQ_block ?_ | with_reducible refine JQ_block_ret ?_ | with_reducible refine JQ_hit ?_ | ((with_reducible refine JQ_block_miss ?_ ?_); (focus exact rfl)) | with_reducible refine JCI_ret ?_))
    refine JCI_region (by rintro ⟨a, w, h⟩; first | exact h.elim | (obtain ⟨_, _, _, h, _⟩ := h; cases h)) rfl ?_
    refine JL_1 rfl (op_assign rfl) ?_
    refine JL_nil ?_
    (repeat (first | with_reducible refine JCI_seq ?_ | with_reducible refine JQ_thenI ?_ | with_reducible refine JCI_block ?_ | with_reducible refine JCI_skip ?_ | with_reducible refine JCI_exit ?_ | with_reducible refine JQ_then_exit ?_ | with_reducible refine JQ_then_ret ?_ | with_reducible refine JQ_block ?_ | with_reducible refine JQ_block_ret ?_ | with_reducible refine JQ_hit ?_ | ((with_reducible refine JQ_block_miss ?_ ?_); (focus exact rfl)) | with_reducible refine JCI_ret ?_))
    refine JCI_loop (fun i : Nat × Int × ι => i.1 ≤ m ∧ i.2.1 = 9 * i.1) (fun i => [(0, Is (.func (.yield l) #[] #[])), (1, IsRef [IsSl tU64 xs]), (2, IsRef [Is (.int .i64 9)]), (4, Is (.int .i64 i.2.1))]) (fun i => Lf i.1 i.2.2) (fun i => m - i.1) (0, 0, s0) ⟨Nat.zero_le _, rfl⟩ esubT (SubP.refl' _) ?_
    rintro ⟨k, z, s⟩ ⟨hk, hz⟩
    dsimp only at hk hz ⊢
    (repeat (first | with_reducible refine JCI_seq ?_ | with_reducible refine JQ_thenI ?_ | with_reducible refine JCI_block ?_ | with_reducible refine JCI_skip ?_ | with_reducible refine JCI_exit ?_ | with_reducible refine JQ_then_exit ?_ | with_reducible refine JQ_then_ret ?_ | with_reducible refine JQ_block ?_ | with_reducible refine JQ_block_ret ?_ | with_reducible refine JQ_hit ?_ | ((with_reducible refine JQ_block_miss ?_ ?_); (focus exact rfl)) | with_reducible refine JCI_ret ?_))
    refine JCI_region (by rintro ⟨a, w, h⟩; first | exact h.elim | (obtain ⟨_, _, _, h, _⟩ := h; cases h)) rfl ?_
    refine JL_1 rfl (op_move rfl) ?_
    refine JL_1 rfl (by first | exact op_loadRef (Ev.rfl' rfl) rfl rfl rfl | exact op_loadPtr (Ev.rfl' rfl) memT (by rfl) (by rfl) (by rfl)) ?_
    refine JL_1 rfl (by first | exact op_len (Ev.rfl' rfl) rfl | exact op_lenLit (Ev.rfl' rfl) rfl) ?_
    refine JL_1 rfl (op_lss (Ev.rfl' rfl) (Ev.rfl' rfl)) ?_
    refine JL_nil ?_
    (repeat (first | with_reducible refine JCI_seq ?_ | with_reducible refine JQ_thenI ?_ | with_reducible refine JCI_block ?_ | with_reducible refine JCI_skip ?_ | with_reducible refine JCI_exit ?_ | with_reducible refine JQ_then_exit ?_ | with_reducible refine JQ_then_ret ?_ | with_reducible refine JQ_block ?_ | with_reducible refine JQ_block_ret ?_ | with_reducible refine JQ_hit ?_ | ((with_reducible refine JQ_block_miss ?_ ?_); (focus exact rfl)) | with_reducible refine JCI_ret ?_))
    refine JCI_cond (Ev.rfl' rfl) (fun h => ?_) (fun h => ?_)
    · have hkm : k < m := by have := of_decide_eq_true h; omega
      clear h
      (repeat (first | with_reducible refine JCI_seq ?_ | with_reducible refine JQ_thenI ?_ | with_reducible refine JCI_block ?_ | with_reducible refine JCI_skip ?_ | with_reducible refine JCI_exit ?_ | with_reducible refine JQ_then_exit ?_ | with_reducible refine JQ_then_ret ?_ | with_reducible refine JQ_block ?_ | with_reducible refine JQ_block_ret ?_ | with_reducible refine JQ_hit ?_ | ((with_reducible refine JQ_block_miss ?_ ?_); (focus exact rfl)) | with_reducible refine JCI_ret ?_))
      have hlen : ((xs.take xs.length).drop (9 * k)).length = 9 * (m - k) := by simp; omega
      (repeat (first | with_reducible refine JCI_seq ?_ | with_reducible refine JQ_thenI ?_ | with_reducible refine JCI_block ?_ | with_reducible refine JCI_skip ?_ | with_reducible refine JCI_exit ?_ | with_reducible refine JQ_then_exit ?_ | with_reducible refine JQ_then_ret ?_ | with_reducible refine JQ_block ?_ | with_reducible refine JQ_block_ret ?_ | with_reducible refine JQ_hit ?_ | ((with_reducible refine JQ_block_miss ?_ ?_); (focus exact rfl)) | with_reducible refine JCI_ret ?_))
      refine JCI_dr (by rintro ⟨a, w, h⟩; first | exact h.elim | (obtain ⟨_, _, _, h, _⟩ := h; cases h)) rfl rfl (by kernel_rfl) ?_
      refine JD_stretch 7 (by kernel_rfl) ?_
      refine JW_1 (by first | exact op_loadRef (Ev.rfl' rfl) rfl rfl rfl | exact op_loadPtr (Ev.rfl' rfl) memT (by rfl) (by rfl) (by rfl)) ?_
      refine JW_1 (by first | exact op_loadRef (Ev.rfl' rfl) rfl rfl rfl | exact op_loadPtr (Ev.rfl' rfl) memT (by rfl) (by rfl) (by rfl)) ?_
      refine JW_1 (op_move rfl) ?_
      refine JW_1 (op_slice (Ev.rfl' rfl) rfl rfl ⟨_, _, (Ev.rfl' rfl), (show _ = ((9 * k : Nat) : Int) by first | rfl | omega)⟩ rfl (by omega) (by omega)) ?_
      refine JW_1 (by first | exact op_len (Ev.rfl' rfl) rfl | exact op_lenLit (Ev.rfl' rfl) rfl) ?_
      refine JW_1 (op_min (Ev.rfl' rfl) (Ev.rfl' rfl)) ?_
      refine JW_1 (op_assign rfl) ?_
      refine ⟨rfl, ?_⟩
      refine JD_end ?_
      (repeat (first | with_reducible refine JCI_seq ?_ | with_reducible refine JQ_thenI ?_ | with_reducible refine JCI_block ?_ | with_reducible refine JCI_skip ?_ | with_reducible refine JCI_exit ?_ | with_reducible refine JQ_then_exit ?_ | with_reducible refine JQ_then_ret ?_ | with_reducible refine JQ_block ?_ | with_reducible refine JQ_block_ret ?_ | with_reducible refine JQ_hit ?_ | ((with_reducible refine JQ_block_miss ?_ ?_); (focus exact rfl)) | with_reducible refine JCI_ret ?_))
      refine JCI_set 5 (Is (.int .i64 9)) rfl (SubL.eq (by rw [if_neg (by rw [hlen]; omega)])) ?_
      refine JCI_regionI ?_
      refine JLI_1 rfl rfl (op_move rfl) ?_
      refine JLI_1 rfl rfl (by first | exact op_loadRef (Ev.rfl' rfl) rfl rfl rfl | exact op_loadPtr (Ev.rfl' rfl) (by repeat (first | exact List.Mem.head _ | apply List.Mem.tail)) (by rfl) (by rfl) (by rfl)) ?_
      refine JLI_1 rfl rfl (op_move rfl) ?_
      refine JLI_1 rfl rfl (op_move rfl) ?_
      refine JLI_1 rfl rfl (op_move rfl) ?_
      refine JLI_1 rfl rfl (op_add (Ev.rfl' rfl) (Ev.rfl' rfl) (by first | exact wI64 (by omega) | exact wU64 (by omega) | exact wU32 (by omega) | rfl)) ?_
      refine JLI_1 rfl rfl (op_move rfl) ?_
      refine JLI_1 rfl rfl (op_move rfl) ?_
      refine JLI_1 rfl rfl (op_add (Ev.rfl' rfl) (Ev.rfl' rfl) (by first | exact wI64 (by omega) | exact wU64 (by omega) | exact wU32 (by omega) | rfl)) ?_
      refine JLI_1 rfl rfl (op_slice3 (l := 9 * k) (h := 9 * k + 9) (Ev.rfl' rfl) rfl rfl (Ev.rfl' rfl) (Ev.rfl' rfl) (Ev.rfl' rfl) (by first | assumption | rfl | omega) (by first | assumption | rfl | omega) (by first | assumption | rfl | omega) (by omega) (by omega)) ?_
      refine JLI_yield (l := l) (rec := rec) (p := p) (L' := fun s' => Lf (k + 1) s') hcb rfl rfl rfl (hLf k s) hp (fun φ w v hle hm hv => HY.out _ k s hkm φ w v (by rw [← hcφ]; exact hle) hm hv) (fun s' => ?_)
      refine JLI_1 rfl rfl (op_not (Ev.rfl' rfl)) ?_
      refine JLI_nil ?_
      (repeat (first | with_reducible refine JCI_seq ?_ | with_reducible refine JQ_thenI ?_ | with_reducible refine JCI_block ?_ | with_reducible refine JCI_skip ?_ | with_reducible refine JCI_exit ?_ | with_reducible refine JQ_then_exit ?_ | with_reducible refine JQ_then_ret ?_ | with_reducible refine JQ_block ?_ | with_reducible refine JQ_block_ret ?_ | with_reducible refine JQ_hit ?_ | ((with_reducible refine JQ_block_miss ?_ ?_); (focus exact rfl)) | with_reducible refine JCI_ret ?_))
      refine JCI_cond (Ev.rfl' rfl) (fun h => ?_) (fun h => ?_)
      · simp at h
      (repeat (first | with_reducible refine JCI_seq ?_ | with_reducible refine JQ_thenI ?_ | with_reducible refine JCI_block ?_ | with_reducible refine JCI_skip ?_ | with_reducible refine JCI_exit ?_ | with_reducible refine JQ_then_exit ?_ | with_reducible refine JQ_then_ret ?_ | with_reducible refine JQ_block ?_ | with_reducible refine JQ_block_ret ?_ | with_reducible refine JQ_hit ?_ | ((with_reducible refine JQ_block_miss ?_ ?_); (focus exact rfl)) | with_reducible refine JCI_ret ?_))
      (repeat (first | with_reducible refine JCI_seq ?_ | with_reducible refine JQ_thenI ?_ | with_reducible refine JCI_block ?_ | with_reducible refine JCI_skip ?_ | with_reducible refine JCI_exit ?_ | with_reducible refine JQ_then_exit ?_ | with_reducible refine JQ_then_ret ?_ | with_reducible refine JQ_block ?_ | with_reducible refine JQ_block_ret ?_ | with_reducible refine JQ_hit ?_ | ((with_reducible refine JQ_block_miss ?_ ?_); (focus exact rfl)) | with_reducible refine JCI_ret ?_))
      refine JCI_region (by rintro ⟨a, w, h⟩; first | exact h.elim | (obtain ⟨_, _, _, h, _⟩ := h; cases h)) rfl ?_
      refine JL_1 rfl (op_move rfl) ?_
      refine JL_1 rfl (by first | exact op_loadRef (Ev.rfl' rfl) rfl rfl rfl | exact op_loadPtr (Ev.rfl' rfl) memT (by rfl) (by rfl) (by rfl)) ?_
      refine JL_1 rfl (op_add (Ev.rfl' rfl) (Ev.rfl' rfl) wrapT) ?_
      refine JL_1 rfl (op_assign rfl) ?_
      refine JL_nil ?_
      (repeat (first | with_reducible refine JCI_seq ?_ | with_reducible refine JQ_thenI ?_ | with_reducible refine JCI_block ?_ | with_reducible refine JCI_skip ?_ | with_reducible refine JCI_exit ?_ | with_reducible refine JQ_then_exit ?_ | with_reducible refine JQ_then_ret ?_ | with_reducible refine JQ_block ?_ | with_reducible refine JQ_block_ret ?_ | with_reducible refine JQ_hit ?_ | ((with_reducible refine JQ_block_miss ?_ ?_); (focus exact rfl)) | with_reducible refine JCI_ret ?_))
      exact JQ_roundP (k + 1, z + 9, s') ⟨by dsimp only; omega, by dsimp only; omega⟩ (by dsimp only; omega) esubT (SubP.refl' _)
    · have hkm : k = m := by have := of_decide_eq_false h; omega
      subst hkm
      clear h
      (repeat (first | with_reducible refine JCI_seq ?_ | with_reducible refine JQ_thenI ?_ | with_reducible refine JCI_block ?_ | with_reducible refine JCI_skip ?_ | with_reducible refine JCI_exit ?_ | with_reducible refine JQ_then_exit ?_ | with_reducible refine JQ_then_ret ?_ | with_reducible refine JQ_block ?_ | with_reducible refine JQ_block_ret ?_ | with_reducible refine JQ_hit ?_ | ((with_reducible refine JQ_block_miss ?_ ?_); (focus exact rfl)) | with_reducible refine JCI_ret ?_))
      refine JQ_end ?_
      exact JQ_retP (rs := []) (Bs := []) rfl trivial s SubL.top (SubP.refl' _) hds
  match cs, hcs with
  | [v1, v2], hcs =>
    have ha : (#[Value.func (.yield l) #[] #[]] ++ [v1, v2].toArray : Array Value) = [Value.func (.yield l) #[] #[], v1, v2].toArray := rfl
    rw [ha]
    have h0 := key φ0 { tmps := [Value.func (.yield l) #[] #[], v1, v2].toArray ++ Array.replicate (Try.f59.ntmps - ([Value.func (.yield l) #[] #[], v1, v2].toArray).size) undef, defers := [] } w0
      ⟨by rw [hds], by simp only [Array.size_append, List.size_toArray, Array.size_replicate]; rfl, argE_look _ [Value.func (.yield l) #[] #[], v1, v2] 0 ⟨rfl, hcs⟩ (fun j hj => by
        simp only [Nat.zero_add]
        rw [Array.getD_eq_getD_getElem?, Array.getElem?_append_left (by simpa using hj), List.getD_eq_getElem?_getD]
        simp), by rw [hc]; exact HP.start hm0⟩
    refine (callsIn_of_wp (F := WF none) Try.func59 rfl trivial h0 rfl).mono ?_
    rintro e w' ⟨s, v, φ', he, _, h1⟩
    rw [hc] at h1
    exact ⟨v, s, φ', he, h1⟩
end Go.Proofs.Ytccgnekcbdkilaa
