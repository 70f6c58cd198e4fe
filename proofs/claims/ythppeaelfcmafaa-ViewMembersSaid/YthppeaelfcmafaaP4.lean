/- Contracts: views compared; the full members. Own work. -/
import Derived.Test.YthppeaelfcmafaaP3
import Derived.Test.YthppeaelfcmafaaTv
namespace Go.Proofs.Ythppeaelfcmafaa
open Go.RowKit
set_option linter.unusedVariables false
set_option maxRecDepth 100000
theorem take_eq_succ {α : Type} {xs ys : List α} {k : Nat} {x y : α} (hx : xs[k]? = some x) (hy : ys[k]? = some y) (h : xs.take k = ys.take k) : (xs.take (k + 1) = ys.take (k + 1)) ↔ x = y := by
  rw [List.take_add_one, List.take_add_one, hx, hy, h]
  simp
set_option maxHeartbeats 1000000 in
-- slices.Equal[[]bodega/api.Member,bodega/api.Member]: function 38
theorem EqualMb_ok (xs ys : List Mb) : FnP Try.prog 38 [IsSl tMb xs, IsSl tMb ys] (Is (.bool (decide (xs = ys)))) := by
  refine FnP.enter Try.func38 Try.ntmps38 rfl rfl ?_
  intro c hX
  (repeat (first | with_reducible refine JC_seq ?_ | with_reducible refine JQ_then ?_ | with_reducible refine JC_block ?_ | with_reducible refine JC_skip ?_ | with_reducible refine JC_exit ?_ | with_reducible refine JQ_then_exit ?_ | with_reducible refine JQ_then_ret ?_ | with_reducible refine JQ_block ?_ | with_reducible refine JQ_block_ret ?_ | with_reducible refine JQ_hit ?_ | ((with_reducible refine JQ_block_miss ?_ ?_); (focus exact rfl)) | with_reducible refine JC_ret ?_ | with_reducible refine JQ_end ?_))
  refine JC_len (t := 0) rfl (fun hlen => ?_)
  (repeat (first | with_reducible refine JC_seq ?_ | with_reducible refine JQ_then ?_ | with_reducible refine JC_block ?_ | with_reducible refine JC_skip ?_ | with_reducible refine JC_exit ?_ | with_reducible refine JQ_then_exit ?_ | with_reducible refine JQ_then_ret ?_ | with_reducible refine JQ_block ?_ | with_reducible refine JQ_block_ret ?_ | with_reducible refine JQ_hit ?_ | ((with_reducible refine JQ_block_miss ?_ ?_); (focus exact rfl)) | with_reducible refine JC_ret ?_ | with_reducible refine JQ_end ?_))
  refine JC_region ?_
  refine JL_1 rfl (op_assign rfl) ?_
  refine JL_nil ?_
  (repeat (first | with_reducible refine JC_seq ?_ | with_reducible refine JQ_then ?_ | with_reducible refine JC_block ?_ | with_reducible refine JC_skip ?_ | with_reducible refine JC_exit ?_ | with_reducible refine JQ_then_exit ?_ | with_reducible refine JQ_then_ret ?_ | with_reducible refine JQ_block ?_ | with_reducible refine JQ_block_ret ?_ | with_reducible refine JQ_hit ?_ | ((with_reducible refine JQ_block_miss ?_ ?_); (focus exact rfl)) | with_reducible refine JC_ret ?_ | with_reducible refine JQ_end ?_))
  (repeat (first | with_reducible refine JC_seq ?_ | with_reducible refine JQ_then ?_ | with_reducible refine JC_block ?_ | with_reducible refine JC_skip ?_ | with_reducible refine JC_exit ?_ | with_reducible refine JQ_then_exit ?_ | with_reducible refine JQ_then_ret ?_ | with_reducible refine JQ_block ?_ | with_reducible refine JQ_block_ret ?_ | with_reducible refine JQ_hit ?_ | ((with_reducible refine JQ_block_miss ?_ ?_); (focus exact rfl)) | with_reducible refine JC_ret ?_ | with_reducible refine JQ_end ?_))
  refine JC_region ?_
  refine JL_1 rfl (op_move rfl) ?_
  refine JL_1 rfl (by first | exact op_len (Ev.rfl' rfl) rfl | exact op_lenLit (Ev.rfl' rfl) rfl) ?_
  refine JL_1 rfl (op_move rfl) ?_
  refine JL_1 rfl (by first | exact op_len (Ev.rfl' rfl) rfl | exact op_lenLit (Ev.rfl' rfl) rfl) ?_
  refine JL_1 rfl (op_neq (Ev.rfl' rfl) (Ev.rfl' rfl)) ?_
  refine JL_nil ?_
  (repeat (first | with_reducible refine JC_seq ?_ | with_reducible refine JQ_then ?_ | with_reducible refine JC_block ?_ | with_reducible refine JC_skip ?_ | with_reducible refine JC_exit ?_ | with_reducible refine JQ_then_exit ?_ | with_reducible refine JQ_then_ret ?_ | with_reducible refine JQ_block ?_ | with_reducible refine JQ_block_ret ?_ | with_reducible refine JQ_hit ?_ | ((with_reducible refine JQ_block_miss ?_ ?_); (focus exact rfl)) | with_reducible refine JC_ret ?_ | with_reducible refine JQ_end ?_))
  refine JC_cond (Ev.rfl' rfl) (fun h => ?_) (fun h => ?_)
  · (repeat (first | with_reducible refine JC_seq ?_ | with_reducible refine JQ_then ?_ | with_reducible refine JC_block ?_ | with_reducible refine JC_skip ?_ | with_reducible refine JC_exit ?_ | with_reducible refine JQ_then_exit ?_ | with_reducible refine JQ_then_ret ?_ | with_reducible refine JQ_block ?_ | with_reducible refine JQ_block_ret ?_ | with_reducible refine JQ_hit ?_ | ((with_reducible refine JQ_block_miss ?_ ?_); (focus exact rfl)) | with_reducible refine JC_ret ?_ | with_reducible refine JQ_end ?_))
    refine JC_region ?_
    refine JL_1 rfl (op_assign rfl) ?_
    refine JL_nil ?_
    (repeat (first | with_reducible refine JC_seq ?_ | with_reducible refine JQ_then ?_ | with_reducible refine JC_block ?_ | with_reducible refine JC_skip ?_ | with_reducible refine JC_exit ?_ | with_reducible refine JQ_then_exit ?_ | with_reducible refine JQ_then_ret ?_ | with_reducible refine JQ_block ?_ | with_reducible refine JQ_block_ret ?_ | with_reducible refine JQ_hit ?_ | ((with_reducible refine JQ_block_miss ?_ ?_); (focus exact rfl)) | with_reducible refine JC_ret ?_ | with_reducible refine JQ_end ?_))
    have e : xs ≠ ys := by rintro rfl; simp at h
    exact JQ_ret1 Try.results38 rfl () (SubL.eq (by rw [decide_eq_false e])) (List.nil_sublist _)
  have hl : xs.length = ys.length := by simp at h; omega
  clear h
  (repeat (first | with_reducible refine JC_seq ?_ | with_reducible refine JQ_then ?_ | with_reducible refine JC_block ?_ | with_reducible refine JC_skip ?_ | with_reducible refine JC_exit ?_ | with_reducible refine JQ_then_exit ?_ | with_reducible refine JQ_then_ret ?_ | with_reducible refine JQ_block ?_ | with_reducible refine JQ_block_ret ?_ | with_reducible refine JQ_hit ?_ | ((with_reducible refine JQ_block_miss ?_ ?_); (focus exact rfl)) | with_reducible refine JC_ret ?_ | with_reducible refine JQ_end ?_))
  refine JC_region ?_
  refine JL_1 rfl (op_move rfl) ?_
  refine JL_1 rfl (by first | exact op_len (Ev.rfl' rfl) rfl | exact op_lenLit (Ev.rfl' rfl) rfl) ?_
  refine JL_1 rfl (op_move rfl) ?_
  refine JL_nil ?_
  (repeat (first | with_reducible refine JC_seq ?_ | with_reducible refine JQ_then ?_ | with_reducible refine JC_block ?_ | with_reducible refine JC_skip ?_ | with_reducible refine JC_exit ?_ | with_reducible refine JQ_then_exit ?_ | with_reducible refine JQ_then_ret ?_ | with_reducible refine JQ_block ?_ | with_reducible refine JQ_block_ret ?_ | with_reducible refine JQ_hit ?_ | ((with_reducible refine JQ_block_miss ?_ ?_); (focus exact rfl)) | with_reducible refine JC_ret ?_ | with_reducible refine JQ_end ?_))
  refine JC_loop (fun k : Nat => k ≤ xs.length ∧ xs.take k = ys.take k) (fun k => [(0, IsSl tMb xs), (1, IsSl tMb ys), (12, Is (.int .i64 xs.length)), (13, Is (.int .i64 (k : Nat)))]) (fun _ => []) (fun k => xs.length - k) 0 ⟨Nat.zero_le _, rfl⟩ (by (repeat (refine ⟨⟨_, rfl, (by (repeat' (first | exact SubL.rfl' | exact SubL.nil | exact SubL.top | exact trivial | refine SubL.agg ?_ | refine SubL.tup ?_ | exact SubL.fact (by repeat (first | exact List.Mem.head _ | apply List.Mem.tail)) | refine SubL.row (by rfl) (by rfl) ?_ | refine SubL.lit rfl ?_ | refine SubL.iteT (by first | assumption | (simp; done) | (simp_all; done)) ?_ | refine ⟨?_, ?_⟩)))⟩, ?_⟩)); exact trivial) (List.Sublist.refl _) ?_
  rintro k ⟨hk, hs⟩
  (repeat (first | with_reducible refine JC_seq ?_ | with_reducible refine JQ_then ?_ | with_reducible refine JC_block ?_ | with_reducible refine JC_skip ?_ | with_reducible refine JC_exit ?_ | with_reducible refine JQ_then_exit ?_ | with_reducible refine JQ_then_ret ?_ | with_reducible refine JQ_block ?_ | with_reducible refine JQ_block_ret ?_ | with_reducible refine JQ_hit ?_ | ((with_reducible refine JQ_block_miss ?_ ?_); (focus exact rfl)) | with_reducible refine JC_ret ?_ | with_reducible refine JQ_end ?_))
  refine JC_region ?_
  refine JL_1 rfl (op_lss (Ev.rfl' rfl) (Ev.rfl' rfl)) ?_
  refine JL_nil ?_
  (repeat (first | with_reducible refine JC_seq ?_ | with_reducible refine JQ_then ?_ | with_reducible refine JC_block ?_ | with_reducible refine JC_skip ?_ | with_reducible refine JC_exit ?_ | with_reducible refine JQ_then_exit ?_ | with_reducible refine JQ_then_ret ?_ | with_reducible refine JQ_block ?_ | with_reducible refine JQ_block_ret ?_ | with_reducible refine JQ_hit ?_ | ((with_reducible refine JQ_block_miss ?_ ?_); (focus exact rfl)) | with_reducible refine JC_ret ?_ | with_reducible refine JQ_end ?_))
  refine JC_cond (Ev.rfl' rfl) (fun h => ?_) (fun h => ?_)
  · have h' : (k : Int) < xs.length := of_decide_eq_true h
    clear h
    have hx := Mb.at_get xs k (by omega)
    have hy := Mb.at_get ys k (by omega)
    generalize Mb.at xs k = mx at *
    generalize Mb.at ys k = my at *
    (repeat (first | with_reducible refine JC_seq ?_ | with_reducible refine JQ_then ?_ | with_reducible refine JC_block ?_ | with_reducible refine JC_skip ?_ | with_reducible refine JC_exit ?_ | with_reducible refine JQ_then_exit ?_ | with_reducible refine JQ_then_ret ?_ | with_reducible refine JQ_block ?_ | with_reducible refine JQ_block_ret ?_ | with_reducible refine JQ_hit ?_ | ((with_reducible refine JQ_block_miss ?_ ?_); (focus exact rfl)) | with_reducible refine JC_ret ?_ | with_reducible refine JQ_end ?_))
    refine JC_region ?_
    refine JL_1 rfl (op_move rfl) ?_
    refine JL_1 rfl (op_assign rfl) ?_
    refine JL_nil ?_
    (repeat (first | with_reducible refine JC_seq ?_ | with_reducible refine JQ_then ?_ | with_reducible refine JC_block ?_ | with_reducible refine JC_skip ?_ | with_reducible refine JC_exit ?_ | with_reducible refine JQ_then_exit ?_ | with_reducible refine JQ_then_ret ?_ | with_reducible refine JQ_block ?_ | with_reducible refine JQ_block_ret ?_ | with_reducible refine JQ_hit ?_ | ((with_reducible refine JQ_block_miss ?_ ?_); (focus exact rfl)) | with_reducible refine JC_ret ?_ | with_reducible refine JQ_end ?_))
    (repeat (first | with_reducible refine JC_seq ?_ | with_reducible refine JQ_then ?_ | with_reducible refine JC_block ?_ | with_reducible refine JC_skip ?_ | with_reducible refine JC_exit ?_ | with_reducible refine JQ_then_exit ?_ | with_reducible refine JQ_then_ret ?_ | with_reducible refine JQ_block ?_ | with_reducible refine JQ_block_ret ?_ | with_reducible refine JQ_hit ?_ | ((with_reducible refine JQ_block_miss ?_ ?_); (focus exact rfl)) | with_reducible refine JC_ret ?_ | with_reducible refine JQ_end ?_))
    refine JC_dr rfl (by kernel_rfl) ?_
    refine JD_stretch 9 (by kernel_rfl) ?_
    refine JW_1 (op_move rfl) ?_
    refine JW_1 (op_move rfl) ?_
    refine JW_1 (by first | exact op_index (Ev.rfl' rfl) (Ev.rfl' rfl) rfl rfl (by first | rfl | omega) hx | exact op_index (Ev.rfl' rfl) (Ev.rfl' rfl) rfl rfl (by first | rfl | omega) hy | exact op_index (Ev.rfl' rfl) (Ev.rfl' rfl) rfl rfl (by first | rfl | omega) (by assumption)) ?_
    refine JW_1 (by first | exact op_loadRefs (n := 3) (Ev.rfl' rfl) rfl rfl rfl (by rfl) | exact op_loadPtrs (n := 3) (Ev.rfl' rfl) (by repeat (first | exact List.Mem.head _ | apply List.Mem.tail)) (by rfl) (by rfl) (by rfl) (by rfl)) ?_
    refine JW_1 (op_move rfl) ?_
    refine JW_1 (op_move rfl) ?_
    refine JW_1 (by first | exact op_index (Ev.rfl' rfl) (Ev.rfl' rfl) rfl rfl (by first | rfl | omega) hx | exact op_index (Ev.rfl' rfl) (Ev.rfl' rfl) rfl rfl (by first | rfl | omega) hy | exact op_index (Ev.rfl' rfl) (Ev.rfl' rfl) rfl rfl (by first | rfl | omega) (by assumption)) ?_
    refine JW_1 (by first | exact op_loadRefs (n := 3) (Ev.rfl' rfl) rfl rfl rfl (by rfl) | exact op_loadPtrs (n := 3) (Ev.rfl' rfl) (by repeat (first | exact List.Mem.head _ | apply List.Mem.tail)) (by rfl) (by rfl) (by rfl) (by rfl)) ?_
    refine JW_1 (op_cmpA (vs := Mb.cells mx) (ws := Mb.cells my) (Ev.rfl' rfl) (Ev.rfl' rfl) (eqMb_guard _ _ _ mx my) (eqMb_neq mx my)) ?_
    refine ⟨rfl, ?_⟩
    refine JD_end ?_
    (repeat (first | with_reducible refine JC_seq ?_ | with_reducible refine JQ_then ?_ | with_reducible refine JC_block ?_ | with_reducible refine JC_skip ?_ | with_reducible refine JC_exit ?_ | with_reducible refine JQ_then_exit ?_ | with_reducible refine JQ_then_ret ?_ | with_reducible refine JQ_block ?_ | with_reducible refine JQ_block_ret ?_ | with_reducible refine JQ_hit ?_ | ((with_reducible refine JQ_block_miss ?_ ?_); (focus exact rfl)) | with_reducible refine JC_ret ?_ | with_reducible refine JQ_end ?_))
    refine JC_cond (Ev.rfl' rfl) (fun h => ?_) (fun h => ?_)
    · (repeat (first | with_reducible refine JC_seq ?_ | with_reducible refine JQ_then ?_ | with_reducible refine JC_block ?_ | with_reducible refine JC_skip ?_ | with_reducible refine JC_exit ?_ | with_reducible refine JQ_then_exit ?_ | with_reducible refine JQ_then_ret ?_ | with_reducible refine JQ_block ?_ | with_reducible refine JQ_block_ret ?_ | with_reducible refine JQ_hit ?_ | ((with_reducible refine JQ_block_miss ?_ ?_); (focus exact rfl)) | with_reducible refine JC_ret ?_ | with_reducible refine JQ_end ?_))
      refine JC_region ?_
      refine JL_1 rfl (op_assign rfl) ?_
      refine JL_nil ?_
      (repeat (first | with_reducible refine JC_seq ?_ | with_reducible refine JQ_then ?_ | with_reducible refine JC_block ?_ | with_reducible refine JC_skip ?_ | with_reducible refine JC_exit ?_ | with_reducible refine JQ_then_exit ?_ | with_reducible refine JQ_then_ret ?_ | with_reducible refine JQ_block ?_ | with_reducible refine JQ_block_ret ?_ | with_reducible refine JQ_hit ?_ | ((with_reducible refine JQ_block_miss ?_ ?_); (focus exact rfl)) | with_reducible refine JC_ret ?_ | with_reducible refine JQ_end ?_))
      have e : xs ≠ ys := by
        rintro rfl
        rw [hx] at hy
        simp at hy h
        exact h hy
      exact JQ_ret1 Try.results38 rfl () (SubL.eq (by rw [decide_eq_false e])) (List.nil_sublist _)
    have e : mx = my := by simpa using h
    clear h
    (repeat (first | with_reducible refine JC_seq ?_ | with_reducible refine JQ_then ?_ | with_reducible refine JC_block ?_ | with_reducible refine JC_skip ?_ | with_reducible refine JC_exit ?_ | with_reducible refine JQ_then_exit ?_ | with_reducible refine JQ_then_ret ?_ | with_reducible refine JQ_block ?_ | with_reducible refine JQ_block_ret ?_ | with_reducible refine JQ_hit ?_ | ((with_reducible refine JQ_block_miss ?_ ?_); (focus exact rfl)) | with_reducible refine JC_ret ?_ | with_reducible refine JQ_end ?_))
    refine JC_region ?_
    refine JL_1 rfl (op_add (Ev.rfl' rfl) (Ev.rfl' rfl) (by first | exact wI64 (by omega) | exact wU64 (by omega) | exact wU32 (by omega) | rfl)) ?_
    refine JL_1 rfl (op_move rfl) ?_
    refine JL_nil ?_
    (repeat (first | with_reducible refine JC_seq ?_ | with_reducible refine JQ_then ?_ | with_reducible refine JC_block ?_ | with_reducible refine JC_skip ?_ | with_reducible refine JC_exit ?_ | with_reducible refine JQ_then_exit ?_ | with_reducible refine JQ_then_ret ?_ | with_reducible refine JQ_block ?_ | with_reducible refine JQ_block_ret ?_ | with_reducible refine JQ_hit ?_ | ((with_reducible refine JQ_block_miss ?_ ?_); (focus exact rfl)) | with_reducible refine JC_ret ?_ | with_reducible refine JQ_end ?_))
    exact JQ_round (k + 1) ⟨by omega, (take_eq_succ hx hy hs).2 e⟩ (by omega) (by (repeat (refine ⟨⟨_, rfl, (by (repeat' (first | exact SubL.rfl' | exact SubL.nil | exact SubL.top | exact trivial | refine SubL.agg ?_ | refine SubL.tup ?_ | exact SubL.fact (by repeat (first | exact List.Mem.head _ | apply List.Mem.tail)) | refine SubL.row (by rfl) (by rfl) ?_ | refine SubL.lit rfl ?_ | refine SubL.iteT (by first | assumption | (simp; done) | (simp_all; done)) ?_ | refine ⟨?_, ?_⟩)))⟩, ?_⟩)); exact trivial) (by simp)
  have e : xs = ys := by
    have h' : ¬ (k : Int) < xs.length := of_decide_eq_false h
    rw [List.take_of_length_le (by omega), List.take_of_length_le (by omega)] at hs
    exact hs
  clear h
  (repeat (first | with_reducible refine JC_seq ?_ | with_reducible refine JQ_then ?_ | with_reducible refine JC_block ?_ | with_reducible refine JC_skip ?_ | with_reducible refine JC_exit ?_ | with_reducible refine JQ_then_exit ?_ | with_reducible refine JQ_then_ret ?_ | with_reducible refine JQ_block ?_ | with_reducible refine JQ_block_ret ?_ | with_reducible refine JQ_hit ?_ | ((with_reducible refine JQ_block_miss ?_ ?_); (focus exact rfl)) | with_reducible refine JC_ret ?_ | with_reducible refine JQ_end ?_))
  refine JC_region ?_
  refine JL_1 rfl (op_assign rfl) ?_
  refine JL_nil ?_
  (repeat (first | with_reducible refine JC_seq ?_ | with_reducible refine JQ_then ?_ | with_reducible refine JC_block ?_ | with_reducible refine JC_skip ?_ | with_reducible refine JC_exit ?_ | with_reducible refine JQ_then_exit ?_ | with_reducible refine JQ_then_ret ?_ | with_reducible refine JQ_block ?_ | with_reducible refine JQ_block_ret ?_ | with_reducible refine JQ_hit ?_ | ((with_reducible refine JQ_block_miss ?_ ?_); (focus exact rfl)) | with_reducible refine JC_ret ?_ | with_reducible refine JQ_end ?_))
  exact JQ_ret1 Try.results38 rfl () (SubL.eq (by rw [decide_eq_true e])) (List.nil_sublist _)
set_option maxHeartbeats 1000000 in
-- view.Same: function 21
theorem Same_ok (n m : Int) (xs ys : List Mb) : FnP Try.prog 21 [IsView n xs, IsView m ys] (Is (.bool (n == m && decide (xs = ys)))) := by
  refine FnP.enter Try.func21 Try.ntmps21 rfl rfl ?_
  intro c hX
  (repeat (first | with_reducible refine JC_seq ?_ | with_reducible refine JQ_then ?_ | with_reducible refine JC_block ?_ | with_reducible refine JC_skip ?_ | with_reducible refine JC_exit ?_ | with_reducible refine JQ_then_exit ?_ | with_reducible refine JQ_then_ret ?_ | with_reducible refine JQ_block ?_ | with_reducible refine JQ_block_ret ?_ | with_reducible refine JQ_hit ?_ | ((with_reducible refine JQ_block_miss ?_ ?_); (focus exact rfl)) | with_reducible refine JC_ret ?_ | with_reducible refine JQ_end ?_))
  (repeat (first | with_reducible refine JC_seq ?_ | with_reducible refine JQ_then ?_ | with_reducible refine JC_block ?_ | with_reducible refine JC_skip ?_ | with_reducible refine JC_exit ?_ | with_reducible refine JQ_then_exit ?_ | with_reducible refine JQ_then_ret ?_ | with_reducible refine JQ_block ?_ | with_reducible refine JQ_block_ret ?_ | with_reducible refine JQ_hit ?_ | ((with_reducible refine JQ_block_miss ?_ ?_); (focus exact rfl)) | with_reducible refine JC_ret ?_ | with_reducible refine JQ_end ?_))
  refine JC_region ?_
  (refine JL_n rfl (op_box (Ev.rfl' rfl) (by first | exact cells_agg | exact cells_is rfl | exact cells_sl | exact cells_ref | exact cells_lit rfl)) ?_; intro i2)
  (refine JL_n rfl (op_box (Ev.rfl' rfl) (by first | exact cells_agg | exact cells_is rfl | exact cells_sl | exact cells_ref | exact cells_lit rfl)) ?_; intro i3)
  refine JL_1 rfl (op_assign rfl) ?_
  refine JL_nil ?_
  (repeat (first | with_reducible refine JC_seq ?_ | with_reducible refine JQ_then ?_ | with_reducible refine JC_block ?_ | with_reducible refine JC_skip ?_ | with_reducible refine JC_exit ?_ | with_reducible refine JQ_then_exit ?_ | with_reducible refine JQ_then_ret ?_ | with_reducible refine JQ_block ?_ | with_reducible refine JQ_block_ret ?_ | with_reducible refine JQ_hit ?_ | ((with_reducible refine JQ_block_miss ?_ ?_); (focus exact rfl)) | with_reducible refine JC_ret ?_ | with_reducible refine JQ_end ?_))
  (repeat (first | with_reducible refine JC_seq ?_ | with_reducible refine JQ_then ?_ | with_reducible refine JC_block ?_ | with_reducible refine JC_skip ?_ | with_reducible refine JC_exit ?_ | with_reducible refine JQ_then_exit ?_ | with_reducible refine JQ_then_ret ?_ | with_reducible refine JQ_block ?_ | with_reducible refine JQ_block_ret ?_ | with_reducible refine JQ_hit ?_ | ((with_reducible refine JQ_block_miss ?_ ?_); (focus exact rfl)) | with_reducible refine JC_ret ?_ | with_reducible refine JQ_end ?_))
  refine JC_region ?_
  refine JL_1 rfl (by first | exact op_fieldPtr (k := 0) (Ev.rfl' rfl) rfl rfl rfl rfl | exact op_fieldRef (k := 0) (Ev.rfl' rfl) rfl rfl rfl rfl) ?_
  refine JL_1 rfl (by first | exact op_loadRef (Ev.rfl' rfl) rfl rfl rfl | exact op_loadPtr (Ev.rfl' rfl) (by repeat (first | exact List.Mem.head _ | apply List.Mem.tail)) (by rfl) (by rfl) (by rfl)) ?_
  refine JL_1 rfl (by first | exact op_fieldPtr (k := 0) (Ev.rfl' rfl) rfl rfl rfl rfl | exact op_fieldRef (k := 0) (Ev.rfl' rfl) rfl rfl rfl rfl) ?_
  refine JL_1 rfl (by first | exact op_loadRef (Ev.rfl' rfl) rfl rfl rfl | exact op_loadPtr (Ev.rfl' rfl) (by repeat (first | exact List.Mem.head _ | apply List.Mem.tail)) (by rfl) (by rfl) (by rfl)) ?_
  refine JL_1 rfl (op_eql (Ev.rfl' rfl) (Ev.rfl' rfl)) ?_
  refine JL_1 rfl (op_move rfl) ?_
  (first | refine JL_i0 rfl rfl rfl (fun hg => (by (try simp at hg); first | exact op_fieldPtr (k := 1) (by first | exact Ev.rfl' rfl | exact Ev.sub rfl (SubL.iteT (by first | assumption | (simp; done) | (simp_all; done)) SubL.rfl')) rfl rfl rfl rfl | exact op_fieldRef (k := 1) (by first | exact Ev.rfl' rfl | exact Ev.sub rfl (SubL.iteT (by first | assumption | (simp; done) | (simp_all; done)) SubL.rfl')) rfl rfl rfl rfl)) ?_ | refine JL_i rfl rfl rfl (fun hp hg => (by (try simp at hg); first | exact op_fieldPtr (k := 1) (by first | exact Ev.rfl' rfl | exact Ev.sub rfl (SubL.iteT (by first | assumption | (simp; done) | (simp_all; done)) SubL.rfl')) rfl rfl rfl rfl | exact op_fieldRef (k := 1) (by first | exact Ev.rfl' rfl | exact Ev.sub rfl (SubL.iteT (by first | assumption | (simp; done) | (simp_all; done)) SubL.rfl')) rfl rfl rfl rfl)) ?_)
  (first | refine JL_i0 rfl rfl rfl (fun hg => (by (try simp at hg); first | exact op_loadRef (by first | exact Ev.rfl' rfl | exact Ev.sub rfl (SubL.iteT (by first | assumption | (simp; done) | (simp_all; done)) SubL.rfl')) rfl rfl rfl | exact op_loadPtr (by first | exact Ev.rfl' rfl | exact Ev.sub rfl (SubL.iteT (by first | assumption | (simp; done) | (simp_all; done)) SubL.rfl')) (by repeat (first | exact List.Mem.head _ | apply List.Mem.tail)) (by rfl) (by rfl) (by rfl))) ?_ | refine JL_i rfl rfl rfl (fun hp hg => (by (try simp at hg); first | exact op_loadRef (by first | exact Ev.rfl' rfl | exact Ev.sub rfl (SubL.iteT (by first | assumption | (simp; done) | (simp_all; done)) SubL.rfl')) rfl rfl rfl | exact op_loadPtr (by first | exact Ev.rfl' rfl | exact Ev.sub rfl (SubL.iteT (by first | assumption | (simp; done) | (simp_all; done)) SubL.rfl')) (by repeat (first | exact List.Mem.head _ | apply List.Mem.tail)) (by rfl) (by rfl) (by rfl))) ?_)
  (first | refine JL_i0 rfl rfl rfl (fun hg => (by (try simp at hg); first | exact op_fieldPtr (k := 1) (by first | exact Ev.rfl' rfl | exact Ev.sub rfl (SubL.iteT (by first | assumption | (simp; done) | (simp_all; done)) SubL.rfl')) rfl rfl rfl rfl | exact op_fieldRef (k := 1) (by first | exact Ev.rfl' rfl | exact Ev.sub rfl (SubL.iteT (by first | assumption | (simp; done) | (simp_all; done)) SubL.rfl')) rfl rfl rfl rfl)) ?_ | refine JL_i rfl rfl rfl (fun hp hg => (by (try simp at hg); first | exact op_fieldPtr (k := 1) (by first | exact Ev.rfl' rfl | exact Ev.sub rfl (SubL.iteT (by first | assumption | (simp; done) | (simp_all; done)) SubL.rfl')) rfl rfl rfl rfl | exact op_fieldRef (k := 1) (by first | exact Ev.rfl' rfl | exact Ev.sub rfl (SubL.iteT (by first | assumption | (simp; done) | (simp_all; done)) SubL.rfl')) rfl rfl rfl rfl)) ?_)
  (first | refine JL_i0 rfl rfl rfl (fun hg => (by (try simp at hg); first | exact op_loadRef (by first | exact Ev.rfl' rfl | exact Ev.sub rfl (SubL.iteT (by first | assumption | (simp; done) | (simp_all; done)) SubL.rfl')) rfl rfl rfl | exact op_loadPtr (by first | exact Ev.rfl' rfl | exact Ev.sub rfl (SubL.iteT (by first | assumption | (simp; done) | (simp_all; done)) SubL.rfl')) (by repeat (first | exact List.Mem.head _ | apply List.Mem.tail)) (by rfl) (by rfl) (by rfl))) ?_ | refine JL_i rfl rfl rfl (fun hp hg => (by (try simp at hg); first | exact op_loadRef (by first | exact Ev.rfl' rfl | exact Ev.sub rfl (SubL.iteT (by first | assumption | (simp; done) | (simp_all; done)) SubL.rfl')) rfl rfl rfl | exact op_loadPtr (by first | exact Ev.rfl' rfl | exact Ev.sub rfl (SubL.iteT (by first | assumption | (simp; done) | (simp_all; done)) SubL.rfl')) (by repeat (first | exact List.Mem.head _ | apply List.Mem.tail)) (by rfl) (by rfl) (by rfl))) ?_)
  (first | refine JL_i0 rfl rfl rfl (fun hg => (by (try simp at hg); exact op_call Try.call38 (EqualMb_ok _ _) ⟨(by first | exact Ev.rfl' rfl | exact Ev.sub rfl (by (repeat' (first | exact SubL.rfl' | exact SubL.nil | exact SubL.top | exact trivial | refine SubL.agg ?_ | refine SubL.tup ?_ | exact SubL.fact (by repeat (first | exact List.Mem.head _ | apply List.Mem.tail)) | refine SubL.row (by rfl) (by rfl) ?_ | refine SubL.lit rfl ?_ | refine SubL.iteT (by first | assumption | (simp; done) | (simp_all; done)) ?_ | refine ⟨?_, ?_⟩)))), ⟨(by first | exact Ev.rfl' rfl | exact Ev.sub rfl (by (repeat' (first | exact SubL.rfl' | exact SubL.nil | exact SubL.top | exact trivial | refine SubL.agg ?_ | refine SubL.tup ?_ | exact SubL.fact (by repeat (first | exact List.Mem.head _ | apply List.Mem.tail)) | refine SubL.row (by rfl) (by rfl) ?_ | refine SubL.lit rfl ?_ | refine SubL.iteT (by first | assumption | (simp; done) | (simp_all; done)) ?_ | refine ⟨?_, ?_⟩)))), trivial⟩⟩)) ?_ | refine JL_i rfl rfl rfl (fun hp hg => (by (try simp at hg); exact op_call Try.call38 (EqualMb_ok _ _) ⟨(by first | exact Ev.rfl' rfl | exact Ev.sub rfl (by (repeat' (first | exact SubL.rfl' | exact SubL.nil | exact SubL.top | exact trivial | refine SubL.agg ?_ | refine SubL.tup ?_ | exact SubL.fact (by repeat (first | exact List.Mem.head _ | apply List.Mem.tail)) | refine SubL.row (by rfl) (by rfl) ?_ | refine SubL.lit rfl ?_ | refine SubL.iteT (by first | assumption | (simp; done) | (simp_all; done)) ?_ | refine ⟨?_, ?_⟩)))), ⟨(by first | exact Ev.rfl' rfl | exact Ev.sub rfl (by (repeat' (first | exact SubL.rfl' | exact SubL.nil | exact SubL.top | exact trivial | refine SubL.agg ?_ | refine SubL.tup ?_ | exact SubL.fact (by repeat (first | exact List.Mem.head _ | apply List.Mem.tail)) | refine SubL.row (by rfl) (by rfl) ?_ | refine SubL.lit rfl ?_ | refine SubL.iteT (by first | assumption | (simp; done) | (simp_all; done)) ?_ | refine ⟨?_, ?_⟩)))), trivial⟩⟩)) ?_)
  refine JL_1 rfl (op_and (Ev.rfl' rfl) rfl (fun h => by first | exact SubL.rfl' | exact SubL.iteT (by first | (rw [h]; rfl) | (simp_all; done)) SubL.rfl')) ?_
  refine JL_1 rfl (op_assign rfl) ?_
  refine JL_nil ?_
  (repeat (first | with_reducible refine JC_seq ?_ | with_reducible refine JQ_then ?_ | with_reducible refine JC_block ?_ | with_reducible refine JC_skip ?_ | with_reducible refine JC_exit ?_ | with_reducible refine JQ_then_exit ?_ | with_reducible refine JQ_then_ret ?_ | with_reducible refine JQ_block ?_ | with_reducible refine JQ_block_ret ?_ | with_reducible refine JQ_hit ?_ | ((with_reducible refine JQ_block_miss ?_ ?_); (focus exact rfl)) | with_reducible refine JC_ret ?_ | with_reducible refine JQ_end ?_))
  exact JQ_ret1 Try.results21 rfl () SubL.rfl' (List.nil_sublist _)
set_option maxHeartbeats 1000000 in
-- bodegaref9.SameView: function 18
theorem SameView_ok (n m : Int) (xs ys : List Mb) : FnP Try.prog 18 [IsView n xs, IsView m ys] (Is (.bool (n == m && decide (xs = ys)))) := by
  refine FnP.enter Try.func18 Try.ntmps18 rfl rfl ?_
  intro c hX
  (repeat (first | with_reducible refine JC_seq ?_ | with_reducible refine JQ_then ?_ | with_reducible refine JC_block ?_ | with_reducible refine JC_skip ?_ | with_reducible refine JC_exit ?_ | with_reducible refine JQ_then_exit ?_ | with_reducible refine JQ_then_ret ?_ | with_reducible refine JQ_block ?_ | with_reducible refine JQ_block_ret ?_ | with_reducible refine JQ_hit ?_ | ((with_reducible refine JQ_block_miss ?_ ?_); (focus exact rfl)) | with_reducible refine JC_ret ?_ | with_reducible refine JQ_end ?_))
  refine JC_lenV (t := 0) 1 rfl rfl (fun hlen => ?_)
  (repeat (first | with_reducible refine JC_seq ?_ | with_reducible refine JQ_then ?_ | with_reducible refine JC_block ?_ | with_reducible refine JC_skip ?_ | with_reducible refine JC_exit ?_ | with_reducible refine JQ_then_exit ?_ | with_reducible refine JQ_then_ret ?_ | with_reducible refine JQ_block ?_ | with_reducible refine JQ_block_ret ?_ | with_reducible refine JQ_hit ?_ | ((with_reducible refine JQ_block_miss ?_ ?_); (focus exact rfl)) | with_reducible refine JC_ret ?_ | with_reducible refine JQ_end ?_))
  refine JC_region ?_
  (refine JL_n rfl (op_box (Ev.rfl' rfl) (by first | exact cells_agg | exact cells_is rfl | exact cells_sl | exact cells_ref | exact cells_lit rfl)) ?_; intro i2)
  (refine JL_n rfl (op_box (Ev.rfl' rfl) (by first | exact cells_agg | exact cells_is rfl | exact cells_sl | exact cells_ref | exact cells_lit rfl)) ?_; intro i3)
  refine JL_1 rfl (op_assign rfl) ?_
  refine JL_nil ?_
  (repeat (first | with_reducible refine JC_seq ?_ | with_reducible refine JQ_then ?_ | with_reducible refine JC_block ?_ | with_reducible refine JC_skip ?_ | with_reducible refine JC_exit ?_ | with_reducible refine JQ_then_exit ?_ | with_reducible refine JQ_then_ret ?_ | with_reducible refine JQ_block ?_ | with_reducible refine JQ_block_ret ?_ | with_reducible refine JQ_hit ?_ | ((with_reducible refine JQ_block_miss ?_ ?_); (focus exact rfl)) | with_reducible refine JC_ret ?_ | with_reducible refine JQ_end ?_))
  (repeat (first | with_reducible refine JC_seq ?_ | with_reducible refine JQ_then ?_ | with_reducible refine JC_block ?_ | with_reducible refine JC_skip ?_ | with_reducible refine JC_exit ?_ | with_reducible refine JQ_then_exit ?_ | with_reducible refine JQ_then_ret ?_ | with_reducible refine JQ_block ?_ | with_reducible refine JQ_block_ret ?_ | with_reducible refine JQ_hit ?_ | ((with_reducible refine JQ_block_miss ?_ ?_); (focus exact rfl)) | with_reducible refine JC_ret ?_ | with_reducible refine JQ_end ?_))
  refine JC_region ?_
  refine JL_1 rfl (by first | exact op_fieldPtr (k := 0) (Ev.rfl' rfl) rfl rfl rfl rfl | exact op_fieldRef (k := 0) (Ev.rfl' rfl) rfl rfl rfl rfl) ?_
  refine JL_1 rfl (by first | exact op_loadRef (Ev.rfl' rfl) rfl rfl rfl | exact op_loadPtr (Ev.rfl' rfl) (by repeat (first | exact List.Mem.head _ | apply List.Mem.tail)) (by rfl) (by rfl) (by rfl)) ?_
  refine JL_1 rfl (by first | exact op_fieldPtr (k := 0) (Ev.rfl' rfl) rfl rfl rfl rfl | exact op_fieldRef (k := 0) (Ev.rfl' rfl) rfl rfl rfl rfl) ?_
  refine JL_1 rfl (by first | exact op_loadRef (Ev.rfl' rfl) rfl rfl rfl | exact op_loadPtr (Ev.rfl' rfl) (by repeat (first | exact List.Mem.head _ | apply List.Mem.tail)) (by rfl) (by rfl) (by rfl)) ?_
  refine JL_1 rfl (op_neq (Ev.rfl' rfl) (Ev.rfl' rfl)) ?_
  refine JL_1 rfl (op_move rfl) ?_
  (first | refine JL_i0 rfl rfl rfl (fun hg => (by (try simp at hg); first | exact op_fieldPtr (k := 1) (by first | exact Ev.rfl' rfl | exact Ev.sub rfl (SubL.iteT (by first | assumption | (simp; done) | (simp_all; done)) SubL.rfl')) rfl rfl rfl rfl | exact op_fieldRef (k := 1) (by first | exact Ev.rfl' rfl | exact Ev.sub rfl (SubL.iteT (by first | assumption | (simp; done) | (simp_all; done)) SubL.rfl')) rfl rfl rfl rfl)) ?_ | refine JL_i rfl rfl rfl (fun hp hg => (by (try simp at hg); first | exact op_fieldPtr (k := 1) (by first | exact Ev.rfl' rfl | exact Ev.sub rfl (SubL.iteT (by first | assumption | (simp; done) | (simp_all; done)) SubL.rfl')) rfl rfl rfl rfl | exact op_fieldRef (k := 1) (by first | exact Ev.rfl' rfl | exact Ev.sub rfl (SubL.iteT (by first | assumption | (simp; done) | (simp_all; done)) SubL.rfl')) rfl rfl rfl rfl)) ?_)
  (first | refine JL_i0 rfl rfl rfl (fun hg => (by (try simp at hg); first | exact op_loadRef (by first | exact Ev.rfl' rfl | exact Ev.sub rfl (SubL.iteT (by first | assumption | (simp; done) | (simp_all; done)) SubL.rfl')) rfl rfl rfl | exact op_loadPtr (by first | exact Ev.rfl' rfl | exact Ev.sub rfl (SubL.iteT (by first | assumption | (simp; done) | (simp_all; done)) SubL.rfl')) (by repeat (first | exact List.Mem.head _ | apply List.Mem.tail)) (by rfl) (by rfl) (by rfl))) ?_ | refine JL_i rfl rfl rfl (fun hp hg => (by (try simp at hg); first | exact op_loadRef (by first | exact Ev.rfl' rfl | exact Ev.sub rfl (SubL.iteT (by first | assumption | (simp; done) | (simp_all; done)) SubL.rfl')) rfl rfl rfl | exact op_loadPtr (by first | exact Ev.rfl' rfl | exact Ev.sub rfl (SubL.iteT (by first | assumption | (simp; done) | (simp_all; done)) SubL.rfl')) (by repeat (first | exact List.Mem.head _ | apply List.Mem.tail)) (by rfl) (by rfl) (by rfl))) ?_)
  (first | refine JL_i0 rfl rfl rfl (fun hg => (by (try simp at hg); first | exact op_len (by first | exact Ev.rfl' rfl | exact Ev.sub rfl (SubL.iteT (by first | assumption | (simp; done) | (simp_all; done)) SubL.rfl')) rfl | exact op_lenLit (by first | exact Ev.rfl' rfl | exact Ev.sub rfl (SubL.iteT (by first | assumption | (simp; done) | (simp_all; done)) SubL.rfl')) rfl)) ?_ | refine JL_i rfl rfl rfl (fun hp hg => (by (try simp at hg); first | exact op_len (by first | exact Ev.rfl' rfl | exact Ev.sub rfl (SubL.iteT (by first | assumption | (simp; done) | (simp_all; done)) SubL.rfl')) rfl | exact op_lenLit (by first | exact Ev.rfl' rfl | exact Ev.sub rfl (SubL.iteT (by first | assumption | (simp; done) | (simp_all; done)) SubL.rfl')) rfl)) ?_)
  (first | refine JL_i0 rfl rfl rfl (fun hg => (by (try simp at hg); first | exact op_fieldPtr (k := 1) (by first | exact Ev.rfl' rfl | exact Ev.sub rfl (SubL.iteT (by first | assumption | (simp; done) | (simp_all; done)) SubL.rfl')) rfl rfl rfl rfl | exact op_fieldRef (k := 1) (by first | exact Ev.rfl' rfl | exact Ev.sub rfl (SubL.iteT (by first | assumption | (simp; done) | (simp_all; done)) SubL.rfl')) rfl rfl rfl rfl)) ?_ | refine JL_i rfl rfl rfl (fun hp hg => (by (try simp at hg); first | exact op_fieldPtr (k := 1) (by first | exact Ev.rfl' rfl | exact Ev.sub rfl (SubL.iteT (by first | assumption | (simp; done) | (simp_all; done)) SubL.rfl')) rfl rfl rfl rfl | exact op_fieldRef (k := 1) (by first | exact Ev.rfl' rfl | exact Ev.sub rfl (SubL.iteT (by first | assumption | (simp; done) | (simp_all; done)) SubL.rfl')) rfl rfl rfl rfl)) ?_)
  (first | refine JL_i0 rfl rfl rfl (fun hg => (by (try simp at hg); first | exact op_loadRef (by first | exact Ev.rfl' rfl | exact Ev.sub rfl (SubL.iteT (by first | assumption | (simp; done) | (simp_all; done)) SubL.rfl')) rfl rfl rfl | exact op_loadPtr (by first | exact Ev.rfl' rfl | exact Ev.sub rfl (SubL.iteT (by first | assumption | (simp; done) | (simp_all; done)) SubL.rfl')) (by repeat (first | exact List.Mem.head _ | apply List.Mem.tail)) (by rfl) (by rfl) (by rfl))) ?_ | refine JL_i rfl rfl rfl (fun hp hg => (by (try simp at hg); first | exact op_loadRef (by first | exact Ev.rfl' rfl | exact Ev.sub rfl (SubL.iteT (by first | assumption | (simp; done) | (simp_all; done)) SubL.rfl')) rfl rfl rfl | exact op_loadPtr (by first | exact Ev.rfl' rfl | exact Ev.sub rfl (SubL.iteT (by first | assumption | (simp; done) | (simp_all; done)) SubL.rfl')) (by repeat (first | exact List.Mem.head _ | apply List.Mem.tail)) (by rfl) (by rfl) (by rfl))) ?_)
  (first | refine JL_i0 rfl rfl rfl (fun hg => (by (try simp at hg); first | exact op_len (by first | exact Ev.rfl' rfl | exact Ev.sub rfl (SubL.iteT (by first | assumption | (simp; done) | (simp_all; done)) SubL.rfl')) rfl | exact op_lenLit (by first | exact Ev.rfl' rfl | exact Ev.sub rfl (SubL.iteT (by first | assumption | (simp; done) | (simp_all; done)) SubL.rfl')) rfl)) ?_ | refine JL_i rfl rfl rfl (fun hp hg => (by (try simp at hg); first | exact op_len (by first | exact Ev.rfl' rfl | exact Ev.sub rfl (SubL.iteT (by first | assumption | (simp; done) | (simp_all; done)) SubL.rfl')) rfl | exact op_lenLit (by first | exact Ev.rfl' rfl | exact Ev.sub rfl (SubL.iteT (by first | assumption | (simp; done) | (simp_all; done)) SubL.rfl')) rfl)) ?_)
  (first | refine JL_i0 rfl rfl rfl (fun hg => (by (try simp at hg); exact op_neq (by first | exact Ev.rfl' rfl | exact Ev.sub rfl (SubL.iteT (by first | assumption | (simp; done) | (simp_all; done)) SubL.rfl')) (by first | exact Ev.rfl' rfl | exact Ev.sub rfl (SubL.iteT (by first | assumption | (simp; done) | (simp_all; done)) SubL.rfl')))) ?_ | refine JL_i rfl rfl rfl (fun hp hg => (by (try simp at hg); exact op_neq (by first | exact Ev.rfl' rfl | exact Ev.sub rfl (SubL.iteT (by first | assumption | (simp; done) | (simp_all; done)) SubL.rfl')) (by first | exact Ev.rfl' rfl | exact Ev.sub rfl (SubL.iteT (by first | assumption | (simp; done) | (simp_all; done)) SubL.rfl')))) ?_)
  refine JL_1 rfl (op_or (Ev.rfl' rfl) rfl (fun h => by first | exact SubL.rfl' | exact SubL.iteT (by first | (rw [h]; rfl) | (simp_all; done)) SubL.rfl')) ?_
  refine JL_nil ?_
  (repeat (first | with_reducible refine JC_seq ?_ | with_reducible refine JQ_then ?_ | with_reducible refine JC_block ?_ | with_reducible refine JC_skip ?_ | with_reducible refine JC_exit ?_ | with_reducible refine JQ_then_exit ?_ | with_reducible refine JQ_then_ret ?_ | with_reducible refine JQ_block ?_ | with_reducible refine JQ_block_ret ?_ | with_reducible refine JQ_hit ?_ | ((with_reducible refine JQ_block_miss ?_ ?_); (focus exact rfl)) | with_reducible refine JC_ret ?_ | with_reducible refine JQ_end ?_))
  refine JC_cond (Ev.rfl' rfl) (fun h => ?_) (fun h => ?_)
  · (repeat (first | with_reducible refine JC_seq ?_ | with_reducible refine JQ_then ?_ | with_reducible refine JC_block ?_ | with_reducible refine JC_skip ?_ | with_reducible refine JC_exit ?_ | with_reducible refine JQ_then_exit ?_ | with_reducible refine JQ_then_ret ?_ | with_reducible refine JQ_block ?_ | with_reducible refine JQ_block_ret ?_ | with_reducible refine JQ_hit ?_ | ((with_reducible refine JQ_block_miss ?_ ?_); (focus exact rfl)) | with_reducible refine JC_ret ?_ | with_reducible refine JQ_end ?_))
    refine JC_region ?_
    refine JL_1 rfl (op_assign rfl) ?_
    refine JL_nil ?_
    (repeat (first | with_reducible refine JC_seq ?_ | with_reducible refine JQ_then ?_ | with_reducible refine JC_block ?_ | with_reducible refine JC_skip ?_ | with_reducible refine JC_exit ?_ | with_reducible refine JQ_then_exit ?_ | with_reducible refine JQ_then_ret ?_ | with_reducible refine JQ_block ?_ | with_reducible refine JQ_block_ret ?_ | with_reducible refine JQ_hit ?_ | ((with_reducible refine JQ_block_miss ?_ ?_); (focus exact rfl)) | with_reducible refine JC_ret ?_ | with_reducible refine JQ_end ?_))
    have e : (n == m && decide (xs = ys)) = false := by
      simp at h ⊢
      rintro rfl rfl
      simp at h
    exact JQ_ret1 Try.results18 rfl () (SubL.eq (by rw [e])) (List.nil_sublist _)
  have hl : n = m ∧ xs.length = ys.length := by simp at h; omega
  obtain ⟨rfl, hl⟩ := hl
  clear h
  (repeat (first | with_reducible refine JC_seq ?_ | with_reducible refine JQ_then ?_ | with_reducible refine JC_block ?_ | with_reducible refine JC_skip ?_ | with_reducible refine JC_exit ?_ | with_reducible refine JQ_then_exit ?_ | with_reducible refine JQ_then_ret ?_ | with_reducible refine JQ_block ?_ | with_reducible refine JQ_block_ret ?_ | with_reducible refine JQ_hit ?_ | ((with_reducible refine JQ_block_miss ?_ ?_); (focus exact rfl)) | with_reducible refine JC_ret ?_ | with_reducible refine JQ_end ?_))
  refine JC_region ?_
  refine JL_1 rfl (op_assign rfl) ?_
  refine JL_nil ?_
  (repeat (first | with_reducible refine JC_seq ?_ | with_reducible refine JQ_then ?_ | with_reducible refine JC_block ?_ | with_reducible refine JC_skip ?_ | with_reducible refine JC_exit ?_ | with_reducible refine JQ_then_exit ?_ | with_reducible refine JQ_then_ret ?_ | with_reducible refine JQ_block ?_ | with_reducible refine JQ_block_ret ?_ | with_reducible refine JQ_hit ?_ | ((with_reducible refine JQ_block_miss ?_ ?_); (focus exact rfl)) | with_reducible refine JC_ret ?_ | with_reducible refine JQ_end ?_))
  refine JC_loop (fun k : Nat => k ≤ xs.length ∧ xs.take k = ys.take k) (fun k => [(2, Is (.pointer (some ⟨i2, 0, none⟩))), (3, Is (.pointer (some ⟨i3, 0, none⟩))), (5, Is (.int .i64 (k : Nat)))]) (fun _ => [blk i3 28 [Is (.int .i64 n), IsSl tMb ys], blk i2 28 [Is (.int .i64 n), IsSl tMb xs]]) (fun k => xs.length - k) 0 ⟨Nat.zero_le _, rfl⟩ (by (repeat (refine ⟨⟨_, rfl, (by (repeat' (first | exact SubL.rfl' | exact SubL.nil | exact SubL.top | exact trivial | refine SubL.agg ?_ | refine SubL.tup ?_ | exact SubL.fact (by repeat (first | exact List.Mem.head _ | apply List.Mem.tail)) | refine SubL.row (by rfl) (by rfl) ?_ | refine SubL.lit rfl ?_ | refine SubL.iteT (by first | assumption | (simp; done) | (simp_all; done)) ?_ | refine ⟨?_, ?_⟩)))⟩, ?_⟩)); exact trivial) (List.Sublist.refl _) ?_
  rintro k ⟨hk, hs⟩
  (repeat (first | with_reducible refine JC_seq ?_ | with_reducible refine JQ_then ?_ | with_reducible refine JC_block ?_ | with_reducible refine JC_skip ?_ | with_reducible refine JC_exit ?_ | with_reducible refine JQ_then_exit ?_ | with_reducible refine JQ_then_ret ?_ | with_reducible refine JQ_block ?_ | with_reducible refine JQ_block_ret ?_ | with_reducible refine JQ_hit ?_ | ((with_reducible refine JQ_block_miss ?_ ?_); (focus exact rfl)) | with_reducible refine JC_ret ?_ | with_reducible refine JQ_end ?_))
  refine JC_region ?_
  refine JL_1 rfl (op_move rfl) ?_
  refine JL_1 rfl (by first | exact op_fieldPtr (k := 1) (Ev.rfl' rfl) rfl rfl rfl rfl | exact op_fieldRef (k := 1) (Ev.rfl' rfl) rfl rfl rfl rfl) ?_
  refine JL_1 rfl (by first | exact op_loadRef (Ev.rfl' rfl) rfl rfl rfl | exact op_loadPtr (Ev.rfl' rfl) (by repeat (first | exact List.Mem.head _ | apply List.Mem.tail)) (by rfl) (by rfl) (by rfl)) ?_
  refine JL_1 rfl (by first | exact op_len (Ev.rfl' rfl) rfl | exact op_lenLit (Ev.rfl' rfl) rfl) ?_
  refine JL_1 rfl (op_lss (Ev.rfl' rfl) (Ev.rfl' rfl)) ?_
  refine JL_nil ?_
  (repeat (first | with_reducible refine JC_seq ?_ | with_reducible refine JQ_then ?_ | with_reducible refine JC_block ?_ | with_reducible refine JC_skip ?_ | with_reducible refine JC_exit ?_ | with_reducible refine JQ_then_exit ?_ | with_reducible refine JQ_then_ret ?_ | with_reducible refine JQ_block ?_ | with_reducible refine JQ_block_ret ?_ | with_reducible refine JQ_hit ?_ | ((with_reducible refine JQ_block_miss ?_ ?_); (focus exact rfl)) | with_reducible refine JC_ret ?_ | with_reducible refine JQ_end ?_))
  refine JC_cond (Ev.rfl' rfl) (fun h => ?_) (fun h => ?_)
  · have h' : (k : Int) < xs.length := of_decide_eq_true h
    clear h
    have hx := Mb.at_get xs k (by omega)
    have hy := Mb.at_get ys k (by omega)
    generalize Mb.at xs k = mx at *
    generalize Mb.at ys k = my at *
    (repeat (first | with_reducible refine JC_seq ?_ | with_reducible refine JQ_then ?_ | with_reducible refine JC_block ?_ | with_reducible refine JC_skip ?_ | with_reducible refine JC_exit ?_ | with_reducible refine JQ_then_exit ?_ | with_reducible refine JQ_then_ret ?_ | with_reducible refine JQ_block ?_ | with_reducible refine JQ_block_ret ?_ | with_reducible refine JQ_hit ?_ | ((with_reducible refine JQ_block_miss ?_ ?_); (focus exact rfl)) | with_reducible refine JC_ret ?_ | with_reducible refine JQ_end ?_))
    refine JC_dr rfl (by kernel_rfl) ?_
    refine JD_stretch 11 (by kernel_rfl) ?_
    refine JW_1 (by first | exact op_fieldPtr (k := 1) (Ev.rfl' rfl) rfl rfl rfl rfl | exact op_fieldRef (k := 1) (Ev.rfl' rfl) rfl rfl rfl rfl) ?_
    refine JW_1 (by first | exact op_loadRef (Ev.rfl' rfl) rfl rfl rfl | exact op_loadPtr (Ev.rfl' rfl) (by repeat (first | exact List.Mem.head _ | apply List.Mem.tail)) (by rfl) (by rfl) (by rfl)) ?_
    refine JW_1 (op_move rfl) ?_
    refine JW_1 (by first | exact op_index (Ev.rfl' rfl) (Ev.rfl' rfl) rfl rfl (by first | rfl | omega) hx | exact op_index (Ev.rfl' rfl) (Ev.rfl' rfl) rfl rfl (by first | rfl | omega) hy | exact op_index (Ev.rfl' rfl) (Ev.rfl' rfl) rfl rfl (by first | rfl | omega) (by assumption)) ?_
    refine JW_1 (by first | exact op_loadRefs (n := 3) (Ev.rfl' rfl) rfl rfl rfl (by rfl) | exact op_loadPtrs (n := 3) (Ev.rfl' rfl) (by repeat (first | exact List.Mem.head _ | apply List.Mem.tail)) (by rfl) (by rfl) (by rfl) (by rfl)) ?_
    refine JW_1 (by first | exact op_fieldPtr (k := 1) (Ev.rfl' rfl) rfl rfl rfl rfl | exact op_fieldRef (k := 1) (Ev.rfl' rfl) rfl rfl rfl rfl) ?_
    refine JW_1 (by first | exact op_loadRef (Ev.rfl' rfl) rfl rfl rfl | exact op_loadPtr (Ev.rfl' rfl) (by repeat (first | exact List.Mem.head _ | apply List.Mem.tail)) (by rfl) (by rfl) (by rfl)) ?_
    refine JW_1 (op_move rfl) ?_
    refine JW_1 (by first | exact op_index (Ev.rfl' rfl) (Ev.rfl' rfl) rfl rfl (by first | rfl | omega) hx | exact op_index (Ev.rfl' rfl) (Ev.rfl' rfl) rfl rfl (by first | rfl | omega) hy | exact op_index (Ev.rfl' rfl) (Ev.rfl' rfl) rfl rfl (by first | rfl | omega) (by assumption)) ?_
    refine JW_1 (by first | exact op_loadRefs (n := 3) (Ev.rfl' rfl) rfl rfl rfl (by rfl) | exact op_loadPtrs (n := 3) (Ev.rfl' rfl) (by repeat (first | exact List.Mem.head _ | apply List.Mem.tail)) (by rfl) (by rfl) (by rfl) (by rfl)) ?_
    refine JW_1 (op_cmpA (vs := Mb.cells mx) (ws := Mb.cells my) (Ev.rfl' rfl) (Ev.rfl' rfl) (eqMb_guard _ _ _ mx my) (eqMb_neq mx my)) ?_
    refine ⟨rfl, ?_⟩
    refine JD_end ?_
    (repeat (first | with_reducible refine JC_seq ?_ | with_reducible refine JQ_then ?_ | with_reducible refine JC_block ?_ | with_reducible refine JC_skip ?_ | with_reducible refine JC_exit ?_ | with_reducible refine JQ_then_exit ?_ | with_reducible refine JQ_then_ret ?_ | with_reducible refine JQ_block ?_ | with_reducible refine JQ_block_ret ?_ | with_reducible refine JQ_hit ?_ | ((with_reducible refine JQ_block_miss ?_ ?_); (focus exact rfl)) | with_reducible refine JC_ret ?_ | with_reducible refine JQ_end ?_))
    refine JC_cond (Ev.rfl' rfl) (fun h => ?_) (fun h => ?_)
    · (repeat (first | with_reducible refine JC_seq ?_ | with_reducible refine JQ_then ?_ | with_reducible refine JC_block ?_ | with_reducible refine JC_skip ?_ | with_reducible refine JC_exit ?_ | with_reducible refine JQ_then_exit ?_ | with_reducible refine JQ_then_ret ?_ | with_reducible refine JQ_block ?_ | with_reducible refine JQ_block_ret ?_ | with_reducible refine JQ_hit ?_ | ((with_reducible refine JQ_block_miss ?_ ?_); (focus exact rfl)) | with_reducible refine JC_ret ?_ | with_reducible refine JQ_end ?_))
      refine JC_region ?_
      refine JL_1 rfl (op_assign rfl) ?_
      refine JL_nil ?_
      (repeat (first | with_reducible refine JC_seq ?_ | with_reducible refine JQ_then ?_ | with_reducible refine JC_block ?_ | with_reducible refine JC_skip ?_ | with_reducible refine JC_exit ?_ | with_reducible refine JQ_then_exit ?_ | with_reducible refine JQ_then_ret ?_ | with_reducible refine JQ_block ?_ | with_reducible refine JQ_block_ret ?_ | with_reducible refine JQ_hit ?_ | ((with_reducible refine JQ_block_miss ?_ ?_); (focus exact rfl)) | with_reducible refine JC_ret ?_ | with_reducible refine JQ_end ?_))
      have e : xs ≠ ys := by
        rintro rfl
        rw [hx] at hy
        simp at hy h
        exact h hy
      exact JQ_ret1 Try.results18 rfl () (SubL.eq (by rw [decide_eq_false e, Bool.and_false])) (List.nil_sublist _)
    have e : mx = my := by simpa using h
    clear h
    (repeat (first | with_reducible refine JC_seq ?_ | with_reducible refine JQ_then ?_ | with_reducible refine JC_block ?_ | with_reducible refine JC_skip ?_ | with_reducible refine JC_exit ?_ | with_reducible refine JQ_then_exit ?_ | with_reducible refine JQ_then_ret ?_ | with_reducible refine JQ_block ?_ | with_reducible refine JQ_block_ret ?_ | with_reducible refine JQ_hit ?_ | ((with_reducible refine JQ_block_miss ?_ ?_); (focus exact rfl)) | with_reducible refine JC_ret ?_ | with_reducible refine JQ_end ?_))
    refine JC_region ?_
    refine JL_1 rfl (op_move rfl) ?_
    refine JL_1 rfl (op_add (Ev.rfl' rfl) (Ev.rfl' rfl) (by first | exact wI64 (by omega) | exact wU64 (by omega) | exact wU32 (by omega) | rfl)) ?_
    refine JL_1 rfl (op_assign rfl) ?_
    refine JL_nil ?_
    (repeat (first | with_reducible refine JC_seq ?_ | with_reducible refine JQ_then ?_ | with_reducible refine JC_block ?_ | with_reducible refine JC_skip ?_ | with_reducible refine JC_exit ?_ | with_reducible refine JQ_then_exit ?_ | with_reducible refine JQ_then_ret ?_ | with_reducible refine JQ_block ?_ | with_reducible refine JQ_block_ret ?_ | with_reducible refine JQ_hit ?_ | ((with_reducible refine JQ_block_miss ?_ ?_); (focus exact rfl)) | with_reducible refine JC_ret ?_ | with_reducible refine JQ_end ?_))
    exact JQ_round (k + 1) ⟨by omega, (take_eq_succ hx hy hs).2 e⟩ (by omega) (by (repeat (refine ⟨⟨_, rfl, (by (repeat' (first | exact SubL.rfl' | exact SubL.nil | exact SubL.top | exact trivial | refine SubL.agg ?_ | refine SubL.tup ?_ | exact SubL.fact (by repeat (first | exact List.Mem.head _ | apply List.Mem.tail)) | refine SubL.row (by rfl) (by rfl) ?_ | refine SubL.lit rfl ?_ | refine SubL.iteT (by first | assumption | (simp; done) | (simp_all; done)) ?_ | refine ⟨?_, ?_⟩)))⟩, ?_⟩)); exact trivial) (by simp)
  have e : xs = ys := by
    have h' : ¬ (k : Int) < xs.length := of_decide_eq_false h
    rw [List.take_of_length_le (by omega), List.take_of_length_le (by omega)] at hs
    exact hs
  clear h
  (repeat (first | with_reducible refine JC_seq ?_ | with_reducible refine JQ_then ?_ | with_reducible refine JC_block ?_ | with_reducible refine JC_skip ?_ | with_reducible refine JC_exit ?_ | with_reducible refine JQ_then_exit ?_ | with_reducible refine JQ_then_ret ?_ | with_reducible refine JQ_block ?_ | with_reducible refine JQ_block_ret ?_ | with_reducible refine JQ_hit ?_ | ((with_reducible refine JQ_block_miss ?_ ?_); (focus exact rfl)) | with_reducible refine JC_ret ?_ | with_reducible refine JQ_end ?_))
  refine JC_region ?_
  refine JL_1 rfl (op_assign rfl) ?_
  refine JL_nil ?_
  (repeat (first | with_reducible refine JC_seq ?_ | with_reducible refine JQ_then ?_ | with_reducible refine JC_block ?_ | with_reducible refine JC_skip ?_ | with_reducible refine JC_exit ?_ | with_reducible refine JQ_then_exit ?_ | with_reducible refine JQ_then_ret ?_ | with_reducible refine JQ_block ?_ | with_reducible refine JQ_block_ret ?_ | with_reducible refine JQ_hit ?_ | ((with_reducible refine JQ_block_miss ?_ ?_); (focus exact rfl)) | with_reducible refine JC_ret ?_ | with_reducible refine JQ_end ?_))
  exact JQ_ret1 Try.results18 rfl () (SubL.eq (by rw [decide_eq_true e]; simp)) (List.nil_sublist _)
set_option maxHeartbeats 1000000 in
-- bodegaref9.Full: function 30
theorem FullR_ok (n : Int) (xs : List Mb) (hl : xs.length ≤ 1000000) : FnP Try.prog 30 [IsView n xs] (IsSl tMb (xs.filter Mb.f)) := by
  refine FnP.enter Try.func30 Try.ntmps30 rfl rfl ?_
  intro c hX
  (repeat (first | with_reducible refine JC_seq ?_ | with_reducible refine JQ_then ?_ | with_reducible refine JC_block ?_ | with_reducible refine JC_skip ?_ | with_reducible refine JC_exit ?_ | with_reducible refine JQ_then_exit ?_ | with_reducible refine JQ_then_ret ?_ | with_reducible refine JQ_block ?_ | with_reducible refine JQ_block_ret ?_ | with_reducible refine JQ_hit ?_ | ((with_reducible refine JQ_block_miss ?_ ?_); (focus exact rfl)) | with_reducible refine JC_ret ?_ | with_reducible refine JQ_end ?_))
  refine JC_buf0 45 tMb ?_
  (repeat (first | with_reducible refine JC_seq ?_ | with_reducible refine JQ_then ?_ | with_reducible refine JC_block ?_ | with_reducible refine JC_skip ?_ | with_reducible refine JC_exit ?_ | with_reducible refine JQ_then_exit ?_ | with_reducible refine JQ_then_ret ?_ | with_reducible refine JQ_block ?_ | with_reducible refine JQ_block_ret ?_ | with_reducible refine JQ_hit ?_ | ((with_reducible refine JQ_block_miss ?_ ?_); (focus exact rfl)) | with_reducible refine JC_ret ?_ | with_reducible refine JQ_end ?_))
  refine JC_region ?_
  (refine JL_n rfl (op_box (Ev.rfl' rfl) (by first | exact cells_agg | exact cells_is rfl | exact cells_sl | exact cells_ref | exact cells_lit rfl)) ?_; intro i1)
  refine JL_1 rfl (op_assign rfl) ?_
  refine JL_nil ?_
  (repeat (first | with_reducible refine JC_seq ?_ | with_reducible refine JQ_then ?_ | with_reducible refine JC_block ?_ | with_reducible refine JC_skip ?_ | with_reducible refine JC_exit ?_ | with_reducible refine JQ_then_exit ?_ | with_reducible refine JQ_then_ret ?_ | with_reducible refine JQ_block ?_ | with_reducible refine JQ_block_ret ?_ | with_reducible refine JQ_hit ?_ | ((with_reducible refine JQ_block_miss ?_ ?_); (focus exact rfl)) | with_reducible refine JC_ret ?_ | with_reducible refine JQ_end ?_))
  (repeat (first | with_reducible refine JC_seq ?_ | with_reducible refine JQ_then ?_ | with_reducible refine JC_block ?_ | with_reducible refine JC_skip ?_ | with_reducible refine JC_exit ?_ | with_reducible refine JQ_then_exit ?_ | with_reducible refine JQ_then_ret ?_ | with_reducible refine JQ_block ?_ | with_reducible refine JQ_block_ret ?_ | with_reducible refine JQ_hit ?_ | ((with_reducible refine JQ_block_miss ?_ ?_); (focus exact rfl)) | with_reducible refine JC_ret ?_ | with_reducible refine JQ_end ?_))
  refine JC_region ?_
  refine JL_1 rfl (op_assign rfl) ?_
  refine JL_nil ?_
  (repeat (first | with_reducible refine JC_seq ?_ | with_reducible refine JQ_then ?_ | with_reducible refine JC_block ?_ | with_reducible refine JC_skip ?_ | with_reducible refine JC_exit ?_ | with_reducible refine JQ_then_exit ?_ | with_reducible refine JQ_then_ret ?_ | with_reducible refine JQ_block ?_ | with_reducible refine JQ_block_ret ?_ | with_reducible refine JQ_hit ?_ | ((with_reducible refine JQ_block_miss ?_ ?_); (focus exact rfl)) | with_reducible refine JC_ret ?_ | with_reducible refine JQ_end ?_))
  (repeat (first | with_reducible refine JC_seq ?_ | with_reducible refine JQ_then ?_ | with_reducible refine JC_block ?_ | with_reducible refine JC_skip ?_ | with_reducible refine JC_exit ?_ | with_reducible refine JQ_then_exit ?_ | with_reducible refine JQ_then_ret ?_ | with_reducible refine JQ_block ?_ | with_reducible refine JQ_block_ret ?_ | with_reducible refine JQ_hit ?_ | ((with_reducible refine JQ_block_miss ?_ ?_); (focus exact rfl)) | with_reducible refine JC_ret ?_ | with_reducible refine JQ_end ?_))
  refine JC_region ?_
  refine JL_1 rfl (op_assign rfl) ?_
  refine JL_nil ?_
  (repeat (first | with_reducible refine JC_seq ?_ | with_reducible refine JQ_then ?_ | with_reducible refine JC_block ?_ | with_reducible refine JC_skip ?_ | with_reducible refine JC_exit ?_ | with_reducible refine JQ_then_exit ?_ | with_reducible refine JQ_then_ret ?_ | with_reducible refine JQ_block ?_ | with_reducible refine JQ_block_ret ?_ | with_reducible refine JQ_hit ?_ | ((with_reducible refine JQ_block_miss ?_ ?_); (focus exact rfl)) | with_reducible refine JC_ret ?_ | with_reducible refine JQ_end ?_))
  refine JC_loop (fun i : Nat × (Option Addr × Nat) => i.1 ≤ xs.length) (fun i => [(1, Is (.pointer (some ⟨i1, 0, none⟩))), (3, Is (slV ((xs.take i.1).filter Mb.f).length i.2)), (4, Is (.int .i64 (i.1 : Nat)))])
    (fun i => [blk i1 28 [Is (.int .i64 n), IsSl tMb xs], buf (slV ((xs.take i.1).filter Mb.f).length i.2) 45 tMb ((xs.take i.1).filter Mb.f)]) (fun i => xs.length - i.1) (0, (none, 0)) (Nat.zero_le _) (by (repeat (refine ⟨⟨_, rfl, (by (repeat' (first | exact SubL.rfl' | exact SubL.nil | exact SubL.top | exact trivial | refine SubL.agg ?_ | refine SubL.tup ?_ | exact SubL.fact (by repeat (first | exact List.Mem.head _ | apply List.Mem.tail)) | refine SubL.row (by rfl) (by rfl) ?_ | refine SubL.lit rfl ?_ | refine SubL.iteT (by first | assumption | (simp; done) | (simp_all; done)) ?_ | refine ⟨?_, ?_⟩)))⟩, ?_⟩)); exact trivial) (List.Sublist.refl _) ?_
  rintro ⟨k, i⟩ hk
  dsimp only at hk ⊢
  (repeat (first | with_reducible refine JC_seq ?_ | with_reducible refine JQ_then ?_ | with_reducible refine JC_block ?_ | with_reducible refine JC_skip ?_ | with_reducible refine JC_exit ?_ | with_reducible refine JQ_then_exit ?_ | with_reducible refine JQ_then_ret ?_ | with_reducible refine JQ_block ?_ | with_reducible refine JQ_block_ret ?_ | with_reducible refine JQ_hit ?_ | ((with_reducible refine JQ_block_miss ?_ ?_); (focus exact rfl)) | with_reducible refine JC_ret ?_ | with_reducible refine JQ_end ?_))
  refine JC_region ?_
  refine JL_1 rfl (op_move rfl) ?_
  refine JL_1 rfl (by first | exact op_fieldPtr (k := 1) (Ev.rfl' rfl) rfl rfl rfl rfl | exact op_fieldRef (k := 1) (Ev.rfl' rfl) rfl rfl rfl rfl) ?_
  refine JL_1 rfl (by first | exact op_loadRef (Ev.rfl' rfl) rfl rfl rfl | exact op_loadPtr (Ev.rfl' rfl) (by repeat (first | exact List.Mem.head _ | apply List.Mem.tail)) (by rfl) (by rfl) (by rfl)) ?_
  refine JL_1 rfl (by first | exact op_len (Ev.rfl' rfl) rfl | exact op_lenLit (Ev.rfl' rfl) rfl) ?_
  refine JL_1 rfl (op_lss (Ev.rfl' rfl) (Ev.rfl' rfl)) ?_
  refine JL_nil ?_
  (repeat (first | with_reducible refine JC_seq ?_ | with_reducible refine JQ_then ?_ | with_reducible refine JC_block ?_ | with_reducible refine JC_skip ?_ | with_reducible refine JC_exit ?_ | with_reducible refine JQ_then_exit ?_ | with_reducible refine JQ_then_ret ?_ | with_reducible refine JQ_block ?_ | with_reducible refine JQ_block_ret ?_ | with_reducible refine JQ_hit ?_ | ((with_reducible refine JQ_block_miss ?_ ?_); (focus exact rfl)) | with_reducible refine JC_ret ?_ | with_reducible refine JQ_end ?_))
  refine JC_cond (Ev.rfl' rfl) (fun h => ?_) (fun h => ?_)
  · have h' : (k : Int) < xs.length := of_decide_eq_true h
    clear h
    have hx := Mb.at_get xs k (by omega)
    generalize Mb.at xs k = mx at *
    have hF : (xs.take (k + 1)).filter Mb.f = (xs.take k).filter Mb.f ++ if mx.f then [mx] else [] := by
      rw [List.take_add_one, hx, List.filter_append]
      cases hf : mx.f <;> simp [hf]
    have hFl : ((xs.take k).filter Mb.f).length ≤ k := Nat.le_trans (List.length_filter_le _ _) (List.length_take_le _ _)
    (repeat (first | with_reducible refine JC_seq ?_ | with_reducible refine JQ_then ?_ | with_reducible refine JC_block ?_ | with_reducible refine JC_skip ?_ | with_reducible refine JC_exit ?_ | with_reducible refine JQ_then_exit ?_ | with_reducible refine JQ_then_ret ?_ | with_reducible refine JQ_block ?_ | with_reducible refine JQ_block_ret ?_ | with_reducible refine JQ_hit ?_ | ((with_reducible refine JQ_block_miss ?_ ?_); (focus exact rfl)) | with_reducible refine JC_ret ?_ | with_reducible refine JQ_end ?_))
    refine JC_region ?_
    refine JL_1 rfl (by first | exact op_fieldPtr (k := 1) (Ev.rfl' rfl) rfl rfl rfl rfl | exact op_fieldRef (k := 1) (Ev.rfl' rfl) rfl rfl rfl rfl) ?_
    refine JL_1 rfl (by first | exact op_loadRef (Ev.rfl' rfl) rfl rfl rfl | exact op_loadPtr (Ev.rfl' rfl) (by repeat (first | exact List.Mem.head _ | apply List.Mem.tail)) (by rfl) (by rfl) (by rfl)) ?_
    refine JL_1 rfl (op_move rfl) ?_
    refine JL_1 rfl (by first | exact op_index (Ev.rfl' rfl) (Ev.rfl' rfl) rfl rfl (by first | rfl | omega) hx | exact op_index (Ev.rfl' rfl) (Ev.rfl' rfl) rfl rfl (by first | rfl | omega) (by assumption)) ?_
    refine JL_1 rfl (by first | exact op_fieldPtr (k := 2) (Ev.rfl' rfl) rfl rfl rfl rfl | exact op_fieldRef (k := 2) (Ev.rfl' rfl) rfl rfl rfl rfl) ?_
    refine JL_1 rfl (by first | exact op_loadRef (Ev.rfl' rfl) rfl rfl rfl | exact op_loadPtr (Ev.rfl' rfl) (by repeat (first | exact List.Mem.head _ | apply List.Mem.tail)) (by rfl) (by rfl) (by rfl)) ?_
    refine JL_nil ?_
    (repeat (first | with_reducible refine JC_seq ?_ | with_reducible refine JQ_then ?_ | with_reducible refine JC_block ?_ | with_reducible refine JC_skip ?_ | with_reducible refine JC_exit ?_ | with_reducible refine JQ_then_exit ?_ | with_reducible refine JQ_then_ret ?_ | with_reducible refine JQ_block ?_ | with_reducible refine JQ_block_ret ?_ | with_reducible refine JQ_hit ?_ | ((with_reducible refine JQ_block_miss ?_ ?_); (focus exact rfl)) | with_reducible refine JC_ret ?_ | with_reducible refine JQ_end ?_))
    refine JC_cond (Ev.rfl' rfl) (fun h => ?_) (fun h => ?_)
    · rw [h, if_pos rfl] at hF
      (repeat (first | with_reducible refine JC_seq ?_ | with_reducible refine JQ_then ?_ | with_reducible refine JC_block ?_ | with_reducible refine JC_skip ?_ | with_reducible refine JC_exit ?_ | with_reducible refine JQ_then_exit ?_ | with_reducible refine JQ_then_ret ?_ | with_reducible refine JQ_block ?_ | with_reducible refine JQ_block_ret ?_ | with_reducible refine JQ_hit ?_ | ((with_reducible refine JQ_block_miss ?_ ?_); (focus exact rfl)) | with_reducible refine JC_ret ?_ | with_reducible refine JQ_end ?_))
      refine JC_region ?_
      refine JL_1 rfl (op_move rfl) ?_
      refine JL_1 rfl (by first | exact op_fieldPtr (k := 1) (Ev.rfl' rfl) rfl rfl rfl rfl | exact op_fieldRef (k := 1) (Ev.rfl' rfl) rfl rfl rfl rfl) ?_
      refine JL_1 rfl (by first | exact op_loadRef (Ev.rfl' rfl) rfl rfl rfl | exact op_loadPtr (Ev.rfl' rfl) (by repeat (first | exact List.Mem.head _ | apply List.Mem.tail)) (by rfl) (by rfl) (by rfl)) ?_
      refine JL_1 rfl (op_move rfl) ?_
      refine JL_1 rfl (by first | exact op_index (Ev.rfl' rfl) (Ev.rfl' rfl) rfl rfl (by first | rfl | omega) hx | exact op_index (Ev.rfl' rfl) (Ev.rfl' rfl) rfl rfl (by first | rfl | omega) (by assumption)) ?_
      refine JL_1 rfl (by first | exact op_loadRefs (n := 3) (Ev.rfl' rfl) rfl rfl rfl (by rfl) | exact op_loadPtrs (n := 3) (Ev.rfl' rfl) (by repeat (first | exact List.Mem.head _ | apply List.Mem.tail)) (by rfl) (by rfl) (by rfl) (by rfl)) ?_
      refine JL_1 rfl (op_buildSlice (size := 3) (qs := [(0, _)]) rfl rfl rfl ⟨⟨rfl, _, (Ev.rfl' rfl), (by first | exact cells_agg | exact cells_is rfl | exact cells_sl | exact cells_ref | exact cells_lit rfl)⟩, trivial⟩ (by rfl) (by rfl)) ?_
      (refine JL_s rfl (op_app (Ev.rfl' rfl) (fun _ => (by repeat (first | exact Repl.head _ _ _ | apply Repl.tail))) (by first | exact Ev.rfl' rfl | exact Ev.sub rfl (by first | exact SubL.row (xs := [mx]) (by rfl) (by rfl) (by (repeat' (first | exact SubL.rfl' | exact SubL.nil | exact SubL.top | exact trivial | refine SubL.agg ?_ | refine SubL.tup ?_ | exact SubL.fact (by repeat (first | exact List.Mem.head _ | apply List.Mem.tail)) | refine SubL.row (by rfl) (by rfl) ?_ | refine SubL.lit rfl ?_ | refine SubL.iteT (by first | assumption | (simp; done) | (simp_all; done)) ?_ | refine ⟨?_, ?_⟩))) | (repeat' (first | exact SubL.rfl' | exact SubL.nil | exact SubL.top | exact trivial | refine SubL.agg ?_ | refine SubL.tup ?_ | exact SubL.fact (by repeat (first | exact List.Mem.head _ | apply List.Mem.tail)) | refine SubL.row (by rfl) (by rfl) ?_ | refine SubL.lit rfl ?_ | refine SubL.iteT (by first | assumption | (simp; done) | (simp_all; done)) ?_ | refine ⟨?_, ?_⟩)))) (by exact appT rfl rfl rfl) (by first | omega | (simp; omega))) ?_; intro i25)
      refine JL_1 rfl (op_assign rfl) ?_
      refine JL_nil ?_
      (repeat (first | with_reducible refine JC_seq ?_ | with_reducible refine JQ_then ?_ | with_reducible refine JC_block ?_ | with_reducible refine JC_skip ?_ | with_reducible refine JC_exit ?_ | with_reducible refine JQ_then_exit ?_ | with_reducible refine JQ_then_ret ?_ | with_reducible refine JQ_block ?_ | with_reducible refine JQ_block_ret ?_ | with_reducible refine JQ_hit ?_ | ((with_reducible refine JQ_block_miss ?_ ?_); (focus exact rfl)) | with_reducible refine JC_ret ?_ | with_reducible refine JQ_end ?_))
      rw [← hF]
      (repeat (first | with_reducible refine JC_seq ?_ | with_reducible refine JQ_then ?_ | with_reducible refine JC_block ?_ | with_reducible refine JC_skip ?_ | with_reducible refine JC_exit ?_ | with_reducible refine JQ_then_exit ?_ | with_reducible refine JQ_then_ret ?_ | with_reducible refine JQ_block ?_ | with_reducible refine JQ_block_ret ?_ | with_reducible refine JQ_hit ?_ | ((with_reducible refine JQ_block_miss ?_ ?_); (focus exact rfl)) | with_reducible refine JC_ret ?_ | with_reducible refine JQ_end ?_))
      refine JC_region ?_
      refine JL_1 rfl (op_move rfl) ?_
      refine JL_1 rfl (op_add (Ev.rfl' rfl) (Ev.rfl' rfl) (by first | exact wI64 (by omega) | exact wU64 (by omega) | exact wU32 (by omega) | rfl)) ?_
      refine JL_1 rfl (op_assign rfl) ?_
      refine JL_nil ?_
      (repeat (first | with_reducible refine JC_seq ?_ | with_reducible refine JQ_then ?_ | with_reducible refine JC_block ?_ | with_reducible refine JC_skip ?_ | with_reducible refine JC_exit ?_ | with_reducible refine JQ_then_exit ?_ | with_reducible refine JQ_then_ret ?_ | with_reducible refine JQ_block ?_ | with_reducible refine JQ_block_ret ?_ | with_reducible refine JQ_hit ?_ | ((with_reducible refine JQ_block_miss ?_ ?_); (focus exact rfl)) | with_reducible refine JC_ret ?_ | with_reducible refine JQ_end ?_))
      exact JQ_round (k + 1, i25) (by omega) (by dsimp only; omega) (by (repeat (refine ⟨⟨_, rfl, (by (repeat' (first | exact SubL.rfl' | exact SubL.nil | exact SubL.top | exact trivial | refine SubL.agg ?_ | refine SubL.tup ?_ | exact SubL.fact (by repeat (first | exact List.Mem.head _ | apply List.Mem.tail)) | refine SubL.row (by rfl) (by rfl) ?_ | refine SubL.lit rfl ?_ | refine SubL.iteT (by first | assumption | (simp; done) | (simp_all; done)) ?_ | refine ⟨?_, ?_⟩)))⟩, ?_⟩)); exact trivial) (List.Sublist.refl _)
    · rw [h] at hF
      simp only [Bool.false_eq_true, if_false, List.append_nil] at hF
      rw [← hF]
      (repeat (first | with_reducible refine JC_seq ?_ | with_reducible refine JQ_then ?_ | with_reducible refine JC_block ?_ | with_reducible refine JC_skip ?_ | with_reducible refine JC_exit ?_ | with_reducible refine JQ_then_exit ?_ | with_reducible refine JQ_then_ret ?_ | with_reducible refine JQ_block ?_ | with_reducible refine JQ_block_ret ?_ | with_reducible refine JQ_hit ?_ | ((with_reducible refine JQ_block_miss ?_ ?_); (focus exact rfl)) | with_reducible refine JC_ret ?_ | with_reducible refine JQ_end ?_))
      refine JC_region ?_
      refine JL_1 rfl (op_move rfl) ?_
      refine JL_1 rfl (op_add (Ev.rfl' rfl) (Ev.rfl' rfl) (by first | exact wI64 (by omega) | exact wU64 (by omega) | exact wU32 (by omega) | rfl)) ?_
      refine JL_1 rfl (op_assign rfl) ?_
      refine JL_nil ?_
      (repeat (first | with_reducible refine JC_seq ?_ | with_reducible refine JQ_then ?_ | with_reducible refine JC_block ?_ | with_reducible refine JC_skip ?_ | with_reducible refine JC_exit ?_ | with_reducible refine JQ_then_exit ?_ | with_reducible refine JQ_then_ret ?_ | with_reducible refine JQ_block ?_ | with_reducible refine JQ_block_ret ?_ | with_reducible refine JQ_hit ?_ | ((with_reducible refine JQ_block_miss ?_ ?_); (focus exact rfl)) | with_reducible refine JC_ret ?_ | with_reducible refine JQ_end ?_))
      exact JQ_round (k + 1, i) (by omega) (by dsimp only; omega) (by (repeat (refine ⟨⟨_, rfl, (by (repeat' (first | exact SubL.rfl' | exact SubL.nil | exact SubL.top | exact trivial | refine SubL.agg ?_ | refine SubL.tup ?_ | exact SubL.fact (by repeat (first | exact List.Mem.head _ | apply List.Mem.tail)) | refine SubL.row (by rfl) (by rfl) ?_ | refine SubL.lit rfl ?_ | refine SubL.iteT (by first | assumption | (simp; done) | (simp_all; done)) ?_ | refine ⟨?_, ?_⟩)))⟩, ?_⟩)); exact trivial) (List.Sublist.refl _)
  have hkl : k = xs.length := by have := of_decide_eq_false h; omega
  subst hkl
  rw [List.take_length]
  clear h
  (repeat (first | with_reducible refine JC_seq ?_ | with_reducible refine JQ_then ?_ | with_reducible refine JC_block ?_ | with_reducible refine JC_skip ?_ | with_reducible refine JC_exit ?_ | with_reducible refine JQ_then_exit ?_ | with_reducible refine JQ_then_ret ?_ | with_reducible refine JQ_block ?_ | with_reducible refine JQ_block_ret ?_ | with_reducible refine JQ_hit ?_ | ((with_reducible refine JQ_block_miss ?_ ?_); (focus exact rfl)) | with_reducible refine JC_ret ?_ | with_reducible refine JQ_end ?_))
  refine JC_region ?_
  refine JL_1 rfl (op_move rfl) ?_
  refine JL_1 rfl (op_assign rfl) ?_
  refine JL_nil ?_
  (repeat (first | with_reducible refine JC_seq ?_ | with_reducible refine JQ_then ?_ | with_reducible refine JC_block ?_ | with_reducible refine JC_skip ?_ | with_reducible refine JC_exit ?_ | with_reducible refine JQ_then_exit ?_ | with_reducible refine JQ_then_ret ?_ | with_reducible refine JQ_block ?_ | with_reducible refine JQ_block_ret ?_ | with_reducible refine JQ_hit ?_ | ((with_reducible refine JQ_block_miss ?_ ?_); (focus exact rfl)) | with_reducible refine JC_ret ?_ | with_reducible refine JQ_end ?_))
  refine JQ_freeze hX (by repeat (first | exact Repl.head _ _ _ | apply Repl.tail)) ?_
  exact JQ_ret1 Try.results30 rfl () (SubL.fact (by repeat (first | exact List.Mem.head _ | apply List.Mem.tail))) (List.nil_sublist _)
end Go.Proofs.Ythppeaelfcmafaa
