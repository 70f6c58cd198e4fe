/- Texts of this claim, laid together (part 3): walks of functions, what they compute, and plain laws of it. Own work. -/
import Derived.Deep.WholeRow
import Derived.Lib.SlBytesConst
import Derived.Laws.OwnMore
import Derived.OwnWalk
import Derived.Deep.OwnRows
import Derived.Test.YtccgnekcbdkilaaM2LogrecValid
/- Contracts: the closure of Valid; the search with it. Own work. -/
namespace Go.Proofs.Ytccgnekcbdkilaa
open Go.RowKit
set_option linter.unusedVariables false
set_option linter.unusedSimpArgs false
set_option maxRecDepth 100000
def outB (lines : Int) (p : Pg) : Bool := decide (p.l < 96) || decide (p.l ≥ lines)
-- logrec.Valid$1: function 37
theorem ValidC_ok (p : Pg) (lines : Int) : FnP Try.prog 37 [IsPg p, IsRef [Is (.int .i64 lines)]] (Is (.bool (outB lines p))) := by
  refine FnP.enter Try.func37 Try.ntmps37 rfl rfl ?_
  intro c hX
  (repeat (first | with_reducible refine JC_seq ?_ | with_reducible refine JQ_then ?_ | with_reducible refine JC_block ?_ | with_reducible refine JC_skip ?_ | with_reducible refine JC_exit ?_ | with_reducible refine JQ_then_exit ?_ | with_reducible refine JQ_then_ret ?_ | with_reducible refine JQ_block ?_ | with_reducible refine JQ_block_ret ?_ | with_reducible refine JQ_hit ?_ | ((with_reducible refine JQ_block_miss ?_ ?_); (focus exact rfl)) | with_reducible refine JC_ret ?_ | with_reducible refine JQ_end ?_))
  refine JC_region ?_
  (refine JL_n rfl (op_box (Ev.rfl' rfl) cellsT) ?_; intro i2)
  refine JL_1 rfl (op_assign rfl) ?_
  refine JL_nil ?_
  (repeat (first | with_reducible refine JC_seq ?_ | with_reducible refine JQ_then ?_ | with_reducible refine JC_block ?_ | with_reducible refine JC_skip ?_ | with_reducible refine JC_exit ?_ | with_reducible refine JQ_then_exit ?_ | with_reducible refine JQ_then_ret ?_ | with_reducible refine JQ_block ?_ | with_reducible refine JQ_block_ret ?_ | with_reducible refine JQ_hit ?_ | ((with_reducible refine JQ_block_miss ?_ ?_); (focus exact rfl)) | with_reducible refine JC_ret ?_ | with_reducible refine JQ_end ?_))
  (repeat (first | with_reducible refine JC_seq ?_ | with_reducible refine JQ_then ?_ | with_reducible refine JC_block ?_ | with_reducible refine JC_skip ?_ | with_reducible refine JC_exit ?_ | with_reducible refine JQ_then_exit ?_ | with_reducible refine JQ_then_ret ?_ | with_reducible refine JQ_block ?_ | with_reducible refine JQ_block_ret ?_ | with_reducible refine JQ_hit ?_ | ((with_reducible refine JQ_block_miss ?_ ?_); (focus exact rfl)) | with_reducible refine JC_ret ?_ | with_reducible refine JQ_end ?_))
  refine JC_region ?_
  refine JL_1 rfl (by first | exact op_fieldPtr (k := 0) (Ev.rfl' rfl) rfl rfl rfl rfl | exact op_fieldRefN (k := 0) (Ev.rfl' rfl) rfl rfl rfl rfl nrmT) ?_
  refine JL_1 rfl (by first | exact op_loadRef (Ev.rfl' rfl) rfl rfl rfl | exact op_loadPtr (Ev.rfl' rfl) memT (by rfl) (by rfl) (by rfl)) ?_
  refine JL_1 rfl (op_lss (Ev.rfl' rfl) (Ev.rfl' rfl)) ?_
  refine JL_1 rfl (op_move rfl) ?_
  (first | refine JL_i0 rfl rfl rfl (fun hg => (by have hg0 := hg; (try simp at hg); first | exact op_fieldPtr (k := 0) evG rfl rfl rfl rfl | exact op_fieldRefN (k := 0) evG rfl rfl rfl rfl nrmT)) ?_ | refine JL_i rfl rfl rfl (fun hp hg => (by have hpg := Bool.and_eq_true_iff.2 ⟨hp, hg⟩; have hg0 := hg; (try simp at hg); first | exact op_fieldPtr (k := 0) evG rfl rfl rfl rfl | exact op_fieldRefN (k := 0) evG rfl rfl rfl rfl nrmT)) ?_)
  (first | refine JL_i0 rfl rfl rfl (fun hg => (by have hg0 := hg; (try simp at hg); first | exact op_loadRef evG rfl rfl rfl | exact op_loadPtr evG memT (by rfl) (by rfl) (by rfl))) ?_ | refine JL_i rfl rfl rfl (fun hp hg => (by have hpg := Bool.and_eq_true_iff.2 ⟨hp, hg⟩; have hg0 := hg; (try simp at hg); first | exact op_loadRef evG rfl rfl rfl | exact op_loadPtr evG memT (by rfl) (by rfl) (by rfl))) ?_)
  (first | refine JL_i0 rfl rfl rfl (fun hg => (by have hg0 := hg; (try simp at hg); first | exact op_loadRef evG rfl rfl rfl | exact op_loadPtr evG memT (by rfl) (by rfl) (by rfl))) ?_ | refine JL_i rfl rfl rfl (fun hp hg => (by have hpg := Bool.and_eq_true_iff.2 ⟨hp, hg⟩; have hg0 := hg; (try simp at hg); first | exact op_loadRef evG rfl rfl rfl | exact op_loadPtr evG memT (by rfl) (by rfl) (by rfl))) ?_)
  (first | refine JL_i0 rfl rfl rfl (fun hg => (by have hg0 := hg; (try simp at hg); exact op_geq evG evG)) ?_ | refine JL_i rfl rfl rfl (fun hp hg => (by have hpg := Bool.and_eq_true_iff.2 ⟨hp, hg⟩; have hg0 := hg; (try simp at hg); exact op_geq evG evG)) ?_)
  refine JL_1 rfl (op_or (Ev.rfl' rfl) rfl (fun h => by first | exact SubL.rfl' | exact SubL.iteT (by first | (rw [h]; rfl) | (simp_all; done)) SubL.rfl')) ?_
  refine JL_1 rfl (op_assign rfl) ?_
  refine JL_nil ?_
  (repeat (first | with_reducible refine JC_seq ?_ | with_reducible refine JQ_then ?_ | with_reducible refine JC_block ?_ | with_reducible refine JC_skip ?_ | with_reducible refine JC_exit ?_ | with_reducible refine JQ_then_exit ?_ | with_reducible refine JQ_then_ret ?_ | with_reducible refine JQ_block ?_ | with_reducible refine JQ_block_ret ?_ | with_reducible refine JQ_hit ?_ | ((with_reducible refine JQ_block_miss ?_ ?_); (focus exact rfl)) | with_reducible refine JC_ret ?_ | with_reducible refine JQ_end ?_))
  exact JQ_ret1 Try.results37 rfl () SubL.rfl' (List.nil_sublist _)
/-- The place of the first that passes, -1 if there is none. -/
def firstAt (q : Pg → Bool) : List Pg → Nat → Int
  | [], _ => -1
  | m :: ms, k => if q m then (k : Int) else firstAt q ms (k + 1)
theorem firstAt_drop {q : Pg → Bool} {ms : List Pg} {k : Nat} {m : Pg} (h : ms[k]? = some m) : firstAt q (ms.drop k) k = if q m then (k : Int) else firstAt q (ms.drop (k + 1)) (k + 1) := by
  have hl : k < ms.length := (List.getElem?_eq_some_iff.1 h).1
  rw [List.drop_eq_getElem_cons hl]
  have : ms[k] = m := by rw [List.getElem?_eq_getElem hl] at h; exact Option.some.inj h
  rw [this]; rfl
theorem firstAt_any (q : Pg → Bool) : ∀ (ms : List Pg) (k : Nat), decide (firstAt q ms k ≥ 0) = ms.any q
  | [], _ => rfl
  | m :: ms, k => by
    unfold firstAt
    cases h : q m
    · simp [h]; exact firstAt_any q ms (k + 1)
    · simp [h]
set_option maxHeartbeats 1000000 in
-- slices.IndexFunc[[]bodega/api.Page,bodega/api.Page]: function 53
theorem IndexOut_ok (ms : List Pg) (lines : Int) : FnP Try.prog 53 [IsSl tPg ms, IsFn 37 [IsRef [Is (.int .i64 lines)]]] (Is (.int .i64 (firstAt (outB lines) ms 0))) := by
  refine FnP.enter Try.func53 Try.ntmps53 rfl rfl ?_
  intro c hX
  refine JC_len (t := 0) rfl (fun hlen => ?_)
  (repeat (first | with_reducible refine JC_seq ?_ | with_reducible refine JQ_then ?_ | with_reducible refine JC_block ?_ | with_reducible refine JC_skip ?_ | with_reducible refine JC_exit ?_ | with_reducible refine JQ_then_exit ?_ | with_reducible refine JQ_then_ret ?_ | with_reducible refine JQ_block ?_ | with_reducible refine JQ_block_ret ?_ | with_reducible refine JQ_hit ?_ | ((with_reducible refine JQ_block_miss ?_ ?_); (focus exact rfl)) | with_reducible refine JC_ret ?_ | with_reducible refine JQ_end ?_))
  refine JC_region ?_
  refine JL_1 rfl (op_assign rfl) ?_
  refine JL_nil ?_
  (repeat (first | with_reducible refine JC_seq ?_ | with_reducible refine JQ_then ?_ | with_reducible refine JC_block ?_ | with_reducible refine JC_skip ?_ | with_reducible refine JC_exit ?_ | with_reducible refine JQ_then_exit ?_ | with_reducible refine JQ_then_ret ?_ | with_reducible refine JQ_block ?_ | with_reducible refine JQ_block_ret ?_ | with_reducible refine JQ_hit ?_ | ((with_reducible refine JQ_block_miss ?_ ?_); (focus exact rfl)) | with_reducible refine JC_ret ?_ | with_reducible refine JQ_end ?_))
  (repeat (first | with_reducible refine JC_seq ?_ | with_reducible refine JQ_then ?_ | with_reducible refine JC_block ?_ | with_reducible refine JC_skip ?_ | with_reducible refine JC_exit ?_ | with_reducible refine JQ_then_exit ?_ | with_reducible refine JQ_then_ret ?_ | with_reducible refine JQ_block ?_ | with_reducible refine JQ_block_ret ?_ | with_reducible refine JQ_hit ?_ | ((with_reducible refine JQ_block_miss ?_ ?_); (focus exact rfl)) | with_reducible refine JC_ret ?_ | with_reducible refine JQ_end ?_))
  refine JC_region ?_
  refine JL_1 rfl (op_move rfl) ?_
  refine JL_1 rfl (by first | exact op_len (Ev.rfl' rfl) rfl | exact op_lenLit (Ev.rfl' rfl) rfl) ?_
  refine JL_1 rfl (op_move rfl) ?_
  refine JL_nil ?_
  (repeat (first | with_reducible refine JC_seq ?_ | with_reducible refine JQ_then ?_ | with_reducible refine JC_block ?_ | with_reducible refine JC_skip ?_ | with_reducible refine JC_exit ?_ | with_reducible refine JQ_then_exit ?_ | with_reducible refine JQ_then_ret ?_ | with_reducible refine JQ_block ?_ | with_reducible refine JQ_block_ret ?_ | with_reducible refine JQ_hit ?_ | ((with_reducible refine JQ_block_miss ?_ ?_); (focus exact rfl)) | with_reducible refine JC_ret ?_ | with_reducible refine JQ_end ?_))
  refine JC_loopP (fun k : Nat => k ≤ ms.length ∧ firstAt (outB lines) ms 0 = firstAt (outB lines) (ms.drop k) k) (fun i => [(0, IsSl tPg ms), (1, IsFn 37 [IsRef [Is (.int .i64 lines)]]), (7, Is (.int .i64 ms.length)), (8, Is (.int .i64 (i : Nat)))]) (fun _ => []) (fun i => ms.length - i) 0 ⟨Nat.zero_le _, rfl⟩ esubT lessT ?_
  rintro k ⟨hk, hs⟩
  (repeat (first | with_reducible refine JC_seq ?_ | with_reducible refine JQ_then ?_ | with_reducible refine JC_block ?_ | with_reducible refine JC_skip ?_ | with_reducible refine JC_exit ?_ | with_reducible refine JQ_then_exit ?_ | with_reducible refine JQ_then_ret ?_ | with_reducible refine JQ_block ?_ | with_reducible refine JQ_block_ret ?_ | with_reducible refine JQ_hit ?_ | ((with_reducible refine JQ_block_miss ?_ ?_); (focus exact rfl)) | with_reducible refine JC_ret ?_ | with_reducible refine JQ_end ?_))
  refine JC_region ?_
  refine JL_1 rfl (op_lss (Ev.rfl' rfl) (Ev.rfl' rfl)) ?_
  refine JL_nil ?_
  (repeat (first | with_reducible refine JC_seq ?_ | with_reducible refine JQ_then ?_ | with_reducible refine JC_block ?_ | with_reducible refine JC_skip ?_ | with_reducible refine JC_exit ?_ | with_reducible refine JQ_then_exit ?_ | with_reducible refine JQ_then_ret ?_ | with_reducible refine JQ_block ?_ | with_reducible refine JQ_block_ret ?_ | with_reducible refine JQ_hit ?_ | ((with_reducible refine JQ_block_miss ?_ ?_); (focus exact rfl)) | with_reducible refine JC_ret ?_ | with_reducible refine JQ_end ?_))
  refine JC_cond (Ev.rfl' rfl) (fun h => ?_) (fun h => ?_)
  · have h' : (k : Int) < ms.length := of_decide_eq_true h
    obtain ⟨m, hz⟩ : ∃ m, ms[k]? = some m := ⟨ms[k], List.getElem?_eq_getElem (by omega)⟩
    rw [firstAt_drop hz] at hs
    clear h
    (repeat (first | with_reducible refine JC_seq ?_ | with_reducible refine JQ_then ?_ | with_reducible refine JC_block ?_ | with_reducible refine JC_skip ?_ | with_reducible refine JC_exit ?_ | with_reducible refine JQ_then_exit ?_ | with_reducible refine JQ_then_ret ?_ | with_reducible refine JQ_block ?_ | with_reducible refine JQ_block_ret ?_ | with_reducible refine JQ_hit ?_ | ((with_reducible refine JQ_block_miss ?_ ?_); (focus exact rfl)) | with_reducible refine JC_ret ?_ | with_reducible refine JQ_end ?_))
    refine JC_region ?_
    refine JL_1 rfl (op_move rfl) ?_
    refine JL_1 rfl (op_assign rfl) ?_
    refine JL_nil ?_
    (repeat (first | with_reducible refine JC_seq ?_ | with_reducible refine JQ_then ?_ | with_reducible refine JC_block ?_ | with_reducible refine JC_skip ?_ | with_reducible refine JC_exit ?_ | with_reducible refine JQ_then_exit ?_ | with_reducible refine JQ_then_ret ?_ | with_reducible refine JQ_block ?_ | with_reducible refine JQ_block_ret ?_ | with_reducible refine JQ_hit ?_ | ((with_reducible refine JQ_block_miss ?_ ?_); (focus exact rfl)) | with_reducible refine JC_ret ?_ | with_reducible refine JQ_end ?_))
    (repeat (first | with_reducible refine JC_seq ?_ | with_reducible refine JQ_then ?_ | with_reducible refine JC_block ?_ | with_reducible refine JC_skip ?_ | with_reducible refine JC_exit ?_ | with_reducible refine JQ_then_exit ?_ | with_reducible refine JQ_then_ret ?_ | with_reducible refine JQ_block ?_ | with_reducible refine JQ_block_ret ?_ | with_reducible refine JQ_hit ?_ | ((with_reducible refine JQ_block_miss ?_ ?_); (focus exact rfl)) | with_reducible refine JC_ret ?_ | with_reducible refine JQ_end ?_))
    refine JC_region ?_
    refine JL_1 rfl (op_move rfl) ?_
    refine JL_1 rfl (op_move rfl) ?_
    refine JL_1 rfl (op_move rfl) ?_
    refine JL_1 rfl (by first | exact op_index (j := _) (Ev.rfl' rfl) (Ev.rfl' rfl) rfl rfl (by first | rfl | omega) (by assumption)) ?_
    refine JL_1 rfl (by first | exact op_loadRefsN (n := 9) (Ev.rfl' rfl) rfl rfl rfl (by rfl) nrmT | exact op_loadPtrsN (n := 9) (Ev.rfl' rfl) memT (by rfl) (by rfl) (by rfl) (by rfl) nrmT) ?_
    refine JL_1 rfl (op_callFn (As := [IsPg m]) (Ev.rfl' rfl) Try.call37 (ValidC_ok m lines) ⟨evS, trivial⟩) ?_
    refine JL_nil ?_
    (repeat (first | with_reducible refine JC_seq ?_ | with_reducible refine JQ_then ?_ | with_reducible refine JC_block ?_ | with_reducible refine JC_skip ?_ | with_reducible refine JC_exit ?_ | with_reducible refine JQ_then_exit ?_ | with_reducible refine JQ_then_ret ?_ | with_reducible refine JQ_block ?_ | with_reducible refine JQ_block_ret ?_ | with_reducible refine JQ_hit ?_ | ((with_reducible refine JQ_block_miss ?_ ?_); (focus exact rfl)) | with_reducible refine JC_ret ?_ | with_reducible refine JQ_end ?_))
    refine JC_cond (Ev.rfl' rfl) (fun h => ?_) (fun h => ?_)
    · (repeat (first | with_reducible refine JC_seq ?_ | with_reducible refine JQ_then ?_ | with_reducible refine JC_block ?_ | with_reducible refine JC_skip ?_ | with_reducible refine JC_exit ?_ | with_reducible refine JQ_then_exit ?_ | with_reducible refine JQ_then_ret ?_ | with_reducible refine JQ_block ?_ | with_reducible refine JQ_block_ret ?_ | with_reducible refine JQ_hit ?_ | ((with_reducible refine JQ_block_miss ?_ ?_); (focus exact rfl)) | with_reducible refine JC_ret ?_ | with_reducible refine JQ_end ?_))
      refine JC_region ?_
      refine JL_1 rfl (op_move rfl) ?_
      refine JL_1 rfl (op_assign rfl) ?_
      refine JL_nil ?_
      (repeat (first | with_reducible refine JC_seq ?_ | with_reducible refine JQ_then ?_ | with_reducible refine JC_block ?_ | with_reducible refine JC_skip ?_ | with_reducible refine JC_exit ?_ | with_reducible refine JQ_then_exit ?_ | with_reducible refine JQ_then_ret ?_ | with_reducible refine JQ_block ?_ | with_reducible refine JQ_block_ret ?_ | with_reducible refine JQ_hit ?_ | ((with_reducible refine JQ_block_miss ?_ ?_); (focus exact rfl)) | with_reducible refine JC_ret ?_ | with_reducible refine JQ_end ?_))
      rw [h, if_pos rfl] at hs
      exact JQ_ret1 Try.results53 rfl () (SubL.eq (by rw [hs])) (List.nil_sublist _)
    · rw [h] at hs
      (repeat (first | with_reducible refine JC_seq ?_ | with_reducible refine JQ_then ?_ | with_reducible refine JC_block ?_ | with_reducible refine JC_skip ?_ | with_reducible refine JC_exit ?_ | with_reducible refine JQ_then_exit ?_ | with_reducible refine JQ_then_ret ?_ | with_reducible refine JQ_block ?_ | with_reducible refine JQ_block_ret ?_ | with_reducible refine JQ_hit ?_ | ((with_reducible refine JQ_block_miss ?_ ?_); (focus exact rfl)) | with_reducible refine JC_ret ?_ | with_reducible refine JQ_end ?_))
      refine JC_region ?_
      refine JL_1 rfl (op_add (Ev.rfl' rfl) (Ev.rfl' rfl) wrapT) ?_
      refine JL_1 rfl (op_move rfl) ?_
      refine JL_nil ?_
      (repeat (first | with_reducible refine JC_seq ?_ | with_reducible refine JQ_then ?_ | with_reducible refine JC_block ?_ | with_reducible refine JC_skip ?_ | with_reducible refine JC_exit ?_ | with_reducible refine JQ_then_exit ?_ | with_reducible refine JQ_then_ret ?_ | with_reducible refine JQ_block ?_ | with_reducible refine JQ_block_ret ?_ | with_reducible refine JQ_hit ?_ | ((with_reducible refine JQ_block_miss ?_ ?_); (focus exact rfl)) | with_reducible refine JC_ret ?_ | with_reducible refine JQ_end ?_))
      exact JQ_roundP (k + 1) ⟨by omega, by simpa using hs⟩ (by omega) esubT lessT
  · have h' : ¬ (k : Int) < ms.length := of_decide_eq_false h
    have hkl : k = ms.length := by omega
    subst hkl
    rw [List.drop_length] at hs
    (repeat (first | with_reducible refine JC_seq ?_ | with_reducible refine JQ_then ?_ | with_reducible refine JC_block ?_ | with_reducible refine JC_skip ?_ | with_reducible refine JC_exit ?_ | with_reducible refine JQ_then_exit ?_ | with_reducible refine JQ_then_ret ?_ | with_reducible refine JQ_block ?_ | with_reducible refine JQ_block_ret ?_ | with_reducible refine JQ_hit ?_ | ((with_reducible refine JQ_block_miss ?_ ?_); (focus exact rfl)) | with_reducible refine JC_ret ?_ | with_reducible refine JQ_end ?_))
    refine JC_region ?_
    refine JL_1 rfl (op_assign rfl) ?_
    refine JL_nil ?_
    (repeat (first | with_reducible refine JC_seq ?_ | with_reducible refine JQ_then ?_ | with_reducible refine JC_block ?_ | with_reducible refine JC_skip ?_ | with_reducible refine JC_exit ?_ | with_reducible refine JQ_then_exit ?_ | with_reducible refine JQ_then_ret ?_ | with_reducible refine JQ_block ?_ | with_reducible refine JQ_block_ret ?_ | with_reducible refine JQ_hit ?_ | ((with_reducible refine JQ_block_miss ?_ ?_); (focus exact rfl)) | with_reducible refine JC_ret ?_ | with_reducible refine JQ_end ?_))
    exact JQ_ret1 Try.results53 rfl () (SubL.eq (by rw [hs]; rfl)) (List.nil_sublist _)
-- slices.ContainsFunc[[]bodega/api.Page,bodega/api.Page]: function 36
theorem ContainsOut_ok (ms : List Pg) (lines : Int) : FnP Try.prog 36 [IsSl tPg ms, IsFn 37 [IsRef [Is (.int .i64 lines)]]] (Is (.bool (ms.any (outB lines)))) := by
  refine FnP.enter Try.func36 Try.ntmps36 rfl rfl ?_
  intro c hX
  (repeat (first | with_reducible refine JC_seq ?_ | with_reducible refine JQ_then ?_ | with_reducible refine JC_block ?_ | with_reducible refine JC_skip ?_ | with_reducible refine JC_exit ?_ | with_reducible refine JQ_then_exit ?_ | with_reducible refine JQ_then_ret ?_ | with_reducible refine JQ_block ?_ | with_reducible refine JQ_block_ret ?_ | with_reducible refine JQ_hit ?_ | ((with_reducible refine JQ_block_miss ?_ ?_); (focus exact rfl)) | with_reducible refine JC_ret ?_ | with_reducible refine JQ_end ?_))
  refine JC_region ?_
  refine JL_1 rfl (op_assign rfl) ?_
  refine JL_nil ?_
  (repeat (first | with_reducible refine JC_seq ?_ | with_reducible refine JQ_then ?_ | with_reducible refine JC_block ?_ | with_reducible refine JC_skip ?_ | with_reducible refine JC_exit ?_ | with_reducible refine JQ_then_exit ?_ | with_reducible refine JQ_then_ret ?_ | with_reducible refine JQ_block ?_ | with_reducible refine JQ_block_ret ?_ | with_reducible refine JQ_hit ?_ | ((with_reducible refine JQ_block_miss ?_ ?_); (focus exact rfl)) | with_reducible refine JC_ret ?_ | with_reducible refine JQ_end ?_))
  (repeat (first | with_reducible refine JC_seq ?_ | with_reducible refine JQ_then ?_ | with_reducible refine JC_block ?_ | with_reducible refine JC_skip ?_ | with_reducible refine JC_exit ?_ | with_reducible refine JQ_then_exit ?_ | with_reducible refine JQ_then_ret ?_ | with_reducible refine JQ_block ?_ | with_reducible refine JQ_block_ret ?_ | with_reducible refine JQ_hit ?_ | ((with_reducible refine JQ_block_miss ?_ ?_); (focus exact rfl)) | with_reducible refine JC_ret ?_ | with_reducible refine JQ_end ?_))
  refine JC_region ?_
  refine JL_1 rfl (op_move rfl) ?_
  refine JL_1 rfl (op_move rfl) ?_
  refine JL_1 rfl (op_call Try.call53 (IndexOut_ok _ _) ⟨evS, ⟨evS, trivial⟩⟩) ?_
  refine JL_1 rfl (op_geq (Ev.rfl' rfl) (Ev.rfl' rfl)) ?_
  refine JL_1 rfl (op_assign rfl) ?_
  refine JL_nil ?_
  (repeat (first | with_reducible refine JC_seq ?_ | with_reducible refine JQ_then ?_ | with_reducible refine JC_block ?_ | with_reducible refine JC_skip ?_ | with_reducible refine JC_exit ?_ | with_reducible refine JQ_then_exit ?_ | with_reducible refine JQ_then_ret ?_ | with_reducible refine JQ_block ?_ | with_reducible refine JQ_block_ret ?_ | with_reducible refine JQ_hit ?_ | ((with_reducible refine JQ_block_miss ?_ ?_); (focus exact rfl)) | with_reducible refine JC_ret ?_ | with_reducible refine JQ_end ?_))
  exact JQ_ret1 Try.results36 rfl () (SubL.eq (by rw [firstAt_any])) (List.nil_sublist _)
end Go.Proofs.Ytccgnekcbdkilaa

/- Contract of logrec.Valid. Own work. -/
namespace Go.Proofs.Ytccgnekcbdkilaa
open Go.RowKit
set_option linter.unusedVariables false
set_option linter.unusedSimpArgs false
set_option maxRecDepth 100000
def Pg.at (ms : List Pg) (k : Nat) : Pg := ms.getD k ⟨0, 0#64, 0#64, 0#64, 0#64, 0#64, 0#64, 0#64, 0#64⟩
theorem Pg.at_get (ms : List Pg) (k : Nat) (h : k < ms.length) : ms[k]? = some (Pg.at ms k) := by
  unfold Pg.at
  rw [List.getD_eq_getElem?_getD, List.getElem?_eq_getElem h]
  rfl
def AscP (ms : List Pg) (k : Nat) : Prop := 0 < k → (Pg.at ms (k - 1)).l < (Pg.at ms k).l
def headB (p : Pg) : Bool := nextC p.h == 0 && unlocked p.h
/-- Why a record is none of so many lines (0: it is one). -/
def okR1 (seq : Int) (ms : List Pg) : Prop := 1 ≤ seq ∧ seq < 1073741824 ∧ 1 ≤ ms.length ∧ ms.length ≤ 12
def okR2 (ms : List Pg) : Prop := (∀ k, k < ms.length → AscP ms k) ∧ ∀ k, k < ms.length → headB (Pg.at ms k) = true
instance (seq : Int) (ms : List Pg) : Decidable (okR1 seq ms) := by unfold okR1; infer_instance
noncomputable def validR (seq : Int) (ms : List Pg) (lines : Int) : Int :=
  if ¬ (98 ≤ lines ∧ lines ≤ 256) then 18 else if ¬ okR1 seq ms then 1 else if ms.any (outB lines) then 2
  else @ite _ (okR2 ms) (Classical.propDecidable _) 0 1
theorem validR_18 {seq lines : Int} {ms : List Pg} (h : ¬ (98 ≤ lines ∧ lines ≤ 256)) : validR seq ms lines = 18 := by unfold validR; rw [if_pos h]
theorem validR_1 {seq lines : Int} {ms : List Pg} (h : 98 ≤ lines ∧ lines ≤ 256) (h1 : ¬ okR1 seq ms) : validR seq ms lines = 1 := by unfold validR; rw [if_neg (not_not_intro h), if_pos h1]
theorem validR_2 {seq lines : Int} {ms : List Pg} (h : 98 ≤ lines ∧ lines ≤ 256) (h1 : okR1 seq ms) (h2 : ms.any (outB lines) = true) : validR seq ms lines = 2 := by unfold validR; rw [if_neg (not_not_intro h), if_neg (not_not_intro h1), if_pos h2]
theorem validR_3 {seq lines : Int} {ms : List Pg} (h : 98 ≤ lines ∧ lines ≤ 256) (h1 : okR1 seq ms) (h2 : ms.any (outB lines) = false) (h3 : ¬ okR2 ms) : validR seq ms lines = 1 := by unfold validR; rw [if_neg (not_not_intro h), if_neg (not_not_intro h1), if_neg (by rw [h2]; simp), if_neg h3]
theorem validR_0 {seq lines : Int} {ms : List Pg} (h : 98 ≤ lines ∧ lines ≤ 256) (h1 : okR1 seq ms) (h2 : ms.any (outB lines) = false) (h3 : okR2 ms) : validR seq ms lines = 0 := by unfold validR; rw [if_neg (not_not_intro h), if_neg (not_not_intro h1), if_neg (by rw [h2]; simp), if_pos h3]
theorem validR_ok {seq lines : Int} {ms : List Pg} (h : validR seq ms lines = 0) : (98 ≤ lines ∧ lines ≤ 256) ∧ okR1 seq ms ∧ ms.any (outB lines) = false ∧ okR2 ms := by
  by_cases g : 98 ≤ lines ∧ lines ≤ 256
  · by_cases g1 : okR1 seq ms
    · cases g2 : ms.any (outB lines) with
      | true => rw [validR_2 g g1 g2] at h; omega
      | false =>
        refine ⟨g, g1, rfl, Classical.byContradiction fun g3 => ?_⟩
        rw [validR_3 g g1 g2 g3] at h; omega
    · rw [validR_1 g g1] at h; omega
  · rw [validR_18 g] at h; omega
@[reducible] def IsRec (seq : Int) (ms : List Pg) : VP := IsAgg [Is (.int .i64 seq), IsSl tPg ms]
set_option maxHeartbeats 2000000 in
-- logrec.Valid: function 12
theorem ValidL_ok (seq lines : Int) (ms : List Pg) : FnP Try.prog 12 [IsRec seq ms, Is (.int .i64 lines)] (Is (.int .i64 (validR seq ms lines))) := by
  refine FnP.enter Try.func12 Try.ntmps12 rfl rfl ?_
  intro c hX
  refine JC_lenV (t := 0) 1 rfl rfl (fun hlen => ?_)
  refine JC_seq ?_
  refine JC_region ?_
  (refine JL_n rfl (op_box (Ev.rfl' rfl) cellsT) ?_; intro i2)
  (refine JL_n rfl (op_box (Ev.rfl' rfl) cellsT) ?_; intro i3)
  refine JL_1 rfl (op_assign rfl) ?_
  refine JL_nil ?_
  refine JQ_then (JC_seq (JC_block (JC_seq ?_)))
  refine JC_region ?_
  refine JL_1 rfl (by first | exact op_loadRef (Ev.rfl' rfl) rfl rfl rfl | exact op_loadPtr (Ev.rfl' rfl) memT (by rfl) (by rfl) (by rfl)) ?_
  refine JL_1 rfl (op_call Try.call35 (isLines_ok _) ⟨evS, trivial⟩) ?_
  refine JL_1 rfl (op_not (Ev.rfl' rfl)) ?_
  refine JL_1 rfl (op_assign rfl) ?_
  refine JL_nil ?_
  refine JQ_then ?_
  refine JC_cond (Ev.rfl' rfl) (fun h1 => ?_) (fun h1 => ?_)
  · have g1 : ¬ (98 ≤ lines ∧ lines ≤ 256) := by simp at h1; omega
    refine JC_seq ?_
    refine JC_region ?_
    refine JL_1 rfl (op_assign rfl) ?_
    refine JL_nil ?_
    refine JQ_then (JC_ret (JQ_block_ret (JQ_then_ret ?_)))
    refine JQ_ret1 Try.results12 rfl () (SubL.eq ?_) (List.nil_sublist _)
    rw [validR_18 g1]
  have g1 : 98 ≤ lines ∧ lines ≤ 256 := by simp at h1; omega
  clear h1
  refine JC_seq ?_
  refine JC_region ?_
  refine JL_1 rfl (by first | exact op_fieldPtr (k := 0) (Ev.rfl' rfl) rfl rfl rfl rfl | exact op_fieldRefN (k := 0) (Ev.rfl' rfl) rfl rfl rfl rfl nrmT) ?_
  refine JL_1 rfl (by first | exact op_loadRef (Ev.rfl' rfl) rfl rfl rfl | exact op_loadPtr (Ev.rfl' rfl) memT (by rfl) (by rfl) (by rfl)) ?_
  refine JL_1 rfl (op_lss (Ev.rfl' rfl) (Ev.rfl' rfl)) ?_
  refine JL_1 rfl (op_move rfl) ?_
  (first | refine JL_i0 rfl rfl rfl (fun hg => (by have hg0 := hg; (try simp at hg); first | exact op_fieldPtr (k := 0) evG rfl rfl rfl rfl | exact op_fieldRefN (k := 0) evG rfl rfl rfl rfl nrmT)) ?_ | refine JL_i rfl rfl rfl (fun hp hg => (by have hpg := Bool.and_eq_true_iff.2 ⟨hp, hg⟩; have hg0 := hg; (try simp at hg); first | exact op_fieldPtr (k := 0) evG rfl rfl rfl rfl | exact op_fieldRefN (k := 0) evG rfl rfl rfl rfl nrmT)) ?_)
  (first | refine JL_i0 rfl rfl rfl (fun hg => (by have hg0 := hg; (try simp at hg); first | exact op_loadRef evG rfl rfl rfl | exact op_loadPtr evG memT (by rfl) (by rfl) (by rfl))) ?_ | refine JL_i rfl rfl rfl (fun hp hg => (by have hpg := Bool.and_eq_true_iff.2 ⟨hp, hg⟩; have hg0 := hg; (try simp at hg); first | exact op_loadRef evG rfl rfl rfl | exact op_loadPtr evG memT (by rfl) (by rfl) (by rfl))) ?_)
  (first | refine JL_i0 rfl rfl rfl (fun hg => (by have hg0 := hg; (try simp at hg); exact op_geq evG evG)) ?_ | refine JL_i rfl rfl rfl (fun hp hg => (by have hpg := Bool.and_eq_true_iff.2 ⟨hp, hg⟩; have hg0 := hg; (try simp at hg); exact op_geq evG evG)) ?_)
  refine JL_1 rfl (op_or (Ev.rfl' rfl) rfl (fun h => by first | exact SubL.rfl' | exact SubL.iteT (by first | (rw [h]; rfl) | (simp_all; done)) SubL.rfl')) ?_
  refine JL_1 rfl (op_move rfl) ?_
  (first | refine JL_i0 rfl rfl rfl (fun hg => (by have hg0 := hg; (try simp at hg); first | exact op_fieldPtr (k := 1) evG rfl rfl rfl rfl | exact op_fieldRefN (k := 1) evG rfl rfl rfl rfl nrmT)) ?_ | refine JL_i rfl rfl rfl (fun hp hg => (by have hpg := Bool.and_eq_true_iff.2 ⟨hp, hg⟩; have hg0 := hg; (try simp at hg); first | exact op_fieldPtr (k := 1) evG rfl rfl rfl rfl | exact op_fieldRefN (k := 1) evG rfl rfl rfl rfl nrmT)) ?_)
  (first | refine JL_i0 rfl rfl rfl (fun hg => (by have hg0 := hg; (try simp at hg); first | exact op_loadRef evG rfl rfl rfl | exact op_loadPtr evG memT (by rfl) (by rfl) (by rfl))) ?_ | refine JL_i rfl rfl rfl (fun hp hg => (by have hpg := Bool.and_eq_true_iff.2 ⟨hp, hg⟩; have hg0 := hg; (try simp at hg); first | exact op_loadRef evG rfl rfl rfl | exact op_loadPtr evG memT (by rfl) (by rfl) (by rfl))) ?_)
  (first | refine JL_i0 rfl rfl rfl (fun hg => (by have hg0 := hg; (try simp at hg); first | exact op_len evG rfl | exact op_lenLit evG rfl)) ?_ | refine JL_i rfl rfl rfl (fun hp hg => (by have hpg := Bool.and_eq_true_iff.2 ⟨hp, hg⟩; have hg0 := hg; (try simp at hg); first | exact op_len evG rfl | exact op_lenLit evG rfl)) ?_)
  (first | refine JL_i0 rfl rfl rfl (fun hg => (by have hg0 := hg; (try simp at hg); exact op_lss evG evG)) ?_ | refine JL_i rfl rfl rfl (fun hp hg => (by have hpg := Bool.and_eq_true_iff.2 ⟨hp, hg⟩; have hg0 := hg; (try simp at hg); exact op_lss evG evG)) ?_)
  refine JL_1 rfl (op_or (Ev.rfl' rfl) rfl (fun h => by first | exact SubL.rfl' | exact SubL.iteT (by first | (rw [h]; rfl) | (simp_all; done)) SubL.rfl')) ?_
  refine JL_1 rfl (op_move rfl) ?_
  (first | refine JL_i0 rfl rfl rfl (fun hg => (by have hg0 := hg; (try simp at hg); first | exact op_fieldPtr (k := 1) evG rfl rfl rfl rfl | exact op_fieldRefN (k := 1) evG rfl rfl rfl rfl nrmT)) ?_ | refine JL_i rfl rfl rfl (fun hp hg => (by have hpg := Bool.and_eq_true_iff.2 ⟨hp, hg⟩; have hg0 := hg; (try simp at hg); first | exact op_fieldPtr (k := 1) evG rfl rfl rfl rfl | exact op_fieldRefN (k := 1) evG rfl rfl rfl rfl nrmT)) ?_)
  (first | refine JL_i0 rfl rfl rfl (fun hg => (by have hg0 := hg; (try simp at hg); first | exact op_loadRef evG rfl rfl rfl | exact op_loadPtr evG memT (by rfl) (by rfl) (by rfl))) ?_ | refine JL_i rfl rfl rfl (fun hp hg => (by have hpg := Bool.and_eq_true_iff.2 ⟨hp, hg⟩; have hg0 := hg; (try simp at hg); first | exact op_loadRef evG rfl rfl rfl | exact op_loadPtr evG memT (by rfl) (by rfl) (by rfl))) ?_)
  (first | refine JL_i0 rfl rfl rfl (fun hg => (by have hg0 := hg; (try simp at hg); first | exact op_len evG rfl | exact op_lenLit evG rfl)) ?_ | refine JL_i rfl rfl rfl (fun hp hg => (by have hpg := Bool.and_eq_true_iff.2 ⟨hp, hg⟩; have hg0 := hg; (try simp at hg); first | exact op_len evG rfl | exact op_lenLit evG rfl)) ?_)
  (first | refine JL_i0 rfl rfl rfl (fun hg => (by have hg0 := hg; (try simp at hg); exact op_gtr evG evG)) ?_ | refine JL_i rfl rfl rfl (fun hp hg => (by have hpg := Bool.and_eq_true_iff.2 ⟨hp, hg⟩; have hg0 := hg; (try simp at hg); exact op_gtr evG evG)) ?_)
  refine JL_1 rfl (op_or (Ev.rfl' rfl) rfl (fun h => by first | exact SubL.rfl' | exact SubL.iteT (by first | (rw [h]; rfl) | (simp_all; done)) SubL.rfl')) ?_
  refine JL_1 rfl (op_assign rfl) ?_
  refine JL_nil ?_
  refine JQ_then ?_
  refine JC_cond (Ev.rfl' rfl) (fun h3 => ?_) (fun h3 => ?_)
  · have g2 : ¬ okR1 seq ms := by unfold okR1; simp at h3; omega
    refine JC_seq ?_
    refine JC_region ?_
    refine JL_1 rfl (op_assign rfl) ?_
    refine JL_nil ?_
    refine JQ_then (JC_ret (JQ_block_ret (JQ_then_ret ?_)))
    refine JQ_ret1 Try.results12 rfl () (SubL.eq ?_) (List.nil_sublist _)
    rw [validR_1 g1 g2]
  have g2 : okR1 seq ms := by unfold okR1; simp at h3; omega
  clear h3
  refine JC_seq ?_
  refine JC_freezeB hX (b := i3) replT ?_
  refine JC_region ?_
  refine JL_1 rfl (by first | exact op_fieldPtr (k := 1) (Ev.rfl' rfl) rfl rfl rfl rfl | exact op_fieldRefN (k := 1) (Ev.rfl' rfl) rfl rfl rfl rfl nrmT) ?_
  refine JL_1 rfl (by first | exact op_loadRef (Ev.rfl' rfl) rfl rfl rfl | exact op_loadPtr (Ev.rfl' rfl) memT (by rfl) (by rfl) (by rfl)) ?_
  refine JL_1 rfl (op_makeFunc (Cs := [IsRef [Is (.int .i64 lines)]]) ⟨evS, trivial⟩) ?_
  refine JL_1 rfl (op_call Try.call36 (ContainsOut_ok _ _) ⟨evS, ⟨evS, trivial⟩⟩) ?_
  refine JL_1 rfl (op_assign rfl) ?_
  refine JL_nil ?_
  refine JQ_then ?_
  refine JC_cond (Ev.rfl' rfl) (fun h5 => ?_) (fun h5 => ?_)
  · refine JC_seq ?_
    refine JC_region ?_
    refine JL_1 rfl (op_assign rfl) ?_
    refine JL_nil ?_
    refine JQ_then (JC_ret (JQ_block_ret (JQ_then_ret ?_)))
    refine JQ_ret1 Try.results12 rfl () (SubL.eq ?_) (List.nil_sublist _)
    rw [validR_2 g1 g2 h5]
  refine JC_skip (JQ_block (JQ_then (JC_seq (JC_seq ?_))))
  refine JC_region ?_
  refine JL_1 rfl (by first | exact op_fieldPtr (k := 1) (Ev.rfl' rfl) rfl rfl rfl rfl | exact op_fieldRefN (k := 1) (Ev.rfl' rfl) rfl rfl rfl rfl nrmT) ?_
  refine JL_1 rfl (by first | exact op_loadRef (Ev.rfl' rfl) rfl rfl rfl | exact op_loadPtr (Ev.rfl' rfl) memT (by rfl) (by rfl) (by rfl)) ?_
  refine JL_1 rfl (by first | exact op_len (Ev.rfl' rfl) rfl | exact op_lenLit (Ev.rfl' rfl) rfl) ?_
  refine JL_1 rfl (op_move rfl) ?_
  refine JL_nil ?_
  refine JQ_then (JC_block ?_)
  refine JC_loopP (fun k : Nat => k ≤ ms.length ∧ ∀ j, j < k → AscP ms j) (fun i => [(2, Is (.pointer (some ⟨i2, 0, none⟩))), (42, IsSl tPg ms), (43, Is (.int .i64 ms.length)), (44, Is (.int .i64 (i : Nat)))]) (fun _ => [blk i2 35 [Is (.int .i64 seq), IsSl tPg ms]]) (fun i => ms.length - i) 0 ⟨Nat.zero_le _, fun j h => by omega⟩ esubT lessT ?_
  rintro k ⟨hk, hs⟩
  refine JC_seq ?_
  refine JC_region ?_
  refine JL_1 rfl (op_lss (Ev.rfl' rfl) (Ev.rfl' rfl)) ?_
  refine JL_nil ?_
  refine JQ_then (JC_seq ?_)
  refine JC_cond (Ev.rfl' rfl) (fun h8 => ?_) (fun h8 => ?_)
  · have h' : (k : Int) < ms.length := of_decide_eq_true h8
    have hz := Pg.at_get ms k (by omega)
    have hz1 : 0 < k → ms[k - 1]? = some (Pg.at ms (k - 1)) := fun h => Pg.at_get ms (k - 1) (by omega)
    clear h8
    refine JC_skip (JQ_then (JC_seq (JC_block (JC_seq ?_))))
    refine JC_region ?_
    refine JL_1 rfl (op_move rfl) ?_
    refine JL_1 rfl (by first | exact op_index (j := _) (Ev.rfl' rfl) (Ev.rfl' rfl) rfl rfl (by first | rfl | omega) hz | exact op_index (j := _) (Ev.rfl' rfl) (Ev.rfl' rfl) rfl rfl (by first | rfl | omega) (hz1 (by omega)) | exact op_index (j := _) (Ev.rfl' rfl) (Ev.rfl' rfl) rfl rfl (by first | rfl | omega) (by assumption)) ?_
    refine JL_1 rfl (by first | exact op_loadRefsN (n := 9) (Ev.rfl' rfl) rfl rfl rfl (by rfl) nrmT | exact op_loadPtrsN (n := 9) (Ev.rfl' rfl) memT (by rfl) (by rfl) (by rfl) (by rfl) nrmT) ?_
    (refine JL_n rfl (op_allocN rfl nrmT rfl) ?_; intro i6)
    refine JL_1 rfl (op_assign rfl) ?_
    refine JL_s0 (op_storeN (Ev.rfl' rfl) (Ev.rfl' rfl) cellsT replT nrmT (by rfl) (by rfl) (by rfl)) ?_
    refine JL_nil ?_
    refine JQ_then (JC_seq ?_)
    refine JC_dr rfl (by kernel_rfl) ?_
    refine JD_stretch 14 (by kernel_rfl) ?_
    refine JW_1 (op_move rfl) ?_
    refine JW_1 (op_gtr (Ev.rfl' rfl) (Ev.rfl' rfl)) ?_
    refine JW_1 (op_move rfl) ?_
    (first | refine JW_i0 rfl rfl (fun hg => (by have hg0 := hg; (try simp at hg); first | exact op_fieldPtr (k := 0) evG rfl rfl rfl rfl | exact op_fieldRefN (k := 0) evG rfl rfl rfl rfl nrmT)) ?_ | refine JW_i rfl rfl (fun hp hg => (by have hpg := Bool.and_eq_true_iff.2 ⟨hp, hg⟩; have hg0 := hg; (try simp at hg); first | exact op_fieldPtr (k := 0) evG rfl rfl rfl rfl | exact op_fieldRefN (k := 0) evG rfl rfl rfl rfl nrmT)) ?_)
    (first | refine JW_i0 rfl rfl (fun hg => (by have hg0 := hg; (try simp at hg); first | exact op_loadRef evG rfl rfl rfl | exact op_loadPtr evG memT (by rfl) (by rfl) (by rfl))) ?_ | refine JW_i rfl rfl (fun hp hg => (by have hpg := Bool.and_eq_true_iff.2 ⟨hp, hg⟩; have hg0 := hg; (try simp at hg); first | exact op_loadRef evG rfl rfl rfl | exact op_loadPtr evG memT (by rfl) (by rfl) (by rfl))) ?_)
    (first | refine JW_i0 rfl rfl (fun hg => (by have hg0 := hg; (try simp at hg); first | exact op_fieldPtr (k := 1) evG rfl rfl rfl rfl | exact op_fieldRefN (k := 1) evG rfl rfl rfl rfl nrmT)) ?_ | refine JW_i rfl rfl (fun hp hg => (by have hpg := Bool.and_eq_true_iff.2 ⟨hp, hg⟩; have hg0 := hg; (try simp at hg); first | exact op_fieldPtr (k := 1) evG rfl rfl rfl rfl | exact op_fieldRefN (k := 1) evG rfl rfl rfl rfl nrmT)) ?_)
    (first | refine JW_i0 rfl rfl (fun hg => (by have hg0 := hg; (try simp at hg); first | exact op_loadRef evG rfl rfl rfl | exact op_loadPtr evG memT (by rfl) (by rfl) (by rfl))) ?_ | refine JW_i rfl rfl (fun hp hg => (by have hpg := Bool.and_eq_true_iff.2 ⟨hp, hg⟩; have hg0 := hg; (try simp at hg); first | exact op_loadRef evG rfl rfl rfl | exact op_loadPtr evG memT (by rfl) (by rfl) (by rfl))) ?_)
    (first | refine JW_i0 rfl rfl (fun hg => (by have hg0 := hg; (try simp at hg); first | exact op_moveE (Ev.sub rfl (SubL.iteT (by first | assumption | (simp; done) | (simp; omega) | (simp_all; done)) SubL.rfl')) | exact op_moveE (Ev.rfl' rfl))) ?_ | refine JW_i rfl rfl (fun hp hg => (by have hpg := Bool.and_eq_true_iff.2 ⟨hp, hg⟩; have hg0 := hg; (try simp at hg); first | exact op_moveE (Ev.sub rfl (SubL.iteT (by first | assumption | (simp; done) | (simp; omega) | (simp_all; done)) SubL.rfl')) | exact op_moveE (Ev.rfl' rfl))) ?_)
    (first | refine JW_i0 rfl rfl (fun hg => (by have hg0 := hg; (try simp at hg); exact op_sub evG evG wrapT)) ?_ | refine JW_i rfl rfl (fun hp hg => (by have hpg := Bool.and_eq_true_iff.2 ⟨hp, hg⟩; have hg0 := hg; (try simp at hg); exact op_sub evG evG wrapT)) ?_)
    (first | refine JW_i0 rfl rfl (fun hg => (by have hg0 := hg; (try simp at hg); first | exact op_index (j := k - 1) evG evG rfl rfl (by first | rfl | omega) hz | exact op_index (j := k - 1) evG evG rfl rfl (by first | rfl | omega) (hz1 (by omega)) | exact op_index (j := k - 1) evG evG rfl rfl (by first | rfl | omega) (by assumption))) ?_ | refine JW_i rfl rfl (fun hp hg => (by have hpg := Bool.and_eq_true_iff.2 ⟨hp, hg⟩; have hg0 := hg; (try simp at hg); first | exact op_index (j := k - 1) evG evG rfl rfl (by first | rfl | omega) hz | exact op_index (j := k - 1) evG evG rfl rfl (by first | rfl | omega) (hz1 (by omega)) | exact op_index (j := k - 1) evG evG rfl rfl (by first | rfl | omega) (by assumption))) ?_)
    (first | refine JW_i0 rfl rfl (fun hg => (by have hg0 := hg; (try simp at hg); first | exact op_fieldPtr (k := 0) evG rfl rfl rfl rfl | exact op_fieldRefN (k := 0) evG rfl rfl rfl rfl nrmT)) ?_ | refine JW_i rfl rfl (fun hp hg => (by have hpg := Bool.and_eq_true_iff.2 ⟨hp, hg⟩; have hg0 := hg; (try simp at hg); first | exact op_fieldPtr (k := 0) evG rfl rfl rfl rfl | exact op_fieldRefN (k := 0) evG rfl rfl rfl rfl nrmT)) ?_)
    (first | refine JW_i0 rfl rfl (fun hg => (by have hg0 := hg; (try simp at hg); first | exact op_loadRef evG rfl rfl rfl | exact op_loadPtr evG memT (by rfl) (by rfl) (by rfl))) ?_ | refine JW_i rfl rfl (fun hp hg => (by have hpg := Bool.and_eq_true_iff.2 ⟨hp, hg⟩; have hg0 := hg; (try simp at hg); first | exact op_loadRef evG rfl rfl rfl | exact op_loadPtr evG memT (by rfl) (by rfl) (by rfl))) ?_)
    (first | refine JW_i0 rfl rfl (fun hg => (by have hg0 := hg; (try simp at hg); exact op_leq evG evG)) ?_ | refine JW_i rfl rfl (fun hp hg => (by have hpg := Bool.and_eq_true_iff.2 ⟨hp, hg⟩; have hg0 := hg; (try simp at hg); exact op_leq evG evG)) ?_)
    refine JW_1 (op_and (Ev.rfl' rfl) rfl (fun h => by first | exact SubL.rfl' | exact SubL.iteT (by first | (rw [h]; rfl) | (simp_all; done)) SubL.rfl')) ?_
    refine ⟨rfl, ?_⟩
    refine JD_end ?_
    refine JQ_then ?_
    refine JC_cond (Ev.rfl' rfl) (fun h10 => ?_) (fun h10 => ?_)
    · refine JC_seq ?_
      refine JC_region ?_
      refine JL_1 rfl (op_assign rfl) ?_
      refine JL_nil ?_
      refine JQ_then (JC_ret (JQ_block_ret (JQ_then_ret (JQ_then_ret (JQ_block_ret (JQ_then_ret ?_))))))
      refine JQ_ret1 Try.results12 rfl () (SubL.eq ?_) (List.nil_sublist _)
      rw [validR_3 g1 g2 h5 (fun h => by have := h.1 k (by omega); unfold AscP at this; simp at h10; have := this (by omega); omega)]
    refine JC_skip (JQ_block (JQ_then ?_))
    refine JC_region ?_
    refine JL_1 rfl (op_add (Ev.rfl' rfl) (Ev.rfl' rfl) wrapT) ?_
    refine JL_1 rfl (op_move rfl) ?_
    refine JL_nil ?_
    exact JQ_roundP (k + 1) ⟨by omega, fun j hj => by
      by_cases hjk : j = k
      · subst hjk
        intro h0
        simp at h10
        have := h10 (by omega)
        omega
      · exact hs j (by omega)⟩ (by omega) esubT lessT
  have hkl : k = ms.length := by have := of_decide_eq_false h8; omega
  subst hkl
  clear h8
  refine JC_exit (JQ_then_exit (JQ_then_exit (JQ_hit (JQ_then (JC_seq (JC_seq ?_))))))
  refine JC_region ?_
  refine JL_1 rfl (by first | exact op_fieldPtr (k := 1) (Ev.rfl' rfl) rfl rfl rfl rfl | exact op_fieldRefN (k := 1) (Ev.rfl' rfl) rfl rfl rfl rfl nrmT) ?_
  refine JL_1 rfl (by first | exact op_loadRef (Ev.rfl' rfl) rfl rfl rfl | exact op_loadPtr (Ev.rfl' rfl) memT (by rfl) (by rfl) (by rfl)) ?_
  refine JL_1 rfl (by first | exact op_len (Ev.rfl' rfl) rfl | exact op_lenLit (Ev.rfl' rfl) rfl) ?_
  refine JL_1 rfl (op_move rfl) ?_
  refine JL_nil ?_
  refine JQ_then (JC_block ?_)
  refine JC_loopP (fun k : Nat => k ≤ ms.length ∧ ∀ j, j < k → headB (Pg.at ms j) = true) (fun i => [(65, IsSl tPg ms), (66, Is (.int .i64 ms.length)), (67, Is (.int .i64 (i : Nat)))]) (fun _ => []) (fun i => ms.length - i) 0 ⟨Nat.zero_le _, fun j h => by omega⟩ esubT lessT ?_
  rintro k ⟨hk, ht⟩
  refine JC_seq ?_
  refine JC_region ?_
  refine JL_1 rfl (op_lss (Ev.rfl' rfl) (Ev.rfl' rfl)) ?_
  refine JL_nil ?_
  refine JQ_then (JC_seq ?_)
  refine JC_cond (Ev.rfl' rfl) (fun h14 => ?_) (fun h14 => ?_)
  · have h' : (k : Int) < ms.length := of_decide_eq_true h14
    have hz := Pg.at_get ms k (by omega)
    clear h14
    refine JC_skip (JQ_then (JC_seq (JC_block (JC_seq ?_))))
    refine JC_region ?_
    refine JL_1 rfl (by first | exact op_index (j := _) (Ev.rfl' rfl) (Ev.rfl' rfl) rfl rfl (by first | rfl | omega) hz | exact op_index (j := _) (Ev.rfl' rfl) (Ev.rfl' rfl) rfl rfl (by first | rfl | omega) (hz1 (by omega)) | exact op_index (j := _) (Ev.rfl' rfl) (Ev.rfl' rfl) rfl rfl (by first | rfl | omega) (by assumption)) ?_
    refine JL_1 rfl (by first | exact op_loadRefsN (n := 9) (Ev.rfl' rfl) rfl rfl rfl (by rfl) nrmT | exact op_loadPtrsN (n := 9) (Ev.rfl' rfl) memT (by rfl) (by rfl) (by rfl) (by rfl) nrmT) ?_
    (refine JL_n rfl (op_allocN rfl nrmT rfl) ?_; intro i8)
    refine JL_s0 (op_storeN (Ev.rfl' rfl) (Ev.rfl' rfl) cellsT replT nrmT (by rfl) (by rfl) (by rfl)) ?_
    refine JL_nil ?_
    refine JQ_then (JC_seq ?_)
    refine JC_region ?_
    refine JL_1 rfl (by first | exact op_fieldPtr (k := 1) (Ev.rfl' rfl) rfl rfl rfl rfl | exact op_fieldRefN (k := 1) (Ev.rfl' rfl) rfl rfl rfl rfl nrmT) ?_
    refine JL_1 rfl (by first | exact op_loadRef (Ev.rfl' rfl) rfl rfl rfl | exact op_loadPtr (Ev.rfl' rfl) memT (by rfl) (by rfl) (by rfl)) ?_
    refine JL_1 rfl (op_call Try.call38 (Next_ok _) ⟨evS, trivial⟩) ?_
    refine JL_1 rfl (op_move rfl) ?_
    refine JL_1 rfl (op_extract (Ev.rfl' rfl) rfl) ?_
    refine JL_1 rfl (op_extract (Ev.rfl' rfl) rfl) ?_
    refine JL_1 rfl (op_assign rfl) ?_
    refine JL_1 rfl (op_assign rfl) ?_
    refine JL_nil ?_
    refine JQ_then (JC_seq ?_)
    refine JC_region ?_
    refine JL_1 rfl (op_move rfl) ?_
    refine JL_1 rfl (op_neq (Ev.rfl' rfl) (Ev.rfl' rfl)) ?_
    refine JL_1 rfl (op_move rfl) ?_
    (first | refine JL_i0 rfl rfl rfl (fun hg => (by have hg0 := hg; (try simp at hg); first | exact op_fieldPtr (k := 1) evG rfl rfl rfl rfl | exact op_fieldRefN (k := 1) evG rfl rfl rfl rfl nrmT)) ?_ | refine JL_i rfl rfl rfl (fun hp hg => (by have hpg := Bool.and_eq_true_iff.2 ⟨hp, hg⟩; have hg0 := hg; (try simp at hg); first | exact op_fieldPtr (k := 1) evG rfl rfl rfl rfl | exact op_fieldRefN (k := 1) evG rfl rfl rfl rfl nrmT)) ?_)
    (first | refine JL_i0 rfl rfl rfl (fun hg => (by have hg0 := hg; (try simp at hg); first | exact op_loadRef evG rfl rfl rfl | exact op_loadPtr evG memT (by rfl) (by rfl) (by rfl))) ?_ | refine JL_i rfl rfl rfl (fun hp hg => (by have hpg := Bool.and_eq_true_iff.2 ⟨hp, hg⟩; have hg0 := hg; (try simp at hg); first | exact op_loadRef evG rfl rfl rfl | exact op_loadPtr evG memT (by rfl) (by rfl) (by rfl))) ?_)
    (first | refine JL_i0 rfl rfl rfl (fun hg => (by have hg0 := hg; (try simp at hg); exact op_call Try.call39 (Unlocked_ok _) ⟨evS, trivial⟩)) ?_ | refine JL_i rfl rfl rfl (fun hp hg => (by have hpg := Bool.and_eq_true_iff.2 ⟨hp, hg⟩; have hg0 := hg; (try simp at hg); exact op_call Try.call39 (Unlocked_ok _) ⟨evS, trivial⟩)) ?_)
    (first | refine JL_i0 rfl rfl rfl (fun hg => (by have hg0 := hg; (try simp at hg); exact op_not evG)) ?_ | refine JL_i rfl rfl rfl (fun hp hg => (by have hpg := Bool.and_eq_true_iff.2 ⟨hp, hg⟩; have hg0 := hg; (try simp at hg); exact op_not evG)) ?_)
    refine JL_1 rfl (op_or (Ev.rfl' rfl) rfl (fun h => by first | exact SubL.rfl' | exact SubL.iteT (by first | (rw [h]; rfl) | (simp_all; done)) SubL.rfl')) ?_
    refine JL_nil ?_
    refine JQ_then ?_
    refine JC_cond (Ev.rfl' rfl) (fun h17 => ?_) (fun h17 => ?_)
    · refine JC_seq ?_
      refine JC_region ?_
      refine JL_1 rfl (op_assign rfl) ?_
      refine JL_nil ?_
      refine JQ_then (JC_ret (JQ_block_ret (JQ_then_ret (JQ_then_ret (JQ_block_ret (JQ_then_ret ?_))))))
      refine JQ_ret1 Try.results12 rfl () (SubL.eq ?_) (List.nil_sublist _)
      rw [validR_3 g1 g2 h5 (fun h => by have := h.2 k (by omega); simp [headB] at this; simp [this] at h17)]
    refine JC_skip (JQ_block (JQ_then ?_))
    refine JC_region ?_
    refine JL_1 rfl (op_add (Ev.rfl' rfl) (Ev.rfl' rfl) wrapT) ?_
    refine JL_1 rfl (op_move rfl) ?_
    refine JL_nil ?_
    exact JQ_roundP (k + 1) ⟨by omega, fun j hj => by
      by_cases hjk : j = k
      · subst hjk; simp [headB]; simpa using h17
      · exact ht j (by omega)⟩ (by omega) esubT lessT
  refine JC_exit (JQ_then_exit (JQ_then_exit (JQ_hit (JQ_then (JC_seq ?_)))))
  refine JC_region ?_
  refine JL_1 rfl (op_assign rfl) ?_
  refine JL_nil ?_
  refine JQ_then (JC_ret ?_)
  refine JQ_ret1 Try.results12 rfl () (SubL.eq ?_) (List.nil_sublist _)
  have hkl : k = ms.length := by have := of_decide_eq_false h14; omega
  subst hkl
  rw [validR_0 g1 g2 h5 ⟨hs, ht⟩]
end Go.Proofs.Ytccgnekcbdkilaa

/- Contracts: the reference's Valid; lists compared. Own work. -/
namespace Go.Proofs.Ytccgnekcbdkilaa
open Go.RowKit
set_option linter.unusedVariables false
set_option linter.unusedSimpArgs false
set_option maxRecDepth 100000
theorem take_eq_succ {α : Type} {xs ys : List α} {k : Nat} {x y : α} (hx : xs[k]? = some x) (hy : ys[k]? = some y) (h : xs.take k = ys.take k) : (xs.take (k + 1) = ys.take (k + 1)) ↔ x = y := by
  rw [List.take_add_one, List.take_add_one, hx, hy, h]
  simp
set_option maxHeartbeats 1000000 in
-- slices.Equal[[]bodega/api.Page,bodega/api.Page]: function 43
theorem EqualPg_ok (xs ys : List Pg) : FnP Try.prog 43 [IsSl tPg xs, IsSl tPg ys] (Is (.bool (decide (xs = ys)))) := by
  refine FnP.enter Try.func43 Try.ntmps43 rfl rfl ?_
  intro c hX
  refine JC_len (t := 0) rfl (fun hlen => ?_)
  refine JC_seq ?_
  refine JC_region ?_
  refine JL_1 rfl (op_assign rfl) ?_
  refine JL_nil ?_
  refine JQ_then (JC_seq (JC_seq ?_))
  refine JC_region ?_
  refine JL_1 rfl (op_move rfl) ?_
  refine JL_1 rfl (by first | exact op_len (Ev.rfl' rfl) rfl | exact op_lenLit (Ev.rfl' rfl) rfl) ?_
  refine JL_1 rfl (op_move rfl) ?_
  refine JL_1 rfl (by first | exact op_len (Ev.rfl' rfl) rfl | exact op_lenLit (Ev.rfl' rfl) rfl) ?_
  refine JL_1 rfl (op_neq (Ev.rfl' rfl) (Ev.rfl' rfl)) ?_
  refine JL_nil ?_
  refine JQ_then ?_
  refine JC_cond (Ev.rfl' rfl) (fun h1 => ?_) (fun h1 => ?_)
  · have e : xs ≠ ys := by rintro rfl; simp at h1
    refine JC_seq ?_
    refine JC_region ?_
    refine JL_1 rfl (op_assign rfl) ?_
    refine JL_nil ?_
    refine JQ_then (JC_ret (JQ_then_ret ?_))
    refine JQ_ret1 Try.results43 rfl () (SubL.eq ?_) (List.nil_sublist _)
    rw [decide_eq_false e]
  have hl : xs.length = ys.length := by simp at h1; omega
  clear h1
  refine JC_skip (JQ_then (JC_seq (JC_seq ?_)))
  refine JC_region ?_
  refine JL_1 rfl (op_move rfl) ?_
  refine JL_1 rfl (by first | exact op_len (Ev.rfl' rfl) rfl | exact op_lenLit (Ev.rfl' rfl) rfl) ?_
  refine JL_1 rfl (op_move rfl) ?_
  refine JL_nil ?_
  refine JQ_then (JC_block ?_)
  refine JC_loopP (fun k : Nat => k ≤ xs.length ∧ xs.take k = ys.take k) (fun k => [(0, IsSl tPg xs), (1, IsSl tPg ys), (12, Is (.int .i64 xs.length)), (13, Is (.int .i64 (k : Nat)))]) (fun _ => []) (fun k => xs.length - k) 0 ⟨Nat.zero_le _, rfl⟩ esubT lessT ?_
  rintro k ⟨hk, hs⟩
  refine JC_seq ?_
  refine JC_region ?_
  refine JL_1 rfl (op_lss (Ev.rfl' rfl) (Ev.rfl' rfl)) ?_
  refine JL_nil ?_
  refine JQ_then (JC_seq ?_)
  refine JC_cond (Ev.rfl' rfl) (fun h4 => ?_) (fun h4 => ?_)
  · have h' : (k : Int) < xs.length := of_decide_eq_true h4
    clear h4
    obtain ⟨mx, hx⟩ : ∃ m, xs[k]? = some m := ⟨xs[k], List.getElem?_eq_getElem (by omega)⟩
    obtain ⟨my, hy⟩ : ∃ m, ys[k]? = some m := ⟨ys[k], List.getElem?_eq_getElem (by omega)⟩
    refine JC_skip (JQ_then (JC_seq (JC_block (JC_seq ?_))))
    refine JC_region ?_
    refine JL_1 rfl (op_move rfl) ?_
    refine JL_1 rfl (op_assign rfl) ?_
    refine JL_nil ?_
    refine JQ_then (JC_seq ?_)
    refine JC_dr rfl (by kernel_rfl) ?_
    refine JD_stretch 9 (by kernel_rfl) ?_
    refine JW_1 (op_move rfl) ?_
    refine JW_1 (op_move rfl) ?_
    refine JW_1 (by first | exact op_index (j := _) (Ev.rfl' rfl) (Ev.rfl' rfl) rfl rfl (by first | rfl | omega) hx | exact op_index (j := _) (Ev.rfl' rfl) (Ev.rfl' rfl) rfl rfl (by first | rfl | omega) hy | exact op_index (j := _) (Ev.rfl' rfl) (Ev.rfl' rfl) rfl rfl (by first | rfl | omega) (by assumption)) ?_
    refine JW_1 (by first | exact op_loadRefsN (n := 9) (Ev.rfl' rfl) rfl rfl rfl (by rfl) nrmT | exact op_loadPtrsN (n := 9) (Ev.rfl' rfl) memT (by rfl) (by rfl) (by rfl) (by rfl) nrmT) ?_
    refine JW_1 (op_move rfl) ?_
    refine JW_1 (op_move rfl) ?_
    refine JW_1 (by first | exact op_index (j := _) (Ev.rfl' rfl) (Ev.rfl' rfl) rfl rfl (by first | rfl | omega) hx | exact op_index (j := _) (Ev.rfl' rfl) (Ev.rfl' rfl) rfl rfl (by first | rfl | omega) hy | exact op_index (j := _) (Ev.rfl' rfl) (Ev.rfl' rfl) rfl rfl (by first | rfl | omega) (by assumption)) ?_
    refine JW_1 (by first | exact op_loadRefsN (n := 9) (Ev.rfl' rfl) rfl rfl rfl (by rfl) nrmT | exact op_loadPtrsN (n := 9) (Ev.rfl' rfl) memT (by rfl) (by rfl) (by rfl) (by rfl) nrmT) ?_
    refine JW_1 (op_cmpA (vs := Pg.cells mx) (ws := Pg.cells my) (Ev.rfl' rfl) (Ev.rfl' rfl) (eqPg_guard _ _ _ mx my) (eqPg_neq mx my)) ?_
    refine ⟨rfl, ?_⟩
    refine JD_end ?_
    refine JQ_then ?_
    refine JC_cond (Ev.rfl' rfl) (fun h6 => ?_) (fun h6 => ?_)
    · have e : xs ≠ ys := by
        rintro rfl
        rw [hx] at hy
        have hm : mx = my := by simpa using hy
        subst hm
        simp at h6
      refine JC_seq ?_
      refine JC_region ?_
      refine JL_1 rfl (op_assign rfl) ?_
      refine JL_nil ?_
      refine JQ_then (JC_ret (JQ_block_ret (JQ_then_ret (JQ_then_ret (JQ_block_ret (JQ_then_ret ?_))))))
      refine JQ_ret1 Try.results43 rfl () (SubL.eq ?_) (List.nil_sublist _)
      rw [decide_eq_false e]
    have e : mx = my := by simpa [UV_inj] using h6
    clear h6
    refine JC_skip (JQ_block (JQ_then ?_))
    refine JC_region ?_
    refine JL_1 rfl (op_add (Ev.rfl' rfl) (Ev.rfl' rfl) wrapT) ?_
    refine JL_1 rfl (op_move rfl) ?_
    refine JL_nil ?_
    exact JQ_roundP (k + 1) ⟨by omega, (take_eq_succ hx hy hs).2 e⟩ (by omega) esubT lessT
  have e : xs = ys := by
    have h' : ¬ (k : Int) < xs.length := of_decide_eq_false h4
    rw [List.take_of_length_le (by omega), List.take_of_length_le (by omega)] at hs
    exact hs
  clear h4
  refine JC_exit (JQ_then_exit (JQ_then_exit (JQ_hit (JQ_then (JC_seq ?_)))))
  refine JC_region ?_
  refine JL_1 rfl (op_assign rfl) ?_
  refine JL_nil ?_
  refine JQ_then (JC_ret ?_)
  refine JQ_ret1 Try.results43 rfl () (SubL.eq ?_) (List.nil_sublist _)
  rw [decide_eq_true e]
set_option maxHeartbeats 1000000 in
-- bodegaref4.SamePages: function 44
theorem SamePages_ok (xs ys : List Pg) : FnP Try.prog 44 [IsSl tPg xs, IsSl tPg ys] (Is (.bool (decide (xs = ys)))) := by
  refine FnP.enter Try.func44 Try.ntmps44 rfl rfl ?_
  intro c hX
  refine JC_len (t := 0) rfl (fun hlen => ?_)
  refine JC_seq ?_
  refine JC_region ?_
  refine JL_1 rfl (op_assign rfl) ?_
  refine JL_nil ?_
  refine JQ_then (JC_seq (JC_seq ?_))
  refine JC_region ?_
  refine JL_1 rfl (op_move rfl) ?_
  refine JL_1 rfl (by first | exact op_len (Ev.rfl' rfl) rfl | exact op_lenLit (Ev.rfl' rfl) rfl) ?_
  refine JL_1 rfl (op_move rfl) ?_
  refine JL_1 rfl (by first | exact op_len (Ev.rfl' rfl) rfl | exact op_lenLit (Ev.rfl' rfl) rfl) ?_
  refine JL_1 rfl (op_neq (Ev.rfl' rfl) (Ev.rfl' rfl)) ?_
  refine JL_nil ?_
  refine JQ_then ?_
  refine JC_cond (Ev.rfl' rfl) (fun h1 => ?_) (fun h1 => ?_)
  · have e : xs ≠ ys := by rintro rfl; simp at h1
    refine JC_seq ?_
    refine JC_region ?_
    refine JL_1 rfl (op_assign rfl) ?_
    refine JL_nil ?_
    refine JQ_then (JC_ret (JQ_then_ret ?_))
    refine JQ_ret1 Try.results44 rfl () (SubL.eq ?_) (List.nil_sublist _)
    rw [decide_eq_false e]
  have hl : xs.length = ys.length := by simp at h1; omega
  clear h1
  refine JC_skip (JQ_then (JC_seq (JC_seq ?_)))
  refine JC_region ?_
  refine JL_1 rfl (op_assign rfl) ?_
  refine JL_nil ?_
  refine JQ_then (JC_block ?_)
  refine JC_loopP (fun k : Nat => k ≤ xs.length ∧ xs.take k = ys.take k) (fun k => [(0, IsSl tPg xs), (1, IsSl tPg ys), (5, Is (.int .i64 (k : Nat)))]) (fun _ => []) (fun k => xs.length - k) 0 ⟨Nat.zero_le _, rfl⟩ esubT lessT ?_
  rintro k ⟨hk, hs⟩
  refine JC_seq (JC_seq ?_)
  refine JC_region ?_
  refine JL_1 rfl (op_move rfl) ?_
  refine JL_1 rfl (op_move rfl) ?_
  refine JL_1 rfl (by first | exact op_len (Ev.rfl' rfl) rfl | exact op_lenLit (Ev.rfl' rfl) rfl) ?_
  refine JL_1 rfl (op_lss (Ev.rfl' rfl) (Ev.rfl' rfl)) ?_
  refine JL_nil ?_
  refine JQ_then ?_
  refine JC_cond (Ev.rfl' rfl) (fun h4 => ?_) (fun h4 => ?_)
  · have h' : (k : Int) < xs.length := of_decide_eq_true h4
    clear h4
    obtain ⟨mx, hx⟩ : ∃ m, xs[k]? = some m := ⟨xs[k], List.getElem?_eq_getElem (by omega)⟩
    obtain ⟨my, hy⟩ : ∃ m, ys[k]? = some m := ⟨ys[k], List.getElem?_eq_getElem (by omega)⟩
    refine JC_skip (JQ_then (JC_seq (JC_block (JC_seq ?_))))
    refine JC_dr rfl (by kernel_rfl) ?_
    refine JD_stretch 9 (by kernel_rfl) ?_
    refine JW_1 (op_move rfl) ?_
    refine JW_1 (op_move rfl) ?_
    refine JW_1 (by first | exact op_index (j := _) (Ev.rfl' rfl) (Ev.rfl' rfl) rfl rfl (by first | rfl | omega) hx | exact op_index (j := _) (Ev.rfl' rfl) (Ev.rfl' rfl) rfl rfl (by first | rfl | omega) hy | exact op_index (j := _) (Ev.rfl' rfl) (Ev.rfl' rfl) rfl rfl (by first | rfl | omega) (by assumption)) ?_
    refine JW_1 (by first | exact op_loadRefsN (n := 9) (Ev.rfl' rfl) rfl rfl rfl (by rfl) nrmT | exact op_loadPtrsN (n := 9) (Ev.rfl' rfl) memT (by rfl) (by rfl) (by rfl) (by rfl) nrmT) ?_
    refine JW_1 (op_move rfl) ?_
    refine JW_1 (op_move rfl) ?_
    refine JW_1 (by first | exact op_index (j := _) (Ev.rfl' rfl) (Ev.rfl' rfl) rfl rfl (by first | rfl | omega) hx | exact op_index (j := _) (Ev.rfl' rfl) (Ev.rfl' rfl) rfl rfl (by first | rfl | omega) hy | exact op_index (j := _) (Ev.rfl' rfl) (Ev.rfl' rfl) rfl rfl (by first | rfl | omega) (by assumption)) ?_
    refine JW_1 (by first | exact op_loadRefsN (n := 9) (Ev.rfl' rfl) rfl rfl rfl (by rfl) nrmT | exact op_loadPtrsN (n := 9) (Ev.rfl' rfl) memT (by rfl) (by rfl) (by rfl) (by rfl) nrmT) ?_
    refine JW_1 (op_cmpA (vs := Pg.cells mx) (ws := Pg.cells my) (Ev.rfl' rfl) (Ev.rfl' rfl) (eqPg_guard _ _ _ mx my) (eqPg_neq mx my)) ?_
    refine ⟨rfl, ?_⟩
    refine JD_end ?_
    refine JQ_then ?_
    refine JC_cond (Ev.rfl' rfl) (fun h6 => ?_) (fun h6 => ?_)
    · have e : xs ≠ ys := by
        rintro rfl
        rw [hx] at hy
        have hm : mx = my := by simpa using hy
        subst hm
        simp at h6
      refine JC_seq ?_
      refine JC_region ?_
      refine JL_1 rfl (op_assign rfl) ?_
      refine JL_nil ?_
      refine JQ_then (JC_ret (JQ_block_ret (JQ_then_ret (JQ_then_ret (JQ_block_ret (JQ_then_ret ?_))))))
      refine JQ_ret1 Try.results44 rfl () (SubL.eq ?_) (List.nil_sublist _)
      rw [decide_eq_false e]
    have e : mx = my := by simpa [UV_inj] using h6
    clear h6
    refine JC_skip (JQ_block (JQ_then ?_))
    refine JC_region ?_
    refine JL_1 rfl (op_move rfl) ?_
    refine JL_1 rfl (op_add (Ev.rfl' rfl) (Ev.rfl' rfl) wrapT) ?_
    refine JL_1 rfl (op_assign rfl) ?_
    refine JL_nil ?_
    exact JQ_roundP (k + 1) ⟨by omega, (take_eq_succ hx hy hs).2 e⟩ (by omega) esubT lessT
  have e : xs = ys := by
    have h' : ¬ (k : Int) < xs.length := of_decide_eq_false h4
    rw [List.take_of_length_le (by omega), List.take_of_length_le (by omega)] at hs
    exact hs
  clear h4
  refine JC_exit (JQ_then_exit (JQ_then_exit (JQ_hit (JQ_then (JC_seq ?_)))))
  refine JC_region ?_
  refine JL_1 rfl (op_assign rfl) ?_
  refine JL_nil ?_
  refine JQ_then (JC_ret ?_)
  refine JQ_ret1 Try.results44 rfl () (SubL.eq ?_) (List.nil_sublist _)
  rw [decide_eq_true e]
set_option maxHeartbeats 1000000 in
-- slices.Equal[[]uint64,uint64]: function 49
theorem EqualU_ok (xs ys : List (BitVec 64)) : FnP Try.prog 49 [IsSl tU64 xs, IsSl tU64 ys] (Is (.bool (decide (xs = ys)))) := by
  refine FnP.enter Try.func49 Try.ntmps49 rfl rfl ?_
  intro c hX
  refine JC_len (t := 0) rfl (fun hlen => ?_)
  refine JC_seq ?_
  refine JC_region ?_
  refine JL_1 rfl (op_assign rfl) ?_
  refine JL_nil ?_
  refine JQ_then (JC_seq (JC_seq ?_))
  refine JC_region ?_
  refine JL_1 rfl (op_move rfl) ?_
  refine JL_1 rfl (by first | exact op_len (Ev.rfl' rfl) rfl | exact op_lenLit (Ev.rfl' rfl) rfl) ?_
  refine JL_1 rfl (op_move rfl) ?_
  refine JL_1 rfl (by first | exact op_len (Ev.rfl' rfl) rfl | exact op_lenLit (Ev.rfl' rfl) rfl) ?_
  refine JL_1 rfl (op_neq (Ev.rfl' rfl) (Ev.rfl' rfl)) ?_
  refine JL_nil ?_
  refine JQ_then ?_
  refine JC_cond (Ev.rfl' rfl) (fun h1 => ?_) (fun h1 => ?_)
  · have e : xs ≠ ys := by rintro rfl; simp at h1
    refine JC_seq ?_
    refine JC_region ?_
    refine JL_1 rfl (op_assign rfl) ?_
    refine JL_nil ?_
    refine JQ_then (JC_ret (JQ_then_ret ?_))
    refine JQ_ret1 Try.results49 rfl () (SubL.eq ?_) (List.nil_sublist _)
    rw [decide_eq_false e]
  have hl : xs.length = ys.length := by simp at h1; omega
  clear h1
  refine JC_skip (JQ_then (JC_seq (JC_seq ?_)))
  refine JC_region ?_
  refine JL_1 rfl (op_move rfl) ?_
  refine JL_1 rfl (by first | exact op_len (Ev.rfl' rfl) rfl | exact op_lenLit (Ev.rfl' rfl) rfl) ?_
  refine JL_1 rfl (op_move rfl) ?_
  refine JL_nil ?_
  refine JQ_then (JC_block ?_)
  refine JC_loopP (fun k : Nat => k ≤ xs.length ∧ xs.take k = ys.take k) (fun k => [(0, IsSl tU64 xs), (1, IsSl tU64 ys), (12, Is (.int .i64 xs.length)), (13, Is (.int .i64 (k : Nat)))]) (fun _ => []) (fun k => xs.length - k) 0 ⟨Nat.zero_le _, rfl⟩ esubT lessT ?_
  rintro k ⟨hk, hs⟩
  refine JC_seq ?_
  refine JC_region ?_
  refine JL_1 rfl (op_lss (Ev.rfl' rfl) (Ev.rfl' rfl)) ?_
  refine JL_nil ?_
  refine JQ_then (JC_seq ?_)
  refine JC_cond (Ev.rfl' rfl) (fun h4 => ?_) (fun h4 => ?_)
  · have h' : (k : Int) < xs.length := of_decide_eq_true h4
    clear h4
    obtain ⟨mx, hx⟩ : ∃ m, xs[k]? = some m := ⟨xs[k], List.getElem?_eq_getElem (by omega)⟩
    obtain ⟨my, hy⟩ : ∃ m, ys[k]? = some m := ⟨ys[k], List.getElem?_eq_getElem (by omega)⟩
    refine JC_skip (JQ_then (JC_seq (JC_block (JC_seq ?_))))
    refine JC_region ?_
    refine JL_1 rfl (op_move rfl) ?_
    refine JL_1 rfl (op_assign rfl) ?_
    refine JL_nil ?_
    refine JQ_then (JC_seq ?_)
    refine JC_dr rfl (by kernel_rfl) ?_
    refine JD_stretch 9 (by kernel_rfl) ?_
    refine JW_1 (op_move rfl) ?_
    refine JW_1 (op_move rfl) ?_
    refine JW_1 (by first | exact op_index (j := _) (Ev.rfl' rfl) (Ev.rfl' rfl) rfl rfl (by first | rfl | omega) hx | exact op_index (j := _) (Ev.rfl' rfl) (Ev.rfl' rfl) rfl rfl (by first | rfl | omega) hy | exact op_index (j := _) (Ev.rfl' rfl) (Ev.rfl' rfl) rfl rfl (by first | rfl | omega) (by assumption)) ?_
    refine JW_1 (by first | exact op_loadRef (Ev.rfl' rfl) rfl rfl rfl | exact op_loadPtr (Ev.rfl' rfl) memT (by rfl) (by rfl) (by rfl)) ?_
    refine JW_1 (op_move rfl) ?_
    refine JW_1 (op_move rfl) ?_
    refine JW_1 (by first | exact op_index (j := _) (Ev.rfl' rfl) (Ev.rfl' rfl) rfl rfl (by first | rfl | omega) hx | exact op_index (j := _) (Ev.rfl' rfl) (Ev.rfl' rfl) rfl rfl (by first | rfl | omega) hy | exact op_index (j := _) (Ev.rfl' rfl) (Ev.rfl' rfl) rfl rfl (by first | rfl | omega) (by assumption)) ?_
    refine JW_1 (by first | exact op_loadRef (Ev.rfl' rfl) rfl rfl rfl | exact op_loadPtr (Ev.rfl' rfl) memT (by rfl) (by rfl) (by rfl)) ?_
    refine JW_1 (op_neq (Ev.rfl' rfl) (Ev.rfl' rfl)) ?_
    refine ⟨rfl, ?_⟩
    refine JD_end ?_
    refine JQ_then ?_
    refine JC_cond (Ev.rfl' rfl) (fun h6 => ?_) (fun h6 => ?_)
    · have e : xs ≠ ys := by
        rintro rfl
        rw [hx] at hy
        have hm : mx = my := by simpa using hy
        subst hm
        simp at h6
      refine JC_seq ?_
      refine JC_region ?_
      refine JL_1 rfl (op_assign rfl) ?_
      refine JL_nil ?_
      refine JQ_then (JC_ret (JQ_block_ret (JQ_then_ret (JQ_then_ret (JQ_block_ret (JQ_then_ret ?_))))))
      refine JQ_ret1 Try.results49 rfl () (SubL.eq ?_) (List.nil_sublist _)
      rw [decide_eq_false e]
    have e : mx = my := by simpa [UV_inj] using h6
    clear h6
    refine JC_skip (JQ_block (JQ_then ?_))
    refine JC_region ?_
    refine JL_1 rfl (op_add (Ev.rfl' rfl) (Ev.rfl' rfl) wrapT) ?_
    refine JL_1 rfl (op_move rfl) ?_
    refine JL_nil ?_
    exact JQ_roundP (k + 1) ⟨by omega, (take_eq_succ hx hy hs).2 e⟩ (by omega) esubT lessT
  have e : xs = ys := by
    have h' : ¬ (k : Int) < xs.length := of_decide_eq_false h4
    rw [List.take_of_length_le (by omega), List.take_of_length_le (by omega)] at hs
    exact hs
  clear h4
  refine JC_exit (JQ_then_exit (JQ_then_exit (JQ_hit (JQ_then (JC_seq ?_)))))
  refine JC_region ?_
  refine JL_1 rfl (op_assign rfl) ?_
  refine JL_nil ?_
  refine JQ_then (JC_ret ?_)
  refine JQ_ret1 Try.results49 rfl () (SubL.eq ?_) (List.nil_sublist _)
  rw [decide_eq_true e]
set_option maxHeartbeats 1000000 in
-- bodegaref1.SameWords: function 18
theorem SameWords_ok (xs ys : List (BitVec 64)) : FnP Try.prog 18 [IsSl tU64 xs, IsSl tU64 ys] (Is (.bool (decide (xs = ys)))) := by
  refine FnP.enter Try.func18 Try.ntmps18 rfl rfl ?_
  intro c hX
  refine JC_len (t := 0) rfl (fun hlen => ?_)
  refine JC_seq ?_
  refine JC_region ?_
  refine JL_1 rfl (op_assign rfl) ?_
  refine JL_nil ?_
  refine JQ_then (JC_seq (JC_seq ?_))
  refine JC_region ?_
  refine JL_1 rfl (op_move rfl) ?_
  refine JL_1 rfl (by first | exact op_len (Ev.rfl' rfl) rfl | exact op_lenLit (Ev.rfl' rfl) rfl) ?_
  refine JL_1 rfl (op_move rfl) ?_
  refine JL_1 rfl (by first | exact op_len (Ev.rfl' rfl) rfl | exact op_lenLit (Ev.rfl' rfl) rfl) ?_
  refine JL_1 rfl (op_neq (Ev.rfl' rfl) (Ev.rfl' rfl)) ?_
  refine JL_nil ?_
  refine JQ_then ?_
  refine JC_cond (Ev.rfl' rfl) (fun h1 => ?_) (fun h1 => ?_)
  · have e : xs ≠ ys := by rintro rfl; simp at h1
    refine JC_seq ?_
    refine JC_region ?_
    refine JL_1 rfl (op_assign rfl) ?_
    refine JL_nil ?_
    refine JQ_then (JC_ret (JQ_then_ret ?_))
    refine JQ_ret1 Try.results18 rfl () (SubL.eq ?_) (List.nil_sublist _)
    rw [decide_eq_false e]
  have hl : xs.length = ys.length := by simp at h1; omega
  clear h1
  refine JC_skip (JQ_then (JC_seq (JC_seq ?_)))
  refine JC_region ?_
  refine JL_1 rfl (op_assign rfl) ?_
  refine JL_nil ?_
  refine JQ_then (JC_block ?_)
  refine JC_loopP (fun k : Nat => k ≤ xs.length ∧ xs.take k = ys.take k) (fun k => [(0, IsSl tU64 xs), (1, IsSl tU64 ys), (5, Is (.int .i64 (k : Nat)))]) (fun _ => []) (fun k => xs.length - k) 0 ⟨Nat.zero_le _, rfl⟩ esubT lessT ?_
  rintro k ⟨hk, hs⟩
  refine JC_seq (JC_seq ?_)
  refine JC_region ?_
  refine JL_1 rfl (op_move rfl) ?_
  refine JL_1 rfl (op_move rfl) ?_
  refine JL_1 rfl (by first | exact op_len (Ev.rfl' rfl) rfl | exact op_lenLit (Ev.rfl' rfl) rfl) ?_
  refine JL_1 rfl (op_lss (Ev.rfl' rfl) (Ev.rfl' rfl)) ?_
  refine JL_nil ?_
  refine JQ_then ?_
  refine JC_cond (Ev.rfl' rfl) (fun h4 => ?_) (fun h4 => ?_)
  · have h' : (k : Int) < xs.length := of_decide_eq_true h4
    clear h4
    obtain ⟨mx, hx⟩ : ∃ m, xs[k]? = some m := ⟨xs[k], List.getElem?_eq_getElem (by omega)⟩
    obtain ⟨my, hy⟩ : ∃ m, ys[k]? = some m := ⟨ys[k], List.getElem?_eq_getElem (by omega)⟩
    refine JC_skip (JQ_then (JC_seq (JC_block (JC_seq ?_))))
    refine JC_dr rfl (by kernel_rfl) ?_
    refine JD_stretch 9 (by kernel_rfl) ?_
    refine JW_1 (op_move rfl) ?_
    refine JW_1 (op_move rfl) ?_
    refine JW_1 (by first | exact op_index (j := _) (Ev.rfl' rfl) (Ev.rfl' rfl) rfl rfl (by first | rfl | omega) hx | exact op_index (j := _) (Ev.rfl' rfl) (Ev.rfl' rfl) rfl rfl (by first | rfl | omega) hy | exact op_index (j := _) (Ev.rfl' rfl) (Ev.rfl' rfl) rfl rfl (by first | rfl | omega) (by assumption)) ?_
    refine JW_1 (by first | exact op_loadRef (Ev.rfl' rfl) rfl rfl rfl | exact op_loadPtr (Ev.rfl' rfl) memT (by rfl) (by rfl) (by rfl)) ?_
    refine JW_1 (op_move rfl) ?_
    refine JW_1 (op_move rfl) ?_
    refine JW_1 (by first | exact op_index (j := _) (Ev.rfl' rfl) (Ev.rfl' rfl) rfl rfl (by first | rfl | omega) hx | exact op_index (j := _) (Ev.rfl' rfl) (Ev.rfl' rfl) rfl rfl (by first | rfl | omega) hy | exact op_index (j := _) (Ev.rfl' rfl) (Ev.rfl' rfl) rfl rfl (by first | rfl | omega) (by assumption)) ?_
    refine JW_1 (by first | exact op_loadRef (Ev.rfl' rfl) rfl rfl rfl | exact op_loadPtr (Ev.rfl' rfl) memT (by rfl) (by rfl) (by rfl)) ?_
    refine JW_1 (op_neq (Ev.rfl' rfl) (Ev.rfl' rfl)) ?_
    refine ⟨rfl, ?_⟩
    refine JD_end ?_
    refine JQ_then ?_
    refine JC_cond (Ev.rfl' rfl) (fun h6 => ?_) (fun h6 => ?_)
    · have e : xs ≠ ys := by
        rintro rfl
        rw [hx] at hy
        have hm : mx = my := by simpa using hy
        subst hm
        simp at h6
      refine JC_seq ?_
      refine JC_region ?_
      refine JL_1 rfl (op_assign rfl) ?_
      refine JL_nil ?_
      refine JQ_then (JC_ret (JQ_block_ret (JQ_then_ret (JQ_then_ret (JQ_block_ret (JQ_then_ret ?_))))))
      refine JQ_ret1 Try.results18 rfl () (SubL.eq ?_) (List.nil_sublist _)
      rw [decide_eq_false e]
    have e : mx = my := by simpa [UV_inj] using h6
    clear h6
    refine JC_skip (JQ_block (JQ_then ?_))
    refine JC_region ?_
    refine JL_1 rfl (op_move rfl) ?_
    refine JL_1 rfl (op_add (Ev.rfl' rfl) (Ev.rfl' rfl) wrapT) ?_
    refine JL_1 rfl (op_assign rfl) ?_
    refine JL_nil ?_
    exact JQ_roundP (k + 1) ⟨by omega, (take_eq_succ hx hy hs).2 e⟩ (by omega) esubT lessT
  have e : xs = ys := by
    have h' : ¬ (k : Int) < xs.length := of_decide_eq_false h4
    rw [List.take_of_length_le (by omega), List.take_of_length_le (by omega)] at hs
    exact hs
  clear h4
  refine JC_exit (JQ_then_exit (JQ_then_exit (JQ_hit (JQ_then (JC_seq ?_)))))
  refine JC_region ?_
  refine JL_1 rfl (op_assign rfl) ?_
  refine JL_nil ?_
  refine JQ_then (JC_ret ?_)
  refine JQ_ret1 Try.results18 rfl () (SubL.eq ?_) (List.nil_sublist _)
  rw [decide_eq_true e]
-- bodegaref1.InHeap: function 40
theorem InHeap_ok (n lines : Int) (hl : 98 ≤ lines ∧ lines ≤ 256) : FnP Try.prog 40 [Is (.int .i64 n), Is (.int .i64 lines)] (Is (.bool (!(decide (n < 96) || decide (n ≥ lines))))) := by
  refine FnP.enter Try.func40 Try.ntmps40 rfl rfl ?_
  intro c hX
  refine JC_seq ?_
  refine JC_region ?_
  refine JL_1 rfl (op_assign rfl) ?_
  refine JL_nil ?_
  refine JQ_then (JC_seq ?_)
  refine JC_region ?_
  refine JL_1 rfl (op_move rfl) ?_
  refine JL_1 rfl (op_geq (Ev.rfl' rfl) (Ev.rfl' rfl)) ?_
  refine JL_1 rfl (op_move rfl) ?_
  (first | refine JL_i0 rfl rfl rfl (fun hg => (by have hg0 := hg; (try simp at hg); first | exact op_moveE (Ev.sub rfl (SubL.iteT (by first | assumption | (simp; done) | (simp; omega) | (simp_all; done)) SubL.rfl')) | exact op_moveE (Ev.rfl' rfl))) ?_ | refine JL_i rfl rfl rfl (fun hp hg => (by have hpg := Bool.and_eq_true_iff.2 ⟨hp, hg⟩; have hg0 := hg; (try simp at hg); first | exact op_moveE (Ev.sub rfl (SubL.iteT (by first | assumption | (simp; done) | (simp; omega) | (simp_all; done)) SubL.rfl')) | exact op_moveE (Ev.rfl' rfl))) ?_)
  (first | refine JL_i0 rfl rfl rfl (fun hg => (by have hg0 := hg; (try simp at hg); exact op_leq evG evG)) ?_ | refine JL_i rfl rfl rfl (fun hp hg => (by have hpg := Bool.and_eq_true_iff.2 ⟨hp, hg⟩; have hg0 := hg; (try simp at hg); exact op_leq evG evG)) ?_)
  refine JL_1 rfl (op_and (Ev.rfl' rfl) rfl (fun h => by first | exact SubL.rfl' | exact SubL.iteT (by first | (rw [h]; rfl) | (simp_all; done)) SubL.rfl')) ?_
  refine JL_1 rfl (op_move rfl) ?_
  (first | refine JL_i0 rfl rfl rfl (fun hg => (by have hg0 := hg; (try simp at hg); first | exact op_moveE (Ev.sub rfl (SubL.iteT (by first | assumption | (simp; done) | (simp; omega) | (simp_all; done)) SubL.rfl')) | exact op_moveE (Ev.rfl' rfl))) ?_ | refine JL_i rfl rfl rfl (fun hp hg => (by have hpg := Bool.and_eq_true_iff.2 ⟨hp, hg⟩; have hg0 := hg; (try simp at hg); first | exact op_moveE (Ev.sub rfl (SubL.iteT (by first | assumption | (simp; done) | (simp; omega) | (simp_all; done)) SubL.rfl')) | exact op_moveE (Ev.rfl' rfl))) ?_)
  (first | refine JL_i0 rfl rfl rfl (fun hg => (by have hg0 := hg; (try simp at hg); exact op_geq evG evG)) ?_ | refine JL_i rfl rfl rfl (fun hp hg => (by have hpg := Bool.and_eq_true_iff.2 ⟨hp, hg⟩; have hg0 := hg; (try simp at hg); exact op_geq evG evG)) ?_)
  refine JL_1 rfl (op_and (Ev.rfl' rfl) rfl (fun h => by first | exact SubL.rfl' | exact SubL.iteT (by first | (rw [h]; rfl) | (simp_all; done)) SubL.rfl')) ?_
  refine JL_1 rfl (op_move rfl) ?_
  (first | refine JL_i0 rfl rfl rfl (fun hg => (by have hg0 := hg; (try simp at hg); first | exact op_moveE (Ev.sub rfl (SubL.iteT (by first | assumption | (simp; done) | (simp; omega) | (simp_all; done)) SubL.rfl')) | exact op_moveE (Ev.rfl' rfl))) ?_ | refine JL_i rfl rfl rfl (fun hp hg => (by have hpg := Bool.and_eq_true_iff.2 ⟨hp, hg⟩; have hg0 := hg; (try simp at hg); first | exact op_moveE (Ev.sub rfl (SubL.iteT (by first | assumption | (simp; done) | (simp; omega) | (simp_all; done)) SubL.rfl')) | exact op_moveE (Ev.rfl' rfl))) ?_)
  (first | refine JL_i0 rfl rfl rfl (fun hg => (by have hg0 := hg; (try simp at hg); first | exact op_moveE (Ev.sub rfl (SubL.iteT (by first | assumption | (simp; done) | (simp; omega) | (simp_all; done)) SubL.rfl')) | exact op_moveE (Ev.rfl' rfl))) ?_ | refine JL_i rfl rfl rfl (fun hp hg => (by have hpg := Bool.and_eq_true_iff.2 ⟨hp, hg⟩; have hg0 := hg; (try simp at hg); first | exact op_moveE (Ev.sub rfl (SubL.iteT (by first | assumption | (simp; done) | (simp; omega) | (simp_all; done)) SubL.rfl')) | exact op_moveE (Ev.rfl' rfl))) ?_)
  (first | refine JL_i0 rfl rfl rfl (fun hg => (by have hg0 := hg; (try simp at hg); exact op_lss evG evG)) ?_ | refine JL_i rfl rfl rfl (fun hp hg => (by have hpg := Bool.and_eq_true_iff.2 ⟨hp, hg⟩; have hg0 := hg; (try simp at hg); exact op_lss evG evG)) ?_)
  refine JL_1 rfl (op_and (Ev.rfl' rfl) rfl (fun h => by first | exact SubL.rfl' | exact SubL.iteT (by first | (rw [h]; rfl) | (simp_all; done)) SubL.rfl')) ?_
  refine JL_1 rfl (op_assign rfl) ?_
  refine JL_nil ?_
  refine JQ_then (JC_ret ?_)
  refine JQ_ret1 Try.results40 rfl () (SubL.eq ?_) (List.nil_sublist _)
  congr 2
  rw [Bool.eq_iff_iff]
  simp
  omega
-- logrec.Same: function 15
theorem Same_ok (s t : Int) (xs ys : List Pg) : FnP Try.prog 15 [IsRec s xs, IsRec t ys] (Is (.bool (s == t && decide (xs = ys)))) := by
  refine FnP.enter Try.func15 Try.ntmps15 rfl rfl ?_
  intro c hX
  refine JC_seq ?_
  refine JC_region ?_
  (refine JL_n rfl (op_box (Ev.rfl' rfl) cellsT) ?_; intro i2)
  (refine JL_n rfl (op_box (Ev.rfl' rfl) cellsT) ?_; intro i3)
  refine JL_1 rfl (op_assign rfl) ?_
  refine JL_nil ?_
  refine JQ_then (JC_seq ?_)
  refine JC_region ?_
  refine JL_1 rfl (by first | exact op_fieldPtr (k := 0) (Ev.rfl' rfl) rfl rfl rfl rfl | exact op_fieldRefN (k := 0) (Ev.rfl' rfl) rfl rfl rfl rfl nrmT) ?_
  refine JL_1 rfl (by first | exact op_loadRef (Ev.rfl' rfl) rfl rfl rfl | exact op_loadPtr (Ev.rfl' rfl) memT (by rfl) (by rfl) (by rfl)) ?_
  refine JL_1 rfl (by first | exact op_fieldPtr (k := 0) (Ev.rfl' rfl) rfl rfl rfl rfl | exact op_fieldRefN (k := 0) (Ev.rfl' rfl) rfl rfl rfl rfl nrmT) ?_
  refine JL_1 rfl (by first | exact op_loadRef (Ev.rfl' rfl) rfl rfl rfl | exact op_loadPtr (Ev.rfl' rfl) memT (by rfl) (by rfl) (by rfl)) ?_
  refine JL_1 rfl (op_eql (Ev.rfl' rfl) (Ev.rfl' rfl)) ?_
  refine JL_1 rfl (op_move rfl) ?_
  (first | refine JL_i0 rfl rfl rfl (fun hg => (by have hg0 := hg; (try simp at hg); first | exact op_fieldPtr (k := 1) evG rfl rfl rfl rfl | exact op_fieldRefN (k := 1) evG rfl rfl rfl rfl nrmT)) ?_ | refine JL_i rfl rfl rfl (fun hp hg => (by have hpg := Bool.and_eq_true_iff.2 ⟨hp, hg⟩; have hg0 := hg; (try simp at hg); first | exact op_fieldPtr (k := 1) evG rfl rfl rfl rfl | exact op_fieldRefN (k := 1) evG rfl rfl rfl rfl nrmT)) ?_)
  (first | refine JL_i0 rfl rfl rfl (fun hg => (by have hg0 := hg; (try simp at hg); first | exact op_loadRef evG rfl rfl rfl | exact op_loadPtr evG memT (by rfl) (by rfl) (by rfl))) ?_ | refine JL_i rfl rfl rfl (fun hp hg => (by have hpg := Bool.and_eq_true_iff.2 ⟨hp, hg⟩; have hg0 := hg; (try simp at hg); first | exact op_loadRef evG rfl rfl rfl | exact op_loadPtr evG memT (by rfl) (by rfl) (by rfl))) ?_)
  (first | refine JL_i0 rfl rfl rfl (fun hg => (by have hg0 := hg; (try simp at hg); first | exact op_fieldPtr (k := 1) evG rfl rfl rfl rfl | exact op_fieldRefN (k := 1) evG rfl rfl rfl rfl nrmT)) ?_ | refine JL_i rfl rfl rfl (fun hp hg => (by have hpg := Bool.and_eq_true_iff.2 ⟨hp, hg⟩; have hg0 := hg; (try simp at hg); first | exact op_fieldPtr (k := 1) evG rfl rfl rfl rfl | exact op_fieldRefN (k := 1) evG rfl rfl rfl rfl nrmT)) ?_)
  (first | refine JL_i0 rfl rfl rfl (fun hg => (by have hg0 := hg; (try simp at hg); first | exact op_loadRef evG rfl rfl rfl | exact op_loadPtr evG memT (by rfl) (by rfl) (by rfl))) ?_ | refine JL_i rfl rfl rfl (fun hp hg => (by have hpg := Bool.and_eq_true_iff.2 ⟨hp, hg⟩; have hg0 := hg; (try simp at hg); first | exact op_loadRef evG rfl rfl rfl | exact op_loadPtr evG memT (by rfl) (by rfl) (by rfl))) ?_)
  (first | refine JL_i0 rfl rfl rfl (fun hg => (by have hg0 := hg; (try simp at hg); exact op_call Try.call43 (EqualPg_ok _ _) ⟨evS, ⟨evS, trivial⟩⟩)) ?_ | refine JL_i rfl rfl rfl (fun hp hg => (by have hpg := Bool.and_eq_true_iff.2 ⟨hp, hg⟩; have hg0 := hg; (try simp at hg); exact op_call Try.call43 (EqualPg_ok _ _) ⟨evS, ⟨evS, trivial⟩⟩)) ?_)
  refine JL_1 rfl (op_and (Ev.rfl' rfl) rfl (fun h => by first | exact SubL.rfl' | exact SubL.iteT (by first | (rw [h]; rfl) | (simp_all; done)) SubL.rfl')) ?_
  refine JL_1 rfl (op_assign rfl) ?_
  refine JL_nil ?_
  refine JQ_then (JC_ret ?_)
  refine JQ_ret1 Try.results15 rfl () (SubL.eq ?_) (List.nil_sublist _)
  rfl
-- bodegaref4.SameRecord: function 16
theorem SameR_ok (s t : Int) (xs ys : List Pg) : FnP Try.prog 16 [IsRec s xs, IsRec t ys] (Is (.bool (s == t && decide (xs = ys)))) := by
  refine FnP.enter Try.func16 Try.ntmps16 rfl rfl ?_
  intro c hX
  refine JC_seq ?_
  refine JC_region ?_
  (refine JL_n rfl (op_box (Ev.rfl' rfl) cellsT) ?_; intro i2)
  (refine JL_n rfl (op_box (Ev.rfl' rfl) cellsT) ?_; intro i3)
  refine JL_1 rfl (op_assign rfl) ?_
  refine JL_nil ?_
  refine JQ_then (JC_seq ?_)
  refine JC_region ?_
  refine JL_1 rfl (by first | exact op_fieldPtr (k := 0) (Ev.rfl' rfl) rfl rfl rfl rfl | exact op_fieldRefN (k := 0) (Ev.rfl' rfl) rfl rfl rfl rfl nrmT) ?_
  refine JL_1 rfl (by first | exact op_loadRef (Ev.rfl' rfl) rfl rfl rfl | exact op_loadPtr (Ev.rfl' rfl) memT (by rfl) (by rfl) (by rfl)) ?_
  refine JL_1 rfl (by first | exact op_fieldPtr (k := 0) (Ev.rfl' rfl) rfl rfl rfl rfl | exact op_fieldRefN (k := 0) (Ev.rfl' rfl) rfl rfl rfl rfl nrmT) ?_
  refine JL_1 rfl (by first | exact op_loadRef (Ev.rfl' rfl) rfl rfl rfl | exact op_loadPtr (Ev.rfl' rfl) memT (by rfl) (by rfl) (by rfl)) ?_
  refine JL_1 rfl (op_eql (Ev.rfl' rfl) (Ev.rfl' rfl)) ?_
  refine JL_1 rfl (op_move rfl) ?_
  (first | refine JL_i0 rfl rfl rfl (fun hg => (by have hg0 := hg; (try simp at hg); first | exact op_fieldPtr (k := 1) evG rfl rfl rfl rfl | exact op_fieldRefN (k := 1) evG rfl rfl rfl rfl nrmT)) ?_ | refine JL_i rfl rfl rfl (fun hp hg => (by have hpg := Bool.and_eq_true_iff.2 ⟨hp, hg⟩; have hg0 := hg; (try simp at hg); first | exact op_fieldPtr (k := 1) evG rfl rfl rfl rfl | exact op_fieldRefN (k := 1) evG rfl rfl rfl rfl nrmT)) ?_)
  (first | refine JL_i0 rfl rfl rfl (fun hg => (by have hg0 := hg; (try simp at hg); first | exact op_loadRef evG rfl rfl rfl | exact op_loadPtr evG memT (by rfl) (by rfl) (by rfl))) ?_ | refine JL_i rfl rfl rfl (fun hp hg => (by have hpg := Bool.and_eq_true_iff.2 ⟨hp, hg⟩; have hg0 := hg; (try simp at hg); first | exact op_loadRef evG rfl rfl rfl | exact op_loadPtr evG memT (by rfl) (by rfl) (by rfl))) ?_)
  (first | refine JL_i0 rfl rfl rfl (fun hg => (by have hg0 := hg; (try simp at hg); first | exact op_fieldPtr (k := 1) evG rfl rfl rfl rfl | exact op_fieldRefN (k := 1) evG rfl rfl rfl rfl nrmT)) ?_ | refine JL_i rfl rfl rfl (fun hp hg => (by have hpg := Bool.and_eq_true_iff.2 ⟨hp, hg⟩; have hg0 := hg; (try simp at hg); first | exact op_fieldPtr (k := 1) evG rfl rfl rfl rfl | exact op_fieldRefN (k := 1) evG rfl rfl rfl rfl nrmT)) ?_)
  (first | refine JL_i0 rfl rfl rfl (fun hg => (by have hg0 := hg; (try simp at hg); first | exact op_loadRef evG rfl rfl rfl | exact op_loadPtr evG memT (by rfl) (by rfl) (by rfl))) ?_ | refine JL_i rfl rfl rfl (fun hp hg => (by have hpg := Bool.and_eq_true_iff.2 ⟨hp, hg⟩; have hg0 := hg; (try simp at hg); first | exact op_loadRef evG rfl rfl rfl | exact op_loadPtr evG memT (by rfl) (by rfl) (by rfl))) ?_)
  (first | refine JL_i0 rfl rfl rfl (fun hg => (by have hg0 := hg; (try simp at hg); exact op_call Try.call44 (SamePages_ok _ _) ⟨evS, ⟨evS, trivial⟩⟩)) ?_ | refine JL_i rfl rfl rfl (fun hp hg => (by have hpg := Bool.and_eq_true_iff.2 ⟨hp, hg⟩; have hg0 := hg; (try simp at hg); exact op_call Try.call44 (SamePages_ok _ _) ⟨evS, ⟨evS, trivial⟩⟩)) ?_)
  refine JL_1 rfl (op_and (Ev.rfl' rfl) rfl (fun h => by first | exact SubL.rfl' | exact SubL.iteT (by first | (rw [h]; rfl) | (simp_all; done)) SubL.rfl')) ?_
  refine JL_1 rfl (op_assign rfl) ?_
  refine JL_nil ?_
  refine JQ_then (JC_ret ?_)
  refine JQ_ret1 Try.results16 rfl () (SubL.eq ?_) (List.nil_sublist _)
  rfl
-- bodegalaw8.in: function 13
theorem in_ok (s : Int) (xs : List Pg) : FnP Try.prog 13 [IsRec s xs] (IsRec s xs) := by
  refine FnP.enter Try.func13 Try.ntmps13 rfl rfl ?_
  intro c hX
  refine JC_seq ?_
  refine JC_region ?_
  (refine JL_n rfl (op_box (Ev.rfl' rfl) cellsT) ?_; intro i1)
  (refine JL_n rfl (op_allocN rfl nrmT rfl) ?_; intro i2)
  refine JL_nil ?_
  refine JQ_then (JC_seq ?_)
  refine JC_region ?_
  refine JL_1 rfl (by first | exact op_fieldPtr (k := 0) (Ev.rfl' rfl) rfl rfl rfl rfl | exact op_fieldRefN (k := 0) (Ev.rfl' rfl) rfl rfl rfl rfl nrmT) ?_
  refine JL_1 rfl (by first | exact op_loadRef (Ev.rfl' rfl) rfl rfl rfl | exact op_loadPtr (Ev.rfl' rfl) memT (by rfl) (by rfl) (by rfl)) ?_
  refine JL_1 rfl (by first | exact op_fieldPtr (k := 1) (Ev.rfl' rfl) rfl rfl rfl rfl | exact op_fieldRefN (k := 1) (Ev.rfl' rfl) rfl rfl rfl rfl nrmT) ?_
  refine JL_1 rfl (by first | exact op_loadRef (Ev.rfl' rfl) rfl rfl rfl | exact op_loadPtr (Ev.rfl' rfl) memT (by rfl) (by rfl) (by rfl)) ?_
  refine JL_1 rfl (op_buildN (qs := [(0, _), (1, _)]) rfl rfl rfl rfl ⟨⟨rfl, _, (Ev.rfl' rfl), cellsT⟩, ⟨⟨rfl, _, (Ev.rfl' rfl), cellsT⟩, trivial⟩⟩ (by rfl) nrmT) ?_
  refine JL_s0 (op_storeN (Ev.rfl' rfl) (Ev.rfl' rfl) cellsT replT nrmT (by rfl) (by rfl) (by rfl)) ?_
  refine JL_nil ?_
  refine JQ_then (JC_ret ?_)
  exact JQ_ret (Bs := [IsRec s xs]) Try.results13 ⟨⟨_, _, _, _, rfl, memT, rfl, .inr ⟨rfl, _, rfl, rfl, subT⟩⟩, trivial⟩ () SubL.rfl' (List.nil_sublist _)
-- bodegalaw8.out: function 22
theorem out_ok (s : Int) (xs : List Pg) : FnP Try.prog 22 [IsRec s xs] (IsRec s xs) := by
  refine FnP.enter Try.func22 Try.ntmps22 rfl rfl ?_
  intro c hX
  refine JC_seq ?_
  refine JC_region ?_
  (refine JL_n rfl (op_box (Ev.rfl' rfl) cellsT) ?_; intro i1)
  (refine JL_n rfl (op_allocN rfl nrmT rfl) ?_; intro i2)
  refine JL_nil ?_
  refine JQ_then (JC_seq ?_)
  refine JC_region ?_
  refine JL_1 rfl (by first | exact op_fieldPtr (k := 0) (Ev.rfl' rfl) rfl rfl rfl rfl | exact op_fieldRefN (k := 0) (Ev.rfl' rfl) rfl rfl rfl rfl nrmT) ?_
  refine JL_1 rfl (by first | exact op_loadRef (Ev.rfl' rfl) rfl rfl rfl | exact op_loadPtr (Ev.rfl' rfl) memT (by rfl) (by rfl) (by rfl)) ?_
  refine JL_1 rfl (by first | exact op_fieldPtr (k := 1) (Ev.rfl' rfl) rfl rfl rfl rfl | exact op_fieldRefN (k := 1) (Ev.rfl' rfl) rfl rfl rfl rfl nrmT) ?_
  refine JL_1 rfl (by first | exact op_loadRef (Ev.rfl' rfl) rfl rfl rfl | exact op_loadPtr (Ev.rfl' rfl) memT (by rfl) (by rfl) (by rfl)) ?_
  refine JL_1 rfl (op_buildN (qs := [(0, _), (1, _)]) rfl rfl rfl rfl ⟨⟨rfl, _, (Ev.rfl' rfl), cellsT⟩, ⟨⟨rfl, _, (Ev.rfl' rfl), cellsT⟩, trivial⟩⟩ (by rfl) nrmT) ?_
  refine JL_s0 (op_storeN (Ev.rfl' rfl) (Ev.rfl' rfl) cellsT replT nrmT (by rfl) (by rfl) (by rfl)) ?_
  refine JL_nil ?_
  refine JQ_then (JC_ret ?_)
  exact JQ_ret (Bs := [IsRec s xs]) Try.results22 ⟨⟨_, _, _, _, rfl, memT, rfl, .inr ⟨rfl, _, rfl, rfl, subT⟩⟩, trivial⟩ () SubL.rfl' (List.nil_sublist _)
end Go.Proofs.Ytccgnekcbdkilaa

/- Contract of the reference's Valid. Own work. -/
namespace Go.Proofs.Ytccgnekcbdkilaa
open Go.RowKit
set_option linter.unusedVariables false
set_option linter.unusedSimpArgs false
set_option maxRecDepth 100000
theorem any_of {q : Pg → Bool} {ms : List Pg} {k : Nat} {p : Pg} (h : ms[k]? = some p) (hq : q p = true) : ms.any q = true :=
  List.any_eq_true.2 ⟨p, List.mem_of_getElem? h, hq⟩
theorem any_none {q : Pg → Bool} {ms : List Pg} (h : ∀ k, k < ms.length → q (Pg.at ms k) = false) : ms.any q = false := by
  rw [List.any_eq_false]
  intro p hp
  obtain ⟨k, hk⟩ := List.mem_iff_getElem?.1 hp
  have hl : k < ms.length := (List.getElem?_eq_some_iff.1 hk).1
  have := h k hl
  rw [Pg.at_get ms k hl] at hk
  injection hk with hk
  rw [← hk, this]; simp
set_option maxHeartbeats 2000000 in
-- bodegaref4.ValidRecord: function 14
theorem ValidLR_ok (seq lines : Int) (ms : List Pg) : FnP Try.prog 14 [IsRec seq ms, Is (.int .i64 lines)] (Is (.int .i64 (validR seq ms lines))) := by
  refine FnP.enter Try.func14 Try.ntmps14 rfl rfl ?_
  intro c hX
  refine JC_lenV (t := 0) 1 rfl rfl (fun hlen => ?_)
  refine JC_seq ?_
  refine JC_region ?_
  (refine JL_n rfl (op_box (Ev.rfl' rfl) cellsT) ?_; intro i2)
  refine JL_1 rfl (op_assign rfl) ?_
  refine JL_nil ?_
  refine JQ_then (JC_seq (JC_seq ?_))
  refine JC_region ?_
  refine JL_1 rfl (op_move rfl) ?_
  refine JL_1 rfl (op_lss (Ev.rfl' rfl) (Ev.rfl' rfl)) ?_
  refine JL_1 rfl (op_move rfl) ?_
  (first | refine JL_i0 rfl rfl rfl (fun hg => (by have hg0 := hg; (try simp at hg); first | exact op_moveE (Ev.sub rfl (SubL.iteT (by first | assumption | (simp; done) | (simp; omega) | (simp_all; done)) SubL.rfl')) | exact op_moveE (Ev.rfl' rfl))) ?_ | refine JL_i rfl rfl rfl (fun hp hg => (by have hpg := Bool.and_eq_true_iff.2 ⟨hp, hg⟩; have hg0 := hg; (try simp at hg); first | exact op_moveE (Ev.sub rfl (SubL.iteT (by first | assumption | (simp; done) | (simp; omega) | (simp_all; done)) SubL.rfl')) | exact op_moveE (Ev.rfl' rfl))) ?_)
  (first | refine JL_i0 rfl rfl rfl (fun hg => (by have hg0 := hg; (try simp at hg); exact op_gtr evG evG)) ?_ | refine JL_i rfl rfl rfl (fun hp hg => (by have hpg := Bool.and_eq_true_iff.2 ⟨hp, hg⟩; have hg0 := hg; (try simp at hg); exact op_gtr evG evG)) ?_)
  refine JL_1 rfl (op_or (Ev.rfl' rfl) rfl (fun h => by first | exact SubL.rfl' | exact SubL.iteT (by first | (rw [h]; rfl) | (simp_all; done)) SubL.rfl')) ?_
  refine JL_nil ?_
  refine JQ_then ?_
  refine JC_cond (Ev.rfl' rfl) (fun h1 => ?_) (fun h1 => ?_)
  · have g1 : ¬ (98 ≤ lines ∧ lines ≤ 256) := by simp at h1; omega
    refine JC_seq ?_
    refine JC_region ?_
    refine JL_1 rfl (op_assign rfl) ?_
    refine JL_nil ?_
    refine JQ_then (JC_ret (JQ_then_ret ?_))
    refine JQ_ret1 Try.results14 rfl () (SubL.eq ?_) (List.nil_sublist _)
    rw [validR_18 g1]
  have g1 : 98 ≤ lines ∧ lines ≤ 256 := by simp at h1; omega
  clear h1
  refine JC_skip (JQ_then (JC_seq (JC_seq ?_)))
  refine JC_region ?_
  refine JL_1 rfl (by first | exact op_fieldPtr (k := 0) (Ev.rfl' rfl) rfl rfl rfl rfl | exact op_fieldRefN (k := 0) (Ev.rfl' rfl) rfl rfl rfl rfl nrmT) ?_
  refine JL_1 rfl (by first | exact op_loadRef (Ev.rfl' rfl) rfl rfl rfl | exact op_loadPtr (Ev.rfl' rfl) memT (by rfl) (by rfl) (by rfl)) ?_
  refine JL_1 rfl (op_lss (Ev.rfl' rfl) (Ev.rfl' rfl)) ?_
  refine JL_1 rfl (op_move rfl) ?_
  (first | refine JL_i0 rfl rfl rfl (fun hg => (by have hg0 := hg; (try simp at hg); first | exact op_fieldPtr (k := 0) evG rfl rfl rfl rfl | exact op_fieldRefN (k := 0) evG rfl rfl rfl rfl nrmT)) ?_ | refine JL_i rfl rfl rfl (fun hp hg => (by have hpg := Bool.and_eq_true_iff.2 ⟨hp, hg⟩; have hg0 := hg; (try simp at hg); first | exact op_fieldPtr (k := 0) evG rfl rfl rfl rfl | exact op_fieldRefN (k := 0) evG rfl rfl rfl rfl nrmT)) ?_)
  (first | refine JL_i0 rfl rfl rfl (fun hg => (by have hg0 := hg; (try simp at hg); first | exact op_loadRef evG rfl rfl rfl | exact op_loadPtr evG memT (by rfl) (by rfl) (by rfl))) ?_ | refine JL_i rfl rfl rfl (fun hp hg => (by have hpg := Bool.and_eq_true_iff.2 ⟨hp, hg⟩; have hg0 := hg; (try simp at hg); first | exact op_loadRef evG rfl rfl rfl | exact op_loadPtr evG memT (by rfl) (by rfl) (by rfl))) ?_)
  (first | refine JL_i0 rfl rfl rfl (fun hg => (by have hg0 := hg; (try simp at hg); exact op_geq evG evG)) ?_ | refine JL_i rfl rfl rfl (fun hp hg => (by have hpg := Bool.and_eq_true_iff.2 ⟨hp, hg⟩; have hg0 := hg; (try simp at hg); exact op_geq evG evG)) ?_)
  refine JL_1 rfl (op_or (Ev.rfl' rfl) rfl (fun h => by first | exact SubL.rfl' | exact SubL.iteT (by first | (rw [h]; rfl) | (simp_all; done)) SubL.rfl')) ?_
  refine JL_1 rfl (op_move rfl) ?_
  (first | refine JL_i0 rfl rfl rfl (fun hg => (by have hg0 := hg; (try simp at hg); first | exact op_fieldPtr (k := 1) evG rfl rfl rfl rfl | exact op_fieldRefN (k := 1) evG rfl rfl rfl rfl nrmT)) ?_ | refine JL_i rfl rfl rfl (fun hp hg => (by have hpg := Bool.and_eq_true_iff.2 ⟨hp, hg⟩; have hg0 := hg; (try simp at hg); first | exact op_fieldPtr (k := 1) evG rfl rfl rfl rfl | exact op_fieldRefN (k := 1) evG rfl rfl rfl rfl nrmT)) ?_)
  (first | refine JL_i0 rfl rfl rfl (fun hg => (by have hg0 := hg; (try simp at hg); first | exact op_loadRef evG rfl rfl rfl | exact op_loadPtr evG memT (by rfl) (by rfl) (by rfl))) ?_ | refine JL_i rfl rfl rfl (fun hp hg => (by have hpg := Bool.and_eq_true_iff.2 ⟨hp, hg⟩; have hg0 := hg; (try simp at hg); first | exact op_loadRef evG rfl rfl rfl | exact op_loadPtr evG memT (by rfl) (by rfl) (by rfl))) ?_)
  (first | refine JL_i0 rfl rfl rfl (fun hg => (by have hg0 := hg; (try simp at hg); first | exact op_len evG rfl | exact op_lenLit evG rfl)) ?_ | refine JL_i rfl rfl rfl (fun hp hg => (by have hpg := Bool.and_eq_true_iff.2 ⟨hp, hg⟩; have hg0 := hg; (try simp at hg); first | exact op_len evG rfl | exact op_lenLit evG rfl)) ?_)
  (first | refine JL_i0 rfl rfl rfl (fun hg => (by have hg0 := hg; (try simp at hg); exact op_lss evG evG)) ?_ | refine JL_i rfl rfl rfl (fun hp hg => (by have hpg := Bool.and_eq_true_iff.2 ⟨hp, hg⟩; have hg0 := hg; (try simp at hg); exact op_lss evG evG)) ?_)
  refine JL_1 rfl (op_or (Ev.rfl' rfl) rfl (fun h => by first | exact SubL.rfl' | exact SubL.iteT (by first | (rw [h]; rfl) | (simp_all; done)) SubL.rfl')) ?_
  refine JL_1 rfl (op_move rfl) ?_
  (first | refine JL_i0 rfl rfl rfl (fun hg => (by have hg0 := hg; (try simp at hg); first | exact op_fieldPtr (k := 1) evG rfl rfl rfl rfl | exact op_fieldRefN (k := 1) evG rfl rfl rfl rfl nrmT)) ?_ | refine JL_i rfl rfl rfl (fun hp hg => (by have hpg := Bool.and_eq_true_iff.2 ⟨hp, hg⟩; have hg0 := hg; (try simp at hg); first | exact op_fieldPtr (k := 1) evG rfl rfl rfl rfl | exact op_fieldRefN (k := 1) evG rfl rfl rfl rfl nrmT)) ?_)
  (first | refine JL_i0 rfl rfl rfl (fun hg => (by have hg0 := hg; (try simp at hg); first | exact op_loadRef evG rfl rfl rfl | exact op_loadPtr evG memT (by rfl) (by rfl) (by rfl))) ?_ | refine JL_i rfl rfl rfl (fun hp hg => (by have hpg := Bool.and_eq_true_iff.2 ⟨hp, hg⟩; have hg0 := hg; (try simp at hg); first | exact op_loadRef evG rfl rfl rfl | exact op_loadPtr evG memT (by rfl) (by rfl) (by rfl))) ?_)
  (first | refine JL_i0 rfl rfl rfl (fun hg => (by have hg0 := hg; (try simp at hg); first | exact op_len evG rfl | exact op_lenLit evG rfl)) ?_ | refine JL_i rfl rfl rfl (fun hp hg => (by have hpg := Bool.and_eq_true_iff.2 ⟨hp, hg⟩; have hg0 := hg; (try simp at hg); first | exact op_len evG rfl | exact op_lenLit evG rfl)) ?_)
  (first | refine JL_i0 rfl rfl rfl (fun hg => (by have hg0 := hg; (try simp at hg); exact op_gtr evG evG)) ?_ | refine JL_i rfl rfl rfl (fun hp hg => (by have hpg := Bool.and_eq_true_iff.2 ⟨hp, hg⟩; have hg0 := hg; (try simp at hg); exact op_gtr evG evG)) ?_)
  refine JL_1 rfl (op_or (Ev.rfl' rfl) rfl (fun h => by first | exact SubL.rfl' | exact SubL.iteT (by first | (rw [h]; rfl) | (simp_all; done)) SubL.rfl')) ?_
  refine JL_nil ?_
  refine JQ_then ?_
  refine JC_cond (Ev.rfl' rfl) (fun h3 => ?_) (fun h3 => ?_)
  · have g2 : ¬ okR1 seq ms := by unfold okR1; simp at h3; omega
    refine JC_seq ?_
    refine JC_region ?_
    refine JL_1 rfl (op_assign rfl) ?_
    refine JL_nil ?_
    refine JQ_then (JC_ret (JQ_then_ret ?_))
    refine JQ_ret1 Try.results14 rfl () (SubL.eq ?_) (List.nil_sublist _)
    rw [validR_1 g1 g2]
  have g2 : okR1 seq ms := by unfold okR1; simp at h3; omega
  clear h3
  refine JC_skip (JQ_then (JC_seq (JC_seq ?_)))
  refine JC_region ?_
  refine JL_1 rfl (op_assign rfl) ?_
  refine JL_nil ?_
  refine JQ_then (JC_block ?_)
  refine JC_loopP (fun k : Nat => k ≤ ms.length ∧ ∀ j, j < k → outB lines (Pg.at ms j) = false) (fun i => [(1, Is (.int .i64 lines)), (2, Is (.pointer (some ⟨i2, 0, none⟩))), (5, Is (.int .i64 (i : Nat)))]) (fun _ => [blk i2 25 [Is (.int .i64 seq), IsSl tPg ms]]) (fun i => ms.length - i) 0 ⟨Nat.zero_le _, fun j h => by omega⟩ esubT lessT ?_
  rintro k ⟨hk, hs⟩
  refine JC_seq (JC_seq ?_)
  refine JC_region ?_
  refine JL_1 rfl (op_move rfl) ?_
  refine JL_1 rfl (by first | exact op_fieldPtr (k := 1) (Ev.rfl' rfl) rfl rfl rfl rfl | exact op_fieldRefN (k := 1) (Ev.rfl' rfl) rfl rfl rfl rfl nrmT) ?_
  refine JL_1 rfl (by first | exact op_loadRef (Ev.rfl' rfl) rfl rfl rfl | exact op_loadPtr (Ev.rfl' rfl) memT (by rfl) (by rfl) (by rfl)) ?_
  refine JL_1 rfl (by first | exact op_len (Ev.rfl' rfl) rfl | exact op_lenLit (Ev.rfl' rfl) rfl) ?_
  refine JL_1 rfl (op_lss (Ev.rfl' rfl) (Ev.rfl' rfl)) ?_
  refine JL_nil ?_
  refine JQ_then ?_
  refine JC_cond (Ev.rfl' rfl) (fun h6 => ?_) (fun h6 => ?_)
  · have h' : (k : Int) < ms.length := of_decide_eq_true h6
    have hz := Pg.at_get ms k (by omega)
    clear h6
    refine JC_skip (JQ_then (JC_seq (JC_block (JC_seq ?_))))
    refine JC_region ?_
    refine JL_1 rfl (by first | exact op_fieldPtr (k := 1) (Ev.rfl' rfl) rfl rfl rfl rfl | exact op_fieldRefN (k := 1) (Ev.rfl' rfl) rfl rfl rfl rfl nrmT) ?_
    refine JL_1 rfl (by first | exact op_loadRef (Ev.rfl' rfl) rfl rfl rfl | exact op_loadPtr (Ev.rfl' rfl) memT (by rfl) (by rfl) (by rfl)) ?_
    refine JL_1 rfl (op_move rfl) ?_
    refine JL_1 rfl (by first | exact op_index (j := _) (Ev.rfl' rfl) (Ev.rfl' rfl) rfl rfl (by first | rfl | omega) hz | exact op_index (j := _) (Ev.rfl' rfl) (Ev.rfl' rfl) rfl rfl (by first | rfl | omega) (hz1 (by omega)) | exact op_index (j := _) (Ev.rfl' rfl) (Ev.rfl' rfl) rfl rfl (by first | rfl | omega) (by assumption)) ?_
    refine JL_1 rfl (by first | exact op_fieldPtr (k := 0) (Ev.rfl' rfl) rfl rfl rfl rfl | exact op_fieldRefN (k := 0) (Ev.rfl' rfl) rfl rfl rfl rfl nrmT) ?_
    refine JL_1 rfl (by first | exact op_loadRef (Ev.rfl' rfl) rfl rfl rfl | exact op_loadPtr (Ev.rfl' rfl) memT (by rfl) (by rfl) (by rfl)) ?_
    refine JL_1 rfl (op_move rfl) ?_
    refine JL_1 rfl (by first | ((refine op_call Try.call40 (InHeap_ok _ _ ?_) ⟨evS, ⟨evS, trivial⟩⟩); all_goals (first | assumption))) ?_
    refine JL_1 rfl (op_not (Ev.rfl' rfl)) ?_
    refine JL_nil ?_
    refine JQ_then ?_
    refine JC_cond (Ev.rfl' rfl) (fun h8 => ?_) (fun h8 => ?_)
    · refine JC_seq ?_
      refine JC_region ?_
      refine JL_1 rfl (op_assign rfl) ?_
      refine JL_nil ?_
      refine JQ_then (JC_ret (JQ_block_ret (JQ_then_ret (JQ_then_ret (JQ_block_ret (JQ_then_ret ?_))))))
      refine JQ_ret1 Try.results14 rfl () (SubL.eq ?_) (List.nil_sublist _)
      rw [validR_2 g1 g2 (any_of hz (by unfold outB; simpa using h8))]
    refine JC_skip (JQ_block (JQ_then ?_))
    refine JC_region ?_
    refine JL_1 rfl (op_move rfl) ?_
    refine JL_1 rfl (op_add (Ev.rfl' rfl) (Ev.rfl' rfl) wrapT) ?_
    refine JL_1 rfl (op_assign rfl) ?_
    refine JL_nil ?_
    exact JQ_roundP (k + 1) ⟨by omega, fun j hj => by
      by_cases hjk : j = k
      · subst hjk; unfold outB; simpa using h8
      · exact hs j (by omega)⟩ (by omega) esubT lessT
  have hkl : k = ms.length := by have := of_decide_eq_false h6; omega
  subst hkl
  clear h6
  have g3 := any_none hs
  refine JC_exit (JQ_then_exit (JQ_then_exit (JQ_hit (JQ_then (JC_seq (JC_seq ?_))))))
  refine JC_region ?_
  refine JL_1 rfl (op_assign rfl) ?_
  refine JL_nil ?_
  refine JQ_then (JC_block ?_)
  refine JC_loopP (fun k : Nat => k ≤ ms.length ∧ ∀ j, j < k → (AscP ms j ∧ headB (Pg.at ms j) = true)) (fun i => [(2, Is (.pointer (some ⟨i2, 0, none⟩))), (6, Is (.int .i64 (i : Nat)))]) (fun _ => [blk i2 25 [Is (.int .i64 seq), IsSl tPg ms]]) (fun i => ms.length - i) 0 ⟨Nat.zero_le _, fun j h => by omega⟩ esubT lessT ?_
  rintro k ⟨hk, ht⟩
  refine JC_seq (JC_seq ?_)
  refine JC_region ?_
  refine JL_1 rfl (op_move rfl) ?_
  refine JL_1 rfl (by first | exact op_fieldPtr (k := 1) (Ev.rfl' rfl) rfl rfl rfl rfl | exact op_fieldRefN (k := 1) (Ev.rfl' rfl) rfl rfl rfl rfl nrmT) ?_
  refine JL_1 rfl (by first | exact op_loadRef (Ev.rfl' rfl) rfl rfl rfl | exact op_loadPtr (Ev.rfl' rfl) memT (by rfl) (by rfl) (by rfl)) ?_
  refine JL_1 rfl (by first | exact op_len (Ev.rfl' rfl) rfl | exact op_lenLit (Ev.rfl' rfl) rfl) ?_
  refine JL_1 rfl (op_lss (Ev.rfl' rfl) (Ev.rfl' rfl)) ?_
  refine JL_nil ?_
  refine JQ_then ?_
  refine JC_cond (Ev.rfl' rfl) (fun h11 => ?_) (fun h11 => ?_)
  · have h' : (k : Int) < ms.length := of_decide_eq_true h11
    have hz := Pg.at_get ms k (by omega)
    have hz1 : 0 < k → ms[k - 1]? = some (Pg.at ms (k - 1)) := fun h => Pg.at_get ms (k - 1) (by omega)
    clear h11
    refine JC_skip (JQ_then (JC_seq (JC_block (JC_seq ?_))))
    refine JC_region ?_
    refine JL_1 rfl (by first | exact op_fieldPtr (k := 1) (Ev.rfl' rfl) rfl rfl rfl rfl | exact op_fieldRefN (k := 1) (Ev.rfl' rfl) rfl rfl rfl rfl nrmT) ?_
    refine JL_1 rfl (by first | exact op_loadRef (Ev.rfl' rfl) rfl rfl rfl | exact op_loadPtr (Ev.rfl' rfl) memT (by rfl) (by rfl) (by rfl)) ?_
    refine JL_1 rfl (op_move rfl) ?_
    refine JL_1 rfl (by first | exact op_index (j := _) (Ev.rfl' rfl) (Ev.rfl' rfl) rfl rfl (by first | rfl | omega) hz | exact op_index (j := _) (Ev.rfl' rfl) (Ev.rfl' rfl) rfl rfl (by first | rfl | omega) (hz1 (by omega)) | exact op_index (j := _) (Ev.rfl' rfl) (Ev.rfl' rfl) rfl rfl (by first | rfl | omega) (by assumption)) ?_
    refine JL_1 rfl (by first | exact op_fieldPtr (k := 1) (Ev.rfl' rfl) rfl rfl rfl rfl | exact op_fieldRefN (k := 1) (Ev.rfl' rfl) rfl rfl rfl rfl nrmT) ?_
    refine JL_1 rfl (by first | exact op_loadRef (Ev.rfl' rfl) rfl rfl rfl | exact op_loadPtr (Ev.rfl' rfl) memT (by rfl) (by rfl) (by rfl)) ?_
    refine JL_1 rfl (op_call Try.call41 (NextR_ok _) ⟨evS, trivial⟩) ?_
    refine JL_1 rfl (op_move rfl) ?_
    refine JL_1 rfl (op_extract (Ev.rfl' rfl) rfl) ?_
    refine JL_1 rfl (op_extract (Ev.rfl' rfl) rfl) ?_
    refine JL_1 rfl (op_assign rfl) ?_
    refine JL_1 rfl (op_assign rfl) ?_
    refine JL_nil ?_
    refine JQ_then (JC_seq ?_)
    refine JC_dr rfl (by kernel_rfl) ?_
    refine JD_stretch 32 (by kernel_rfl) ?_
    refine JW_1 (op_move rfl) ?_
    refine JW_1 (op_gtr (Ev.rfl' rfl) (Ev.rfl' rfl)) ?_
    refine JW_1 (op_move rfl) ?_
    (first | refine JW_i0 rfl rfl (fun hg => (by have hg0 := hg; (try simp at hg); first | exact op_fieldPtr (k := 1) evG rfl rfl rfl rfl | exact op_fieldRefN (k := 1) evG rfl rfl rfl rfl nrmT)) ?_ | refine JW_i rfl rfl (fun hp hg => (by have hpg := Bool.and_eq_true_iff.2 ⟨hp, hg⟩; have hg0 := hg; (try simp at hg); first | exact op_fieldPtr (k := 1) evG rfl rfl rfl rfl | exact op_fieldRefN (k := 1) evG rfl rfl rfl rfl nrmT)) ?_)
    (first | refine JW_i0 rfl rfl (fun hg => (by have hg0 := hg; (try simp at hg); first | exact op_loadRef evG rfl rfl rfl | exact op_loadPtr evG memT (by rfl) (by rfl) (by rfl))) ?_ | refine JW_i rfl rfl (fun hp hg => (by have hpg := Bool.and_eq_true_iff.2 ⟨hp, hg⟩; have hg0 := hg; (try simp at hg); first | exact op_loadRef evG rfl rfl rfl | exact op_loadPtr evG memT (by rfl) (by rfl) (by rfl))) ?_)
    (first | refine JW_i0 rfl rfl (fun hg => (by have hg0 := hg; (try simp at hg); first | exact op_moveE (Ev.sub rfl (SubL.iteT (by first | assumption | (simp; done) | (simp; omega) | (simp_all; done)) SubL.rfl')) | exact op_moveE (Ev.rfl' rfl))) ?_ | refine JW_i rfl rfl (fun hp hg => (by have hpg := Bool.and_eq_true_iff.2 ⟨hp, hg⟩; have hg0 := hg; (try simp at hg); first | exact op_moveE (Ev.sub rfl (SubL.iteT (by first | assumption | (simp; done) | (simp; omega) | (simp_all; done)) SubL.rfl')) | exact op_moveE (Ev.rfl' rfl))) ?_)
    (first | refine JW_i0 rfl rfl (fun hg => (by have hg0 := hg; (try simp at hg); exact op_sub evG evG wrapT)) ?_ | refine JW_i rfl rfl (fun hp hg => (by have hpg := Bool.and_eq_true_iff.2 ⟨hp, hg⟩; have hg0 := hg; (try simp at hg); exact op_sub evG evG wrapT)) ?_)
    (first | refine JW_i0 rfl rfl (fun hg => (by have hg0 := hg; (try simp at hg); first | exact op_index (j := _) evG evG rfl rfl (by first | rfl | omega) hz | exact op_index (j := _) evG evG rfl rfl (by first | rfl | omega) (hz1 (by omega)) | exact op_index (j := _) evG evG rfl rfl (by first | rfl | omega) (by assumption))) ?_ | refine JW_i rfl rfl (fun hp hg => (by have hpg := Bool.and_eq_true_iff.2 ⟨hp, hg⟩; have hg0 := hg; (try simp at hg); first | exact op_index (j := _) evG evG rfl rfl (by first | rfl | omega) hz | exact op_index (j := _) evG evG rfl rfl (by first | rfl | omega) (hz1 (by omega)) | exact op_index (j := _) evG evG rfl rfl (by first | rfl | omega) (by assumption))) ?_)
    (first | refine JW_i0 rfl rfl (fun hg => (by have hg0 := hg; (try simp at hg); first | exact op_fieldPtr (k := 0) evG rfl rfl rfl rfl | exact op_fieldRefN (k := 0) evG rfl rfl rfl rfl nrmT)) ?_ | refine JW_i rfl rfl (fun hp hg => (by have hpg := Bool.and_eq_true_iff.2 ⟨hp, hg⟩; have hg0 := hg; (try simp at hg); first | exact op_fieldPtr (k := 0) evG rfl rfl rfl rfl | exact op_fieldRefN (k := 0) evG rfl rfl rfl rfl nrmT)) ?_)
    (first | refine JW_i0 rfl rfl (fun hg => (by have hg0 := hg; (try simp at hg); first | exact op_loadRef evG rfl rfl rfl | exact op_loadPtr evG memT (by rfl) (by rfl) (by rfl))) ?_ | refine JW_i rfl rfl (fun hp hg => (by have hpg := Bool.and_eq_true_iff.2 ⟨hp, hg⟩; have hg0 := hg; (try simp at hg); first | exact op_loadRef evG rfl rfl rfl | exact op_loadPtr evG memT (by rfl) (by rfl) (by rfl))) ?_)
    (first | refine JW_i0 rfl rfl (fun hg => (by have hg0 := hg; (try simp at hg); first | exact op_fieldPtr (k := 1) evG rfl rfl rfl rfl | exact op_fieldRefN (k := 1) evG rfl rfl rfl rfl nrmT)) ?_ | refine JW_i rfl rfl (fun hp hg => (by have hpg := Bool.and_eq_true_iff.2 ⟨hp, hg⟩; have hg0 := hg; (try simp at hg); first | exact op_fieldPtr (k := 1) evG rfl rfl rfl rfl | exact op_fieldRefN (k := 1) evG rfl rfl rfl rfl nrmT)) ?_)
    (first | refine JW_i0 rfl rfl (fun hg => (by have hg0 := hg; (try simp at hg); first | exact op_loadRef evG rfl rfl rfl | exact op_loadPtr evG memT (by rfl) (by rfl) (by rfl))) ?_ | refine JW_i rfl rfl (fun hp hg => (by have hpg := Bool.and_eq_true_iff.2 ⟨hp, hg⟩; have hg0 := hg; (try simp at hg); first | exact op_loadRef evG rfl rfl rfl | exact op_loadPtr evG memT (by rfl) (by rfl) (by rfl))) ?_)
    (first | refine JW_i0 rfl rfl (fun hg => (by have hg0 := hg; (try simp at hg); first | exact op_moveE (Ev.sub rfl (SubL.iteT (by first | assumption | (simp; done) | (simp; omega) | (simp_all; done)) SubL.rfl')) | exact op_moveE (Ev.rfl' rfl))) ?_ | refine JW_i rfl rfl (fun hp hg => (by have hpg := Bool.and_eq_true_iff.2 ⟨hp, hg⟩; have hg0 := hg; (try simp at hg); first | exact op_moveE (Ev.sub rfl (SubL.iteT (by first | assumption | (simp; done) | (simp; omega) | (simp_all; done)) SubL.rfl')) | exact op_moveE (Ev.rfl' rfl))) ?_)
    (first | refine JW_i0 rfl rfl (fun hg => (by have hg0 := hg; (try simp at hg); first | exact op_index (j := _) evG evG rfl rfl (by first | rfl | omega) hz | exact op_index (j := _) evG evG rfl rfl (by first | rfl | omega) (hz1 (by omega)) | exact op_index (j := _) evG evG rfl rfl (by first | rfl | omega) (by assumption))) ?_ | refine JW_i rfl rfl (fun hp hg => (by have hpg := Bool.and_eq_true_iff.2 ⟨hp, hg⟩; have hg0 := hg; (try simp at hg); first | exact op_index (j := _) evG evG rfl rfl (by first | rfl | omega) hz | exact op_index (j := _) evG evG rfl rfl (by first | rfl | omega) (hz1 (by omega)) | exact op_index (j := _) evG evG rfl rfl (by first | rfl | omega) (by assumption))) ?_)
    (first | refine JW_i0 rfl rfl (fun hg => (by have hg0 := hg; (try simp at hg); first | exact op_fieldPtr (k := 0) evG rfl rfl rfl rfl | exact op_fieldRefN (k := 0) evG rfl rfl rfl rfl nrmT)) ?_ | refine JW_i rfl rfl (fun hp hg => (by have hpg := Bool.and_eq_true_iff.2 ⟨hp, hg⟩; have hg0 := hg; (try simp at hg); first | exact op_fieldPtr (k := 0) evG rfl rfl rfl rfl | exact op_fieldRefN (k := 0) evG rfl rfl rfl rfl nrmT)) ?_)
    (first | refine JW_i0 rfl rfl (fun hg => (by have hg0 := hg; (try simp at hg); first | exact op_loadRef evG rfl rfl rfl | exact op_loadPtr evG memT (by rfl) (by rfl) (by rfl))) ?_ | refine JW_i rfl rfl (fun hp hg => (by have hpg := Bool.and_eq_true_iff.2 ⟨hp, hg⟩; have hg0 := hg; (try simp at hg); first | exact op_loadRef evG rfl rfl rfl | exact op_loadPtr evG memT (by rfl) (by rfl) (by rfl))) ?_)
    (first | refine JW_i0 rfl rfl (fun hg => (by have hg0 := hg; (try simp at hg); exact op_geq evG evG)) ?_ | refine JW_i rfl rfl (fun hp hg => (by have hpg := Bool.and_eq_true_iff.2 ⟨hp, hg⟩; have hg0 := hg; (try simp at hg); exact op_geq evG evG)) ?_)
    refine JW_1 (op_and (Ev.rfl' rfl) rfl (fun h => by first | exact SubL.rfl' | exact SubL.iteT (by first | (rw [h]; rfl) | (simp_all; done)) SubL.rfl')) ?_
    refine JW_1 (op_move rfl) ?_
    (first | refine JW_i0 rfl rfl (fun hg => (by have hg0 := hg; (try simp at hg); first | exact op_fieldPtr (k := 1) evG rfl rfl rfl rfl | exact op_fieldRefN (k := 1) evG rfl rfl rfl rfl nrmT)) ?_ | refine JW_i rfl rfl (fun hp hg => (by have hpg := Bool.and_eq_true_iff.2 ⟨hp, hg⟩; have hg0 := hg; (try simp at hg); first | exact op_fieldPtr (k := 1) evG rfl rfl rfl rfl | exact op_fieldRefN (k := 1) evG rfl rfl rfl rfl nrmT)) ?_)
    (first | refine JW_i0 rfl rfl (fun hg => (by have hg0 := hg; (try simp at hg); first | exact op_loadRef evG rfl rfl rfl | exact op_loadPtr evG memT (by rfl) (by rfl) (by rfl))) ?_ | refine JW_i rfl rfl (fun hp hg => (by have hpg := Bool.and_eq_true_iff.2 ⟨hp, hg⟩; have hg0 := hg; (try simp at hg); first | exact op_loadRef evG rfl rfl rfl | exact op_loadPtr evG memT (by rfl) (by rfl) (by rfl))) ?_)
    (first | refine JW_i0 rfl rfl (fun hg => (by have hg0 := hg; (try simp at hg); first | exact op_moveE (Ev.sub rfl (SubL.iteT (by first | assumption | (simp; done) | (simp; omega) | (simp_all; done)) SubL.rfl')) | exact op_moveE (Ev.rfl' rfl))) ?_ | refine JW_i rfl rfl (fun hp hg => (by have hpg := Bool.and_eq_true_iff.2 ⟨hp, hg⟩; have hg0 := hg; (try simp at hg); first | exact op_moveE (Ev.sub rfl (SubL.iteT (by first | assumption | (simp; done) | (simp; omega) | (simp_all; done)) SubL.rfl')) | exact op_moveE (Ev.rfl' rfl))) ?_)
    (first | refine JW_i0 rfl rfl (fun hg => (by have hg0 := hg; (try simp at hg); first | exact op_index (j := _) evG evG rfl rfl (by first | rfl | omega) hz | exact op_index (j := _) evG evG rfl rfl (by first | rfl | omega) (hz1 (by omega)) | exact op_index (j := _) evG evG rfl rfl (by first | rfl | omega) (by assumption))) ?_ | refine JW_i rfl rfl (fun hp hg => (by have hpg := Bool.and_eq_true_iff.2 ⟨hp, hg⟩; have hg0 := hg; (try simp at hg); first | exact op_index (j := _) evG evG rfl rfl (by first | rfl | omega) hz | exact op_index (j := _) evG evG rfl rfl (by first | rfl | omega) (hz1 (by omega)) | exact op_index (j := _) evG evG rfl rfl (by first | rfl | omega) (by assumption))) ?_)
    (first | refine JW_i0 rfl rfl (fun hg => (by have hg0 := hg; (try simp at hg); first | exact op_fieldPtr (k := 1) evG rfl rfl rfl rfl | exact op_fieldRefN (k := 1) evG rfl rfl rfl rfl nrmT)) ?_ | refine JW_i rfl rfl (fun hp hg => (by have hpg := Bool.and_eq_true_iff.2 ⟨hp, hg⟩; have hg0 := hg; (try simp at hg); first | exact op_fieldPtr (k := 1) evG rfl rfl rfl rfl | exact op_fieldRefN (k := 1) evG rfl rfl rfl rfl nrmT)) ?_)
    (first | refine JW_i0 rfl rfl (fun hg => (by have hg0 := hg; (try simp at hg); first | exact op_loadRef evG rfl rfl rfl | exact op_loadPtr evG memT (by rfl) (by rfl) (by rfl))) ?_ | refine JW_i rfl rfl (fun hp hg => (by have hpg := Bool.and_eq_true_iff.2 ⟨hp, hg⟩; have hg0 := hg; (try simp at hg); first | exact op_loadRef evG rfl rfl rfl | exact op_loadPtr evG memT (by rfl) (by rfl) (by rfl))) ?_)
    (first | refine JW_i0 rfl rfl (fun hg => (by have hg0 := hg; (try simp at hg); exact op_call Try.call42 (UnlockedR_ok _) ⟨evS, trivial⟩)) ?_ | refine JW_i rfl rfl (fun hp hg => (by have hpg := Bool.and_eq_true_iff.2 ⟨hp, hg⟩; have hg0 := hg; (try simp at hg); exact op_call Try.call42 (UnlockedR_ok _) ⟨evS, trivial⟩)) ?_)
    (first | refine JW_i0 rfl rfl (fun hg => (by have hg0 := hg; (try simp at hg); exact op_not evG)) ?_ | refine JW_i rfl rfl (fun hp hg => (by have hpg := Bool.and_eq_true_iff.2 ⟨hp, hg⟩; have hg0 := hg; (try simp at hg); exact op_not evG)) ?_)
    refine JW_1 (op_or (Ev.rfl' rfl) rfl (fun h => by first | exact SubL.rfl' | exact SubL.iteT (by first | (rw [h]; rfl) | (simp_all; done)) SubL.rfl')) ?_
    refine JW_1 (op_move rfl) ?_
    (first | refine JW_i0 rfl rfl (fun hg => (by have hg0 := hg; (try simp at hg); first | exact op_moveE (Ev.sub rfl (SubL.iteT (by first | assumption | (simp; done) | (simp; omega) | (simp_all; done)) SubL.rfl')) | exact op_moveE (Ev.rfl' rfl))) ?_ | refine JW_i rfl rfl (fun hp hg => (by have hpg := Bool.and_eq_true_iff.2 ⟨hp, hg⟩; have hg0 := hg; (try simp at hg); first | exact op_moveE (Ev.sub rfl (SubL.iteT (by first | assumption | (simp; done) | (simp; omega) | (simp_all; done)) SubL.rfl')) | exact op_moveE (Ev.rfl' rfl))) ?_)
    (first | refine JW_i0 rfl rfl (fun hg => (by have hg0 := hg; (try simp at hg); exact op_neq evG evG)) ?_ | refine JW_i rfl rfl (fun hp hg => (by have hpg := Bool.and_eq_true_iff.2 ⟨hp, hg⟩; have hg0 := hg; (try simp at hg); exact op_neq evG evG)) ?_)
    refine JW_1 (op_or (Ev.rfl' rfl) rfl (fun h => by first | exact SubL.rfl' | exact SubL.iteT (by first | (rw [h]; rfl) | (simp_all; done)) SubL.rfl')) ?_
    refine ⟨rfl, ?_⟩
    refine JD_end ?_
    refine JQ_then ?_
    refine JC_cond (Ev.rfl' rfl) (fun h14 => ?_) (fun h14 => ?_)
    · have g4 : ¬ (AscP ms k ∧ headB (Pg.at ms k) = true) := fun h => by
        obtain ⟨h1, h2⟩ := h
        unfold AscP at h1
        simp [headB] at h2
        simp [h2] at h14
        have := h1 h14.1
        omega
      refine JC_seq ?_
      refine JC_region ?_
      refine JL_1 rfl (op_assign rfl) ?_
      refine JL_nil ?_
      refine JQ_then (JC_ret (JQ_block_ret (JQ_then_ret (JQ_then_ret (JQ_block_ret (JQ_then_ret ?_))))))
      refine JQ_ret1 Try.results14 rfl () (SubL.eq ?_) (List.nil_sublist _)
      rw [validR_3 g1 g2 g3 (fun h => g4 ⟨h.1 k (by omega), h.2 k (by omega)⟩)]
    have g4 : AscP ms k ∧ headB (Pg.at ms k) = true := by
      simp at h14
      refine ⟨fun h0 => ?_, ?_⟩
      · have := h14.1.1 h0; omega
      · simp [headB, h14.2, h14.1.2]
    refine JC_skip (JQ_block (JQ_then ?_))
    refine JC_region ?_
    refine JL_1 rfl (op_move rfl) ?_
    refine JL_1 rfl (op_add (Ev.rfl' rfl) (Ev.rfl' rfl) wrapT) ?_
    refine JL_1 rfl (op_assign rfl) ?_
    refine JL_nil ?_
    exact JQ_roundP (k + 1) ⟨by omega, fun j hj => by
      by_cases hjk : j = k
      · subst hjk; exact g4
      · exact ht j (by omega)⟩ (by omega) esubT lessT
  refine JC_exit (JQ_then_exit (JQ_then_exit (JQ_hit (JQ_then (JC_seq ?_)))))
  refine JC_region ?_
  refine JL_1 rfl (op_assign rfl) ?_
  refine JL_nil ?_
  refine JQ_then (JC_ret ?_)
  refine JQ_ret1 Try.results14 rfl () (SubL.eq ?_) (List.nil_sublist _)
  have hkl : k = ms.length := by have := of_decide_eq_false h11; omega
  subst hkl
  rw [validR_0 g1 g2 g3 ⟨fun j hj => (ht j hj).1, fun j hj => (ht j hj).2⟩]
end Go.Proofs.Ytccgnekcbdkilaa

/- Plain laws of the checksum. Own work. -/
namespace Go.Proofs.Ytccgnekcbdkilaa
set_option linter.unusedVariables false
set_option linter.unusedSimpArgs false
def polyB : BitVec 64 := 14514072000185962306#64
def stepB (r : BitVec 64) : BitVec 64 := if (r &&& 1#64 == 1#64) = true then r >>> 1 ^^^ 14514072000185962306#64 else r >>> 1
def stepN : Nat → BitVec 64 → BitVec 64
  | 0, r => r
  | n + 1, r => stepB (stepN n r)
def tabB (i : BitVec 8) : BitVec 64 := stepN 8 (i.setWidth 64)
/-- A byte more, bit by bit. -/
def byteR (r : BitVec 64) (b : BitVec 8) : BitVec 64 := stepN 8 (r ^^^ b.setWidth 64)
/-- A byte more, by the table. -/
def byteP (r : BitVec 64) (b : BitVec 8) : BitVec 64 := r >>> 8 ^^^ tabB (r.setWidth 8 ^^^ b)
def runB (r : BitVec 64) (bs : List (BitVec 8)) : BitVec 64 := bs.foldl byteR r
def extB (s : BitVec 64) (bs : List (BitVec 8)) : BitVec 64 := ~~~ runB (~~~ s) bs

theorem bit_eq (r : BitVec 64) : (r &&& 1#64 == 1#64) = r.getLsbD 0 := by
  rw [Bool.eq_iff_iff, beq_iff_eq]
  constructor
  · intro h
    have h1 := congrArg (fun x => BitVec.getLsbD x 0) h
    simpa [BitVec.getLsbD_and] using h1
  · intro h
    apply BitVec.eq_of_getLsbD_eq
    intro i hi
    rw [BitVec.getLsbD_and, BitVec.getLsbD_one]
    by_cases h0 : i = 0
    · subst h0; simp [h]
    · simp [h0]
theorem stepB_bit (r : BitVec 64) : stepB r = r >>> 1 ^^^ (if r.getLsbD 0 = true then 14514072000185962306#64 else 0#64) := by
  unfold stepB
  rw [bit_eq]
  cases r.getLsbD 0 <;> simp
theorem stepB_xor (x y : BitVec 64) : stepB (x ^^^ y) = stepB x ^^^ stepB y := by
  rw [stepB_bit, stepB_bit, stepB_bit]
  have h : (x ^^^ y) >>> 1 = x >>> 1 ^^^ y >>> 1 := by
    apply BitVec.eq_of_getLsbD_eq; intro i hi; simp [BitVec.getLsbD_xor, BitVec.getLsbD_ushiftRight]
  rw [h, BitVec.getLsbD_xor]
  generalize x >>> 1 = a
  generalize y >>> 1 = b
  cases x.getLsbD 0 <;> cases y.getLsbD 0 <;> simp only [Bool.xor_false, Bool.xor_true, Bool.not_true, Bool.not_false, if_true, if_false, Bool.false_eq_true]
  · simp
  · simp [BitVec.xor_assoc]
  · rw [BitVec.xor_zero, BitVec.xor_assoc, BitVec.xor_assoc, BitVec.xor_comm b]
  · apply BitVec.eq_of_getLsbD_eq; intro i hi
    simp only [BitVec.getLsbD_xor, BitVec.getLsbD_zero, Bool.xor_false]
    generalize a.getLsbD i = p
    generalize b.getLsbD i = q
    generalize (14514072000185962306#64).getLsbD i = t
    cases p <;> cases q <;> cases t <;> rfl
theorem stepN_xor (n : Nat) (x y : BitVec 64) : stepN n (x ^^^ y) = stepN n x ^^^ stepN n y := by
  induction n with
  | zero => rfl
  | succ n ih => simp only [stepN, ih, stepB_xor]
theorem stepB_shl (x : BitVec 64) (h : x.getLsbD 0 = false) : stepB x = x >>> 1 := by rw [stepB_bit, h]; simp
theorem stepN_shl (n : Nat) (hn : n ≤ 8) (x : BitVec 64) (h : ∀ i, i < 8 → x.getLsbD i = false) : stepN n x = x >>> n := by
  induction n with
  | zero => simp [stepN]
  | succ n ih =>
    rw [stepN, ih (by omega), stepB_shl]
    · apply BitVec.eq_of_getLsbD_eq; intro i hi; simp only [BitVec.getLsbD_ushiftRight]; congr 1; omega
    · rw [BitVec.getLsbD_ushiftRight]; exact h _ (by omega)
theorem byte_eq (r : BitVec 64) (b : BitVec 8) : byteP r b = byteR r b := by
  unfold byteP byteR tabB
  have h : r ^^^ b.setWidth 64 = (r >>> 8) <<< 8 ^^^ (r.setWidth 8 ^^^ b).setWidth 64 := by
    apply BitVec.eq_of_getLsbD_eq
    intro i hi
    simp only [BitVec.getLsbD_xor, BitVec.getLsbD_shiftLeft, BitVec.getLsbD_ushiftRight, BitVec.getLsbD_setWidth]
    by_cases h8 : i < 8
    · simp [h8, hi]
    · have : 8 + (i - 8) = i := by omega
      have hb : b.getLsbD i = false := BitVec.getLsbD_of_ge _ _ (by omega)
      simp [h8, hi, this, hb]
  have h0 : ∀ i, i < 8 → (r >>> 8 <<< 8).getLsbD i = false := by
    intro i hi
    simp [BitVec.getLsbD_shiftLeft, hi]
  rw [h, stepN_xor, stepN_shl 8 (by omega) (r >>> 8 <<< 8) h0]
  congr 1
  apply BitVec.eq_of_getLsbD_eq
  intro i hi
  simp only [BitVec.getLsbD_shiftLeft, BitVec.getLsbD_ushiftRight]
  by_cases h2 : 8 + i < 64
  · simp [h2]
  · have : r.getLsbD (8 + i) = false := BitVec.getLsbD_of_ge _ _ (by omega)
    simp [this]
theorem runB_take (r : BitVec 64) (bs : List (BitVec 8)) (k : Nat) (h : k < bs.length) : runB r (bs.take (k + 1)) = byteR (runB r (bs.take k)) bs[k] := by
  unfold runB
  rw [List.take_succ_eq_append_getElem h, List.foldl_append]
  rfl
theorem runB_append (r : BitVec 64) (xs ys : List (BitVec 8)) : runB r (xs ++ ys) = runB (runB r xs) ys := by
  unfold runB; rw [List.foldl_append]
theorem extB_append (s : BitVec 64) (xs ys : List (BitVec 8)) : extB (extB s xs) ys = extB s (xs ++ ys) := by
  unfold extB; rw [BitVec.not_not, runB_append]
theorem extB_nil : extB 0#64 [] = 0#64 := by decide
def xor3 : List (BitVec 8) → List (BitVec 8) → List (BitVec 8) → List (BitVec 8)
  | x :: a, y :: b, z :: c => (x ^^^ y ^^^ z) :: xor3 a b c
  | _, _, _ => []
theorem xor3_length : ∀ (a b c : List (BitVec 8)), a.length = b.length → a.length = c.length → (xor3 a b c).length = a.length
  | [], [], [], _, _ => rfl
  | x :: a, y :: b, z :: c, h1, h2 => by
    simp only [List.length_cons] at h1 h2
    rw [xor3, List.length_cons, List.length_cons, xor3_length a b c (by omega) (by omega)]
theorem xor3_get : ∀ (a b c : List (BitVec 8)) (j : Nat) (x y z : BitVec 8), a[j]? = some x → b[j]? = some y → c[j]? = some z → (xor3 a b c)[j]? = some (x ^^^ y ^^^ z)
  | p :: a, q :: b, r :: c, 0, x, y, z, h1, h2, h3 => by
    simp at h1 h2 h3; subst h1 h2 h3; rfl
  | p :: a, q :: b, r :: c, j + 1, x, y, z, h1, h2, h3 => by
    rw [xor3, List.getElem?_cons_succ]
    exact xor3_get a b c j x y z (by simpa using h1) (by simpa using h2) (by simpa using h3)
theorem byteR_xor3 (r s t : BitVec 64) (x y z : BitVec 8) : byteR (r ^^^ s ^^^ t) (x ^^^ y ^^^ z) = byteR r x ^^^ byteR s y ^^^ byteR t z := by
  unfold byteR
  rw [← stepN_xor, ← stepN_xor]
  congr 1
  apply BitVec.eq_of_getLsbD_eq
  intro i hi
  simp only [BitVec.getLsbD_xor, BitVec.getLsbD_setWidth, hi, decide_true, Bool.true_and]
  generalize r.getLsbD i = r'; generalize s.getLsbD i = s'; generalize t.getLsbD i = t'
  generalize x.getLsbD i = x'; generalize y.getLsbD i = y'; generalize z.getLsbD i = z'
  cases r' <;> cases s' <;> cases t' <;> cases x' <;> cases y' <;> cases z' <;> rfl
theorem runB_xor3 : ∀ (a b c : List (BitVec 8)) (r s t : BitVec 64), a.length = b.length → a.length = c.length → runB (r ^^^ s ^^^ t) (xor3 a b c) = runB r a ^^^ runB s b ^^^ runB t c
  | [], [], [], _, _, _, _, _ => rfl
  | x :: a, y :: b, z :: c, r, s, t, h1, h2 => by
    simp only [List.length_cons] at h1 h2
    have ih := runB_xor3 a b c (byteR r x) (byteR s y) (byteR t z) (by omega) (by omega)
    unfold runB at *
    rw [xor3, List.foldl_cons, List.foldl_cons, List.foldl_cons, List.foldl_cons, byteR_xor3, ih]
theorem extB_xor3 (a b c : List (BitVec 8)) (h1 : a.length = b.length) (h2 : a.length = c.length) : extB 0#64 (xor3 a b c) = extB 0#64 a ^^^ extB 0#64 b ^^^ extB 0#64 c := by
  unfold extB
  have h : (~~~(0#64 : BitVec 64)) = ~~~0#64 ^^^ ~~~0#64 ^^^ ~~~0#64 := by decide
  have e := runB_xor3 a b c (~~~0#64) (~~~0#64) (~~~0#64) h1 h2
  rw [← h] at e
  rw [e]
  generalize runB (~~~0#64) a = p
  generalize runB (~~~0#64) b = q
  generalize runB (~~~0#64) c = r
  apply BitVec.eq_of_getLsbD_eq
  intro i hi
  simp only [BitVec.getLsbD_not, BitVec.getLsbD_xor, hi, decide_true, Bool.true_and]
  cases p.getLsbD i <;> cases q.getLsbD i <;> cases r.getLsbD i <;> rfl
/-- The first bytes of a word, the least significant one first. -/
def wbN : Nat → BitVec 64 → List (BitVec 8)
  | 0, _ => []
  | k + 1, x => wbN k x ++ [(x >>> (8 * k)).setWidth 8]
theorem wbN_length (k : Nat) (x : BitVec 64) : (wbN k x).length = k := by
  induction k with
  | zero => rfl
  | succ k ih => rw [wbN, List.length_append, ih]; rfl
theorem wbN_get (n j : Nat) (x : BitVec 64) (h : j < n) : (wbN n x)[j]? = some ((x >>> (8 * j)).setWidth 8) := by
  induction n with
  | zero => omega
  | succ n ih =>
    rw [wbN]
    by_cases hj : j < n
    · rw [List.getElem?_append_left (by rw [wbN_length]; exact hj)]; exact ih hj
    · have : j = n := by omega
      subst this
      rw [List.getElem?_append_right (by rw [wbN_length]; omega), wbN_length, Nat.sub_self]; rfl
/-- The bytes of words. -/
def wordBytes (l : List (BitVec 64)) : List (BitVec 8) := l.flatMap (wbN 8)
theorem wordBytes_length (l : List (BitVec 64)) : (wordBytes l).length = 8 * l.length := by
  unfold wordBytes
  induction l with
  | nil => rfl
  | cons x l ih => rw [List.flatMap_cons, List.length_append, ih, wbN_length, List.length_cons]; omega
theorem wordBytes_take (l : List (BitVec 64)) (k : Nat) (h : k < l.length) : wordBytes (l.take (k + 1)) = wordBytes (l.take k) ++ wbN 8 l[k] := by
  unfold wordBytes
  rw [List.take_succ_eq_append_getElem h, List.flatMap_append, List.flatMap_singleton]
end Go.Proofs.Ytccgnekcbdkilaa

/- The walks of package crc and of its reference. Own work. -/
namespace Go.Proofs.Ytccgnekcbdkilaa
open Go.RowKit
set_option linter.unusedVariables false
set_option linter.unusedSimpArgs false
def z256 : Array Value := Array.replicate 256 (.int .u64 0)
theorem zero256 (w : World) : (zeroValue 91).run Try.prog w = .ok (.agg z256) w := by kernel_rfl
def tabV (j : Nat) : Value := .int .u64 (UV (tabB (BitVec.ofNat 8 j)))
def IsTab (cs : Array Value) : Prop := cs.size = 256 ∧ ∀ j, j < 256 → cs[j]? = some (tabV j)
theorem stepN_succ_y (m : Nat) (r : BitVec 64) (h : (stepN m r &&& 1#64 == 1#64) = true) : stepN (m + 1) r = stepN m r >>> 1 ^^^ 14514072000185962306#64 := by
  rw [stepN, stepB, if_pos h]
theorem stepN_succ_n (m : Nat) (r : BitVec 64) (h : (stepN m r &&& 1#64 == 1#64) = false) : stepN (m + 1) r = stepN m r >>> 1 := by
  rw [stepN, stepB, if_neg (by simp [h])]
theorem tab_ok (k : Nat) (hk : k < 256) : tabB (BitVec.ofNat 8 k) = stepN 8 (BitVec.ofNat 64 k) := by
  unfold tabB
  congr 1
  apply BitVec.eq_of_toNat_eq
  rw [BitVec.toNat_setWidth, BitVec.toNat_ofNat, BitVec.toNat_ofNat]
  omega
set_option maxRecDepth 100000 in
set_option maxHeartbeats 1000000 in
theorem table_any (w : World) :
    Calls Try.prog 64 #[] w fun e w' => ∃ cs, e = .returned (.agg cs) ∧ IsTab cs ∧ Below w.heap.size w w' := by
  have hz := zero256
  go_enter Try.func64, Try.ntmps64
  go_wp2
  go_loopw [3] (fun i wr => ∃ (k : Nat) (cs : Array Value), k ≤ 256 ∧ i = .int .i64 k ∧ Below w.heap.size w wr ∧ Blk wr w.heap.size 91 cs ∧ cs.size = 256 ∧ ∀ j, j < k → cs[j]? = some (tabV j)) (fun i _ => 256 - (intOf i).toNat)
  case atStart => exact ⟨0, z256, by omega, rfl, (Below.refl _ _).alloc (Nat.le_refl _) _, Blk.new _ _ _, rfl, fun j hj => by omega⟩
  case round =>
    obtain ⟨k, cs, hk, rfl, hb, hblk, hsz, htab⟩ := hrel
    have HT := Lib.hid htab
    have HB := Lib.hid hblk
    have HS := Lib.hid hsz
    clear htab hblk hsz hz
    by_cases hlt : k < 256
    · go_wp2
      go_loop [2, 8] (fun r j => ∃ m : Nat, m ≤ 8 ∧ j = .int .i64 m ∧ r = .int .u64 (UV (stepN m (BitVec.ofNat 64 k)))) (fun _ j => 8 - (intOf j).toNat)
      case atStart => exact ⟨0, by omega, rfl, rfl⟩
      case round =>
        obtain ⟨m, hm, rfl, rfl⟩ := hrel
        by_cases hml : m < 8
        · rcases Bool.eq_false_or_eq_true (stepN m (BitVec.ofNat 64 k) &&& 1#64 == 1#64) with hb1 | hb1
          · go_wp2
            go_round
            case rel => exact ⟨m + 1, by omega, by go_num, by rw [stepN_succ_y m _ hb1]⟩
            case measure => simp [intOf]; omega
          · go_wp2
            go_round
            case rel => exact ⟨m + 1, by omega, by go_num, by rw [stepN_succ_n m _ hb1]⟩
            case measure => simp [intOf]; omega
        · have h8 : m = 8 := by omega
          subst h8
          have hc := HB.out.cell k
          rw [Array.getElem?_eq_getElem (show k < cs.size by rw [HS.out]; exact hlt)] at hc
          have hf := HB.out.frozen k
          go_wp2
          go_roundw
          case rel =>
            refine ⟨k + 1, _, by omega, by go_num, hb.setCell (Nat.le_refl _) _, HB.out.setSame k _, by rw [Array.size_setIfInBounds]; exact HS.out, fun j hj => ?_⟩
            rw [Array.getElem?_setIfInBounds]
            by_cases hjk : k = j
            · subst hjk
              rw [if_pos rfl, if_pos (by rw [HS.out]; exact hlt)]
              unfold tabV
              rw [tab_ok k hlt]
            · rw [if_neg hjk]; exact HT.out j (by omega)
          case measure => simp [intOf]; omega
    · have h256 : k = 256 := by omega
      subst h256
      have hi : (Try.prog.info? 91).map (·.size) = some cs.size := by rw [HS.out]; kernel_rfl
      have Hi := Lib.hid hi
      clear hi
      go_wp2_with (first
        | (refine wpList_load_row rfl 91 _ rfl _ rfl _ _ _ _ HB.out Try.underlying91 rfl Hi.out ?_)
        | (refine wpList_store_row rfl 91 _ _ rfl _ cs rfl rfl _ _ HB.out Hi.out rfl ?c1 ?_))
      case c1 =>
        rw [Array.all_eq_true]
        intro i hi
        have h1 := HT.out i (by rw [HS.out] at hi; exact hi)
        rw [Array.getElem?_eq_getElem hi] at h1
        injection h1 with h1
        rw [h1]; rfl
      rw [setRow_self wr _ cs _ _ HB.out]
      go_wp2
      refine bodyPost_ret (v := .agg cs) (results_cell_row rfl _ _ _ _ cs _ _ rfl HB.out Try.underlying91 rfl Hi.out) rfl ⟨cs, rfl, ⟨HS.out, HT.out⟩, hb⟩
end Go.Proofs.Ytccgnekcbdkilaa

/- The walks of package crc and of its reference: bytes. Own work. -/
namespace Go.Proofs.Ytccgnekcbdkilaa
open Go.RowKit
set_option linter.unusedVariables false
set_option linter.unusedSimpArgs false
def u8V (b : BitVec 8) : Value := .int .u8 (UV b)
theorem map_get {bs : List (BitVec 8)} {k : Nat} (h : k < bs.length) : (bs.map u8V)[k]? = some (.int .u8 (UV bs[k])) := by
  rw [List.getElem?_map, List.getElem?_eq_getElem h]; rfl
theorem map_get' {bs : List (BitVec 8)} {k : Nat} {x : BitVec 8} (h : bs[k]? = some x) : (bs.map u8V)[k]? = some (.int .u8 (UV x)) := by
  rw [List.getElem?_map, h]; rfl
theorem tab_cell {w : World} {B : Nat} {cs : Array Value} (hB : Blk w B 91 cs) (hT : IsTab cs) (y : BitVec 8) : w.cell? ⟨B, (UV y).toNat, none⟩ = some (.int .u64 (UV (tabB y))) := by
  rw [hB.cell, hT.2 _ (by have := y.isLt; exact this)]
  unfold tabV
  rw [toNat_UV, BitVec.ofNat_toNat, BitVec.setWidth_eq]
set_option maxHeartbeats 1000000 in
theorem add_any (r : BitVec 64) (B : Nat) (cs : Array Value) (v : Value) (bs : List (BitVec 8)) (w : World) (hB : Blk w B 91 cs) (hT : IsTab cs) (hs : Sl w v (bs.map u8V)) :
    Calls Try.prog 65 #[.int .u64 (UV r), .pointer (some ⟨B, 0, none⟩), v] w fun e w' => e = .returned (.int .u64 (UV (runB r bs))) ∧ w = w' := by
  rcases hs.cases with ⟨a0, c0, rfl, h0⟩ | ⟨b, o, c, rfl, hl, hm, hlt, hc⟩
  · have hn : bs = [] := by simpa using h0
    subst hn
    go_enter Try.func65, Try.ntmps65
    go_wp2
    go_loop [0, 11] (fun a i => a = .int .u64 (UV r) ∧ i = .int .i64 0) (fun _ _ => 0)
    case atStart => exact ⟨rfl, rfl⟩
    case round =>
      obtain ⟨rfl, rfl⟩ := hrel
      go_wp2
      go_ret
      exact ⟨rfl, rfl⟩
  · rw [List.length_map] at hl ⊢
    unfold maxLen at hm
    have hcell : ∀ k (h : k < bs.length), w.cell? ⟨b, o + k, none⟩ = some (.int .u8 (UV bs[k])) := fun k h => hc k _ (map_get h)
    have HC := Lib.hid hcell
    have HT := Lib.hid hT
    have HB := Lib.hid hB
    have htk := Lib.hid (runB_take r bs)
    have hall := Lib.hid (List.take_length (l := bs))
    clear hc hcell hT hB hs
    go_enter Try.func65, Try.ntmps65
    go_wp2
    go_loop [0, 11] (fun a i => ∃ k : Nat, k ≤ bs.length ∧ i = .int .i64 k ∧ a = .int .u64 (UV (runB r (bs.take k)))) (fun _ i => bs.length - (intOf i).toNat)
    case atStart => exact ⟨0, by omega, rfl, rfl⟩
    case round =>
      obtain ⟨k, hk, rfl, rfl⟩ := hrel
      by_cases hlt2 : k < bs.length
      · have h1 := HC.out k hlt2
        have h2 := htk.out k hlt2
        generalize runB r (bs.take k) = R at *
        generalize bs[k] = x at *
        have h3 := tab_cell HB.out HT.out (R.setWidth 8 ^^^ x)
        have h4 := UV_nonneg (R.setWidth 8 ^^^ x)
        have h5 := UV_lt (R.setWidth 8 ^^^ x)
        have H2 := Lib.hid h2
        clear h2
        go_wp2
        go_round
        case rel => exact ⟨k + 1, by omega, by go_num, by rw [H2.out, ← byte_eq]; rfl⟩
        case measure => simp [intOf]; omega
      · have hkn : k = bs.length := by omega
        subst hkn
        go_wp2
        go_ret
        exact ⟨by rw [← hall.out]; simp, rfl⟩
end Go.Proofs.Ytccgnekcbdkilaa

/- The walks of package crc and of its reference: Extend, Bytes. Own work. -/
namespace Go.Proofs.Ytccgnekcbdkilaa
open Go.RowKit
set_option linter.unusedVariables false
set_option linter.unusedSimpArgs false
theorem IsTab.one {cs : Array Value} (h : IsTab cs) : cs.all (·.oneCell') = true := by
  rw [Array.all_eq_true]
  intro i hi
  have h1 := h.2 i (by rw [h.1] at hi; exact hi)
  rw [Array.getElem?_eq_getElem hi] at h1
  injection h1 with h1
  rw [h1]; rfl
theorem z256_size : z256.size = 256 := by simp [z256]
theorem IsTab.info {cs : Array Value} (h : IsTab cs) : (Try.prog.info? 91).map (·.size) = some cs.size := by rw [h.1]; kernel_rfl
set_option maxHeartbeats 1000000 in
theorem Extend_any (s : BitVec 64) (v : Value) (bs : List (BitVec 8)) (w : World) (hs : Sl w v (bs.map u8V)) :
    Calls Try.prog 63 #[.int .u64 (UV s), v] w fun e w' => e = .returned (.int .u64 (UV (extB s bs))) ∧ Below w.heap.size w w' := by
  have hz := zero256
  have HS := Lib.hid hs
  clear hs
  go_enter Try.func63, Try.ntmps63
  go_wp2_with fail
  refine (table_any _).mono ?_
  rintro e w1 ⟨cs, rfl, hT, hb⟩
  have HT := Lib.hid hT
  clear hT
  go_wp2_with (first
    | (refine wpList_store_row rfl 91 _ _ rfl _ cs rfl rfl _ _ (heap_alloc_new _ _) HT.out.info (z256_size.trans HT.out.1.symm) HT.out.one ?_)
    | fail)
  rw [World.setRow_alloc_new]
  go_wp2_with fail
  have hb2 : Below w.heap.size w (w1.alloc (.cells cs 91)) := hb.alloc hb.size _
  refine (add_any _ _ cs _ bs _ (Blk.new _ _ _) HT.out (HS.out.below hb2)).mono ?_
  rintro e w' ⟨rfl, rfl⟩
  go_wp2_with fail
  go_ret
  exact ⟨rfl, hb2⟩
theorem Bytes_any (v : Value) (bs : List (BitVec 8)) (w : World) (hs : Sl w v (bs.map u8V)) :
    Calls Try.prog 56 #[v] w fun e w' => e = .returned (.int .u64 (UV (extB 0#64 bs))) ∧ Below w.heap.size w w' := by
  have HS := Lib.hid hs
  clear hs
  go_enter Try.func56, Try.ntmps56
  go_wp2_with fail
  refine (Extend_any 0#64 v bs _ HS.out).mono ?_
  rintro e w' ⟨rfl, hb⟩
  go_wp2_with fail
  go_ret
  exact ⟨rfl, hb⟩
set_option maxHeartbeats 1000000 in
theorem ExtendR_any (s : BitVec 64) (v : Value) (bs : List (BitVec 8)) (w : World) (hs : Sl w v (bs.map u8V)) :
    Calls Try.prog 57 #[.int .u64 (UV s), v] w fun e w' => e = .returned (.int .u64 (UV (extB s bs))) ∧ w = w' := by
  rcases hs.cases with ⟨a0, c0, rfl, h0⟩ | ⟨b, o, c, rfl, hl, hm, hlt, hc⟩
  · have hn : bs = [] := by simpa using h0
    subst hn
    go_enter Try.func57, Try.ntmps57
    go_wp2
    go_loop [5, 6] (fun a i => a = .int .u64 (UV (~~~s)) ∧ i = .int .i64 0) (fun _ _ => 0)
    case atStart => exact ⟨rfl, rfl⟩
    case round =>
      obtain ⟨rfl, rfl⟩ := hrel
      go_wp2
      go_ret
      exact ⟨by simp [extB, runB], rfl⟩
  · rw [List.length_map] at hl ⊢
    unfold maxLen at hm
    have hcell : ∀ k (h : k < bs.length), w.cell? ⟨b, o + k, none⟩ = some (.int .u8 (UV bs[k])) := fun k h => hc k _ (map_get h)
    have HC := Lib.hid hcell
    have htk := Lib.hid (runB_take (~~~s) bs)
    have hall := Lib.hid (List.take_length (l := bs))
    clear hc hcell hs
    go_enter Try.func57, Try.ntmps57
    go_wp2
    go_loop [5, 6] (fun a i => ∃ k : Nat, k ≤ bs.length ∧ i = .int .i64 k ∧ a = .int .u64 (UV (runB (~~~s) (bs.take k)))) (fun _ i => bs.length - (intOf i).toNat)
    case atStart => exact ⟨0, by omega, rfl, rfl⟩
    case round =>
      obtain ⟨k, hk, rfl, rfl⟩ := hrel
      by_cases hlt2 : k < bs.length
      · have h1 := HC.out k hlt2
        have h2 := htk.out k hlt2
        generalize runB (~~~s) (bs.take k) = R at *
        generalize bs[k] = x at *
        have H2 := Lib.hid h2
        clear h2
        go_wp2
        go_loop [5, 7] (fun a j => ∃ m : Nat, m ≤ 8 ∧ j = .int .i64 m ∧ a = .int .u64 (UV (stepN m (R ^^^ x.setWidth 64)))) (fun _ j => 8 - (intOf j).toNat)
        case atStart => exact ⟨0, by omega, rfl, rfl⟩
        case round =>
          obtain ⟨m, hm, rfl, rfl⟩ := hrel
          by_cases hml : m < 8
          · rcases Bool.eq_false_or_eq_true (stepN m (R ^^^ x.setWidth 64) &&& 1#64 == 1#64) with hb1 | hb1
            · go_wp2
              go_round
              case rel => exact ⟨m + 1, by omega, by go_num, by rw [stepN_succ_y m _ hb1]⟩
              case measure => simp [intOf]; omega
            · go_wp2
              go_round
              case rel => exact ⟨m + 1, by omega, by go_num, by rw [stepN_succ_n m _ hb1]⟩
              case measure => simp [intOf]; omega
          · have h8 : m = 8 := by omega
            subst h8
            go_wp2
            go_round
            case rel => exact ⟨k + 1, by omega, by go_num, by rw [H2.out]; rfl⟩
            case measure => simp [intOf]; omega
      · have hkn : k = bs.length := by omega
        subst hkn
        go_wp2
        go_ret
        exact ⟨by rw [← hall.out]; simp [extB], rfl⟩
theorem cut0 {w : World} {a : Option Addr} {n c k : Nat} {xs ys : List Value} (h : Sl w (.slice a n c) xs) (hk : k ≤ n) (e : xs.take k = ys) : Sl w (.slice (cutA a c 0 1) k c) ys := by
  have := h.cut (lo := 0) (hi := k) (Nat.zero_le _) hk rfl rfl
  rw [List.drop_zero, e] at this
  exact this
end Go.Proofs.Ytccgnekcbdkilaa

/- append onto a row of the call's own, whatever the source. Own work, on the kit's laws. -/
namespace Go.Proofs.Ytccgnekcbdkilaa
open Go.RowKit
set_option linter.unusedVariables false
set_option linter.unusedSimpArgs false
section
variable {P : Program} {w : World}
theorem app_nil (base : Nat) (t ty e : TypeId) (i : TypeInfo) (size : Nat) (ht : P.underlying t = some (.slice e)) (hi : P.info? e = some i)
    (v : Value) (n : Nat) (xs : List Value) (hown : w.ownsRow base e size v n xs) (c : Nat) : (Builtin.append_ #[t, t] ty #[v, .slice none 0 c]).run P w = .ok v w := by
  rcases hown.2 with ⟨rfl, rfl⟩ | ⟨g, cap, cur, rfl, _, _, hnc, _⟩
  · simp [Builtin.append_, run_underlying ht, sizeOf, typeInfo, hi, Builtin.lenOf, Builtin.firstCells]
  · simp [Builtin.append_, run_underlying ht, sizeOf, typeInfo, hi, Builtin.lenOf, Builtin.firstCells, hnc, storeCells]
theorem run_app (base : Nat) (t ty e : TypeId) (z : Value) (size bytes : Nat) (ht : P.underlying t = some (.slice e)) (hinfo : (P.info? e).map (fun i => (i.zero, i.size, i.bytes)) = some (some z, size, bytes))
    (hzs : z.cells.size = size) (hsz : 0 < size)
    (v : Value) (n : Nat) (xs : List Value) (hown : w.ownsRow base e size v n xs)
    (xv : Value) (m : Nat) (news : List Value) (hr : SlN w xv size m news) (h1 : ∀ u ∈ news, u.oneCell' = true)
    (hn : n + m ≤ 1073741824) (hbytes : (n + m) * bytes ≤ 140737488355328) (hbase : base ≤ w.heap.size) :
    ∃ v' w', (Builtin.append_ #[t, t] ty #[v, xv]).run P w = .ok v' w' ∧ w'.ownsRow base e size v' (n + m) (xs ++ news) ∧ w.grownBy w' v.ownBlock := by
  obtain ⟨i, hi, hzz⟩ := Option.map_eq_some_iff.1 hinfo
  simp only [Prod.mk.injEq] at hzz
  obtain ⟨hz, hs, hb⟩ := hzz
  have hml : n + m ≤ maxLen := by unfold maxLen; omega
  obtain ⟨hlen, hr⟩ := hr
  rcases hr with ⟨a, c, rfl, rfl⟩ | ⟨b, o, c, rfl, hmc, hcm, hlt, hcell⟩
  · have hnil : news = [] := List.eq_nil_of_length_eq_zero (by simpa using hlen)
    subst hnil
    cases a with
    | none => exact ⟨v, w, app_nil base t ty e i size ht hi v n xs hown c, by simpa using hown, World.grownBy.refl w _⟩
    | some ad =>
      obtain ⟨v', w', r1, r2, r3, _⟩ := run_append_own (P := P) w base t ty e i z size bytes ht hi hz hs hb hzs hsz v n xs hown ad 0 c [] (by simp) (by simp) (by simp) hml hbytes hbase
      exact ⟨v', w', r1, r2, r3⟩
  · obtain ⟨v', w', r1, r2, r3, _⟩ := run_append_own (P := P) w base t ty e i z size bytes ht hi hz hs hb hzs hsz v n xs hown ⟨b, o, none⟩ m c news hlen
      (fun j u hu => by rw [addr_add]; exact hcell j u hu) h1 hml hbytes hbase
    exact ⟨v', w', r1, r2, r3⟩
theorem wp_app {o : Oper} {a : Act} {K : Act → World → Prop} {Q : Exit → Act → World → Prop} (s x : Operand) (t : TypeId)
    (ho : o.op = .call { callee := .builtin .append, args := #[s, x], argTypes := #[t, t] })
    (base : Nat) (e : TypeId) (z : Value) (size bytes : Nat) (ht : P.underlying t = some (.slice e)) (hinfo : (P.info? e).map (fun i => (i.zero, i.size, i.bytes)) = some (some z, size, bytes))
    (hzs : z.cells.size = size) (hsz : 0 < size)
    (v : Value) (n : Nat) (xs : List Value) (hs : a.eval s = v) (hown : w.ownsRow base e size v n xs)
    (xv : Value) (m : Nat) (news : List Value) (hx : a.eval x = xv) (hr : SlN w xv size m news) (h1 : ∀ u ∈ news, u.oneCell' = true)
    (hn : n + m ≤ 1073741824) (hbytes : (n + m) * bytes ≤ 140737488355328) (hbase : base ≤ w.heap.size)
    (h : ∀ v' w', w'.ownsRow base e size v' (n + m) (xs ++ news) → w.grownBy w' v.ownBlock → K (a.put o.dst v') w') : o.wp P a w K Q := by
  obtain ⟨v', w', hrun, h2, h3⟩ := run_app (P := P) base t o.type e z size bytes ht hinfo hzs hsz v n xs hown xv m news hr h1 hn hbytes hbase
  unfold Oper.wp execOp
  simp only [ho, resolve, invoke, builtin, Sem.run_bind, Sem.run_pure, Result.andThen_ok, List.map_toArray, List.map_cons, List.map_nil, hs, hx, hrun]
  exact h v' w' h2 h3
theorem wpList_app {ops : Array Oper} {rest : List Oper} {o : Oper} {a : Act} {Q : Exit → Act → World → Prop} (hgd : o.guard = none) (s x : Operand) (t : TypeId)
    (ho : o.op = .call { callee := .builtin .append, args := #[s, x], argTypes := #[t, t] })
    (base : Nat) (e : TypeId) (z : Value) (size bytes : Nat) (ht : P.underlying t = some (.slice e)) (hinfo : (P.info? e).map (fun i => (i.zero, i.size, i.bytes)) = some (some z, size, bytes))
    (hzs : z.cells.size = size) (hsz : 0 < size)
    (v : Value) (n : Nat) (xs : List Value) (hs : a.eval s = v) (hown : w.ownsRow base e size v n xs)
    (xv : Value) (m : Nat) (news : List Value) (hx : a.eval x = xv) (hr : SlN w xv size m news) (h1 : ∀ u ∈ news, u.oneCell' = true)
    (hn : n + m ≤ 1073741824) (hbytes : (n + m) * bytes ≤ 140737488355328) (hbase : base ≤ w.heap.size)
    (h : ∀ v' w', w'.ownsRow base e size v' (n + m) (xs ++ news) → w.grownBy w' v.ownBlock → wpList P ops Q rest (a.put o.dst v') w') : wpList P ops Q (o :: rest) a w :=
  wpList_plain hgd fun _ hK => wp_app s x t ho base e z size bytes ht hinfo hzs hsz v n xs hs hown xv m news hx hr h1 hn hbytes hbase fun v' w' h2 h3 => hK _ _ (h v' w' h2 h3)
end
/-- An owned row is a slice. -/
theorem own_form {w : World} {base : Nat} {e : TypeId} {size n : Nat} {v : Value} {xs : List Value} (h : w.ownsRow base e size v n xs) : ∃ a c, v = .slice a n c := by
  rcases h.2 with ⟨rfl, rfl⟩ | ⟨g, cap, cur, rfl, _⟩
  · exact ⟨_, _, rfl⟩
  · exact ⟨_, _, rfl⟩
theorem own_below {w w' : World} {base : Nat} {e : TypeId} {size n : Nat} {v : Value} {xs : List Value} (h : w.ownsRow base e size v n xs) {B : Nat} (hb : Below B w w') (hB : w.heap.size ≤ B) : w'.ownsRow base e size v n xs := by
  refine ⟨h.1, ?_⟩
  rcases h.2 with h2 | ⟨g, cap, cur, rfl, h1, h2, h3⟩
  · exact .inl h2
  · have hl : g < w.heap.size := by
      rcases Nat.lt_or_ge g w.heap.size with hl | hl
      · exact hl
      · rw [Array.getElem?_eq_none hl] at h2; cases h2
    exact .inr ⟨g, cap, cur, rfl, h1, by rw [hb.block g (by omega)]; exact h2, h3⟩
/-- An owned row reads as a slice. -/
theorem own_sl {w : World} {base : Nat} {e : TypeId} {size n : Nat} {v : Value} {xs : List Value} (h : w.ownsRow base e size v n xs) : SlN w v size n xs := by
  refine ⟨h.1, ?_⟩
  rcases h.2 with ⟨rfl, rfl⟩ | ⟨g, cap, cur, rfl, h1, h2, h3, h4, h5, h6⟩
  · exact .inl ⟨_, _, rfl, rfl⟩
  · refine .inr ⟨g, 0, cap, rfl, h3, h4, ?_, fun i u hu => ?_⟩
    · rcases Nat.lt_or_ge g w.heap.size with hl | hl
      · exact hl
      · rw [Array.getElem?_eq_none hl] at h2; cases h2
    · rw [Nat.zero_add, cell_of_row w g i cur e _ h2]
      rw [← h6] at hu
      have hi : i < n * size := by
        rcases Nat.lt_or_ge i (n * size) with g' | g'
        · exact g'
        · rw [List.getElem?_eq_none (by rw [List.length_take]; omega)] at hu; cases hu
      rw [List.getElem?_take_of_lt hi, Array.getElem?_toList] at hu
      exact hu
theorem own_sl1 {w : World} {base : Nat} {e : TypeId} {n : Nat} {v : Value} {xs : List Value} (h : w.ownsRow base e 1 v n xs) : Sl w v xs := by
  have h1 := own_sl h
  have h2 : xs.length = n := by have := h.1; omega
  unfold Sl
  rw [h2]
  exact h1
/-- A new block of cells reads as the one-element slice over it. -/
theorem sl_new (w : World) (cs : Array Value) (t : TypeId) (s n c : Nat) (h : cs.size = n * s) (hc : n ≤ c) (hm : c ≤ 1073741824) : SlN (w.alloc (.cells cs t)) (.slice (some ⟨w.heap.size, 0, none⟩) n c) s n cs.toList := by
  refine ⟨by rw [Array.length_toList, h], .inr ⟨_, _, c, rfl, hc, by unfold maxLen; omega, by simp, fun i u hu => ?_⟩⟩
  rw [Nat.zero_add, (Blk.new w t cs).cell i]
  rw [Array.getElem?_toList] at hu
  exact hu
/-- What a grown world keeps below the base. -/
theorem below_grown {B : Nat} {w0 w w' : World} {base : Nat} {e : TypeId} {size n : Nat} {v : Value} {xs : List Value} (h : Below B w0 w) (hown : w.ownsRow base e size v n xs) (hg : w.grownBy w' v.ownBlock) (hB : B ≤ base) (hw : B ≤ w.heap.size) : Below B w0 w' :=
  h.grown hg hw fun k hk => Nat.le_trans hB (hown.lt k hk).1
end Go.Proofs.Ytccgnekcbdkilaa

/- The walks of package crc and of its reference: words. Own work. -/
namespace Go.Proofs.Ytccgnekcbdkilaa
open Go.RowKit
set_option linter.unusedVariables false
set_option linter.unusedSimpArgs false
def u64V (b : BitVec 64) : Value := .int .u64 (UV b)
theorem u8_info : (Try.prog.info? 5).map (fun i => (i.zero, i.size, i.bytes)) = some (some (.int .u8 0), 1, 1) := by kernel_rfl
theorem lit0 : Value.int .u64 0 = Value.int .u64 (UV 0#64) := rfl
theorem get64 {l : List (BitVec 64)} {k : Nat} (h : k < l.length) : (l.map u64V)[k]? = some (.int .u64 (UV l[k])) := by
  rw [List.getElem?_map, List.getElem?_eq_getElem h]; rfl
theorem shr_shr8 (x : BitVec 64) (k : Nat) : x >>> (8 * k) >>> 8 = x >>> (8 * (k + 1)) := by
  apply BitVec.eq_of_getLsbD_eq; intro i hi; simp only [BitVec.getLsbD_ushiftRight]; congr 1; omega
set_option maxHeartbeats 4000000 in
theorem Words_any (v : Value) (l : List (BitVec 64)) (w : World) (hs : Sl w v (l.map u64V)) (hn : l.length ≤ 65536) :
    Calls Try.prog 45 #[v] w fun e w' => e = .returned (.int .u64 (UV (extB 0#64 (wordBytes l)))) ∧ Below w.heap.size w w' := by
  obtain ⟨a, n, c, rfl⟩ : ∃ a n c, v = .slice a n c := by
    rcases hs.cases with ⟨a, c, rfl, _⟩ | ⟨b, o, c, rfl, _⟩ <;> exact ⟨_, _, _, rfl⟩
  have hl : l.length = n := by have := hs.len; simpa using this
  have HS := Lib.hid hs
  have HL := Lib.hid hl
  rw [hl] at hn
  clear hs hl
  obtain ⟨i0, hi0, hz⟩ := Option.map_eq_some_iff.1 u8_info
  simp only [Prod.mk.injEq] at hz
  have HI := Lib.hid hi0
  have HZ := Lib.hid hz
  clear hi0 hz
  go_enter Try.func45, Try.ntmps45
  go_wp2_with (refine wpList_make_own _ rfl _ _ 85 rfl w.heap.size 5 i0 (.int .u8 0) 1 Try.underlying85 HI.out HZ.out.1 HZ.out.2.1 .i64 .i64 _ (8 * n) rfl rfl (by omega) (by rw [HZ.out.2.2]; omega) (by unfold maxLen; omega) (Nat.le_refl _) ?_; intro w1 hown hg)
  have hb1 : Below w.heap.size w w1 := (Below.refl _ _).grown hg (Nat.le_refl _) (by intro k hk; cases hk)
  have HO := Lib.hid hown
  clear hown hg HI HZ
  go_loopw [3, 12] (fun b i wr => ∃ k : Nat, k ≤ n ∧ i = .int .i64 k ∧ wr.ownsRow w.heap.size 5 1 b (8 * k) ((wordBytes (l.take k)).map u8V) ∧ Below w.heap.size w wr) (fun _ i _ => n - (intOf i).toNat)
  case atStart => exact ⟨0, by omega, rfl, HO.out, hb1⟩
  case round =>
    obtain ⟨k, hk, rfl, hown, hb⟩ := hrel
    have HW := Lib.hid hown
    clear hown HO hb1
    by_cases hlt : k < n
    · obtain ⟨p, o, rfl, hp, hc⟩ := HS.out.at_ (k := k) (by omega)
      have hc1 := (hb.cell (p := ⟨p, o + k, none⟩) hp).trans (hc _ (get64 (by rw [HL.out]; exact hlt)))
      have hbt := wordBytes_take l k (by rw [HL.out]; exact hlt)
      generalize l[k]'(by rw [HL.out]; exact hlt) = x at *
      have Hbt := Lib.hid hbt
      clear hbt hc
      go_wp2_with fail
      go_loopw [3, 5, 16] (fun b y j wq => ∃ m : Nat, m ≤ 8 ∧ j = .int .i64 m ∧ y = .int .u64 (UV (x >>> (8 * m))) ∧ wq.ownsRow w.heap.size 5 1 b (8 * k + m) ((wordBytes (l.take k) ++ wbN m x).map u8V) ∧ Below w.heap.size w wq) (fun _ _ j _ => 8 - (intOf j).toNat)
      case atStart => exact ⟨0, by omega, rfl, by simp, by simpa [wbN] using HW.out, hb⟩
      case round =>
        obtain ⟨m, hm, rfl, rfl, hown, hbq⟩ := hrel
        have HQ := Lib.hid hown
        clear hown hc1
        by_cases hml : m < 8
        · have hsq := hbq.size
          go_wp2_with (at_builtin; refine wpList_app rfl (.tmp 18) (.tmp 21) _ rfl w.heap.size 5 (.int .u8 0) 1 1 Try.underlying85 u8_info rfl (by omega) _ (8 * k + m) _ rfl (HQ.out.alloc _) _ 1 _ rfl (sl_new _ _ _ 1 1 1 rfl (by omega) (by omega)) (by intro u hu; simp at hu; subst hu; rfl) (by omega) (by omega) (by simp; omega) ?_; intro v' w' hown' hg')
          go_roundw
          case rel =>
            refine ⟨m + 1, by omega, by go_num, by rw [shr_shr8], ?_, below_grown (hbq.alloc hsq _) (HQ.out.alloc _) hg' (Nat.le_refl _) (by simp; omega)⟩
            rw [wbN, ← List.append_assoc, List.map_append]
            exact hown'
          case measure => simp [intOf]; omega
        · have h8 : m = 8 := by omega
          subst h8
          go_wp2_with fail
          go_roundw
          case rel => exact ⟨k + 1, by omega, by go_num, by rw [Hbt.out]; exact HQ.out, hbq⟩
          case measure => simp [intOf]; omega
    · have hkn : k = n := by omega
      subst hkn
      have hall : l.take k = l := List.take_of_length_le (by rw [HL.out]; exact Nat.le_refl _)
      rw [hall] at HW
      go_wp2_with fail
      refine (Bytes_any _ (wordBytes l) _ (own_sl1 HW.out)).mono ?_
      rintro e w2 ⟨rfl, hb2⟩
      go_wp2_with fail
      go_ret
      exact ⟨rfl, hb.trans (hb2.mono hb.size)⟩
theorem map_len {l : List (BitVec 8)} : (l.map u8V).length = l.length := by simp
set_option maxHeartbeats 4000000 in
theorem Little_any (x : BitVec 64) (w : World) :
    Calls Try.prog 58 #[.int .u64 (UV x)] w fun e w' => ∃ v, e = .returned v ∧ Sl w' v ((wbN 8 x).map u8V) ∧ Below w.heap.size w w' := by
  have hmk : ∀ W : World, (Instr.makeSlice 85 (.int .i64 8) (.int .i64 8)).run Try.prog W = .ok (.slice (some ⟨W.heap.size, 0, none⟩) 8 8) (W.alloc (.cells (madeCells #[.int .u8 0] 8) 5)) :=
    run_make_row' (P := Try.prog) 85 5 (.int .u8 0) 1 Try.underlying85 u8_info rfl .i64 .i64 8 (by omega) (by omega)
  go_enter Try.func58, Try.ntmps58
  go_wp2_with fail
  clear hmk
  go_loopw [4] (fun i wr => ∃ (k : Nat) (cs : Array Value), k ≤ 8 ∧ i = .int .i64 k ∧ Below w.heap.size w wr ∧ Blk wr w.heap.size 5 cs ∧ cs.size = 8 ∧
    ∀ j, j < k → cs[j]? = some (u8V ((x >>> (8 * j)).setWidth 8))) (fun i _ => 8 - (intOf i).toNat)
  case atStart => exact ⟨0, _, by omega, rfl, (Below.refl _ _).alloc (Nat.le_refl _) _, Blk.new _ _ _, by simp [size_madeCells], fun j hj => by omega⟩
  case round =>
    obtain ⟨k, cs, hk, rfl, hb, hblk, hsz, hcs⟩ := hrel
    have HB := Lib.hid hblk
    have HZ := Lib.hid hsz
    have HC := Lib.hid hcs
    clear hblk hsz hcs
    by_cases hlt : k < 8
    · have d3 := HB.out.cell k
      rw [Array.getElem?_eq_getElem (show k < cs.size by rw [HZ.out]; exact hlt)] at d3
      have d4 := HB.out.frozen k
      have hsh : shf (BitVec.ofInt 64 (8 * (k : Int))) = 8 * k := by rw [shf_int _ (by omega) (by omega)]; omega
      go_wp2_with fail
      go_roundw
      case rel =>
        refine ⟨k + 1, cs.setIfInBounds k (u8V ((x >>> (8 * k)).setWidth 8)), by omega, by go_num, hb.setCell (Nat.le_refl _) _, ?_, by rw [Array.size_setIfInBounds]; exact HZ.out, fun j hj => ?_⟩
        · exact HB.out.setSame k (u8V ((x >>> (8 * k)).setWidth 8))
        · rw [Array.getElem?_setIfInBounds]
          by_cases hjk : k = j
          · subst hjk
            rw [if_pos rfl, if_pos (by rw [HZ.out]; exact hlt)]
          · rw [if_neg hjk]; exact HC.out j (by omega)
      case measure => simp [intOf]; omega
    · have h8 : k = 8 := by omega
      subst h8
      go_wp2_with fail
      go_ret
      refine ⟨_, rfl, ?_, hb⟩
      refine ⟨by simp, ?_⟩
      rw [List.length_map, wbN_length]
      refine .inr ⟨_, _, 8, rfl, Nat.le_refl _, by decide, HB.out.lt, fun i u hu => ?_⟩
      rw [Nat.zero_add, HB.out.cell i]
      have hi : i < 8 := by
        rcases Nat.lt_or_ge i 8 with g | g
        · exact g
        · rw [List.getElem?_eq_none (by rw [List.length_map, wbN_length]; exact g)] at hu; cases hu
      rw [HC.out i hi, ← hu, List.getElem?_map, wbN_get 8 i x hi]
      rfl
set_option maxHeartbeats 4000000 in
theorem WordsR_any (v : Value) (l : List (BitVec 64)) (w : World) (hs : Sl w v (l.map u64V)) (hn : l.length ≤ 65536) :
    Calls Try.prog 46 #[v] w fun e w' => e = .returned (.int .u64 (UV (extB 0#64 (wordBytes l)))) ∧ Below w.heap.size w w' := by
  obtain ⟨a, n, c, rfl⟩ : ∃ a n c, v = .slice a n c := by
    rcases hs.cases with ⟨a, c, rfl, _⟩ | ⟨b, o, c, rfl, _⟩ <;> exact ⟨_, _, _, rfl⟩
  have hl : l.length = n := by have := hs.len; simpa using this
  have HS := Lib.hid hs
  have HL := Lib.hid hl
  rw [hl] at hn
  clear hs hl
  go_enter Try.func46, Try.ntmps46
  go_wp2_with fail
  simp only [lit0]
  go_loopw [3, 4] (fun s i wr => ∃ k : Nat, k ≤ n ∧ i = .int .i64 k ∧ s = .int .u64 (UV (extB 0#64 (wordBytes (l.take k)))) ∧ Below w.heap.size w wr) (fun _ i _ => n - (intOf i).toNat)
  case atStart => exact ⟨0, by omega, rfl, by rw [List.take_zero]; exact congrArg (fun x => Value.int .u64 (UV x)) extB_nil.symm, Below.refl _ _⟩
  case round =>
    obtain ⟨k, hk, rfl, rfl, hb⟩ := hrel
    by_cases hlt : k < n
    · obtain ⟨p, o, rfl, hp, hc⟩ := HS.out.at_ (k := k) (by omega)
      have hc1 := (hb.cell (p := ⟨p, o + k, none⟩) hp).trans (hc _ (get64 (by rw [HL.out]; exact hlt)))
      have hbt := wordBytes_take l k (by rw [HL.out]; exact hlt)
      generalize l[k]'(by rw [HL.out]; exact hlt) = x at *
      have Hbt := Lib.hid hbt
      clear hbt hc
      go_wp2_with fail
      refine (Little_any x _).mono ?_
      rintro e w1 ⟨v, rfl, hs1, hb1⟩
      have HS1 := Lib.hid hs1
      clear hs1
      have hb1' := hb.trans (hb1.mono hb.size)
      go_wp2_with fail
      refine (ExtendR_any _ v (wbN 8 x) _ HS1.out).mono ?_
      rintro e w' ⟨rfl, rfl⟩
      rw [extB_append, ← Hbt.out]
      go_wp2_with fail
      go_roundw
      case rel => exact ⟨k + 1, by omega, by go_num, rfl, hb1'⟩
      case measure => simp [intOf]; omega
    · have hkn : k = n := by omega
      subst hkn
      have hall : l.take k = l := List.take_of_length_le (by rw [HL.out]; exact Nat.le_refl _)
      have Hall := Lib.hid hall
      clear hall
      go_wp2_with fail
      go_ret
      exact ⟨by rw [← Hall.out]; simp [Hall.out], hb⟩
end Go.Proofs.Ytccgnekcbdkilaa

/- Contracts: checksums of words; the words of a record. Own work. -/
namespace Go.Proofs.Ytccgnekcbdkilaa
open Go.RowKit
set_option linter.unusedVariables false
set_option linter.unusedSimpArgs false
set_option maxRecDepth 100000
theorem sl_of_at {φ : Fz} {w : World} {a : Option Addr} {n c : Nat} {xs : List (BitVec 64)} (hm : Mem φ [] w) (h : SlAt tU64 φ a n c xs) : Sl w (.slice a n c) (xs.map u64V) := by
  obtain ⟨h1, h2, h3, h4⟩ := h
  refine ⟨by simp, ?_⟩
  rw [List.length_map]
  rcases h4 with h4 | ⟨b, o, rfl, h4⟩
  · exact .inl ⟨a, c, by rw [h4], by omega⟩
  · by_cases h0 : n = 0
    · exact .inl ⟨_, c, by rw [h0], by omega⟩
    · have key : ∀ i u, (xs.map u64V)[i]? = some u → w.cell? ⟨b, o + i, none⟩ = some u := fun i u hu => by
        rw [List.getElem?_map] at hu
        obtain ⟨x, hx, rfl⟩ := Option.map_eq_some_iff.1 hu
        obtain ⟨v, h5, h6, _⟩ := h4 i x hx 0 (Is (.int .u64 (UV x))) rfl
        have h7 := hm.base _ _ _ h5
        have h8 : i * tU64.size = i := Nat.mul_one i
        rw [h8] at h7
        rw [show v = _ from h6] at h7
        exact h7
      refine .inr ⟨b, o, c, by rw [h1], by omega, h3, ?_, key⟩
      obtain ⟨x, hx⟩ : ∃ x, xs[0]? = some x := ⟨xs[0]'(by omega), List.getElem?_eq_getElem (by omega)⟩
      exact cell_lt (key 0 (u64V x) (by rw [List.getElem?_map, hx]; rfl))
/-- The checksum of words. -/
def crcW (l : List (BitVec 64)) : BitVec 64 := extB 0#64 (wordBytes l)
theorem CrcWords_ok (l : List (BitVec 64)) (hn : l.length ≤ 65536) : FnP Try.prog 45 [IsSl tU64 l] (Is (.int .u64 (UV (crcW l)))) :=
  FnP.of_calls fun φ w vs hv hm => by
    match vs, hv with
    | [v], ⟨⟨a, n, cp, e, h⟩, _⟩ => subst e; exact Words_any _ l w (sl_of_at hm h) hn
theorem CrcWordsR_ok (l : List (BitVec 64)) (hn : l.length ≤ 65536) : FnP Try.prog 46 [IsSl tU64 l] (Is (.int .u64 (UV (crcW l)))) :=
  FnP.of_calls fun φ w vs hv hm => by
    match vs, hv with
    | [v], ⟨⟨a, n, cp, e, h⟩, _⟩ => subst e; exact WordsR_any _ l w (sl_of_at hm h) hn
/-- The data of a page, the words of a write, the words ahead of the checksum, the body. -/
@[reducible] def Pg.data (p : Pg) : List (BitVec 64) := [p.d0, p.d1, p.d2, p.d3, p.d4, p.d5, p.d6]
def pgW (p : Pg) : List (BitVec 64) := [BitVec.ofInt 64 p.l, p.h] ++ p.data
def bodyP (seq : Int) (ms : List Pg) (k : Nat) : List (BitVec 64) := [BitVec.ofInt 64 seq, BitVec.ofInt 64 ms.length] ++ (ms.take k).flatMap pgW
theorem bodyP_len (seq : Int) (ms : List Pg) (k : Nat) (h : k ≤ ms.length) : (bodyP seq ms k).length = 2 + 9 * k := by
  have : ∀ l : List Pg, (l.flatMap pgW).length = 9 * l.length := fun l => by
    induction l with
    | nil => rfl
    | cons p l ih => rw [List.flatMap_cons, List.length_append, ih]; simp [pgW]; omega
  unfold bodyP
  rw [List.length_append, this, List.length_take, Nat.min_eq_left h]; rfl
theorem bodyP_succ {seq : Int} {ms : List Pg} {k : Nat} {p : Pg} (h : ms[k]? = some p) : bodyP seq ms (k + 1) = bodyP seq ms k ++ [BitVec.ofInt 64 p.l, p.h] ++ p.data := by
  unfold bodyP
  rw [List.take_add_one, h]
  simp [pgW]
noncomputable def bodyW (seq : Int) (ms : List Pg) : List (BitVec 64) := if validR seq ms 256 = 0 then bodyP seq ms ms.length ++ [crcW (bodyP seq ms ms.length)] else []
set_option maxHeartbeats 2000000 in
-- logrec.Body: function 17
theorem BodyO_ok (seq : Int) (ms : List Pg) : Fn Try.prog 17 [IsRec seq ms] [] (fun i : Option Addr × Nat => Is (slV (bodyW seq ms).length i)) (fun i => [buf (slV (bodyW seq ms).length i) 28 tU64 (bodyW seq ms)]) := by
  refine Fn.enterN Try.func17 Try.ntmps17 rfl rfl ?_
  intro c hX
  refine JC_lenV (t := 0) 1 rfl rfl (fun hlen => ?_)
  refine JC_seq ?_
  refine JC_region ?_
  (refine JL_n rfl (op_box (Ev.rfl' rfl) cellsT) ?_; intro i1)
  refine JL_1 rfl (op_assign rfl) ?_
  refine JL_nil ?_
  refine JQ_then (JC_seq (JC_seq ?_))
  refine JC_region ?_
  refine JL_1 rfl (by first | exact op_loadRefsN (n := 2) (Ev.rfl' rfl) rfl rfl rfl (by rfl) nrmT | exact op_loadPtrsN (n := 2) (Ev.rfl' rfl) memT (by rfl) (by rfl) (by rfl) (by rfl) nrmT) ?_
  refine JL_1 rfl (by first | ((refine op_call Try.call12 (ValidL_ok _ _ _) ⟨evS, ⟨evS, trivial⟩⟩)) | ((refine op_callB lendT Try.call12 (ValidL_ok _ _ _) ⟨evS, ⟨evS, trivial⟩⟩ pureT))) ?_
  refine JL_1 rfl (op_neq (Ev.rfl' rfl) (Ev.rfl' rfl)) ?_
  refine JL_nil ?_
  refine JQ_then ?_
  refine JC_cond (Ev.rfl' rfl) (fun h1 => ?_) (fun h1 => ?_)
  · have g : ¬ validR seq ms 256 = 0 := by simpa using h1
    refine JC_seq ?_
    refine JC_region ?_
    refine JL_1 rfl (op_assign rfl) ?_
    refine JL_nil ?_
    refine JQ_then (JC_ret (JQ_then_ret ?_))
    refine JQ_buf0 28 tU64 ?_
    exact JQ_retP (Bs := [Is (slV 0 (none, 0))]) Try.results17 ⟨⟨_, rfl, subT⟩, trivial⟩ (none, 0) (SubL.eq (by rw [bodyW, if_neg g]; rfl)) (by rw [bodyW, if_neg g]; exact lessT)
  have g : validR seq ms 256 = 0 := by simpa using h1
  have hl : 1 ≤ ms.length ∧ ms.length ≤ 12 := ⟨(validR_ok g).2.1.2.2.1, (validR_ok g).2.1.2.2.2⟩
  clear h1
  refine JC_skip (JQ_then (JC_seq ?_))
  refine JC_region ?_
  refine JL_1 rfl (by first | exact op_fieldPtr (k := 0) (Ev.rfl' rfl) rfl rfl rfl rfl | exact op_fieldRefN (k := 0) (Ev.rfl' rfl) rfl rfl rfl rfl nrmT) ?_
  refine JL_1 rfl (by first | exact op_loadRef (Ev.rfl' rfl) rfl rfl rfl | exact op_loadPtr (Ev.rfl' rfl) memT (by rfl) (by rfl) (by rfl)) ?_
  refine JL_1 rfl (op_conv (Ev.rfl' rfl) rfl rfl convT) ?_
  refine JL_1 rfl (by first | exact op_fieldPtr (k := 1) (Ev.rfl' rfl) rfl rfl rfl rfl | exact op_fieldRefN (k := 1) (Ev.rfl' rfl) rfl rfl rfl rfl nrmT) ?_
  refine JL_1 rfl (by first | exact op_loadRef (Ev.rfl' rfl) rfl rfl rfl | exact op_loadPtr (Ev.rfl' rfl) memT (by rfl) (by rfl) (by rfl)) ?_
  refine JL_1 rfl (by first | exact op_len (Ev.rfl' rfl) rfl | exact op_lenLit (Ev.rfl' rfl) rfl) ?_
  refine JL_1 rfl (op_conv (Ev.rfl' rfl) rfl rfl convT) ?_
  (refine JL_n rfl (op_buildSliceO (T := tU64) ([BitVec.ofInt 64 seq, BitVec.ofInt 64 ms.length]) (size := 1) (qs := [(0, _), (1, _)]) rfl rfl rfl ⟨⟨rfl, _, (Ev.rfl' rfl), cellsT⟩, ⟨⟨rfl, _, (Ev.rfl' rfl), cellsT⟩, trivial⟩⟩ (by rfl) (by rfl) subzT) ?_; intro i16)
  refine JL_1 rfl (op_assign rfl) ?_
  refine JL_nil ?_
  refine JQ_then (JC_seq (JC_seq ?_))
  refine JC_region ?_
  refine JL_1 rfl (by first | exact op_fieldPtr (k := 1) (Ev.rfl' rfl) rfl rfl rfl rfl | exact op_fieldRefN (k := 1) (Ev.rfl' rfl) rfl rfl rfl rfl nrmT) ?_
  refine JL_1 rfl (by first | exact op_loadRef (Ev.rfl' rfl) rfl rfl rfl | exact op_loadPtr (Ev.rfl' rfl) memT (by rfl) (by rfl) (by rfl)) ?_
  refine JL_1 rfl (by first | exact op_len (Ev.rfl' rfl) rfl | exact op_lenLit (Ev.rfl' rfl) rfl) ?_
  refine JL_1 rfl (op_move rfl) ?_
  refine JL_nil ?_
  refine JQ_then (JC_block ?_)
  refine JC_loopP (fun i : Nat × (Option Addr × Nat) => i.1 ≤ ms.length) (fun i => [(18, IsSl tPg ms), (19, Is (.int .i64 ms.length)), (20, Is (.int .i64 (i.1 : Nat))), (3, Is (slV (bodyP seq ms i.1).length i.2))]) (fun i => [buf (slV (bodyP seq ms i.1).length i.2) 28 tU64 (bodyP seq ms i.1)]) (fun i => ms.length - i.1) (0, (some ⟨i16, 0, none⟩, 2)) (Nat.zero_le _) esubT lessT ?_
  rintro ⟨k, i3⟩ hk
  dsimp only at hk ⊢
  refine JC_seq ?_
  refine JC_region ?_
  refine JL_1 rfl (op_lss (Ev.rfl' rfl) (Ev.rfl' rfl)) ?_
  refine JL_nil ?_
  refine JQ_then (JC_seq ?_)
  refine JC_cond (Ev.rfl' rfl) (fun h5 => ?_) (fun h5 => ?_)
  · have h' : (k : Int) < ms.length := of_decide_eq_true h5
    have hz := Pg.at_get ms k (by omega)
    have hkl := bodyP_len seq ms k hk
    have hsu := bodyP_succ (seq := seq) hz
    generalize Pg.at ms k = p at *
    clear h5
    refine JC_skip (JQ_then (JC_seq (JC_block (JC_seq ?_))))
    refine JC_region ?_
    refine JL_1 rfl (by first | exact op_index (j := _) (Ev.rfl' rfl) (Ev.rfl' rfl) rfl rfl (by first | rfl | omega) hz | exact op_index (j := _) (Ev.rfl' rfl) (Ev.rfl' rfl) rfl rfl (by first | rfl | omega) (by assumption)) ?_
    refine JL_1 rfl (by first | exact op_loadRefsN (n := 9) (Ev.rfl' rfl) rfl rfl rfl (by rfl) nrmT | exact op_loadPtrsN (n := 9) (Ev.rfl' rfl) memT (by rfl) (by rfl) (by rfl) (by rfl) nrmT) ?_
    (refine JL_n rfl (op_allocN rfl nrmT rfl) ?_; intro i5)
    refine JL_s0 (op_storeN (Ev.rfl' rfl) (Ev.rfl' rfl) cellsT replT nrmT (by rfl) (by rfl) (by rfl)) ?_
    refine JL_nil ?_
    refine JQ_then (JC_seq ?_)
    refine JC_freezeB hX (b := i5) replT ?_
    refine JC_set 5 (IsRef (tPg.cells p)) rfl (SubL.fact memT) ?_
    refine JC_region ?_
    refine JL_1 rfl (op_move rfl) ?_
    refine JL_1 rfl (by first | exact op_fieldPtr (k := 0) (Ev.rfl' rfl) rfl rfl rfl rfl | exact op_fieldRefN (k := 0) (Ev.rfl' rfl) rfl rfl rfl rfl nrmT) ?_
    refine JL_1 rfl (by first | exact op_loadRef (Ev.rfl' rfl) rfl rfl rfl | exact op_loadPtr (Ev.rfl' rfl) memT (by rfl) (by rfl) (by rfl)) ?_
    refine JL_1 rfl (op_conv (Ev.rfl' rfl) rfl rfl convT) ?_
    refine JL_1 rfl (by first | exact op_fieldPtr (k := 1) (Ev.rfl' rfl) rfl rfl rfl rfl | exact op_fieldRefN (k := 1) (Ev.rfl' rfl) rfl rfl rfl rfl nrmT) ?_
    refine JL_1 rfl (by first | exact op_loadRef (Ev.rfl' rfl) rfl rfl rfl | exact op_loadPtr (Ev.rfl' rfl) memT (by rfl) (by rfl) (by rfl)) ?_
    refine JL_1 rfl (op_buildSlice (size := 1) (qs := [(0, _), (1, _)]) rfl rfl rfl ⟨⟨rfl, _, (Ev.rfl' rfl), cellsT⟩, ⟨⟨rfl, _, (Ev.rfl' rfl), cellsT⟩, trivial⟩⟩ (by rfl) (by rfl)) ?_
    (refine JL_s rfl (op_app (Ev.rfl' rfl) (fun _ => replT) (by first | exact Ev.rfl' rfl | exact Ev.sub rfl (by first | exact SubL.row (xs := [BitVec.ofInt 64 p.l, p.h]) (by rfl) (by rfl) subsT | exact subT)) (by exact appT rfl rfl rfl) lenT) ?_; intro i31)
    refine JL_1 rfl (op_assign rfl) ?_
    refine JL_nil ?_
    refine JQ_then ?_
    refine JC_region ?_
    refine JL_1 rfl (op_move rfl) ?_
    refine JL_1 rfl (by first | exact op_fieldPtr (k := 2) (Ev.rfl' rfl) rfl rfl rfl rfl | exact op_fieldRefN (k := 2) (Ev.rfl' rfl) rfl rfl rfl rfl nrmT) ?_
    refine JL_1 rfl (op_sliceRef (T := tU64) (p.data) (Ev.rfl' rfl) rfl rfl (by rfl) (by rfl) subzT) ?_
    (refine JL_s rfl (op_app (Ev.rfl' rfl) (fun _ => replT) evS (by exact appT rfl rfl rfl) lenT) ?_; intro i35)
    refine JL_1 rfl (op_assign rfl) ?_
    refine JL_nil ?_
    refine JQ_block (JQ_then ?_)
    refine JC_region ?_
    refine JL_1 rfl (op_add (Ev.rfl' rfl) (Ev.rfl' rfl) wrapT) ?_
    refine JL_1 rfl (op_move rfl) ?_
    refine JL_nil ?_
    rw [← hsu]
    exact JQ_roundP (k + 1, i35) (by dsimp only; omega) (by dsimp only; omega) esubT lessT
  have hkl : k = ms.length := by have := of_decide_eq_false h5; omega
  subst hkl
  have hkl2 := bodyP_len seq ms ms.length (Nat.le_refl _)
  clear h5
  refine JC_exit (JQ_then_exit (JQ_then_exit (JQ_hit (JQ_then (JC_seq ?_)))))
  refine JC_region ?_
  refine JL_1 rfl (op_move rfl) ?_
  refine JL_1 rfl (op_move rfl) ?_
  refine JL_1 rfl (by first | ((refine op_call Try.call45 (CrcWords_ok _ ?_) ⟨evS, trivial⟩); all_goals (first | omega)) | ((refine op_callB lendT Try.call45 (CrcWords_ok _ ?_) ⟨evS, trivial⟩ pureT); all_goals (first | omega))) ?_
  refine JL_1 rfl (op_buildSlice (size := 1) (qs := [(0, _)]) rfl rfl rfl ⟨⟨rfl, _, (Ev.rfl' rfl), cellsT⟩, trivial⟩ (by rfl) (by rfl)) ?_
  (refine JL_s rfl (op_app (Ev.rfl' rfl) (fun _ => replT) (by first | exact Ev.rfl' rfl | exact Ev.sub rfl (by first | exact SubL.row (xs := [crcW (bodyP seq ms ms.length)]) (by rfl) (by rfl) subsT | exact subT)) (by exact appT rfl rfl rfl) lenT) ?_; intro i41)
  refine JL_1 rfl (op_assign rfl) ?_
  refine JL_nil ?_
  refine JQ_then (JC_ret ?_)
  exact JQ_retP (Bs := [Is (slV (bodyP seq ms ms.length ++ [crcW (bodyP seq ms ms.length)]).length i41)]) Try.results17 ⟨⟨_, rfl, subT⟩, trivial⟩ i41 (SubL.eq (by rw [bodyW, if_pos g]; rfl)) (by rw [bodyW, if_pos g]; exact lessT)
theorem pure_u64 (x : BitVec 64) : PureVs (tU64.cells x) := ⟨pure_is, trivial⟩
theorem pure_pg (p : Pg) : PureVs (tPg.cells p) := ⟨pure_is, pure_is, pure_is, pure_is, pure_is, pure_is, pure_is, pure_is, pure_is, trivial⟩
theorem BodyF_ok (seq : Int) (ms : List Pg) : FnF Try.prog 17 [IsRec seq ms] (fun B => FreshV B (IsSl tU64 (bodyW seq ms))) :=
  (BodyO_ok seq ms).toF pure_u64 fun i B φ v h1 h2 => by rw [show v = _ from h2]; exact h1
theorem Body_ok (seq : Int) (ms : List Pg) : FnP Try.prog 17 [IsRec seq ms] (IsSl tU64 (bodyW seq ms)) := (BodyF_ok seq ms).toP fun B φ v h => SubL.fresh (L := []) φ v (fun it hi => by cases hi) h
end Go.Proofs.Ytccgnekcbdkilaa

/- Contract: the reference's body. Own work. -/
namespace Go.Proofs.Ytccgnekcbdkilaa
open Go.RowKit
set_option linter.unusedVariables false
set_option linter.unusedSimpArgs false
set_option maxRecDepth 100000
theorem take_add1 {α : Type} {xs : List α} {k : Nat} {x : α} (h : xs[k]? = some x) : xs.take (k + 1) = xs.take k ++ [x] := by
  rw [List.take_add_one, h]; rfl
set_option maxHeartbeats 2000000 in
-- bodegaref4.Body: function 19
theorem BodyRO_ok (seq : Int) (ms : List Pg) : Fn Try.prog 19 [IsRec seq ms] [] (fun i : Option Addr × Nat => Is (slV (bodyW seq ms).length i)) (fun i => [buf (slV (bodyW seq ms).length i) 28 tU64 (bodyW seq ms)]) := by
  refine Fn.enterN Try.func19 Try.ntmps19 rfl rfl ?_
  intro c hX
  refine JC_lenV (t := 0) 1 rfl rfl (fun hlen => ?_)
  refine JC_seq ?_
  refine JC_region ?_
  (refine JL_n rfl (op_box (Ev.rfl' rfl) cellsT) ?_; intro i1)
  refine JL_1 rfl (op_assign rfl) ?_
  refine JL_nil ?_
  refine JQ_then (JC_seq (JC_seq ?_))
  refine JC_region ?_
  refine JL_1 rfl (by first | exact op_loadRefsN (n := 2) (Ev.rfl' rfl) rfl rfl rfl (by rfl) nrmT | exact op_loadPtrsN (n := 2) (Ev.rfl' rfl) memT (by rfl) (by rfl) (by rfl) (by rfl) nrmT) ?_
  refine JL_1 rfl (by first | ((refine op_call Try.call14 (ValidLR_ok _ _ _) ⟨evS, ⟨evS, trivial⟩⟩)) | ((refine op_callB lendT Try.call14 (ValidLR_ok _ _ _) ⟨evS, ⟨evS, trivial⟩⟩ pureT))) ?_
  refine JL_1 rfl (op_neq (Ev.rfl' rfl) (Ev.rfl' rfl)) ?_
  refine JL_nil ?_
  refine JQ_then ?_
  refine JC_cond (Ev.rfl' rfl) (fun h1 => ?_) (fun h1 => ?_)
  · have g : ¬ validR seq ms 256 = 0 := by simpa using h1
    refine JC_seq ?_
    refine JC_region ?_
    refine JL_1 rfl (op_assign rfl) ?_
    refine JL_nil ?_
    refine JQ_then (JC_ret (JQ_then_ret ?_))
    refine JQ_buf0 28 tU64 ?_
    exact JQ_retP (Bs := [Is (slV 0 (none, 0))]) Try.results19 ⟨⟨_, rfl, subT⟩, trivial⟩ (none, 0) (SubL.eq (by rw [bodyW, if_neg g]; rfl)) (by rw [bodyW, if_neg g]; exact lessT)
  have g : validR seq ms 256 = 0 := by simpa using h1
  have hl : 1 ≤ ms.length ∧ ms.length ≤ 12 := ⟨(validR_ok g).2.1.2.2.1, (validR_ok g).2.1.2.2.2⟩
  clear h1
  refine JC_skip (JQ_then (JC_seq ?_))
  refine JC_region ?_
  refine JL_1 rfl (by first | exact op_fieldPtr (k := 0) (Ev.rfl' rfl) rfl rfl rfl rfl | exact op_fieldRefN (k := 0) (Ev.rfl' rfl) rfl rfl rfl rfl nrmT) ?_
  refine JL_1 rfl (by first | exact op_loadRef (Ev.rfl' rfl) rfl rfl rfl | exact op_loadPtr (Ev.rfl' rfl) memT (by rfl) (by rfl) (by rfl)) ?_
  refine JL_1 rfl (op_conv (Ev.rfl' rfl) rfl rfl convT) ?_
  refine JL_1 rfl (by first | exact op_fieldPtr (k := 1) (Ev.rfl' rfl) rfl rfl rfl rfl | exact op_fieldRefN (k := 1) (Ev.rfl' rfl) rfl rfl rfl rfl nrmT) ?_
  refine JL_1 rfl (by first | exact op_loadRef (Ev.rfl' rfl) rfl rfl rfl | exact op_loadPtr (Ev.rfl' rfl) memT (by rfl) (by rfl) (by rfl)) ?_
  refine JL_1 rfl (by first | exact op_len (Ev.rfl' rfl) rfl | exact op_lenLit (Ev.rfl' rfl) rfl) ?_
  refine JL_1 rfl (op_conv (Ev.rfl' rfl) rfl rfl convT) ?_
  (refine JL_n rfl (op_buildSliceO (T := tU64) ([BitVec.ofInt 64 seq, BitVec.ofInt 64 ms.length]) (size := 1) (qs := [(0, _), (1, _)]) rfl rfl rfl ⟨⟨rfl, _, (Ev.rfl' rfl), cellsT⟩, ⟨⟨rfl, _, (Ev.rfl' rfl), cellsT⟩, trivial⟩⟩ (by rfl) (by rfl) subzT) ?_; intro i16)
  refine JL_1 rfl (op_assign rfl) ?_
  refine JL_nil ?_
  refine JQ_then (JC_seq (JC_seq ?_))
  refine JC_region ?_
  refine JL_1 rfl (op_assign rfl) ?_
  refine JL_nil ?_
  refine JQ_then (JC_block ?_)
  refine JC_loopP (fun i : Nat × (Option Addr × Nat) => i.1 ≤ ms.length) (fun i => [(1, Is (.pointer (some ⟨i1, 0, none⟩))), (4, Is (.int .i64 (i.1 : Nat))), (3, Is (slV (bodyP seq ms i.1).length i.2))]) (fun i => [buf (slV (bodyP seq ms i.1).length i.2) 28 tU64 (bodyP seq ms i.1), blk i1 25 [Is (.int .i64 seq), IsSl tPg ms]]) (fun i => ms.length - i.1) (0, (some ⟨i16, 0, none⟩, 2)) (Nat.zero_le _) esubT lessT ?_
  rintro ⟨k, i3⟩ hk
  dsimp only at hk ⊢
  refine JC_seq (JC_seq ?_)
  refine JC_region ?_
  refine JL_1 rfl (op_move rfl) ?_
  refine JL_1 rfl (by first | exact op_fieldPtr (k := 1) (Ev.rfl' rfl) rfl rfl rfl rfl | exact op_fieldRefN (k := 1) (Ev.rfl' rfl) rfl rfl rfl rfl nrmT) ?_
  refine JL_1 rfl (by first | exact op_loadRef (Ev.rfl' rfl) rfl rfl rfl | exact op_loadPtr (Ev.rfl' rfl) memT (by rfl) (by rfl) (by rfl)) ?_
  refine JL_1 rfl (by first | exact op_len (Ev.rfl' rfl) rfl | exact op_lenLit (Ev.rfl' rfl) rfl) ?_
  refine JL_1 rfl (op_lss (Ev.rfl' rfl) (Ev.rfl' rfl)) ?_
  refine JL_nil ?_
  refine JQ_then ?_
  refine JC_cond (Ev.rfl' rfl) (fun h5 => ?_) (fun h5 => ?_)
  · have h' : (k : Int) < ms.length := of_decide_eq_true h5
    have hz := Pg.at_get ms k (by omega)
    have hkl := bodyP_len seq ms k hk
    have hsu := bodyP_succ (seq := seq) hz
    generalize Pg.at ms k = p at *
    clear h5
    refine JC_skip (JQ_then (JC_seq (JC_block (JC_seq ?_))))
    refine JC_dr rfl (by kernel_rfl) ?_
    refine JD_stretch 15 (by kernel_rfl) ?_
    refine JW_1 (op_move rfl) ?_
    refine JW_1 (by first | exact op_fieldPtr (k := 1) (Ev.rfl' rfl) rfl rfl rfl rfl | exact op_fieldRefN (k := 1) (Ev.rfl' rfl) rfl rfl rfl rfl nrmT) ?_
    refine JW_1 (by first | exact op_loadRef (Ev.rfl' rfl) rfl rfl rfl | exact op_loadPtr (Ev.rfl' rfl) memT (by rfl) (by rfl) (by rfl)) ?_
    refine JW_1 (op_move rfl) ?_
    refine JW_1 (by first | exact op_index (j := _) (Ev.rfl' rfl) (Ev.rfl' rfl) rfl rfl (by first | rfl | omega) hz | exact op_index (j := _) (Ev.rfl' rfl) (Ev.rfl' rfl) rfl rfl (by first | rfl | omega) hd | exact op_index (j := _) (Ev.rfl' rfl) (Ev.rfl' rfl) rfl rfl (by first | rfl | omega) (by assumption)) ?_
    refine JW_1 (by first | exact op_fieldPtr (k := 0) (Ev.rfl' rfl) rfl rfl rfl rfl | exact op_fieldRefN (k := 0) (Ev.rfl' rfl) rfl rfl rfl rfl nrmT) ?_
    refine JW_1 (by first | exact op_loadRef (Ev.rfl' rfl) rfl rfl rfl | exact op_loadPtr (Ev.rfl' rfl) memT (by rfl) (by rfl) (by rfl)) ?_
    refine JW_1 (op_conv (Ev.rfl' rfl) rfl rfl convT) ?_
    refine JW_1 (by first | exact op_fieldPtr (k := 1) (Ev.rfl' rfl) rfl rfl rfl rfl | exact op_fieldRefN (k := 1) (Ev.rfl' rfl) rfl rfl rfl rfl nrmT) ?_
    refine JW_1 (by first | exact op_loadRef (Ev.rfl' rfl) rfl rfl rfl | exact op_loadPtr (Ev.rfl' rfl) memT (by rfl) (by rfl) (by rfl)) ?_
    refine JW_1 (op_move rfl) ?_
    refine JW_1 (by first | exact op_index (j := _) (Ev.rfl' rfl) (Ev.rfl' rfl) rfl rfl (by first | rfl | omega) hz | exact op_index (j := _) (Ev.rfl' rfl) (Ev.rfl' rfl) rfl rfl (by first | rfl | omega) hd | exact op_index (j := _) (Ev.rfl' rfl) (Ev.rfl' rfl) rfl rfl (by first | rfl | omega) (by assumption)) ?_
    refine JW_1 (by first | exact op_fieldPtr (k := 1) (Ev.rfl' rfl) rfl rfl rfl rfl | exact op_fieldRefN (k := 1) (Ev.rfl' rfl) rfl rfl rfl rfl nrmT) ?_
    refine JW_1 (by first | exact op_loadRef (Ev.rfl' rfl) rfl rfl rfl | exact op_loadPtr (Ev.rfl' rfl) memT (by rfl) (by rfl) (by rfl)) ?_
    refine JW_1 (op_buildSlice (size := 1) (qs := [(0, _), (1, _)]) rfl rfl rfl ⟨⟨rfl, _, (Ev.rfl' rfl), cellsT⟩, ⟨⟨rfl, _, (Ev.rfl' rfl), cellsT⟩, trivial⟩⟩ (by rfl) (by rfl)) ?_
    refine ⟨rfl, ?_⟩
    (refine JD_s (by kernel_rfl) rfl rfl (op_app (Ev.rfl' rfl) (fun _ => replT) (by first | exact Ev.rfl' rfl | exact Ev.sub rfl (by first | exact SubL.row (xs := [BitVec.ofInt 64 p.l, p.h]) (by rfl) (by rfl) subsT | exact subT)) (by exact appT rfl rfl rfl) lenT) ?_; intro i39)
    refine JD_1 (by kernel_rfl) rfl rfl (op_assign rfl) ?_
    refine JD_end ?_
    refine JQ_then (JC_seq ?_)
    refine JC_region ?_
    refine JL_1 rfl (op_assign rfl) ?_
    refine JL_nil ?_
    refine JQ_then (JC_block ?_)
    refine JC_loopP (fun i : Nat × (Option Addr × Nat) => i.1 ≤ 7) (fun i => [(1, Is (.pointer (some ⟨i1, 0, none⟩))), (4, Is (.int .i64 (k : Nat))), (5, Is (.int .i64 (i.1 : Nat))), (3, Is (slV (bodyP seq ms k ++ [BitVec.ofInt 64 p.l, p.h] ++ p.data.take i.1).length i.2))]) (fun i => [buf (slV (bodyP seq ms k ++ [BitVec.ofInt 64 p.l, p.h] ++ p.data.take i.1).length i.2) 28 tU64 (bodyP seq ms k ++ [BitVec.ofInt 64 p.l, p.h] ++ p.data.take i.1), blk i1 25 [Is (.int .i64 seq), IsSl tPg ms]]) (fun i => 7 - i.1) (0, i39) (Nat.zero_le _) (by simp only [List.take_zero, List.append_nil]; exact esubT) (by simp only [List.take_zero, List.append_nil]; exact lessT) ?_
    rintro ⟨j, i4⟩ hj
    dsimp only at hj ⊢
    refine JC_seq (JC_seq ?_)
    refine JC_region ?_
    refine JL_1 rfl (op_move rfl) ?_
    refine JL_1 rfl (op_lss (Ev.rfl' rfl) (Ev.rfl' rfl)) ?_
    refine JL_nil ?_
    refine JQ_then ?_
    refine JC_cond (Ev.rfl' rfl) (fun h9 => ?_) (fun h9 => ?_)
    · have hj' : (j : Int) < 7 := of_decide_eq_true h9
      obtain ⟨x, hd⟩ : ∃ x, p.data[j]? = some x := ⟨p.data[j]'(by simp; omega), List.getElem?_eq_getElem _⟩
      have hts := take_add1 hd
      clear h9
      refine JC_skip (JQ_then (JC_seq (JC_block ?_)))
      refine JC_region ?_
      refine JL_1 rfl (op_move rfl) ?_
      refine JL_1 rfl (by first | exact op_fieldPtr (k := 1) (Ev.rfl' rfl) rfl rfl rfl rfl | exact op_fieldRefN (k := 1) (Ev.rfl' rfl) rfl rfl rfl rfl nrmT) ?_
      refine JL_1 rfl (by first | exact op_loadRef (Ev.rfl' rfl) rfl rfl rfl | exact op_loadPtr (Ev.rfl' rfl) memT (by rfl) (by rfl) (by rfl)) ?_
      refine JL_1 rfl (op_move rfl) ?_
      refine JL_1 rfl (op_move rfl) ?_
      refine JL_1 rfl (by first | exact op_index (j := _) (Ev.rfl' rfl) (Ev.rfl' rfl) rfl rfl (by first | rfl | omega) hz | exact op_index (j := _) (Ev.rfl' rfl) (Ev.rfl' rfl) rfl rfl (by first | rfl | omega) hd | exact op_index (j := _) (Ev.rfl' rfl) (Ev.rfl' rfl) rfl rfl (by first | rfl | omega) (by assumption)) ?_
      refine JL_1 rfl (by first | exact op_fieldPtr (k := 2) (Ev.rfl' rfl) rfl rfl rfl rfl | exact op_fieldRefN (k := 2) (Ev.rfl' rfl) rfl rfl rfl rfl nrmT) ?_
      refine JL_1 rfl (by first | exact op_indexRef (j := _) (T := tU64) (p.data) (Ev.rfl' rfl) (Ev.rfl' rfl) rfl rfl (by rfl) subsT (by first | rfl | omega) hz | exact op_indexRef (j := _) (T := tU64) (p.data) (Ev.rfl' rfl) (Ev.rfl' rfl) rfl rfl (by rfl) subsT (by first | rfl | omega) hd | exact op_indexRef (j := _) (T := tU64) (p.data) (Ev.rfl' rfl) (Ev.rfl' rfl) rfl rfl (by rfl) subsT (by first | rfl | omega) (by assumption)) ?_
      refine JL_1 rfl (by first | exact op_loadRef (Ev.rfl' rfl) rfl rfl rfl | exact op_loadPtr (Ev.rfl' rfl) memT (by rfl) (by rfl) (by rfl)) ?_
      refine JL_1 rfl (op_buildSlice (size := 1) (qs := [(0, _)]) rfl rfl rfl ⟨⟨rfl, _, (Ev.rfl' rfl), cellsT⟩, trivial⟩ (by rfl) (by rfl)) ?_
      (refine JL_s rfl (op_app (Ev.rfl' rfl) (fun _ => replT) (by first | exact Ev.rfl' rfl | exact Ev.sub rfl (by first | exact SubL.row (xs := [x]) (by rfl) (by rfl) subsT | exact subT)) (by exact appT rfl rfl rfl) lenT) ?_; intro i54)
      refine JL_1 rfl (op_assign rfl) ?_
      refine JL_nil ?_
      refine JQ_block (JQ_then ?_)
      refine JC_region ?_
      refine JL_1 rfl (op_move rfl) ?_
      refine JL_1 rfl (op_add (Ev.rfl' rfl) (Ev.rfl' rfl) wrapT) ?_
      refine JL_1 rfl (op_assign rfl) ?_
      refine JL_nil ?_
      rw [List.append_assoc (bodyP seq ms k ++ [BitVec.ofInt 64 p.l, p.h]), ← hts]
      exact JQ_roundP (j + 1, i54) (by dsimp only; omega) (by dsimp only; omega) esubT lessT
    have hj7 : j = 7 := by have := of_decide_eq_false h9; omega
    subst hj7
    have hts : p.data.take 7 = p.data := rfl
    clear h9
    refine JC_exit (JQ_then_exit (JQ_then_exit (JQ_hit (JQ_block (JQ_then ?_)))))
    refine JC_region ?_
    refine JL_1 rfl (op_move rfl) ?_
    refine JL_1 rfl (op_add (Ev.rfl' rfl) (Ev.rfl' rfl) wrapT) ?_
    refine JL_1 rfl (op_assign rfl) ?_
    refine JL_nil ?_
    rw [hts, ← hsu]
    exact JQ_roundP (k + 1, i4) (by dsimp only; omega) (by dsimp only; omega) esubT lessT
  have hkl : k = ms.length := by have := of_decide_eq_false h5; omega
  subst hkl
  have hkl2 := bodyP_len seq ms ms.length (Nat.le_refl _)
  clear h5
  refine JC_exit (JQ_then_exit (JQ_then_exit (JQ_hit (JQ_then (JC_seq ?_)))))
  refine JC_region ?_
  refine JL_1 rfl (op_move rfl) ?_
  refine JL_1 rfl (op_move rfl) ?_
  refine JL_1 rfl (by first | ((refine op_call Try.call46 (CrcWordsR_ok _ ?_) ⟨evS, trivial⟩); all_goals (first | omega)) | ((refine op_callB lendT Try.call46 (CrcWordsR_ok _ ?_) ⟨evS, trivial⟩ pureT); all_goals (first | omega))) ?_
  refine JL_1 rfl (op_buildSlice (size := 1) (qs := [(0, _)]) rfl rfl rfl ⟨⟨rfl, _, (Ev.rfl' rfl), cellsT⟩, trivial⟩ (by rfl) (by rfl)) ?_
  (refine JL_s rfl (op_app (Ev.rfl' rfl) (fun _ => replT) (by first | exact Ev.rfl' rfl | exact Ev.sub rfl (by first | exact SubL.row (xs := [crcW (bodyP seq ms ms.length)]) (by rfl) (by rfl) subsT | exact subT)) (by exact appT rfl rfl rfl) lenT) ?_; intro i59)
  refine JL_1 rfl (op_assign rfl) ?_
  refine JL_nil ?_
  refine JQ_then (JC_ret ?_)
  exact JQ_retP (Bs := [Is (slV (bodyP seq ms ms.length ++ [crcW (bodyP seq ms ms.length)]).length i59)]) Try.results19 ⟨⟨_, rfl, subT⟩, trivial⟩ i59 (SubL.eq (by rw [bodyW, if_pos g]; rfl)) (by rw [bodyW, if_pos g]; exact lessT)
theorem BodyRF_ok (seq : Int) (ms : List Pg) : FnF Try.prog 19 [IsRec seq ms] (fun B => FreshV B (IsSl tU64 (bodyW seq ms))) :=
  (BodyRO_ok seq ms).toF pure_u64 fun i B φ v h1 h2 => by rw [show v = _ from h2]; exact h1
theorem BodyR_ok (seq : Int) (ms : List Pg) : FnP Try.prog 19 [IsRec seq ms] (IsSl tU64 (bodyW seq ms)) := (BodyRF_ok seq ms).toP fun B φ v h => SubL.fresh (L := []) φ v (fun it hi => by cases hi) h
end Go.Proofs.Ytccgnekcbdkilaa

/- Contract: a write read from its words. Own work. -/
namespace Go.Proofs.Ytccgnekcbdkilaa
open Go.RowKit
set_option linter.unusedVariables false
set_option linter.unusedSimpArgs false
set_option maxRecDepth 100000
def capL (w : BitVec 64) : Int := if 256 < UV w then 256 else UV w
theorem capL_in (w : BitVec 64) : -9223372036854775808 ≤ capL w ∧ capL w ≤ 9223372036854775807 := by
  have := UV_nonneg w
  unfold capL
  split <;> omega
def pgL : List (BitVec 64) → Pg
  | [w0, w1, w2, w3, w4, w5, w6, w7, w8] => ⟨capL w0, w1, w2, w3, w4, w5, w6, w7, w8⟩
  | _ => ⟨0, 0#64, 0#64, 0#64, 0#64, 0#64, 0#64, 0#64, 0#64⟩
theorem nine {xs : List (BitVec 64)} (h : xs.length = 9) : ∃ a b c d e f g i j, xs = [a, b, c, d, e, f, g, i, j] := by
  match xs, h with
  | [a, b, c, d, e, f, g, i, j], _ => exact ⟨a, b, c, d, e, f, g, i, j, rfl⟩
set_option maxHeartbeats 1000000 in
-- logrec.page: function 48
theorem page_ok (xs : List (BitVec 64)) (h9 : xs.length = 9) : FnP Try.prog 48 [IsSl tU64 xs] (IsPg (pgL xs)) := by
  obtain ⟨w0, w1, w2, w3, w4, w5, w6, w7, w8, rfl⟩ := nine h9
  have hc := capL_in w0
  unfold capL at hc
  refine FnP.enter Try.func48 Try.ntmps48 rfl rfl ?_
  intro c hX
  refine JC_seq ?_
  refine JC_region ?_
  (refine JL_n rfl (op_allocN rfl nrmT rfl) ?_; intro i2)
  refine JL_nil ?_
  refine JQ_then (JC_seq ?_)
  refine JC_dr rfl (by kernel_rfl) ?_
  refine JD_stretch 11 (by kernel_rfl) ?_
  refine JW_1 (op_move rfl) ?_
  refine JW_1 (by first | exact op_index (j := 0) (Ev.rfl' rfl) (Ev.rfl' rfl) rfl rfl (by first | rfl | omega) rfl | exact op_index (j := 0) (Ev.rfl' rfl) (Ev.rfl' rfl) rfl rfl (by first | rfl | omega) (by assumption)) ?_
  refine JW_1 (by first | exact op_loadRef (Ev.rfl' rfl) rfl rfl rfl | exact op_loadPtr (Ev.rfl' rfl) memT (by rfl) (by rfl) (by rfl)) ?_
  refine JW_1 (op_min (Ev.rfl' rfl) (Ev.rfl' rfl)) ?_
  refine JW_1 (op_conv (Ev.rfl' rfl) rfl rfl convT) ?_
  refine JW_1 (op_move rfl) ?_
  refine JW_1 (by first | exact op_index (j := 1) (Ev.rfl' rfl) (Ev.rfl' rfl) rfl rfl (by first | rfl | omega) rfl | exact op_index (j := 1) (Ev.rfl' rfl) (Ev.rfl' rfl) rfl rfl (by first | rfl | omega) (by assumption)) ?_
  refine JW_1 (by first | exact op_loadRef (Ev.rfl' rfl) rfl rfl rfl | exact op_loadPtr (Ev.rfl' rfl) memT (by rfl) (by rfl) (by rfl)) ?_
  refine JW_1 (op_buildN (qs := [(0, _), (1, _)]) rfl rfl rfl rfl ⟨⟨rfl, _, (Ev.rfl' rfl), cellsT⟩, ⟨⟨rfl, _, (Ev.rfl' rfl), cellsT⟩, trivial⟩⟩ (by rfl) nrmT) ?_
  refine JW_n (op_allocN rfl nrmT rfl) ?_
  refine JW_write rfl rfl rfl (by kernel_rfl) (op_storeWN evS cellsT rfl rfl rfl nrmT) ?_
  refine ⟨rfl, ?_⟩
  intro i3
  refine JD_end ?_
  refine JQ_then (JC_seq ?_)
  refine JC_dr rfl (by kernel_rfl) ?_
  refine JD_stretch 4 (by kernel_rfl) ?_
  refine JW_1 (by first | exact op_fieldPtr (k := 2) (Ev.rfl' rfl) rfl rfl rfl rfl | exact op_fieldRefN (k := 2) (Ev.rfl' rfl) rfl rfl rfl rfl nrmT) ?_
  refine JW_1 (op_sliceOwn (Ev.rfl' rfl) rfl rfl) ?_
  refine JW_1 (op_move rfl) ?_
  refine JW_1 (op_slice (Ev.rfl' rfl) rfl rfl ⟨_, _, (Ev.rfl' rfl), (show _ = ((2 : Nat) : Int) by first | rfl | omega)⟩ rfl (by omega) (by omega)) ?_
  refine ⟨rfl, ?_⟩
  (refine JD_s (by kernel_rfl) rfl rfl (op_copyOwnB (m := 7) (ys := [w2, w3, w4, w5, w6, w7, w8]) (T := tU64) (Bs := [Is (.int .u64 (UV w2)), Is (.int .u64 (UV w3)), Is (.int .u64 (UV w4)), Is (.int .u64 (UV w5)), Is (.int .u64 (UV w6)), Is (.int .u64 (UV w7)), Is (.int .u64 (UV w8))]) (Ev.rfl' rfl) evS rfl rfl idxT (by rfl) replT (by first | exact Nat.le_of_ble_eq_true rfl | (simp; done) | (simp; omega) | omega)) ?_; intro i17)
  refine JD_end ?_
  refine JQ_then (JC_seq ?_)
  refine JC_region ?_
  refine JL_1 rfl (by first | exact op_loadRefsN (n := 9) (Ev.rfl' rfl) rfl rfl rfl (by rfl) nrmT | exact op_loadPtrsN (n := 9) (Ev.rfl' rfl) memT (by rfl) (by rfl) (by rfl) (by rfl) nrmT) ?_
  refine JL_s0 (op_storeN (Ev.rfl' rfl) (Ev.rfl' rfl) cellsT replT nrmT (by rfl) (by rfl) (by rfl)) ?_
  refine JL_nil ?_
  refine JQ_then (JC_ret ?_)
  exact JQ_ret (Bs := [IsPg (pgL [w0, w1, w2, w3, w4, w5, w6, w7, w8])]) Try.results48 ⟨⟨_, _, _, _, rfl, memT, rfl, .inr ⟨rfl, _, rfl, rfl, subT⟩⟩, trivial⟩ () SubL.rfl' (List.nil_sublist _)
end Go.Proofs.Ytccgnekcbdkilaa

/- Contract: the reference's parse. Own work. -/
namespace Go.Proofs.Ytccgnekcbdkilaa
open Go.RowKit
set_option linter.unusedVariables false
set_option linter.unusedSimpArgs false
set_option maxRecDepth 100000
def wd (b : List (BitVec 64)) (k : Nat) : BitVec 64 := b.getD k 0#64
theorem wd_get {b : List (BitVec 64)} {k : Nat} (h : k < b.length) : b[k]? = some (wd b k) := by
  unfold wd; rw [List.getD_eq_getElem?_getD, List.getElem?_eq_getElem h]; rfl
/-- The data words of the write at i, the write. -/
@[reducible] def dataAt (b : List (BitVec 64)) (i : Nat) : List (BitVec 64) := [wd b (2 + 9 * i + 2), wd b (2 + 9 * i + 3), wd b (2 + 9 * i + 4), wd b (2 + 9 * i + 5), wd b (2 + 9 * i + 6), wd b (2 + 9 * i + 7), wd b (2 + 9 * i + 8)]
def pgAt (b : List (BitVec 64)) (i : Nat) : Pg := ⟨capL (wd b (2 + 9 * i)), wd b (2 + 9 * i + 1), wd b (2 + 9 * i + 2), wd b (2 + 9 * i + 3), wd b (2 + 9 * i + 4), wd b (2 + 9 * i + 5), wd b (2 + 9 * i + 6), wd b (2 + 9 * i + 7), wd b (2 + 9 * i + 8)⟩
theorem dataAt_get {b : List (BitVec 64)} {i j : Nat} (h : j < 7) : (dataAt b i)[j]? = some (wd b (2 + 9 * i + (2 + j))) := by
  match j, h with
  | 0, _ => rfl
  | 1, _ => rfl
  | 2, _ => rfl
  | 3, _ => rfl
  | 4, _ => rfl
  | 5, _ => rfl
  | 6, _ => rfl
def pagesW (b : List (BitVec 64)) (n : Nat) : List Pg := (List.range n).map (pgAt b)
theorem pagesW_len (b : List (BitVec 64)) (n : Nat) : (pagesW b n).length = n := by simp [pagesW]
theorem pagesW_succ (b : List (BitVec 64)) (n : Nat) : pagesW b (n + 1) = pagesW b n ++ [pgAt b n] := by
  unfold pagesW; rw [List.range_succ, List.map_append]; rfl
def nW (b : List (BitVec 64)) : Nat := (wd b 1).toNat
def preB (b : List (BitVec 64)) : Prop := 3 ≤ b.length ∧ UV (wd b 0) < 1073741824 ∧ 1 ≤ nW b ∧ nW b ≤ 12 ∧ 3 + 9 * nW b ≤ b.length
instance (b : List (BitVec 64)) : Decidable (preB b) := by unfold preB; infer_instance
noncomputable def parseV (b : List (BitVec 64)) (lines : Int) : Int × List Pg × Int :=
  if ¬ (98 ≤ lines ∧ lines ≤ 256) then (0, [], 18) else if ¬ preB b then (0, [], 14)
  else if validR (UV (wd b 0)) (pagesW b (nW b)) lines = 0 ∧ bodyW (UV (wd b 0)) (pagesW b (nW b)) = b.take (3 + 9 * nW b) then (UV (wd b 0), pagesW b (nW b), 0) else (0, [], 14)
section
variable {b : List (BitVec 64)} {lines : Int}
theorem parseV_18 (h : ¬ (98 ≤ lines ∧ lines ≤ 256)) : parseV b lines = (0, [], 18) := by unfold parseV; rw [if_pos h]
theorem parseV_pre (h : 98 ≤ lines ∧ lines ≤ 256) (h1 : ¬ preB b) : parseV b lines = (0, [], 14) := by unfold parseV; rw [if_neg (not_not_intro h), if_pos h1]
theorem parseV_bad (h : 98 ≤ lines ∧ lines ≤ 256) (h1 : preB b) (h2 : ¬ (validR (UV (wd b 0)) (pagesW b (nW b)) lines = 0 ∧ bodyW (UV (wd b 0)) (pagesW b (nW b)) = b.take (3 + 9 * nW b))) : parseV b lines = (0, [], 14) := by
  unfold parseV; rw [if_neg (not_not_intro h), if_neg (not_not_intro h1), if_neg h2]
theorem parseV_ok (h : 98 ≤ lines ∧ lines ≤ 256) (h1 : preB b) (h2 : validR (UV (wd b 0)) (pagesW b (nW b)) lines = 0 ∧ bodyW (UV (wd b 0)) (pagesW b (nW b)) = b.take (3 + 9 * nW b)) : parseV b lines = (UV (wd b 0), pagesW b (nW b), 0) := by
  unfold parseV; rw [if_neg (not_not_intro h), if_neg (not_not_intro h1), if_pos h2]
theorem pagesW_get {n k : Nat} (h : k < n) : (pagesW b n)[k]? = some (pgAt b k) := by
  unfold pagesW; rw [List.getElem?_map, List.getElem?_range h]; rfl
theorem parseV_far (h : 98 ≤ lines ∧ lines ≤ 256) (h1 : preB b) {k : Nat} (hk : k < nW b) (hf : 256 ≤ UV (wd b (2 + 9 * k))) : parseV b lines = (0, [], 14) := by
  refine parseV_bad h h1 fun ⟨h2, _⟩ => ?_
  obtain ⟨_, _, h3, _⟩ := validR_ok h2
  rw [any_of (pagesW_get hk)] at h3
  · cases h3
  · unfold outB
    have : (pgAt b k).l = 256 := by
      show capL _ = 256
      unfold capL; split <;> omega
    rw [this]; simp; omega
end
@[reducible] def IsParse (v : Int × List Pg × Int) : VP := IsTup [IsRec v.1 v.2.1, Is (.int .i64 v.2.2)]
/-- The same, the pages in memory of one's own. -/
@[reducible] def IsRecO (s : Int) (n : Nat) (i : Option Addr × Nat) : VP := IsAgg [Is (.int .i64 s), Is (slV n i)]
@[reducible] def IsParseO (v : Int × List Pg × Int) (i : Option Addr × Nat) : VP := IsTup [IsRecO v.1 v.2.1.length i, Is (.int .i64 v.2.2)]
@[reducible] def pgsI (ms : List Pg) (i : Option Addr × Nat) : List Item := [buf (slV ms.length i) 31 tPg ms]
/-- The same, the pages in new memory. -/
@[reducible] def IsRecF (s : Int) (ms : List Pg) (B : Nat) : VP := IsAgg [Is (.int .i64 s), FreshV B (IsSl tPg ms)]
@[reducible] def IsParseF (v : Int × List Pg × Int) (B : Nat) : VP := IsTup [IsRecF v.1 v.2.1 B, Is (.int .i64 v.2.2)]
theorem recF {s : Int} {ms : List Pg} {n : Nat} {i : Option Addr × Nat} {B : Nat} {φ : Fz} {v : Value} (h : (FreshV B (IsSl tPg ms)).ok φ (slV n i)) (k : (IsRecO s n i).ok φ v) : (IsRecF s ms B).ok φ v := by
  obtain ⟨vs, e, k1, k2⟩ := k
  match vs, k1 with
  | [a, b], ⟨h1, h2, _⟩ => exact ⟨[a, b], e, ⟨h1, by rw [show b = _ from h2]; exact h, trivial⟩, k2⟩
theorem parseF {r : Int × List Pg × Int} {i : Option Addr × Nat} {B : Nat} {φ : Fz} {v : Value} (h : (FreshV B (IsSl tPg r.2.1)).ok φ (slV r.2.1.length i)) (k : (IsParseO r i).ok φ v) : (IsParseF r B).ok φ v := by
  obtain ⟨vs, e, k1⟩ := k
  match vs, k1 with
  | [a, b], ⟨h1, h2, _⟩ => exact ⟨[a, b], e, recF h h1, h2, trivial⟩
theorem parseP {r : Int × List Pg × Int} {B : Nat} {φ : Fz} {v : Value} (h : (IsParseF r B).ok φ v) : (IsParse r).ok φ v := by
  obtain ⟨vs, e, k1⟩ := h
  match vs, k1 with
  | [a, b], ⟨⟨us, e1, k2, k3⟩, h2, _⟩ =>
    match us, k2 with
    | [x, y], ⟨g1, g2, _⟩ => exact ⟨[a, b], e, ⟨[x, y], e1, ⟨g1, SubL.fresh (L := []) φ y (fun it hi => by cases hi) g2, trivial⟩, k3⟩, h2, trivial⟩
theorem freshR_parse (r : Int × List Pg × Int) : FreshR (IsParseF r) := freshR_tup [IsRecF r.1 r.2.1, fun _ => Is (.int .i64 r.2.2)] ⟨freshR_agg [fun _ => Is (.int .i64 r.1), fun B => FreshV B (IsSl tPg r.2.1)] ⟨freshR_pure pure_is, freshR_v, trivial⟩, freshR_pure pure_is, trivial⟩
/-- A page of which some data have been written. -/
def pgPart (l : Int) (h : BitVec 64) (ds : List (BitVec 64)) : List VP := Is (.int .i64 l) :: Is (.int .u64 (UV h)) :: (ds.map (fun x => Is (.int .u64 (UV x))) ++ List.replicate (7 - ds.length) (Is (.int .u64 0)))
theorem pgPart_len {l : Int} {h : BitVec 64} {ds : List (BitVec 64)} (hd : ds.length ≤ 7) : (pgPart l h ds).length = 9 := by
  simp [pgPart]; omega
theorem pgPart_set {l : Int} {h x : BitVec 64} {ds : List (BitVec 64)} {j : Nat} (hj : ds.length = j) (h7 : j < 7) : ovr (pgPart l h ds) (0 + 2 + j * 1) [Is (.int .u64 (UV x))] = pgPart l h (ds ++ [x]) := by
  subst hj
  unfold pgPart
  rw [show 0 + 2 + ds.length * 1 = ds.length + 1 + 1 by omega]
  simp only [ovr, List.set_cons_succ, List.map_append, List.length_append, List.length_singleton, List.map_cons, List.map_nil]
  rw [List.set_append_right _ _ (by simp), show 7 - ds.length = (7 - (ds.length + 1)) + 1 by omega, List.replicate_succ]
  simp
set_option maxHeartbeats 4000000 in
-- bodegaref4.Parse: function 21
theorem ParseRO_ok (b : List (BitVec 64)) (lines : Int) : Fn Try.prog 21 [IsSl tU64 b, Is (.int .i64 lines)] [] (IsParseO (parseV b lines)) (pgsI (parseV b lines).2.1) := by
  have hz := Lib.hid (show ∀ k : Nat, k < b.length → b[k]? = some (wd b k) from fun k h => wd_get h)
  have hn : (nW b : Int) = UV (wd b 1) := rfl
  have q0 := UV_nonneg (wd b 0)
  refine Fn.enterN Try.func21 Try.ntmps21 rfl rfl ?_
  intro c hX
  refine JC_len (t := 0) rfl (fun hlen => ?_)
  refine JC_seq ?_
  refine JC_region ?_
  (refine JL_n rfl (op_allocN rfl nrmT rfl) ?_; intro i4)
  refine JL_1 rfl (op_assign rfl) ?_
  refine JL_nil ?_
  refine JQ_then (JC_seq (JC_seq ?_))
  refine JC_region ?_
  refine JL_1 rfl (op_move rfl) ?_
  refine JL_1 rfl (op_lss (Ev.rfl' rfl) (Ev.rfl' rfl)) ?_
  refine JL_1 rfl (op_move rfl) ?_
  (first | refine JL_i0 rfl rfl rfl (fun hg => (by have hg0 := hg; (try simp at hg); first | exact op_moveE (Ev.sub rfl (SubL.iteT (by first | assumption | (simp; done) | (simp; omega) | (simp_all; done)) SubL.rfl')) | exact op_moveE (Ev.rfl' rfl))) ?_ | refine JL_i rfl rfl rfl (fun hp hg => (by have hpg := Bool.and_eq_true_iff.2 ⟨hp, hg⟩; have hg0 := hg; (try simp at hg); first | exact op_moveE (Ev.sub rfl (SubL.iteT (by first | assumption | (simp; done) | (simp; omega) | (simp_all; done)) SubL.rfl')) | exact op_moveE (Ev.rfl' rfl))) ?_)
  (first | refine JL_i0 rfl rfl rfl (fun hg => (by have hg0 := hg; (try simp at hg); exact op_gtr evG evG)) ?_ | refine JL_i rfl rfl rfl (fun hp hg => (by have hpg := Bool.and_eq_true_iff.2 ⟨hp, hg⟩; have hg0 := hg; (try simp at hg); exact op_gtr evG evG)) ?_)
  refine JL_1 rfl (op_or (Ev.rfl' rfl) rfl (fun h => by first | exact SubL.rfl' | exact SubL.iteT (by first | (rw [h]; rfl) | (simp_all; done)) SubL.rfl')) ?_
  refine JL_nil ?_
  refine JQ_then ?_
  refine JC_cond (Ev.rfl' rfl) (fun h1 => ?_) (fun h1 => ?_)
  · have g1 : ¬ (98 ≤ lines ∧ lines ≤ 256) := by simp at h1; omega
    refine JC_seq ?_
    refine JC_region ?_
    refine JL_1 rfl (op_buildN (qs := []) rfl rfl rfl rfl trivial (by rfl) nrmT) ?_
    refine JL_s0 (op_storeN (Ev.rfl' rfl) (Ev.rfl' rfl) cellsT replT nrmT (by rfl) (by rfl) (by rfl)) ?_
    refine JL_1 rfl (op_assign rfl) ?_
    refine JL_nil ?_
    refine JQ_then (JC_ret (JQ_then_ret ?_))
    refine JQ_buf0 31 tPg ?_
    exact JQ_retP (Bs := [IsRecO 0 0 (none, 0), Is (.int .i64 18)]) Try.results21 ⟨⟨_, _, _, _, rfl, memT, rfl, .inr ⟨rfl, _, rfl, rfl, subT⟩⟩, ⟨⟨_, rfl, subT⟩, trivial⟩⟩ (none, 0) (SubL.eq (by rw [parseV_18 g1]; rfl)) (by rw [parseV_18 g1]; exact lessT)
  have g1 : 98 ≤ lines ∧ lines ≤ 256 := by simp at h1; omega
  clear h1
  refine JC_skip (JQ_then (JC_seq (JC_seq ?_)))
  refine JC_region ?_
  refine JL_1 rfl (op_move rfl) ?_
  refine JL_1 rfl (by first | exact op_len (Ev.rfl' rfl) rfl | exact op_lenLit (Ev.rfl' rfl) rfl) ?_
  refine JL_1 rfl (op_lss (Ev.rfl' rfl) (Ev.rfl' rfl)) ?_
  refine JL_1 rfl (op_move rfl) ?_
  (first | refine JL_i0 rfl rfl rfl (fun hg => (by have hg0 := hg; (try simp at hg); first | exact op_moveE (Ev.sub rfl (SubL.iteT (by first | assumption | (simp; done) | (simp; omega) | (simp_all; done)) SubL.rfl')) | exact op_moveE (Ev.rfl' rfl))) ?_ | refine JL_i rfl rfl rfl (fun hp hg => (by have hpg := Bool.and_eq_true_iff.2 ⟨hp, hg⟩; have hg0 := hg; (try simp at hg); first | exact op_moveE (Ev.sub rfl (SubL.iteT (by first | assumption | (simp; done) | (simp; omega) | (simp_all; done)) SubL.rfl')) | exact op_moveE (Ev.rfl' rfl))) ?_)
  (first | refine JL_i0 rfl rfl rfl (fun hg => (by have hg0 := hg; (try simp at hg); first | exact op_index (j := 0) evG evG rfl rfl (by first | rfl | omega) (hz.out _ (by omega)) | exact op_index (j := 0) evG evG rfl rfl (by first | rfl | omega) hx0 | exact op_index (j := 0) evG evG rfl rfl (by first | rfl | omega) (hx.out _ (by omega)) | exact op_index (j := 0) evG evG rfl rfl (by first | rfl | omega) (by assumption))) ?_ | refine JL_i rfl rfl rfl (fun hp hg => (by have hpg := Bool.and_eq_true_iff.2 ⟨hp, hg⟩; have hg0 := hg; (try simp at hg); first | exact op_index (j := 0) evG evG rfl rfl (by first | rfl | omega) (hz.out _ (by omega)) | exact op_index (j := 0) evG evG rfl rfl (by first | rfl | omega) hx0 | exact op_index (j := 0) evG evG rfl rfl (by first | rfl | omega) (hx.out _ (by omega)) | exact op_index (j := 0) evG evG rfl rfl (by first | rfl | omega) (by assumption))) ?_)
  (first | refine JL_i0 rfl rfl rfl (fun hg => (by have hg0 := hg; (try simp at hg); first | exact op_loadRef evG rfl rfl rfl | exact op_loadPtr evG memT (by rfl) (by rfl) (by rfl))) ?_ | refine JL_i rfl rfl rfl (fun hp hg => (by have hpg := Bool.and_eq_true_iff.2 ⟨hp, hg⟩; have hg0 := hg; (try simp at hg); first | exact op_loadRef evG rfl rfl rfl | exact op_loadPtr evG memT (by rfl) (by rfl) (by rfl))) ?_)
  (first | refine JL_i0 rfl rfl rfl (fun hg => (by have hg0 := hg; (try simp at hg); exact op_geq evG evG)) ?_ | refine JL_i rfl rfl rfl (fun hp hg => (by have hpg := Bool.and_eq_true_iff.2 ⟨hp, hg⟩; have hg0 := hg; (try simp at hg); exact op_geq evG evG)) ?_)
  refine JL_1 rfl (op_or (Ev.rfl' rfl) rfl (fun h => by first | exact SubL.rfl' | exact SubL.iteT (by first | (rw [h]; rfl) | (simp_all; done)) SubL.rfl')) ?_
  refine JL_1 rfl (op_move rfl) ?_
  (first | refine JL_i0 rfl rfl rfl (fun hg => (by have hg0 := hg; (try simp at hg); first | exact op_moveE (Ev.sub rfl (SubL.iteT (by first | assumption | (simp; done) | (simp; omega) | (simp_all; done)) SubL.rfl')) | exact op_moveE (Ev.rfl' rfl))) ?_ | refine JL_i rfl rfl rfl (fun hp hg => (by have hpg := Bool.and_eq_true_iff.2 ⟨hp, hg⟩; have hg0 := hg; (try simp at hg); first | exact op_moveE (Ev.sub rfl (SubL.iteT (by first | assumption | (simp; done) | (simp; omega) | (simp_all; done)) SubL.rfl')) | exact op_moveE (Ev.rfl' rfl))) ?_)
  (first | refine JL_i0 rfl rfl rfl (fun hg => (by have hg0 := hg; (try simp at hg); first | exact op_index (j := 1) evG evG rfl rfl (by first | rfl | omega) (hz.out _ (by omega)) | exact op_index (j := 1) evG evG rfl rfl (by first | rfl | omega) hx0 | exact op_index (j := 1) evG evG rfl rfl (by first | rfl | omega) (hx.out _ (by omega)) | exact op_index (j := 1) evG evG rfl rfl (by first | rfl | omega) (by assumption))) ?_ | refine JL_i rfl rfl rfl (fun hp hg => (by have hpg := Bool.and_eq_true_iff.2 ⟨hp, hg⟩; have hg0 := hg; (try simp at hg); first | exact op_index (j := 1) evG evG rfl rfl (by first | rfl | omega) (hz.out _ (by omega)) | exact op_index (j := 1) evG evG rfl rfl (by first | rfl | omega) hx0 | exact op_index (j := 1) evG evG rfl rfl (by first | rfl | omega) (hx.out _ (by omega)) | exact op_index (j := 1) evG evG rfl rfl (by first | rfl | omega) (by assumption))) ?_)
  (first | refine JL_i0 rfl rfl rfl (fun hg => (by have hg0 := hg; (try simp at hg); first | exact op_loadRef evG rfl rfl rfl | exact op_loadPtr evG memT (by rfl) (by rfl) (by rfl))) ?_ | refine JL_i rfl rfl rfl (fun hp hg => (by have hpg := Bool.and_eq_true_iff.2 ⟨hp, hg⟩; have hg0 := hg; (try simp at hg); first | exact op_loadRef evG rfl rfl rfl | exact op_loadPtr evG memT (by rfl) (by rfl) (by rfl))) ?_)
  (first | refine JL_i0 rfl rfl rfl (fun hg => (by have hg0 := hg; (try simp at hg); exact op_lss evG evG)) ?_ | refine JL_i rfl rfl rfl (fun hp hg => (by have hpg := Bool.and_eq_true_iff.2 ⟨hp, hg⟩; have hg0 := hg; (try simp at hg); exact op_lss evG evG)) ?_)
  refine JL_1 rfl (op_or (Ev.rfl' rfl) rfl (fun h => by first | exact SubL.rfl' | exact SubL.iteT (by first | (rw [h]; rfl) | (simp_all; done)) SubL.rfl')) ?_
  refine JL_1 rfl (op_move rfl) ?_
  (first | refine JL_i0 rfl rfl rfl (fun hg => (by have hg0 := hg; (try simp at hg); first | exact op_moveE (Ev.sub rfl (SubL.iteT (by first | assumption | (simp; done) | (simp; omega) | (simp_all; done)) SubL.rfl')) | exact op_moveE (Ev.rfl' rfl))) ?_ | refine JL_i rfl rfl rfl (fun hp hg => (by have hpg := Bool.and_eq_true_iff.2 ⟨hp, hg⟩; have hg0 := hg; (try simp at hg); first | exact op_moveE (Ev.sub rfl (SubL.iteT (by first | assumption | (simp; done) | (simp; omega) | (simp_all; done)) SubL.rfl')) | exact op_moveE (Ev.rfl' rfl))) ?_)
  (first | refine JL_i0 rfl rfl rfl (fun hg => (by have hg0 := hg; (try simp at hg); first | exact op_index (j := 1) evG evG rfl rfl (by first | rfl | omega) (hz.out _ (by omega)) | exact op_index (j := 1) evG evG rfl rfl (by first | rfl | omega) hx0 | exact op_index (j := 1) evG evG rfl rfl (by first | rfl | omega) (hx.out _ (by omega)) | exact op_index (j := 1) evG evG rfl rfl (by first | rfl | omega) (by assumption))) ?_ | refine JL_i rfl rfl rfl (fun hp hg => (by have hpg := Bool.and_eq_true_iff.2 ⟨hp, hg⟩; have hg0 := hg; (try simp at hg); first | exact op_index (j := 1) evG evG rfl rfl (by first | rfl | omega) (hz.out _ (by omega)) | exact op_index (j := 1) evG evG rfl rfl (by first | rfl | omega) hx0 | exact op_index (j := 1) evG evG rfl rfl (by first | rfl | omega) (hx.out _ (by omega)) | exact op_index (j := 1) evG evG rfl rfl (by first | rfl | omega) (by assumption))) ?_)
  (first | refine JL_i0 rfl rfl rfl (fun hg => (by have hg0 := hg; (try simp at hg); first | exact op_loadRef evG rfl rfl rfl | exact op_loadPtr evG memT (by rfl) (by rfl) (by rfl))) ?_ | refine JL_i rfl rfl rfl (fun hp hg => (by have hpg := Bool.and_eq_true_iff.2 ⟨hp, hg⟩; have hg0 := hg; (try simp at hg); first | exact op_loadRef evG rfl rfl rfl | exact op_loadPtr evG memT (by rfl) (by rfl) (by rfl))) ?_)
  (first | refine JL_i0 rfl rfl rfl (fun hg => (by have hg0 := hg; (try simp at hg); exact op_gtr evG evG)) ?_ | refine JL_i rfl rfl rfl (fun hp hg => (by have hpg := Bool.and_eq_true_iff.2 ⟨hp, hg⟩; have hg0 := hg; (try simp at hg); exact op_gtr evG evG)) ?_)
  refine JL_1 rfl (op_or (Ev.rfl' rfl) rfl (fun h => by first | exact SubL.rfl' | exact SubL.iteT (by first | (rw [h]; rfl) | (simp_all; done)) SubL.rfl')) ?_
  refine JL_1 rfl (op_move rfl) ?_
  (first | refine JL_i0 rfl rfl rfl (fun hg => (by have hg0 := hg; (try simp at hg); first | exact op_moveE (Ev.sub rfl (SubL.iteT (by first | assumption | (simp; done) | (simp; omega) | (simp_all; done)) SubL.rfl')) | exact op_moveE (Ev.rfl' rfl))) ?_ | refine JL_i rfl rfl rfl (fun hp hg => (by have hpg := Bool.and_eq_true_iff.2 ⟨hp, hg⟩; have hg0 := hg; (try simp at hg); first | exact op_moveE (Ev.sub rfl (SubL.iteT (by first | assumption | (simp; done) | (simp; omega) | (simp_all; done)) SubL.rfl')) | exact op_moveE (Ev.rfl' rfl))) ?_)
  (first | refine JL_i0 rfl rfl rfl (fun hg => (by have hg0 := hg; (try simp at hg); first | exact op_len evG rfl | exact op_lenLit evG rfl)) ?_ | refine JL_i rfl rfl rfl (fun hp hg => (by have hpg := Bool.and_eq_true_iff.2 ⟨hp, hg⟩; have hg0 := hg; (try simp at hg); first | exact op_len evG rfl | exact op_lenLit evG rfl)) ?_)
  (first | refine JL_i0 rfl rfl rfl (fun hg => (by have hg0 := hg; (try simp at hg); first | exact op_moveE (Ev.sub rfl (SubL.iteT (by first | assumption | (simp; done) | (simp; omega) | (simp_all; done)) SubL.rfl')) | exact op_moveE (Ev.rfl' rfl))) ?_ | refine JL_i rfl rfl rfl (fun hp hg => (by have hpg := Bool.and_eq_true_iff.2 ⟨hp, hg⟩; have hg0 := hg; (try simp at hg); first | exact op_moveE (Ev.sub rfl (SubL.iteT (by first | assumption | (simp; done) | (simp; omega) | (simp_all; done)) SubL.rfl')) | exact op_moveE (Ev.rfl' rfl))) ?_)
  (first | refine JL_i0 rfl rfl rfl (fun hg => (by have hg0 := hg; (try simp at hg); first | exact op_index (j := 1) evG evG rfl rfl (by first | rfl | omega) (hz.out _ (by omega)) | exact op_index (j := 1) evG evG rfl rfl (by first | rfl | omega) hx0 | exact op_index (j := 1) evG evG rfl rfl (by first | rfl | omega) (hx.out _ (by omega)) | exact op_index (j := 1) evG evG rfl rfl (by first | rfl | omega) (by assumption))) ?_ | refine JL_i rfl rfl rfl (fun hp hg => (by have hpg := Bool.and_eq_true_iff.2 ⟨hp, hg⟩; have hg0 := hg; (try simp at hg); first | exact op_index (j := 1) evG evG rfl rfl (by first | rfl | omega) (hz.out _ (by omega)) | exact op_index (j := 1) evG evG rfl rfl (by first | rfl | omega) hx0 | exact op_index (j := 1) evG evG rfl rfl (by first | rfl | omega) (hx.out _ (by omega)) | exact op_index (j := 1) evG evG rfl rfl (by first | rfl | omega) (by assumption))) ?_)
  (first | refine JL_i0 rfl rfl rfl (fun hg => (by have hg0 := hg; (try simp at hg); first | exact op_loadRef evG rfl rfl rfl | exact op_loadPtr evG memT (by rfl) (by rfl) (by rfl))) ?_ | refine JL_i rfl rfl rfl (fun hp hg => (by have hpg := Bool.and_eq_true_iff.2 ⟨hp, hg⟩; have hg0 := hg; (try simp at hg); first | exact op_loadRef evG rfl rfl rfl | exact op_loadPtr evG memT (by rfl) (by rfl) (by rfl))) ?_)
  (first | refine JL_i0 rfl rfl rfl (fun hg => (by have hg0 := hg; (try simp at hg); exact op_conv evG rfl rfl convT)) ?_ | refine JL_i rfl rfl rfl (fun hp hg => (by have hpg := Bool.and_eq_true_iff.2 ⟨hp, hg⟩; have hg0 := hg; (try simp at hg); exact op_conv evG rfl rfl convT)) ?_)
  (first | refine JL_i0 rfl rfl rfl (fun hg => (by have hg0 := hg; (try simp at hg); exact op_mul evG evG wrapT)) ?_ | refine JL_i rfl rfl rfl (fun hp hg => (by have hpg := Bool.and_eq_true_iff.2 ⟨hp, hg⟩; have hg0 := hg; (try simp at hg); exact op_mul evG evG wrapT)) ?_)
  (first | refine JL_i0 rfl rfl rfl (fun hg => (by have hg0 := hg; (try simp at hg); exact op_add evG evG wrapT)) ?_ | refine JL_i rfl rfl rfl (fun hp hg => (by have hpg := Bool.and_eq_true_iff.2 ⟨hp, hg⟩; have hg0 := hg; (try simp at hg); exact op_add evG evG wrapT)) ?_)
  (first | refine JL_i0 rfl rfl rfl (fun hg => (by have hg0 := hg; (try simp at hg); exact op_lss evG evG)) ?_ | refine JL_i rfl rfl rfl (fun hp hg => (by have hpg := Bool.and_eq_true_iff.2 ⟨hp, hg⟩; have hg0 := hg; (try simp at hg); exact op_lss evG evG)) ?_)
  refine JL_1 rfl (op_or (Ev.rfl' rfl) rfl (fun h => by first | exact SubL.rfl' | exact SubL.iteT (by first | (rw [h]; rfl) | (simp_all; done)) SubL.rfl')) ?_
  refine JL_nil ?_
  refine JQ_then ?_
  refine JC_cond (Ev.rfl' rfl) (fun h3 => ?_) (fun h3 => ?_)
  · have g2 : ¬ preB b := by unfold preB; simp at h3; omega
    refine JC_seq ?_
    refine JC_region ?_
    refine JL_1 rfl (op_buildN (qs := []) rfl rfl rfl rfl trivial (by rfl) nrmT) ?_
    refine JL_s0 (op_storeN (Ev.rfl' rfl) (Ev.rfl' rfl) cellsT replT nrmT (by rfl) (by rfl) (by rfl)) ?_
    refine JL_1 rfl (op_assign rfl) ?_
    refine JL_nil ?_
    refine JQ_then (JC_ret (JQ_then_ret ?_))
    refine JQ_buf0 31 tPg ?_
    exact JQ_retP (Bs := [IsRecO 0 0 (none, 0), Is (.int .i64 14)]) Try.results21 ⟨⟨_, _, _, _, rfl, memT, rfl, .inr ⟨rfl, _, rfl, rfl, subT⟩⟩, ⟨⟨_, rfl, subT⟩, trivial⟩⟩ (none, 0) (SubL.eq (by rw [parseV_pre g1 g2]; rfl)) (by rw [parseV_pre g1 g2]; exact lessT)
  have g2 : preB b := by unfold preB; simp at h3; omega
  obtain ⟨p1, p2, p3, p4, p5⟩ := id g2
  clear h3
  refine JC_skip (JQ_then (JC_seq ?_))
  refine JC_region ?_
  refine JL_1 rfl (op_move rfl) ?_
  refine JL_1 rfl (by first | exact op_index (j := 0) (Ev.rfl' rfl) (Ev.rfl' rfl) rfl rfl (by first | rfl | omega) (hz.out _ (by omega)) | exact op_index (j := 0) (Ev.rfl' rfl) (Ev.rfl' rfl) rfl rfl (by first | rfl | omega) hx0 | exact op_index (j := 0) (Ev.rfl' rfl) (Ev.rfl' rfl) rfl rfl (by first | rfl | omega) (hx.out _ (by omega)) | exact op_index (j := 0) (Ev.rfl' rfl) (Ev.rfl' rfl) rfl rfl (by first | rfl | omega) (by assumption)) ?_
  refine JL_1 rfl (by first | exact op_loadRef (Ev.rfl' rfl) rfl rfl rfl | exact op_loadPtr (Ev.rfl' rfl) memT (by rfl) (by rfl) (by rfl)) ?_
  refine JL_1 rfl (op_conv (Ev.rfl' rfl) rfl rfl convT) ?_
  refine JL_1 rfl (op_buildN (qs := [(0, _)]) rfl rfl rfl rfl ⟨⟨rfl, _, (Ev.rfl' rfl), cellsT⟩, trivial⟩ (by rfl) nrmT) ?_
  (refine JL_n rfl (op_allocN rfl nrmT rfl) ?_; intro i6)
  refine JL_s0 (op_storeN (Ev.rfl' rfl) (Ev.rfl' rfl) cellsT replT nrmT (by rfl) (by rfl) (by rfl)) ?_
  refine JL_nil ?_
  refine JQ_then (JC_seq (JC_seq ?_))
  refine JC_buf0 31 tPg ?_
  refine JC_region ?_
  refine JL_1 rfl (op_assign rfl) ?_
  refine JL_nil ?_
  refine JQ_then (JC_block ?_)
  refine JC_loopP (fun i : Nat × (Option Addr × Nat) => i.1 ≤ nW b) (fun i => [(0, IsSl tU64 b), (1, Is (.int .i64 lines)), (4, Is (.pointer (some ⟨i4, 0, none⟩))), (6, Is (.pointer (some ⟨i6, 0, none⟩))), (7, Is (.int .i64 (i.1 : Nat)))]) (fun i => [blk i4 25 [Is (.int .i64 0), Is (.slice none 0 0)], blk i6 25 [Is (.int .i64 (UV (wd b 0))), Is (slV (pagesW b i.1).length i.2)], buf (slV (pagesW b i.1).length i.2) 31 tPg (pagesW b i.1)]) (fun i => nW b - i.1) (0, (none, 0)) (Nat.zero_le _) esubT lessT ?_
  rintro ⟨k, s⟩ hk
  dsimp only at hk ⊢
  have hpl := pagesW_len b k
  refine JC_seq (JC_seq ?_)
  refine JC_region ?_
  refine JL_1 rfl (op_move rfl) ?_
  refine JL_1 rfl (op_move rfl) ?_
  refine JL_1 rfl (by first | exact op_index (j := 1) (Ev.rfl' rfl) (Ev.rfl' rfl) rfl rfl (by first | rfl | omega) (hz.out _ (by omega)) | exact op_index (j := 1) (Ev.rfl' rfl) (Ev.rfl' rfl) rfl rfl (by first | rfl | omega) hx0 | exact op_index (j := 1) (Ev.rfl' rfl) (Ev.rfl' rfl) rfl rfl (by first | rfl | omega) (hx.out _ (by omega)) | exact op_index (j := 1) (Ev.rfl' rfl) (Ev.rfl' rfl) rfl rfl (by first | rfl | omega) (by assumption)) ?_
  refine JL_1 rfl (by first | exact op_loadRef (Ev.rfl' rfl) rfl rfl rfl | exact op_loadPtr (Ev.rfl' rfl) memT (by rfl) (by rfl) (by rfl)) ?_
  refine JL_1 rfl (op_conv (Ev.rfl' rfl) rfl rfl convT) ?_
  refine JL_1 rfl (op_lss (Ev.rfl' rfl) (Ev.rfl' rfl)) ?_
  refine JL_nil ?_
  refine JQ_then ?_
  refine JC_cond (Ev.rfl' rfl) (fun h7 => ?_) (fun h7 => ?_)
  · have h' : k < nW b := by have := of_decide_eq_true h7; omega
    clear h7
    have hx := Lib.hid (show ∀ j : Nat, j < 9 → ((b.take b.length).drop (2 + 9 * k))[j]? = some (wd b (2 + 9 * k + j)) from fun j hj => by
      rw [List.take_length, List.getElem?_drop]; exact hz.out _ (by omega))
    have hx0 : ((b.take b.length).drop (2 + 9 * k))[0]? = some (wd b (2 + 9 * k)) := hx.out 0 (by omega)
    refine JC_skip (JQ_then (JC_seq (JC_block (JC_seq ?_))))
    refine JC_region ?_
    refine JL_1 rfl (op_move rfl) ?_
    refine JL_1 rfl (op_move rfl) ?_
    refine JL_1 rfl (op_mul (Ev.rfl' rfl) (Ev.rfl' rfl) wrapT) ?_
    refine JL_1 rfl (op_add (Ev.rfl' rfl) (Ev.rfl' rfl) wrapT) ?_
    refine JL_1 rfl (op_slice (Ev.rfl' rfl) rfl rfl ⟨_, _, (Ev.rfl' rfl), (show _ = ((2 + 9 * k : Nat) : Int) by first | rfl | omega)⟩ rfl (by omega) (by omega)) ?_
    refine JL_1 rfl (op_assign rfl) ?_
    refine JL_nil ?_
    refine JQ_then (JC_seq (JC_seq ?_))
    refine JC_region ?_
    refine JL_1 rfl (op_move rfl) ?_
    refine JL_1 rfl (by first | exact op_index (j := 0) (Ev.rfl' rfl) (Ev.rfl' rfl) rfl rfl (by first | rfl | omega) (hz.out _ (by omega)) | exact op_index (j := 0) (Ev.rfl' rfl) (Ev.rfl' rfl) rfl rfl (by first | rfl | omega) hx0 | exact op_index (j := 0) (Ev.rfl' rfl) (Ev.rfl' rfl) rfl rfl (by first | rfl | omega) (hx.out _ (by omega)) | exact op_index (j := 0) (Ev.rfl' rfl) (Ev.rfl' rfl) rfl rfl (by first | rfl | omega) (by assumption)) ?_
    refine JL_1 rfl (by first | exact op_loadRef (Ev.rfl' rfl) rfl rfl rfl | exact op_loadPtr (Ev.rfl' rfl) memT (by rfl) (by rfl) (by rfl)) ?_
    refine JL_1 rfl (op_geq (Ev.rfl' rfl) (Ev.rfl' rfl)) ?_
    refine JL_nil ?_
    refine JQ_then ?_
    refine JC_cond (Ev.rfl' rfl) (fun h10 => ?_) (fun h10 => ?_)
    · have h10' : 256 ≤ UV (wd b (2 + 9 * k)) := by simpa using h10
      refine JC_seq ?_
      refine JC_region ?_
      refine JL_1 rfl (op_buildN (qs := []) rfl rfl rfl rfl trivial (by rfl) nrmT) ?_
      refine JL_s0 (op_storeN (Ev.rfl' rfl) (Ev.rfl' rfl) cellsT replT nrmT (by rfl) (by rfl) (by rfl)) ?_
      refine JL_1 rfl (op_assign rfl) ?_
      refine JL_nil ?_
      refine JQ_then (JC_ret (JQ_then_ret (JQ_block_ret (JQ_then_ret (JQ_then_ret (JQ_block_ret (JQ_then_ret ?_)))))))
      refine JQ_buf0 31 tPg ?_
      exact JQ_retP (Bs := [IsRecO 0 0 (none, 0), Is (.int .i64 14)]) Try.results21 ⟨⟨_, _, _, _, rfl, memT, rfl, .inr ⟨rfl, _, rfl, rfl, subT⟩⟩, ⟨⟨_, rfl, subT⟩, trivial⟩⟩ (none, 0) (SubL.eq (by rw [parseV_far g1 g2 h' h10']; rfl)) (by rw [parseV_far g1 g2 h' h10']; exact lessT)
    have h10' : UV (wd b (2 + 9 * k)) < 256 := by simpa using h10
    have hp0 := UV_nonneg (wd b (2 + 9 * k))
    clear h10
    refine JC_skip (JQ_then (JC_seq ?_))
    refine JC_dr rfl (by kernel_rfl) ?_
    refine JD_stretch 10 (by kernel_rfl) ?_
    refine JW_1 (op_move rfl) ?_
    refine JW_1 (by first | exact op_index (j := 0) (Ev.rfl' rfl) (Ev.rfl' rfl) rfl rfl (by first | rfl | omega) (hz.out _ (by omega)) | exact op_index (j := 0) (Ev.rfl' rfl) (Ev.rfl' rfl) rfl rfl (by first | rfl | omega) hx0 | exact op_index (j := 0) (Ev.rfl' rfl) (Ev.rfl' rfl) rfl rfl (by first | rfl | omega) (hx.out _ (by omega)) | exact op_index (j := 0) (Ev.rfl' rfl) (Ev.rfl' rfl) rfl rfl (by first | rfl | omega) (by assumption)) ?_
    refine JW_1 (by first | exact op_loadRef (Ev.rfl' rfl) rfl rfl rfl | exact op_loadPtr (Ev.rfl' rfl) memT (by rfl) (by rfl) (by rfl)) ?_
    refine JW_1 (op_conv (Ev.rfl' rfl) rfl rfl convT) ?_
    refine JW_1 (op_move rfl) ?_
    refine JW_1 (by first | exact op_index (j := 1) (Ev.rfl' rfl) (Ev.rfl' rfl) rfl rfl (by first | rfl | omega) (hz.out _ (by omega)) | exact op_index (j := 1) (Ev.rfl' rfl) (Ev.rfl' rfl) rfl rfl (by first | rfl | omega) hx0 | exact op_index (j := 1) (Ev.rfl' rfl) (Ev.rfl' rfl) rfl rfl (by first | rfl | omega) (hx.out _ (by omega)) | exact op_index (j := 1) (Ev.rfl' rfl) (Ev.rfl' rfl) rfl rfl (by first | rfl | omega) (by assumption)) ?_
    refine JW_1 (by first | exact op_loadRef (Ev.rfl' rfl) rfl rfl rfl | exact op_loadPtr (Ev.rfl' rfl) memT (by rfl) (by rfl) (by rfl)) ?_
    refine JW_1 (op_buildN (qs := [(0, _), (1, _)]) rfl rfl rfl rfl ⟨⟨rfl, _, (Ev.rfl' rfl), cellsT⟩, ⟨⟨rfl, _, (Ev.rfl' rfl), cellsT⟩, trivial⟩⟩ (by rfl) nrmT) ?_
    refine JW_n (op_allocN rfl nrmT rfl) ?_
    refine JW_write rfl rfl rfl (by kernel_rfl) (op_storeWN evS cellsT rfl rfl rfl nrmT) ?_
    refine ⟨rfl, ?_⟩
    intro i9
    refine JD_end ?_
    refine JQ_then (JC_seq (JC_seq ?_))
    refine JC_region ?_
    refine JL_1 rfl (op_assign rfl) ?_
    refine JL_nil ?_
    refine JQ_then (JC_block ?_)
    refine JC_loopP (fun j : Nat => j ≤ 7) (fun j => [(0, IsSl tU64 b), (1, Is (.int .i64 lines)), (4, Is (.pointer (some ⟨i4, 0, none⟩))), (6, Is (.pointer (some ⟨i6, 0, none⟩))), (7, Is (.int .i64 (k : Nat))), (8, IsSl tU64 ((b.take b.length).drop (2 + 9 * k))), (9, Is (.pointer (some ⟨i9, 0, none⟩))), (10, Is (.int .i64 (j : Nat)))]) (fun j => [blk i9 31 (pgPart (UV (wd b (2 + 9 * k))) (wd b (2 + 9 * k + 1)) ((dataAt b k).take j)), blk i4 25 [Is (.int .i64 0), Is (.slice none 0 0)], blk i6 25 [Is (.int .i64 (UV (wd b 0))), Is (slV (pagesW b k).length s)], buf (slV (pagesW b k).length s) 31 tPg (pagesW b k)]) (fun j => 7 - j) 0 (Nat.zero_le _) esubT lessT ?_
    rintro j hj
    refine JC_seq (JC_seq ?_)
    refine JC_region ?_
    refine JL_1 rfl (op_move rfl) ?_
    refine JL_1 rfl (op_lss (Ev.rfl' rfl) (Ev.rfl' rfl)) ?_
    refine JL_nil ?_
    refine JQ_then ?_
    refine JC_cond (Ev.rfl' rfl) (fun h14 => ?_) (fun h14 => ?_)
    · have hj' : j < 7 := by have := of_decide_eq_true h14; omega
      clear h14
      have hxj := hx.out (2 + j) (by omega)
      have hst := pgPart_set (l := UV (wd b (2 + 9 * k))) (h := wd b (2 + 9 * k + 1)) (x := wd b (2 + 9 * k + (2 + j))) (ds := (dataAt b k).take j) (j := j) (by simp; omega) hj'
      rw [← take_add1 (dataAt_get hj')] at hst
      have hpp := pgPart_len (l := UV (wd b (2 + 9 * k))) (h := wd b (2 + 9 * k + 1)) (ds := (dataAt b k).take j) (by simp; omega)
      refine JC_skip (JQ_then (JC_seq (JC_block ?_)))
      refine JC_region ?_
      refine JL_1 rfl (op_move rfl) ?_
      refine JL_1 rfl (op_move rfl) ?_
      refine JL_1 rfl (op_move rfl) ?_
      refine JL_1 rfl (op_add (Ev.rfl' rfl) (Ev.rfl' rfl) wrapT) ?_
      refine JL_1 rfl (by first | exact op_index (j := _) (Ev.rfl' rfl) (Ev.rfl' rfl) rfl rfl (by first | rfl | omega) hxj | exact op_index (j := _) (Ev.rfl' rfl) (Ev.rfl' rfl) rfl rfl (by first | rfl | omega) (by assumption)) ?_
      refine JL_1 rfl (by first | exact op_loadRef (Ev.rfl' rfl) rfl rfl rfl | exact op_loadPtr (Ev.rfl' rfl) memT (by rfl) (by rfl) (by rfl)) ?_
      refine JL_1 rfl (by first | exact op_fieldPtr (k := 2) (Ev.rfl' rfl) rfl rfl rfl rfl | exact op_fieldRefN (k := 2) (Ev.rfl' rfl) rfl rfl rfl rfl nrmT) ?_
      refine JL_1 rfl (op_indexArr (k := j) (sz := 1) (Ev.rfl' rfl) (Ev.rfl' rfl) rfl rfl idxT (by first | decide | omega)) ?_
      refine JL_s0 (op_storeA (n := 1) (Rs := pgPart (UV (wd b (2 + 9 * k))) (wd b (2 + 9 * k + 1)) ((dataAt b k).take (j + 1))) (Ev.rfl' rfl) (Ev.rfl' rfl) cellsT replT hst (by rfl) (by rfl) (by first | (simp; done) | (simp; omega) | omega)) ?_
      refine JL_nil ?_
      refine JQ_block (JQ_then ?_)
      refine JC_region ?_
      refine JL_1 rfl (op_move rfl) ?_
      refine JL_1 rfl (op_add (Ev.rfl' rfl) (Ev.rfl' rfl) wrapT) ?_
      refine JL_1 rfl (op_assign rfl) ?_
      refine JL_nil ?_
      exact JQ_roundP (j + 1) (by omega) (by omega) esubT lessT
    have hj7 : j = 7 := by have := of_decide_eq_false h14; omega
    subst hj7
    clear h14
    refine JC_exit (JQ_then_exit (JQ_then_exit (JQ_hit (JQ_then ?_))))
    refine JC_blkEq (b := i9) (As' := tPg.cells (pgAt b k)) replT (by
        have : capL (wd b (2 + 9 * k)) = UV (wd b (2 + 9 * k)) := by unfold capL; rw [if_neg (by omega)]
        show _ = Is (.int .i64 (capL (wd b (2 + 9 * k)))) :: _
        rw [this]; rfl) ?_
    refine JC_region ?_
    refine JL_1 rfl (by first | exact op_fieldPtr (k := 1) (Ev.rfl' rfl) rfl rfl rfl rfl | exact op_fieldRefN (k := 1) (Ev.rfl' rfl) rfl rfl rfl rfl nrmT) ?_
    refine JL_1 rfl (by first | exact op_loadRef (Ev.rfl' rfl) rfl rfl rfl | exact op_loadPtr (Ev.rfl' rfl) memT (by rfl) (by rfl) (by rfl)) ?_
    refine JL_1 rfl (by first | exact op_loadRefsN (n := 9) (Ev.rfl' rfl) rfl rfl rfl (by rfl) nrmT | exact op_loadPtrsN (n := 9) (Ev.rfl' rfl) memT (by rfl) (by rfl) (by rfl) (by rfl) nrmT) ?_
    refine JL_1 rfl (op_buildSlice (size := 9) (qs := [(0, _)]) rfl rfl rfl ⟨⟨rfl, _, (Ev.rfl' rfl), cellsT⟩, trivial⟩ (by rfl) (by rfl)) ?_
    (refine JL_s rfl (op_app (Ev.rfl' rfl) (fun _ => replT) (by first | exact Ev.rfl' rfl | exact Ev.sub rfl (by first | exact SubL.row (xs := [pgAt b k]) (by rfl) (by rfl) subsT | exact subT)) (by exact appT rfl rfl rfl) lenT) ?_; intro i98)
    refine JL_1 rfl (by first | exact op_fieldPtr (k := 1) (Ev.rfl' rfl) rfl rfl rfl rfl | exact op_fieldRefN (k := 1) (Ev.rfl' rfl) rfl rfl rfl rfl nrmT) ?_
    refine JL_s0 (op_storeN (Ev.rfl' rfl) (Ev.rfl' rfl) cellsT replT nrmT (by rfl) (by rfl) (by rfl)) ?_
    refine JL_nil ?_
    refine JQ_block (JQ_then ?_)
    refine JC_region ?_
    refine JL_1 rfl (op_move rfl) ?_
    refine JL_1 rfl (op_add (Ev.rfl' rfl) (Ev.rfl' rfl) wrapT) ?_
    refine JL_1 rfl (op_assign rfl) ?_
    refine JL_nil ?_
    rw [← pagesW_succ]
    exact JQ_roundP (k + 1, i98) (by dsimp only; omega) (by dsimp only; omega) esubT lessT
  have hkn : k = nW b := by have := of_decide_eq_false h7; omega
  subst hkn
  clear h7
  refine JC_exit (JQ_then_exit (JQ_then_exit (JQ_hit (JQ_then (JC_seq (JC_seq ?_))))))
  refine JC_dr rfl (by kernel_rfl) ?_
  refine JD_stretch 17 (by kernel_rfl) ?_
  refine JW_1 (by first | exact op_loadRefsN (n := 2) (Ev.rfl' rfl) rfl rfl rfl (by rfl) nrmT | exact op_loadPtrsN (n := 2) (Ev.rfl' rfl) memT (by rfl) (by rfl) (by rfl) (by rfl) nrmT) ?_
  refine JW_1 (op_move rfl) ?_
  refine JW_1 (by first | ((refine op_call Try.call14 (ValidLR_ok _ _ _) ⟨evS, ⟨evS, trivial⟩⟩)) | ((refine op_callB lendT Try.call14 (ValidLR_ok _ _ _) ⟨evS, ⟨evS, trivial⟩⟩ pureT))) ?_
  refine JW_1 (op_neq (Ev.rfl' rfl) (Ev.rfl' rfl)) ?_
  refine JW_1 (op_move rfl) ?_
  (first | refine JW_i0 rfl rfl (fun hg => (by have hg0 := hg; (try simp at hg); first | exact op_loadRefsN (n := 2) evG rfl rfl rfl (by rfl) nrmT | exact op_loadPtrsN (n := 2) evG memT (by rfl) (by rfl) (by rfl) (by rfl) nrmT)) ?_ | refine JW_i rfl rfl (fun hp hg => (by have hpg := Bool.and_eq_true_iff.2 ⟨hp, hg⟩; have hg0 := hg; (try simp at hg); first | exact op_loadRefsN (n := 2) evG rfl rfl rfl (by rfl) nrmT | exact op_loadPtrsN (n := 2) evG memT (by rfl) (by rfl) (by rfl) (by rfl) nrmT)) ?_)
  (first | refine JW_i0 rfl rfl (fun hg => (by have hg0 := hg; (try simp at hg); first | ((refine op_callBF lendT Try.call19 (BodyRF_ok _ _) ⟨evS, trivial⟩ (freshR_v))))) ?_ | refine JW_i rfl rfl (fun hp hg => (by have hpg := Bool.and_eq_true_iff.2 ⟨hp, hg⟩; have hg0 := hg; (try simp at hg); first | ((refine op_callBF lendT Try.call19 (BodyRF_ok _ _) ⟨evS, trivial⟩ (freshR_v))))) ?_)
  (first | refine JW_i0 rfl rfl (fun hg => (by have hg0 := hg; (try simp at hg); first | exact op_moveE (Ev.sub rfl (SubL.iteT (by first | assumption | (simp; done) | (simp; omega) | (simp_all; done)) SubL.rfl')) | exact op_moveE (Ev.rfl' rfl))) ?_ | refine JW_i rfl rfl (fun hp hg => (by have hpg := Bool.and_eq_true_iff.2 ⟨hp, hg⟩; have hg0 := hg; (try simp at hg); first | exact op_moveE (Ev.sub rfl (SubL.iteT (by first | assumption | (simp; done) | (simp; omega) | (simp_all; done)) SubL.rfl')) | exact op_moveE (Ev.rfl' rfl))) ?_)
  (first | refine JW_i0 rfl rfl (fun hg => (by have hg0 := hg; (try simp at hg); first | exact op_fieldPtr (k := 1) evG rfl rfl rfl rfl | exact op_fieldRefN (k := 1) evG rfl rfl rfl rfl nrmT)) ?_ | refine JW_i rfl rfl (fun hp hg => (by have hpg := Bool.and_eq_true_iff.2 ⟨hp, hg⟩; have hg0 := hg; (try simp at hg); first | exact op_fieldPtr (k := 1) evG rfl rfl rfl rfl | exact op_fieldRefN (k := 1) evG rfl rfl rfl rfl nrmT)) ?_)
  (first | refine JW_i0 rfl rfl (fun hg => (by have hg0 := hg; (try simp at hg); first | exact op_loadRef evG rfl rfl rfl | exact op_loadPtr evG memT (by rfl) (by rfl) (by rfl))) ?_ | refine JW_i rfl rfl (fun hp hg => (by have hpg := Bool.and_eq_true_iff.2 ⟨hp, hg⟩; have hg0 := hg; (try simp at hg); first | exact op_loadRef evG rfl rfl rfl | exact op_loadPtr evG memT (by rfl) (by rfl) (by rfl))) ?_)
  (first | refine JW_i0 rfl rfl (fun hg => (by have hg0 := hg; (try simp at hg); first | exact op_len evG rfl | exact op_lenLit evG rfl)) ?_ | refine JW_i rfl rfl (fun hp hg => (by have hpg := Bool.and_eq_true_iff.2 ⟨hp, hg⟩; have hg0 := hg; (try simp at hg); first | exact op_len evG rfl | exact op_lenLit evG rfl)) ?_)
  (first | refine JW_i0 rfl rfl (fun hg => (by have hg0 := hg; (try simp at hg); exact op_mul evG evG wrapT)) ?_ | refine JW_i rfl rfl (fun hp hg => (by have hpg := Bool.and_eq_true_iff.2 ⟨hp, hg⟩; have hg0 := hg; (try simp at hg); exact op_mul evG evG wrapT)) ?_)
  (first | refine JW_i0 rfl rfl (fun hg => (by have hg0 := hg; (try simp at hg); exact op_add evG evG wrapT)) ?_ | refine JW_i rfl rfl (fun hp hg => (by have hpg := Bool.and_eq_true_iff.2 ⟨hp, hg⟩; have hg0 := hg; (try simp at hg); exact op_add evG evG wrapT)) ?_)
  (first | refine JW_i0 rfl rfl (fun hg => (by have hg0 := hg; (try simp at hg); exact op_slice evG rfl rfl rfl ⟨_, _, evG, (show _ = ((3 + 9 * nW b : Nat) : Int) by first | rfl | omega)⟩ (by omega) (by omega))) ?_ | refine JW_i rfl rfl (fun hp hg => (by have hpg := Bool.and_eq_true_iff.2 ⟨hp, hg⟩; have hg0 := hg; (try simp at hg); exact op_slice evG rfl rfl rfl ⟨_, _, evG, (show _ = ((3 + 9 * nW b : Nat) : Int) by first | rfl | omega)⟩ (by omega) (by omega))) ?_)
  (first | refine JW_i0 rfl rfl (fun hg => (by have hg0 := hg; (try simp at hg); exact op_call Try.call18 (SameWords_ok _ _) ⟨evS, ⟨evS, trivial⟩⟩)) ?_ | refine JW_i rfl rfl (fun hp hg => (by have hpg := Bool.and_eq_true_iff.2 ⟨hp, hg⟩; have hg0 := hg; (try simp at hg); exact op_call Try.call18 (SameWords_ok _ _) ⟨evS, ⟨evS, trivial⟩⟩)) ?_)
  (first | refine JW_i0 rfl rfl (fun hg => (by have hg0 := hg; (try simp at hg); exact op_not evG)) ?_ | refine JW_i rfl rfl (fun hp hg => (by have hpg := Bool.and_eq_true_iff.2 ⟨hp, hg⟩; have hg0 := hg; (try simp at hg); exact op_not evG)) ?_)
  refine JW_1 (op_or (Ev.rfl' rfl) rfl (fun h => by first | exact SubL.rfl' | exact SubL.iteT (by first | (rw [h]; rfl) | (simp_all; done)) SubL.rfl')) ?_
  refine ⟨rfl, ?_⟩
  refine JD_end ?_
  refine JQ_then ?_
  refine JC_cond (Ev.rfl' rfl) (fun h18 => ?_) (fun h18 => ?_)
  · have g3 : ¬ (validR (UV (wd b 0)) (pagesW b (nW b)) lines = 0 ∧ bodyW (UV (wd b 0)) (pagesW b (nW b)) = b.take (3 + 9 * nW b)) := fun ⟨e1, e2⟩ => by
      rw [e1, e2] at h18; simp at h18
    refine JC_seq ?_
    refine JC_region ?_
    refine JL_1 rfl (op_buildN (qs := []) rfl rfl rfl rfl trivial (by rfl) nrmT) ?_
    refine JL_s0 (op_storeN (Ev.rfl' rfl) (Ev.rfl' rfl) cellsT replT nrmT (by rfl) (by rfl) (by rfl)) ?_
    refine JL_1 rfl (op_assign rfl) ?_
    refine JL_nil ?_
    refine JQ_then (JC_ret (JQ_then_ret ?_))
    refine JQ_buf0 31 tPg ?_
    exact JQ_retP (Bs := [IsRecO 0 0 (none, 0), Is (.int .i64 14)]) Try.results21 ⟨⟨_, _, _, _, rfl, memT, rfl, .inr ⟨rfl, _, rfl, rfl, subT⟩⟩, ⟨⟨_, rfl, subT⟩, trivial⟩⟩ (none, 0) (SubL.eq (by rw [parseV_bad g1 g2 g3]; rfl)) (by rw [parseV_bad g1 g2 g3]; exact lessT)
  have g3 : validR (UV (wd b 0)) (pagesW b (nW b)) lines = 0 ∧ bodyW (UV (wd b 0)) (pagesW b (nW b)) = b.take (3 + 9 * nW b) := by simpa using h18
  refine JC_skip (JQ_then (JC_seq ?_))
  refine JC_region ?_
  refine JL_1 rfl (by first | exact op_loadRefsN (n := 2) (Ev.rfl' rfl) rfl rfl rfl (by rfl) nrmT | exact op_loadPtrsN (n := 2) (Ev.rfl' rfl) memT (by rfl) (by rfl) (by rfl) (by rfl) nrmT) ?_
  refine JL_s0 (op_storeN (Ev.rfl' rfl) (Ev.rfl' rfl) cellsT replT nrmT (by rfl) (by rfl) (by rfl)) ?_
  refine JL_1 rfl (op_assign rfl) ?_
  refine JL_nil ?_
  refine JQ_then (JC_ret ?_)
  exact JQ_retP (Bs := [IsRecO (UV (wd b 0)) (pagesW b (nW b)).length s, Is (.int .i64 0)]) Try.results21 ⟨⟨_, _, _, _, rfl, memT, rfl, .inr ⟨rfl, _, rfl, rfl, subT⟩⟩, ⟨⟨_, rfl, subT⟩, trivial⟩⟩ s (SubL.eq (by rw [parseV_ok g1 g2 g3]; rfl)) (by rw [parseV_ok g1 g2 g3]; exact lessT)
theorem ParseRF_ok (b : List (BitVec 64)) (lines : Int) : FnF Try.prog 21 [IsSl tU64 b, Is (.int .i64 lines)] (IsParseF (parseV b lines)) := (ParseRO_ok b lines).toF pure_pg fun i B φ v h1 h2 => parseF h1 h2
theorem ParseR_ok (b : List (BitVec 64)) (lines : Int) : FnP Try.prog 21 [IsSl tU64 b, Is (.int .i64 lines)] (IsParse (parseV b lines)) := (ParseRF_ok b lines).toP fun B φ v h => parseP h
end Go.Proofs.Ytccgnekcbdkilaa
