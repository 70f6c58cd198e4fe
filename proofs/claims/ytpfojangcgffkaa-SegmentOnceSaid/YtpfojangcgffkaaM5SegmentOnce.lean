/- Texts of this claim, laid together (part 5): walks of functions, what they compute, and plain laws of it. Own work. -/
import Derived.Lib.BitFns
import Derived.Test.YtpfojangcgffkaaM4SegmentOnce
/- Contracts: the last known page of a line; what is missing; the segments of a bitmap; known node pages and header pages. Own work. -/
namespace Go.Proofs.Ytpfojangcgffkaa
open Go.RowKit
set_option linter.unusedVariables false
set_option linter.unusedSimpArgs false
set_option maxRecDepth 100000
/-! ### A constant string's byte -/
theorem op_indexStr {P : Program} {c : Ctx} {A : Nat → Option VP} {L : List Item} {d : Option Tmp} {ty : TypeId} {pos : String} {af : Array Edge} {g : Option (Nat × Bool)} {t : TypeId} {s : ByteArray} {y : Operand} {q : IntKind} {j : Int} {k : Nat} {b : UInt8} (hu : P.underlying t = some .string) (hy : Ev A L y (Is (.int q j))) (hj : j = k) (hb : s[k]? = some b) :
    OpP P c ⟨d, .index t (.const (.string s)) y, ty, pos, af, g⟩ A L (Is (.int .u8 b.toNat)) :=
  opp fun φ a w hm he => by
    have h1 : a.eval y = .int q j := he y (by simp [Op.operands]) _ hy
    refine ⟨_, ?_, rfl⟩
    have h2 : a.eval (.const (.string s)) = .string s := rfl
    subst hj
    simp only [execOp, h1, h2]
    refine run_val ?_
    simp only [Instr.index, asIntOf, Sem.run_bind, Sem.run_pure, Result.andThen_ok, run_underlying hu]
    rw [if_pos (by omega)]
    simp only [Int.toNat_natCast, hb]
    rfl
-- math/bits.Len64: function 142
theorem Len64_0 : FnP Try.prog 142 [Is (.int .u64 0)] (Is (.int .i64 0)) := by
  refine FnP.enter Try.func142 Try.ntmps142 rfl rfl ?_
  intro c hX
  refine JC_seq ?_
  refine JC_region ?_
  refine JL_1 rfl (op_assign rfl) ?_
  refine JL_nil ?_
  refine JQ_then (JC_seq (JC_seq ?_))
  refine JC_region ?_
  refine JL_1 rfl (op_move rfl) ?_
  refine JL_1 rfl (op_geq (Ev.rfl' rfl) (Ev.rfl' rfl)) ?_
  refine JL_nil ?_
  refine JQ_then ?_
  refine JC_cond (Ev.rfl' rfl) (fun h1 => ?_) (fun h1 => ?_)
  · exact absurd (of_decide_eq_true h1) (by omega)
  refine JC_skip (JQ_then (JC_seq (JC_seq ?_)))
  refine JC_region ?_
  refine JL_1 rfl (op_move rfl) ?_
  refine JL_1 rfl (op_geq (Ev.rfl' rfl) (Ev.rfl' rfl)) ?_
  refine JL_nil ?_
  refine JQ_then ?_
  refine JC_cond (Ev.rfl' rfl) (fun h4 => ?_) (fun h4 => ?_)
  · exact absurd (of_decide_eq_true h4) (by omega)
  refine JC_skip (JQ_then (JC_seq (JC_seq ?_)))
  refine JC_region ?_
  refine JL_1 rfl (op_move rfl) ?_
  refine JL_1 rfl (op_geq (Ev.rfl' rfl) (Ev.rfl' rfl)) ?_
  refine JL_nil ?_
  refine JQ_then ?_
  refine JC_cond (Ev.rfl' rfl) (fun h7 => ?_) (fun h7 => ?_)
  · exact absurd (of_decide_eq_true h7) (by omega)
  refine JC_skip (JQ_then (JC_seq ?_))
  refine JC_region ?_
  refine JL_1 rfl (op_move rfl) ?_
  refine JL_1 rfl (op_move rfl) ?_
  refine JL_1 rfl (op_conv (Ev.rfl' rfl) rfl rfl convT) ?_
  refine JL_1 rfl (op_indexStr (k := 0) (b := 0) rfl (Ev.rfl' rfl) rfl rfl) ?_
  refine JL_1 rfl (op_conv (Ev.rfl' rfl) rfl rfl convT) ?_
  refine JL_1 rfl (op_add (Ev.rfl' rfl) (Ev.rfl' rfl) wrapT) ?_
  refine JL_1 rfl (op_assign rfl) ?_
  refine JL_nil ?_
  refine JQ_then (JC_ret ?_)
  refine JQ_ret1 Try.results142 rfl () (SubL.eq ?_) (List.nil_sublist _)
  rfl
-- math/bits.Len: function 122
theorem Len_0 : FnP Try.prog 122 [Is (.int .u64 0)] (Is (.int .i64 0)) := by
  refine FnP.enter Try.func122 Try.ntmps122 rfl rfl ?_
  intro c hX
  refine JC_seq ?_
  refine JC_region ?_
  refine JL_1 rfl (op_assign rfl) ?_
  refine JL_nil ?_
  refine JQ_then (JC_seq ?_)
  refine JC_cond (Ev.rfl' rfl) (fun h0 => ?_) (fun h0 => ?_)
  · exact absurd h0 (by simp)
  refine JC_skip (JQ_then (JC_seq ?_))
  refine JC_region ?_
  refine JL_1 rfl (op_move rfl) ?_
  refine JL_1 rfl (op_call Try.call142 (Len64_0) ⟨evS, trivial⟩) ?_
  refine JL_1 rfl (op_assign rfl) ?_
  refine JL_nil ?_
  refine JQ_then (JC_ret ?_)
  refine JQ_ret1 Try.results122 rfl () (SubL.eq ?_) (List.nil_sublist _)
  rfl
-- math/bits.Len64: function 142
theorem Len64_1 : FnP Try.prog 142 [Is (.int .u64 1)] (Is (.int .i64 1)) := by
  refine FnP.enter Try.func142 Try.ntmps142 rfl rfl ?_
  intro c hX
  refine JC_seq ?_
  refine JC_region ?_
  refine JL_1 rfl (op_assign rfl) ?_
  refine JL_nil ?_
  refine JQ_then (JC_seq (JC_seq ?_))
  refine JC_region ?_
  refine JL_1 rfl (op_move rfl) ?_
  refine JL_1 rfl (op_geq (Ev.rfl' rfl) (Ev.rfl' rfl)) ?_
  refine JL_nil ?_
  refine JQ_then ?_
  refine JC_cond (Ev.rfl' rfl) (fun h1 => ?_) (fun h1 => ?_)
  · exact absurd (of_decide_eq_true h1) (by omega)
  refine JC_skip (JQ_then (JC_seq (JC_seq ?_)))
  refine JC_region ?_
  refine JL_1 rfl (op_move rfl) ?_
  refine JL_1 rfl (op_geq (Ev.rfl' rfl) (Ev.rfl' rfl)) ?_
  refine JL_nil ?_
  refine JQ_then ?_
  refine JC_cond (Ev.rfl' rfl) (fun h4 => ?_) (fun h4 => ?_)
  · exact absurd (of_decide_eq_true h4) (by omega)
  refine JC_skip (JQ_then (JC_seq (JC_seq ?_)))
  refine JC_region ?_
  refine JL_1 rfl (op_move rfl) ?_
  refine JL_1 rfl (op_geq (Ev.rfl' rfl) (Ev.rfl' rfl)) ?_
  refine JL_nil ?_
  refine JQ_then ?_
  refine JC_cond (Ev.rfl' rfl) (fun h7 => ?_) (fun h7 => ?_)
  · exact absurd (of_decide_eq_true h7) (by omega)
  refine JC_skip (JQ_then (JC_seq ?_))
  refine JC_region ?_
  refine JL_1 rfl (op_move rfl) ?_
  refine JL_1 rfl (op_move rfl) ?_
  refine JL_1 rfl (op_conv (Ev.rfl' rfl) rfl rfl convT) ?_
  refine JL_1 rfl (op_indexStr (k := 1) (b := 1) rfl (Ev.rfl' rfl) rfl rfl) ?_
  refine JL_1 rfl (op_conv (Ev.rfl' rfl) rfl rfl convT) ?_
  refine JL_1 rfl (op_add (Ev.rfl' rfl) (Ev.rfl' rfl) wrapT) ?_
  refine JL_1 rfl (op_assign rfl) ?_
  refine JL_nil ?_
  refine JQ_then (JC_ret ?_)
  refine JQ_ret1 Try.results142 rfl () (SubL.eq ?_) (List.nil_sublist _)
  rfl
-- math/bits.Len: function 122
theorem Len_1 : FnP Try.prog 122 [Is (.int .u64 1)] (Is (.int .i64 1)) := by
  refine FnP.enter Try.func122 Try.ntmps122 rfl rfl ?_
  intro c hX
  refine JC_seq ?_
  refine JC_region ?_
  refine JL_1 rfl (op_assign rfl) ?_
  refine JL_nil ?_
  refine JQ_then (JC_seq ?_)
  refine JC_cond (Ev.rfl' rfl) (fun h0 => ?_) (fun h0 => ?_)
  · exact absurd h0 (by simp)
  refine JC_skip (JQ_then (JC_seq ?_))
  refine JC_region ?_
  refine JL_1 rfl (op_move rfl) ?_
  refine JL_1 rfl (op_call Try.call142 (Len64_1) ⟨evS, trivial⟩) ?_
  refine JL_1 rfl (op_assign rfl) ?_
  refine JL_nil ?_
  refine JQ_then (JC_ret ?_)
  refine JQ_ret1 Try.results122 rfl () (SubL.eq ?_) (List.nil_sublist _)
  rfl
-- slices.insertionSortOrdered[int]: function 132
theorem insI_ok (n : Nat) (i : Option Addr × Nat) (hn : n ≤ 1) : FnP Try.prog 132 [Is (slV n i), Is (.int .i64 0), Is (.int .i64 (n : Nat))] (IsTup []) := by
  refine FnP.enter Try.func132 Try.ntmps132 rfl rfl ?_
  intro c hX
  refine JC_seq ?_
  refine JC_region ?_
  refine JL_1 rfl (op_move rfl) ?_
  refine JL_1 rfl (op_add (Ev.rfl' rfl) (Ev.rfl' rfl) wrapT) ?_
  refine JL_1 rfl (op_assign rfl) ?_
  refine JL_nil ?_
  refine JQ_then (JC_block ?_)
  refine JC_loopP (fun _ : Unit => True) (fun _ => [(2, Is (.int .i64 (n : Nat))), (6, Is (.int .i64 1))]) (fun _ => []) (fun _ => 0) () trivial esubT lessT ?_
  rintro _ _
  refine JC_seq (JC_seq ?_)
  refine JC_region ?_
  refine JL_1 rfl (op_move rfl) ?_
  refine JL_1 rfl (op_move rfl) ?_
  refine JL_1 rfl (op_lss (Ev.rfl' rfl) (Ev.rfl' rfl)) ?_
  refine JL_nil ?_
  refine JQ_then ?_
  refine JC_cond (Ev.rfl' rfl) (fun h1 => ?_) (fun h1 => ?_)
  · exact absurd (of_decide_eq_true h1) (by omega)
  refine JC_exit (JQ_then_exit (JQ_then_exit (JQ_hit (JQ_end ?_))))
  exact JQ_retP (Bs := []) Try.results132 trivial () SubL.rfl' lessT
-- slices.pdqsortOrdered[int]: function 121
theorem pdqI_ok (n : Nat) (i : Option Addr × Nat) (hn : n ≤ 1) : FnP Try.prog 121 [Is (slV n i), Is (.int .i64 0), Is (.int .i64 (n : Nat)), Is (.int .i64 (n : Nat))] (IsTup []) := by
  refine FnP.enter Try.func121 Try.ntmps121 rfl rfl ?_
  intro c hX
  refine JC_seq ?_
  refine JC_region ?_
  refine JL_1 rfl (op_assign rfl) ?_
  refine JL_nil ?_
  refine JQ_then (JC_seq ?_)
  refine JC_region ?_
  refine JL_1 rfl (op_assign rfl) ?_
  refine JL_nil ?_
  refine JQ_then (JC_block ?_)
  refine JC_loopP (fun _ : Unit => True) (fun _ => [(0, Is (slV n i)), (1, Is (.int .i64 0)), (2, Is (.int .i64 (n : Nat)))]) (fun _ => []) (fun _ => 0) () trivial esubT lessT ?_
  rintro _ _
  refine JC_block (JC_seq ?_)
  refine JC_region ?_
  refine JL_1 rfl (op_move rfl) ?_
  refine JL_1 rfl (op_move rfl) ?_
  refine JL_1 rfl (op_sub (Ev.rfl' rfl) (Ev.rfl' rfl) wrapT) ?_
  refine JL_1 rfl (op_assign rfl) ?_
  refine JL_nil ?_
  refine JQ_then (JC_seq (JC_seq ?_))
  refine JC_region ?_
  refine JL_1 rfl (op_move rfl) ?_
  refine JL_1 rfl (op_leq (Ev.rfl' rfl) (Ev.rfl' rfl)) ?_
  refine JL_nil ?_
  refine JQ_then ?_
  refine JC_cond (Ev.rfl' rfl) (fun h3 => ?_) (fun h3 => ?_)
  · refine JC_seq ?_
    refine JC_region ?_
    refine JL_1 rfl (op_move rfl) ?_
    refine JL_1 rfl (op_move rfl) ?_
    refine JL_1 rfl (op_move rfl) ?_
    refine JL_1 rfl (op_call Try.call132 (insI_ok n i hn) ⟨evS, ⟨evS, ⟨evS, trivial⟩⟩⟩) ?_
    refine JL_nil ?_
    refine JQ_then (JC_ret (JQ_then_ret (JQ_block_ret (JQ_then_ret (JQ_block_ret ?_)))))
    exact JQ_retP (Bs := []) Try.results121 trivial () SubL.rfl' lessT
  exact absurd (of_decide_eq_false h3) (by omega)
-- slices.Sort[[]int,int]: function 100
theorem SortI_0 (i : Option Addr × Nat) : FnP Try.prog 100 [Is (slV 0 i)] (IsTup []) := by
  refine FnP.enter Try.func100 Try.ntmps100 rfl rfl ?_
  intro c hX
  refine JC_seq ?_
  refine JC_region ?_
  refine JL_1 rfl (op_move rfl) ?_
  refine JL_1 rfl (by first | exact op_len (Ev.rfl' rfl) rfl | exact op_lenLit (Ev.rfl' rfl) rfl) ?_
  refine JL_1 rfl (op_assign rfl) ?_
  refine JL_nil ?_
  refine JQ_then ?_
  refine JC_region ?_
  refine JL_1 rfl (op_move rfl) ?_
  refine JL_1 rfl (op_move rfl) ?_
  refine JL_1 rfl (op_move rfl) ?_
  refine JL_1 rfl (op_conv (Ev.rfl' rfl) rfl rfl rfl) ?_
  refine JL_1 rfl (op_call Try.call122 (Len_0) ⟨evS, trivial⟩) ?_
  refine JL_1 rfl (by first | ((refine op_call Try.call121 (pdqI_ok 0 i ?_) ⟨evS, ⟨evS, ⟨evS, ⟨evS, trivial⟩⟩⟩⟩); all_goals (first | decide))) ?_
  refine JL_nil ?_
  refine JQ_end ?_
  exact JQ_retP (Bs := []) Try.results100 trivial () SubL.rfl' lessT
-- slices.Sort[[]int,int]: function 100
theorem SortI_1 (i : Option Addr × Nat) : FnP Try.prog 100 [Is (slV 1 i)] (IsTup []) := by
  refine FnP.enter Try.func100 Try.ntmps100 rfl rfl ?_
  intro c hX
  refine JC_seq ?_
  refine JC_region ?_
  refine JL_1 rfl (op_move rfl) ?_
  refine JL_1 rfl (by first | exact op_len (Ev.rfl' rfl) rfl | exact op_lenLit (Ev.rfl' rfl) rfl) ?_
  refine JL_1 rfl (op_assign rfl) ?_
  refine JL_nil ?_
  refine JQ_then ?_
  refine JC_region ?_
  refine JL_1 rfl (op_move rfl) ?_
  refine JL_1 rfl (op_move rfl) ?_
  refine JL_1 rfl (op_move rfl) ?_
  refine JL_1 rfl (op_conv (Ev.rfl' rfl) rfl rfl rfl) ?_
  refine JL_1 rfl (op_call Try.call122 (Len_1) ⟨evS, trivial⟩) ?_
  refine JL_1 rfl (by first | ((refine op_call Try.call121 (pdqI_ok 1 i ?_) ⟨evS, ⟨evS, ⟨evS, ⟨evS, trivial⟩⟩⟩⟩); all_goals (first | decide))) ?_
  refine JL_nil ?_
  refine JQ_end ?_
  exact JQ_retP (Bs := []) Try.results100 trivial () SubL.rfl' lessT
theorem SortI_ok (n : Nat) (i : Option Addr × Nat) (hn : n ≤ 1) : FnP Try.prog 100 [Is (slV n i)] (IsTup []) := by
  match n, hn with
  | 0, _ => exact SortI_0 i
  | 1, _ => exact SortI_1 i
-- slices.Compact[[]int,int]: function 101
theorem CompactI_ok (n : Nat) (i : Option Addr × Nat) (hn : n ≤ 1) : FnP Try.prog 101 [Is (slV n i)] (Is (slV n i)) := by
  refine FnP.enter Try.func101 Try.ntmps101 rfl rfl ?_
  intro c hX
  refine JC_seq ?_
  refine JC_region ?_
  refine JL_1 rfl (op_assign rfl) ?_
  refine JL_nil ?_
  refine JQ_then (JC_seq (JC_seq ?_))
  refine JC_region ?_
  refine JL_1 rfl (op_move rfl) ?_
  refine JL_1 rfl (by first | exact op_len (Ev.rfl' rfl) rfl | exact op_lenLit (Ev.rfl' rfl) rfl) ?_
  refine JL_1 rfl (op_lss (Ev.rfl' rfl) (Ev.rfl' rfl)) ?_
  refine JL_nil ?_
  refine JQ_then ?_
  refine JC_cond (Ev.rfl' rfl) (fun h1 => ?_) (fun h1 => ?_)
  · refine JC_seq ?_
    refine JC_region ?_
    refine JL_1 rfl (op_move rfl) ?_
    refine JL_1 rfl (op_assign rfl) ?_
    refine JL_nil ?_
    refine JQ_then (JC_ret (JQ_then_ret ?_))
    exact JQ_retP (Bs := [Is (slV n i)]) Try.results101 ⟨⟨_, rfl, subT⟩, trivial⟩ () SubL.rfl' lessT
  exact absurd (of_decide_eq_false h1) (by omega)
/-! ### The last known page -/
def latO (xs : List Pg) (l : Int) : Option Pg := (xs.filter fun p => decide (p.l = l)).getLast?
theorem lat_hit {xs : List Pg} {k : Nat} {l : Int} {p : Pg} (h : xs[k]? = some p) (hl : p.l = l) (hs : ∀ (j : Nat) q, k < j → xs[j]? = some q → q.l ≠ l) : latO xs l = some p := by
  obtain ⟨hk, rfl⟩ := List.getElem?_eq_some_iff.1 h
  have e : xs = xs.take k ++ (xs[k] :: xs.drop (k + 1)) := by rw [List.getElem_cons_drop, List.take_append_drop]
  have e2 : (xs.drop (k + 1)).filter (fun p => decide (p.l = l)) = [] := List.filter_eq_nil_iff.2 fun q hq => by
    obtain ⟨j, hj, rfl⟩ := List.getElem_of_mem hq
    have := hs (k + 1 + j) (xs.drop (k + 1))[j] (by omega) (by rw [← List.getElem?_drop, List.getElem?_eq_getElem hj])
    simpa using this
  unfold latO
  conv => lhs; rw [e]
  rw [List.filter_append, List.filter_cons, e2]
  simp [hl]
theorem lat_none {xs : List Pg} {l : Int} (hs : ∀ (j : Nat) q, xs[j]? = some q → q.l ≠ l) : latO xs l = none := by
  unfold latO
  rw [List.getLast?_eq_none_iff, List.filter_eq_nil_iff]
  intro q hq
  obtain ⟨j, hj, rfl⟩ := List.getElem_of_mem hq
  simpa using hs j _ (List.getElem?_eq_getElem hj)
-- pointer.Latest: function 86
theorem Latest_ok (xs : List Pg) (l : Int) : FnP Try.prog 86 [IsSl tPg xs, Is (.int .i64 l)] (IsTup [IsPg ((latO xs l).getD Pg.nil), Is (.bool (latO xs l).isSome)]) := by
  refine FnP.enter Try.func86 Try.ntmps86 rfl rfl ?_
  intro c hX
  refine JC_len (t := 0) rfl (fun hlen => ?_)
  refine JC_seq ?_
  refine JC_region ?_
  (refine JL_n rfl (op_allocN rfl nrmT rfl) ?_; intro i4)
  refine JL_1 rfl (op_assign rfl) ?_
  refine JL_nil ?_
  refine JQ_then (JC_seq (JC_seq ?_))
  refine JC_region ?_
  refine JL_1 rfl (op_move rfl) ?_
  refine JL_1 rfl (by first | exact op_len (Ev.rfl' rfl) rfl | exact op_lenLit (Ev.rfl' rfl) rfl) ?_
  refine JL_1 rfl (op_sub (Ev.rfl' rfl) (Ev.rfl' rfl) rfl) ?_
  refine JL_1 rfl (op_assign rfl) ?_
  refine JL_nil ?_
  refine JQ_then (JC_block ?_)
  refine JC_loopP (fun k : Nat => k ≤ xs.length ∧ ∀ (j : Nat) q, k ≤ j → xs[j]? = some q → q.l ≠ l) (fun k => [(0, IsSl tPg xs), (1, Is (.int .i64 l)), (4, Is (.pointer (some ⟨i4, 0, none⟩))), (6, Is (.int .i64 ((k : Int) - 1)))]) (fun _ => [blk i4 25 (tPg.cells Pg.nil)]) (fun k => k) xs.length ⟨Nat.le_refl _, fun j q hj hq => absurd (List.getElem?_eq_some_iff.1 hq).1 (by omega)⟩ ⟨⟨_, rfl, SubL.rfl'⟩, ⟨_, rfl, SubL.rfl'⟩, ⟨_, rfl, SubL.rfl'⟩, ⟨_, rfl, SubL.eq (ieq (wI64 (by omega)))⟩, trivial⟩ lessT ?_
  rintro k ⟨hk, hs⟩
  refine JC_seq (JC_seq ?_)
  refine JC_region ?_
  refine JL_1 rfl (op_move rfl) ?_
  refine JL_1 rfl (op_geq (Ev.rfl' rfl) (Ev.rfl' rfl)) ?_
  refine JL_nil ?_
  refine JQ_then ?_
  refine JC_cond (Ev.rfl' rfl) (fun h2 => ?_) (fun h2 => ?_)
  · have h' : 0 < k := by have := of_decide_eq_true h2; omega
    clear h2
    obtain ⟨k, rfl⟩ : ∃ j, k = j + 1 := ⟨k - 1, by omega⟩
    obtain ⟨z, hz⟩ : ∃ z, xs[k]? = some z := ⟨xs[k], List.getElem?_eq_getElem (by omega)⟩
    refine JC_skip (JQ_then (JC_seq (JC_block (JC_seq ?_))))
    refine JC_region ?_
    refine JL_1 rfl (op_move rfl) ?_
    refine JL_1 rfl (op_move rfl) ?_
    refine JL_1 rfl (by first | exact op_index (j := _) (Ev.rfl' rfl) (Ev.rfl' rfl) rfl rfl (by first | rfl | omega) hz | exact op_index (j := _) (Ev.rfl' rfl) (Ev.rfl' rfl) rfl rfl (by first | rfl | omega) (by assumption)) ?_
    refine JL_1 rfl (by first | exact op_fieldPtr (k := 0) (Ev.rfl' rfl) rfl rfl rfl rfl | exact op_fieldRefN (k := 0) (Ev.rfl' rfl) rfl rfl rfl rfl nrmT) ?_
    refine JL_1 rfl (by first | exact op_loadRef (Ev.rfl' rfl) rfl rfl rfl | exact op_loadPtr (Ev.rfl' rfl) memT (by rfl) (by rfl) (by rfl)) ?_
    refine JL_1 rfl (op_move rfl) ?_
    refine JL_1 rfl (op_eql (Ev.rfl' rfl) (Ev.rfl' rfl)) ?_
    refine JL_nil ?_
    refine JQ_then ?_
    refine JC_cond (Ev.rfl' rfl) (fun h4 => ?_) (fun h4 => ?_)
    · have hzl : z.l = l := by simpa using h4
      clear h4
      have e : latO xs l = some z := lat_hit hz hzl fun j q hj hq => hs j q (by omega) hq
      refine JC_seq ?_
      refine JC_region ?_
      refine JL_1 rfl (op_move rfl) ?_
      refine JL_1 rfl (op_move rfl) ?_
      refine JL_1 rfl (by first | exact op_index (j := _) (Ev.rfl' rfl) (Ev.rfl' rfl) rfl rfl (by first | rfl | omega) hz | exact op_index (j := _) (Ev.rfl' rfl) (Ev.rfl' rfl) rfl rfl (by first | rfl | omega) (by assumption)) ?_
      refine JL_1 rfl (by first | exact op_loadRefsN (n := 9) (Ev.rfl' rfl) rfl rfl rfl (by rfl) nrmT | exact op_loadPtrsN (n := 9) (Ev.rfl' rfl) memT (by rfl) (by rfl) (by rfl) (by rfl) nrmT) ?_
      refine JL_s0 (op_storeN (Ev.rfl' rfl) (Ev.rfl' rfl) cellsT replT nrmT (by rfl) (by rfl) (by rfl)) ?_
      refine JL_1 rfl (op_assign rfl) ?_
      refine JL_nil ?_
      refine JQ_then (JC_ret (JQ_block_ret (JQ_then_ret (JQ_then_ret (JQ_block_ret (JQ_then_ret ?_))))))
      exact JQ_ret (Bs := [IsPg z, Is (.bool true)]) Try.results86 ⟨⟨_, _, _, _, rfl, memT, rfl, .inr ⟨rfl, _, rfl, rfl, subT⟩⟩, ⟨⟨_, rfl, subT⟩, trivial⟩⟩ () (SubL.eq (by rw [e]; rfl)) (List.nil_sublist _)
    have hzl : ¬ z.l = l := by simpa using h4
    clear h4
    refine JC_skip (JQ_block (JQ_then ?_))
    refine JC_region ?_
    refine JL_1 rfl (op_move rfl) ?_
    refine JL_1 rfl (op_sub (Ev.rfl' rfl) (Ev.rfl' rfl) rfl) ?_
    refine JL_1 rfl (op_assign rfl) ?_
    refine JL_nil ?_
    exact JQ_roundP k ⟨by omega, fun j q hj hq => by
      by_cases hjk : j = k
      · subst hjk; rw [hz] at hq; cases hq; exact hzl
      · exact hs j q (by omega) hq⟩ (by omega) ⟨⟨_, rfl, SubL.rfl'⟩, ⟨_, rfl, SubL.rfl'⟩, ⟨_, rfl, SubL.rfl'⟩, ⟨_, rfl, SubL.eq (ieq (by rw [wI64 (by omega)]; omega))⟩, trivial⟩ lessT
  have h' : k = 0 := by have := of_decide_eq_false h2; omega
  subst h'
  clear h2
  have e : latO xs l = none := lat_none fun j q hq => hs j q (Nat.zero_le _) hq
  refine JC_exit (JQ_then_exit (JQ_then_exit (JQ_hit (JQ_then (JC_seq ?_)))))
  refine JC_region ?_
  refine JL_1 rfl (op_buildN (qs := []) rfl rfl rfl rfl trivial (by rfl) nrmT) ?_
  refine JL_s0 (op_storeN (Ev.rfl' rfl) (Ev.rfl' rfl) cellsT replT nrmT (by rfl) (by rfl) (by rfl)) ?_
  refine JL_1 rfl (op_assign rfl) ?_
  refine JL_nil ?_
  refine JQ_then (JC_ret ?_)
  exact JQ_ret (Bs := [IsPg Pg.nil, Is (.bool false)]) Try.results86 ⟨⟨_, _, _, _, rfl, memT, rfl, .inr ⟨rfl, _, rfl, rfl, subT⟩⟩, ⟨⟨_, rfl, subT⟩, trivial⟩⟩ () (SubL.eq (by rw [e]; rfl)) (List.nil_sublist _)
-- pointer.Locked: function 88
theorem Locked_ok (p : Pg) : FnP Try.prog 88 [IsPg p] (Is (.bool (UV (p.h &&& 255#64) != 0))) := by
  refine FnP.enter Try.func88 Try.ntmps88 rfl rfl ?_
  intro c hX
  refine JC_seq ?_
  refine JC_region ?_
  (refine JL_n rfl (op_box (Ev.rfl' rfl) cellsT) ?_; intro i1)
  refine JL_1 rfl (op_assign rfl) ?_
  refine JL_nil ?_
  refine JQ_then (JC_seq ?_)
  refine JC_region ?_
  refine JL_1 rfl (by first | exact op_fieldPtr (k := 1) (Ev.rfl' rfl) rfl rfl rfl rfl | exact op_fieldRefN (k := 1) (Ev.rfl' rfl) rfl rfl rfl rfl nrmT) ?_
  refine JL_1 rfl (by first | exact op_loadRef (Ev.rfl' rfl) rfl rfl rfl | exact op_loadPtr (Ev.rfl' rfl) memT (by rfl) (by rfl) (by rfl)) ?_
  refine JL_1 rfl (by first | exact op_bits ev64 ev64 (by simp) (and_u64 _ _) | exact op_bits (Ev.rfl' rfl) (Ev.rfl' rfl) (by simp) rfl) ?_
  refine JL_1 rfl (op_neq (Ev.rfl' rfl) (Ev.rfl' rfl)) ?_
  refine JL_1 rfl (op_assign rfl) ?_
  refine JL_nil ?_
  refine JQ_then (JC_ret ?_)
  refine JQ_ret1 Try.results88 rfl () (SubL.eq ?_) (List.nil_sublist _)
  rfl
/-! ### What is missing -/
def missV (ks : List Pg) (ls : List Int) : List Int := ls.filter fun l => (latO ks l).isNone
theorem miss_take {ks : List Pg} {ls : List Int} {k : Nat} {l : Int} (h : ls[k]? = some l) : missV ks (ls.take (k + 1)) = if (latO ks l).isNone = true then missV ks (ls.take k) ++ [l] else missV ks (ls.take k) := by
  unfold missV
  rw [List.take_add_one, h, List.filter_append]
  by_cases g : (latO ks l).isNone = true
  · rw [if_pos g]; simp [g]
  · rw [if_neg g]; simp [g]
-- segment.missing: function 79
theorem missing_ok (ks : List Pg) (ls : List Int) (hn : (missV ks ls).length ≤ 1) : FnP Try.prog 79 [IsSl tPg ks, IsSl tI64 ls] (IsSl tI64 (missV ks ls)) := by
  refine FnP.enter Try.func79 Try.ntmps79 rfl rfl ?_
  intro c hX
  refine JC_len (t := 1) rfl (fun hlen => ?_)
  refine JC_seq ?_
  refine JC_region ?_
  refine JL_1 rfl (op_assign rfl) ?_
  refine JL_nil ?_
  refine JQ_then (JC_seq ?_)
  refine JC_region ?_
  refine JL_1 rfl (op_assign rfl) ?_
  refine JL_nil ?_
  refine JQ_then (JC_seq (JC_seq ?_))
  refine JC_buf0 3 tI64 ?_
  refine JC_region ?_
  refine JL_1 rfl (op_move rfl) ?_
  refine JL_1 rfl (by first | exact op_len (Ev.rfl' rfl) rfl | exact op_lenLit (Ev.rfl' rfl) rfl) ?_
  refine JL_1 rfl (op_move rfl) ?_
  refine JL_nil ?_
  refine JQ_then (JC_block ?_)
  refine JC_loopP (fun z : Nat × (Option Addr × Nat) => z.1 ≤ ls.length) (fun z => [(0, IsSl tPg ks), (1, IsSl tI64 ls), (5, Is (slV (missV ks (ls.take z.1)).length z.2)), (10, IsSl tI64 ls), (11, Is (.int .i64 (ls.length : Nat))), (12, Is (.int .i64 (z.1 : Nat)))]) (fun z => [buf (slV (missV ks (ls.take z.1)).length z.2) 3 tI64 (missV ks (ls.take z.1))]) (fun z => ls.length - z.1) (0, (none, 0)) (Nat.zero_le _) esubT lessT ?_
  rintro ⟨k, s⟩ hk
  dsimp only at hk ⊢
  refine JC_seq ?_
  refine JC_region ?_
  refine JL_1 rfl (op_lss (Ev.rfl' rfl) (Ev.rfl' rfl)) ?_
  refine JL_nil ?_
  refine JQ_then (JC_seq ?_)
  refine JC_cond (Ev.rfl' rfl) (fun h3 => ?_) (fun h3 => ?_)
  · have hlt : k < ls.length := by have := of_decide_eq_true h3; omega
    clear h3
    obtain ⟨l, hz⟩ : ∃ z, ls[k]? = some z := ⟨ls[k], List.getElem?_eq_getElem hlt⟩
    have hmt := miss_take (ks := ks) hz
    have hml : (missV ks (ls.take k)).length ≤ (missV ks ls).length := ((List.take_sublist _ _).filter _).length_le
    refine JC_skip (JQ_then (JC_seq (JC_block (JC_seq ?_))))
    refine JC_region ?_
    refine JL_1 rfl (by first | exact op_index (j := _) (Ev.rfl' rfl) (Ev.rfl' rfl) rfl rfl (by first | rfl | omega) hz | exact op_index (j := _) (Ev.rfl' rfl) (Ev.rfl' rfl) rfl rfl (by first | rfl | omega) (by assumption)) ?_
    refine JL_1 rfl (by first | exact op_loadRef (Ev.rfl' rfl) rfl rfl rfl | exact op_loadPtr (Ev.rfl' rfl) memT (by rfl) (by rfl) (by rfl)) ?_
    refine JL_1 rfl (op_assign rfl) ?_
    refine JL_nil ?_
    refine JQ_then (JC_seq ?_)
    refine JC_region ?_
    refine JL_1 rfl (op_move rfl) ?_
    refine JL_1 rfl (op_move rfl) ?_
    refine JL_1 rfl (op_call Try.call86 (Latest_ok _ _) ⟨evS, ⟨evS, trivial⟩⟩) ?_
    refine JL_1 rfl (op_move rfl) ?_
    refine JL_1 rfl (op_extract (Ev.rfl' rfl) rfl) ?_
    refine JL_1 rfl (op_extract (Ev.rfl' rfl) rfl) ?_
    (refine JL_n rfl (op_allocN rfl nrmT rfl) ?_; intro i8)
    refine JL_s0 (op_storeN (Ev.rfl' rfl) (Ev.rfl' rfl) cellsT replT nrmT (by rfl) (by rfl) (by rfl)) ?_
    refine JL_1 rfl (op_assign rfl) ?_
    refine JL_nil ?_
    refine JQ_then (JC_seq ?_)
    refine JC_region ?_
    refine JL_1 rfl (op_move rfl) ?_
    refine JL_1 rfl (op_not (Ev.rfl' rfl)) ?_
    refine JL_nil ?_
    refine JQ_then ?_
    refine JC_cond (Ev.rfl' rfl) (fun h6 => ?_) (fun h6 => ?_)
    · have g : (latO ks l).isNone = true := by revert h6; cases latO ks l <;> simp
      clear h6
      rw [if_pos g] at hmt
      refine JC_region ?_
      refine JL_1 rfl (op_move rfl) ?_
      refine JL_1 rfl (op_move rfl) ?_
      refine JL_1 rfl (op_buildSlice (size := 1) (qs := [(0, _)]) rfl rfl rfl ⟨⟨rfl, _, (Ev.rfl' rfl), cellsT⟩, trivial⟩ (by rfl) (by rfl)) ?_
      (refine JL_s rfl (op_app (Ev.rfl' rfl) (fun _ => replT) (by first | exact Ev.rfl' rfl | exact Ev.sub rfl (by first | exact SubL.row (xs := [l]) (by rfl) (by rfl) subsT | exact subT)) (by exact appT rfl rfl rfl) lenT) ?_; intro i27)
      refine JL_1 rfl (op_assign rfl) ?_
      refine JL_nil ?_
      refine JQ_block (JQ_then ?_)
      refine JC_region ?_
      refine JL_1 rfl (op_add (Ev.rfl' rfl) (Ev.rfl' rfl) wrapT) ?_
      refine JL_1 rfl (op_move rfl) ?_
      refine JL_nil ?_
      rw [← hmt]
      first | exact JQ_roundP (k + 1, i27) (by dsimp only; omega) (by dsimp only; omega) esubT lessT | exact JQ_roundP (k + 1, s) (by dsimp only; omega) (by dsimp only; omega) esubT lessT
    have g : ¬ (latO ks l).isNone = true := by revert h6; cases latO ks l <;> simp
    clear h6
    rw [if_neg g] at hmt
    refine JC_skip (JQ_block (JQ_then ?_))
    refine JC_region ?_
    refine JL_1 rfl (op_add (Ev.rfl' rfl) (Ev.rfl' rfl) wrapT) ?_
    refine JL_1 rfl (op_move rfl) ?_
    refine JL_nil ?_
    rw [← hmt]
    first | exact JQ_roundP (k + 1, i27) (by dsimp only; omega) (by dsimp only; omega) esubT lessT | exact JQ_roundP (k + 1, s) (by dsimp only; omega) (by dsimp only; omega) esubT lessT
  have hke : k = ls.length := by have := of_decide_eq_false h3; omega
  subst hke
  clear h3
  rw [List.take_length]
  refine JC_exit (JQ_then_exit (JQ_then_exit (JQ_hit (JQ_then (JC_seq ?_)))))
  refine JC_region ?_
  refine JL_1 rfl (op_move rfl) ?_
  refine JL_1 rfl (op_call Try.call100 (SortI_ok _ _ hn) ⟨evS, trivial⟩) ?_
  refine JL_nil ?_
  refine JQ_then (JC_seq ?_)
  refine JC_region ?_
  refine JL_1 rfl (op_move rfl) ?_
  refine JL_1 rfl (op_call Try.call101 (CompactI_ok _ _ hn) ⟨evS, trivial⟩) ?_
  refine JL_1 rfl (op_assign rfl) ?_
  refine JL_nil ?_
  refine JQ_then (JC_ret ?_)
  refine JQ_freeze hX replT ?_
  exact JQ_ret (Bs := [IsSl tI64 (missV ks ls)]) Try.results79 ⟨⟨_, rfl, subT⟩, trivial⟩ () SubL.rfl' (List.nil_sublist _)
end Go.Proofs.Ytpfojangcgffkaa

/- Contracts: the segments of a bitmap; known node pages and header pages; segments without an owner. Own work. -/
namespace Go.Proofs.Ytpfojangcgffkaa
open Go.RowKit
set_option linter.unusedVariables false
set_option linter.unusedSimpArgs false
set_option maxRecDepth 100000
def bitB (bm : BitVec 32) (s : Nat) : Bool := UV ((bm >>> s) &&& 1#32) == 1
def ownV (bm : BitVec 32) : Nat → List Int
  | 0 => []
  | n + 1 => if bitB bm n = true then ownV bm n ++ [(n : Int)] else ownV bm n
theorem ownV_len (bm : BitVec 32) : ∀ n : Nat, (ownV bm n).length ≤ n
  | 0 => Nat.le_refl _
  | n + 1 => by
    have := ownV_len bm n
    unfold ownV
    split
    · rw [List.length_append, List.length_singleton]; omega
    · omega
-- segment.owned: function 82
theorem owned_ok (bm : BitVec 32) (n : Nat) (hn : n ≤ 9) : FnP Try.prog 82 [Is (.int .u32 (UV bm)), Is (.int .i64 (n : Nat))] (IsSl tI64 (ownV bm n)) := by
  refine FnP.enter Try.func82 Try.ntmps82 rfl rfl ?_
  intro c hX
  refine JC_seq ?_
  refine JC_region ?_
  refine JL_1 rfl (op_assign rfl) ?_
  refine JL_nil ?_
  refine JQ_then (JC_seq ?_)
  refine JC_region ?_
  refine JL_1 rfl (op_assign rfl) ?_
  refine JL_nil ?_
  refine JQ_then (JC_seq (JC_seq ?_))
  refine JC_buf0 3 tI64 ?_
  refine JC_region ?_
  refine JL_1 rfl (op_assign rfl) ?_
  refine JL_nil ?_
  refine JQ_then (JC_block ?_)
  refine JC_loopP (fun z : Nat × (Option Addr × Nat) => z.1 ≤ n) (fun z => [(0, Is (.int .u32 (UV bm))), (1, Is (.int .i64 (n : Nat))), (5, Is (slV (ownV bm z.1).length z.2)), (6, Is (.int .i64 (z.1 : Nat)))]) (fun z => [buf (slV (ownV bm z.1).length z.2) 3 tI64 (ownV bm z.1)]) (fun z => n - z.1) (0, (none, 0)) (Nat.zero_le _) esubT lessT ?_
  rintro ⟨k, s⟩ hk
  dsimp only at hk ⊢
  refine JC_seq (JC_seq ?_)
  refine JC_region ?_
  refine JL_1 rfl (op_move rfl) ?_
  refine JL_1 rfl (op_move rfl) ?_
  refine JL_1 rfl (op_lss (Ev.rfl' rfl) (Ev.rfl' rfl)) ?_
  refine JL_nil ?_
  refine JQ_then ?_
  refine JC_cond (Ev.rfl' rfl) (fun h3 => ?_) (fun h3 => ?_)
  · have hlt : k < n := by have := of_decide_eq_true h3; omega
    clear h3
    have hol := ownV_len bm k
    refine JC_skip (JQ_then (JC_seq (JC_block (JC_seq ?_))))
    refine JC_region ?_
    refine JL_1 rfl (op_move rfl) ?_
    refine JL_1 rfl (op_move rfl) ?_
    refine JL_1 rfl (op_conv (Ev.rfl' rfl) rfl rfl convT) ?_
    refine JL_1 rfl (by first | exact op_shrU32 (k := _) ev32 (Ev.rfl' rfl) (by first | omega | exact UV_nonneg _) idxT | exact op_shr (Ev.rfl' rfl) (Ev.rfl' rfl) (by first | omega | exact UV_nonneg _) rfl) ?_
    refine JL_1 rfl (by first | exact op_bits ev32 ev32 (by simp) (and_u32 _ _) | exact op_bits (Ev.rfl' rfl) (Ev.rfl' rfl) (by simp) rfl) ?_
    refine JL_1 rfl (op_eql (Ev.rfl' rfl) (Ev.rfl' rfl)) ?_
    refine JL_nil ?_
    refine JQ_then ?_
    refine JC_cond (Ev.rfl' rfl) (fun h5 => ?_) (fun h5 => ?_)
    · have g : bitB bm k = true := h5
      have hmt : ownV bm (k + 1) = ownV bm k ++ [(k : Int)] := by conv => lhs; unfold ownV; rw [if_pos g]
      clear h5
      refine JC_region ?_
      refine JL_1 rfl (op_move rfl) ?_
      refine JL_1 rfl (op_move rfl) ?_
      refine JL_1 rfl (op_buildSlice (size := 1) (qs := [(0, _)]) rfl rfl rfl ⟨⟨rfl, _, (Ev.rfl' rfl), cellsT⟩, trivial⟩ (by rfl) (by rfl)) ?_
      (refine JL_s rfl (op_app (Ev.rfl' rfl) (fun _ => replT) (by first | exact Ev.rfl' rfl | exact Ev.sub rfl (by first | exact SubL.row (xs := [(k : Int)]) (by rfl) (by rfl) subsT | exact subT)) (by exact appT rfl rfl rfl) lenT) ?_; intro i21)
      refine JL_1 rfl (op_assign rfl) ?_
      refine JL_nil ?_
      refine JQ_block (JQ_then ?_)
      refine JC_region ?_
      refine JL_1 rfl (op_move rfl) ?_
      refine JL_1 rfl (op_add (Ev.rfl' rfl) (Ev.rfl' rfl) wrapT) ?_
      refine JL_1 rfl (op_assign rfl) ?_
      refine JL_nil ?_
      rw [← hmt]
      first | exact JQ_roundP (k + 1, i21) (by dsimp only; omega) (by dsimp only; omega) esubT lessT | exact JQ_roundP (k + 1, s) (by dsimp only; omega) (by dsimp only; omega) esubT lessT
    have g : ¬ bitB bm k = true := fun e => Bool.noConfusion (show false = true from h5.symm.trans e)
    have hmt : ownV bm (k + 1) = ownV bm k := by conv => lhs; unfold ownV; rw [if_neg g]
    clear h5
    refine JC_skip (JQ_block (JQ_then ?_))
    refine JC_region ?_
    refine JL_1 rfl (op_move rfl) ?_
    refine JL_1 rfl (op_add (Ev.rfl' rfl) (Ev.rfl' rfl) wrapT) ?_
    refine JL_1 rfl (op_assign rfl) ?_
    refine JL_nil ?_
    rw [← hmt]
    first | exact JQ_roundP (k + 1, i21) (by dsimp only; omega) (by dsimp only; omega) esubT lessT | exact JQ_roundP (k + 1, s) (by dsimp only; omega) (by dsimp only; omega) esubT lessT
  have hke : k = n := by have := of_decide_eq_false h3; omega
  subst hke
  clear h3
  refine JC_exit (JQ_then_exit (JQ_then_exit (JQ_hit (JQ_then (JC_seq ?_)))))
  refine JC_region ?_
  refine JL_1 rfl (op_move rfl) ?_
  refine JL_1 rfl (op_assign rfl) ?_
  refine JL_nil ?_
  refine JQ_then (JC_ret ?_)
  refine JQ_freeze hX replT ?_
  exact JQ_ret (Bs := [IsSl tI64 (ownV bm k)]) Try.results82 ⟨⟨_, rfl, subT⟩, trivial⟩ () SubL.rfl' (List.nil_sublist _)
theorem map_take1 {ls : List Int} {k : Nat} {l : Int} (h : ls[k]? = some l) : (ls.take (k + 1)).map lineV = (ls.take k).map lineV ++ [lineV l] := by
  rw [List.take_add_one, h]; simp
-- segment.headerLines: function 81
theorem headerLines_ok (ls : List Int) (hn : ls.length ≤ 1048576) : FnP Try.prog 81 [IsSl tI64 ls] (IsSl tI64 (ls.map lineV)) := by
  refine FnP.enter Try.func81 Try.ntmps81 rfl rfl ?_
  intro c hX
  refine JC_len (t := 0) rfl (fun hlen => ?_)
  refine JC_seq ?_
  refine JC_region ?_
  refine JL_1 rfl (op_assign rfl) ?_
  refine JL_nil ?_
  refine JQ_then (JC_seq ?_)
  refine JC_region ?_
  refine JL_1 rfl (op_assign rfl) ?_
  refine JL_nil ?_
  refine JQ_then (JC_seq (JC_seq ?_))
  refine JC_buf0 3 tI64 ?_
  refine JC_region ?_
  refine JL_1 rfl (op_move rfl) ?_
  refine JL_1 rfl (by first | exact op_len (Ev.rfl' rfl) rfl | exact op_lenLit (Ev.rfl' rfl) rfl) ?_
  refine JL_1 rfl (op_move rfl) ?_
  refine JL_nil ?_
  refine JQ_then (JC_block ?_)
  refine JC_loopP (fun z : Nat × (Option Addr × Nat) => z.1 ≤ ls.length) (fun z => [(3, Is (slV ((ls.take z.1).map lineV).length z.2)), (6, IsSl tI64 ls), (7, Is (.int .i64 (ls.length : Nat))), (8, Is (.int .i64 (z.1 : Nat)))]) (fun z => [buf (slV ((ls.take z.1).map lineV).length z.2) 3 tI64 ((ls.take z.1).map lineV)]) (fun z => ls.length - z.1) (0, (none, 0)) (Nat.zero_le _) esubT lessT ?_
  rintro ⟨k, s⟩ hk
  dsimp only at hk ⊢
  refine JC_seq ?_
  refine JC_region ?_
  refine JL_1 rfl (op_lss (Ev.rfl' rfl) (Ev.rfl' rfl)) ?_
  refine JL_nil ?_
  refine JQ_then (JC_seq ?_)
  refine JC_cond (Ev.rfl' rfl) (fun h3 => ?_) (fun h3 => ?_)
  · have hlt : k < ls.length := by have := of_decide_eq_true h3; omega
    clear h3
    obtain ⟨l, hz⟩ : ∃ z, ls[k]? = some z := ⟨ls[k], List.getElem?_eq_getElem hlt⟩
    have hmt := map_take1 hz
    have hml : ((ls.take k).map lineV).length ≤ k := by simp; omega
    refine JC_skip (JQ_then (JC_seq (JC_block (JC_seq ?_))))
    refine JC_region ?_
    refine JL_1 rfl (by first | exact op_index (j := _) (Ev.rfl' rfl) (Ev.rfl' rfl) rfl rfl (by first | rfl | omega) hz | exact op_index (j := _) (Ev.rfl' rfl) (Ev.rfl' rfl) rfl rfl (by first | rfl | omega) (by assumption)) ?_
    refine JL_1 rfl (by first | exact op_loadRef (Ev.rfl' rfl) rfl rfl rfl | exact op_loadPtr (Ev.rfl' rfl) memT (by rfl) (by rfl) (by rfl)) ?_
    refine JL_1 rfl (op_assign rfl) ?_
    refine JL_nil ?_
    refine JQ_then ?_
    refine JC_region ?_
    refine JL_1 rfl (op_move rfl) ?_
    refine JL_1 rfl (op_move rfl) ?_
    refine JL_1 rfl (op_call Try.call31 (HeaderLine_ok _) ⟨evS, trivial⟩) ?_
    refine JL_1 rfl (op_buildSlice (size := 1) (qs := [(0, _)]) rfl rfl rfl ⟨⟨rfl, _, (Ev.rfl' rfl), cellsT⟩, trivial⟩ (by rfl) (by rfl)) ?_
    (refine JL_s rfl (op_app (Ev.rfl' rfl) (fun _ => replT) (by first | exact Ev.rfl' rfl | exact Ev.sub rfl (by first | exact SubL.row (xs := [lineV l]) (by rfl) (by rfl) subsT | exact subT)) (by exact appT rfl rfl rfl) lenT) ?_; intro i16)
    refine JL_1 rfl (op_assign rfl) ?_
    refine JL_nil ?_
    refine JQ_block (JQ_then ?_)
    refine JC_region ?_
    refine JL_1 rfl (op_add (Ev.rfl' rfl) (Ev.rfl' rfl) wrapT) ?_
    refine JL_1 rfl (op_move rfl) ?_
    refine JL_nil ?_
    rw [← hmt]
    exact JQ_roundP (k + 1, i16) (by dsimp only; omega) (by dsimp only; omega) esubT lessT
  have hke : k = ls.length := by have := of_decide_eq_false h3; omega
  subst hke
  clear h3
  rw [List.take_length]
  refine JC_exit (JQ_then_exit (JQ_then_exit (JQ_hit (JQ_then (JC_seq ?_)))))
  refine JC_region ?_
  refine JL_1 rfl (op_move rfl) ?_
  refine JL_1 rfl (op_assign rfl) ?_
  refine JL_nil ?_
  refine JQ_then (JC_ret ?_)
  refine JQ_freeze hX replT ?_
  exact JQ_ret (Bs := [IsSl tI64 (ls.map lineV)]) Try.results81 ⟨⟨_, rfl, subT⟩, trivial⟩ () SubL.rfl' (List.nil_sublist _)
/-! ### Known pages -/
def lockB (p : Pg) : Bool := UV (p.h &&& 255#64) != 0
def latP (ks : List Pg) (l : Int) : Pg := (latO ks l).getD Pg.nil
def latB (ks : List Pg) (l : Int) : Bool := (latO ks l).isSome
def nodeV (ks : List Pg) (c : Int) : Pg × Nd × Bool × Int :=
  if latB ks (98 + c) = true then (if lockB (latP ks (98 + c)) = true then (Pg.nil, Nd.nil, true, 3) else (latP ks (98 + c), (readN (latP ks (98 + c))).1, true, (readN (latP ks (98 + c))).2)) else (Pg.nil, Nd.nil, false, 0)
def headV (ks : List Pg) (s : Int) : Pg × Hd × Bool × Int :=
  if latB ks (lineV s) = true then (if lockB (latP ks (lineV s)) = true then (Pg.nil, Hd.nil, true, 3) else (latP ks (lineV s), (readH (latP ks (lineV s))).1, true, (readH (latP ks (lineV s))).2)) else (Pg.nil, Hd.nil, false, 0)
@[reducible] def IsNode (r : Pg × Nd × Bool × Int) : VP := IsTup [IsPg r.1, IsNd r.2.1, Is (.bool r.2.2.1), Is (.int .i64 r.2.2.2)]
@[reducible] def IsHead (r : Pg × Hd × Bool × Int) : VP := IsTup [IsPg r.1, IsHd r.2.1, Is (.bool r.2.2.1), Is (.int .i64 r.2.2.2)]
-- segment.node: function 80
theorem node_ok (ks : List Pg) (m : Int) (hc : 0 ≤ m ∧ m ≤ 1000) : FnP Try.prog 80 [IsSl tPg ks, Is (.int .i64 m)] (IsNode (nodeV ks m)) := by
  refine FnP.enter Try.func80 Try.ntmps80 rfl rfl ?_
  intro c hX
  refine JC_seq ?_
  refine JC_region ?_
  (refine JL_n rfl (op_allocN rfl nrmT rfl) ?_; intro i4)
  (refine JL_n rfl (op_allocN rfl nrmT rfl) ?_; intro i5)
  refine JL_1 rfl (op_assign rfl) ?_
  refine JL_1 rfl (op_assign rfl) ?_
  refine JL_nil ?_
  refine JQ_then (JC_seq ?_)
  refine JC_region ?_
  refine JL_1 rfl (op_move rfl) ?_
  refine JL_1 rfl (op_move rfl) ?_
  refine JL_1 rfl (op_add (Ev.rfl' rfl) (Ev.rfl' rfl) wrapT) ?_
  refine JL_1 rfl (op_call Try.call86 (Latest_ok _ _) ⟨evS, ⟨evS, trivial⟩⟩) ?_
  refine JL_1 rfl (op_move rfl) ?_
  refine JL_1 rfl (op_extract (Ev.rfl' rfl) rfl) ?_
  refine JL_1 rfl (op_extract (Ev.rfl' rfl) rfl) ?_
  refine JL_s0 (op_storeN (Ev.rfl' rfl) (Ev.rfl' rfl) cellsT replT nrmT (by rfl) (by rfl) (by rfl)) ?_
  refine JL_1 rfl (op_assign rfl) ?_
  refine JL_nil ?_
  refine JQ_then (JC_seq (JC_seq ?_))
  refine JC_region ?_
  refine JL_1 rfl (op_move rfl) ?_
  refine JL_1 rfl (op_not (Ev.rfl' rfl)) ?_
  refine JL_nil ?_
  refine JQ_then ?_
  refine JC_cond (Ev.rfl' rfl) (fun h2 => ?_) (fun h2 => ?_)
  · have g : latB ks (98 + m) = false := by unfold latB; simpa using h2
    have q : nodeV ks m = (Pg.nil, Nd.nil, false, 0) := by unfold nodeV; rw [if_neg (by rw [g]; simp)]
    rw [q]
    refine JC_seq ?_
    refine JC_region ?_
    refine JL_1 rfl (op_buildN (qs := []) rfl rfl rfl rfl trivial (by rfl) nrmT) ?_
    refine JL_1 rfl (op_buildN (qs := []) rfl rfl rfl rfl trivial (by rfl) nrmT) ?_
    refine JL_s0 (op_storeN (Ev.rfl' rfl) (Ev.rfl' rfl) cellsT replT nrmT (by rfl) (by rfl) (by rfl)) ?_
    refine JL_s0 (op_storeN (Ev.rfl' rfl) (Ev.rfl' rfl) cellsT replT nrmT (by rfl) (by rfl) (by rfl)) ?_
    refine JL_1 rfl (op_assign rfl) ?_
    refine JL_1 rfl (op_assign rfl) ?_
    refine JL_nil ?_
    refine JQ_then (JC_ret (JQ_then_ret ?_))
    exact JQ_ret (Bs := [IsPg Pg.nil, IsNd Nd.nil, Is (.bool false), Is (.int .i64 0)]) Try.results80 ⟨⟨_, _, _, _, rfl, memT, rfl, .inr ⟨rfl, _, rfl, rfl, subT⟩⟩, ⟨⟨_, _, _, _, rfl, memT, rfl, .inr ⟨rfl, _, rfl, rfl, subT⟩⟩, ⟨⟨_, rfl, subT⟩, ⟨⟨_, rfl, subT⟩, trivial⟩⟩⟩⟩ () SubL.rfl' (List.nil_sublist _)
  have g : latB ks (98 + m) = true := by unfold latB; simpa using h2
  refine JC_skip (JQ_then (JC_seq (JC_seq ?_)))
  refine JC_region ?_
  refine JL_1 rfl (by first | exact op_loadRefsN (n := 9) (Ev.rfl' rfl) rfl rfl rfl (by rfl) nrmT | exact op_loadPtrsN (n := 9) (Ev.rfl' rfl) memT (by rfl) (by rfl) (by rfl) (by rfl) nrmT) ?_
  refine JL_1 rfl (op_call Try.call88 (Locked_ok _) ⟨evS, trivial⟩) ?_
  refine JL_nil ?_
  refine JQ_then ?_
  refine JC_cond (Ev.rfl' rfl) (fun h4 => ?_) (fun h4 => ?_)
  · have g2 : lockB (latP ks (98 + m)) = true := h4
    have q : nodeV ks m = (Pg.nil, Nd.nil, true, 3) := by unfold nodeV; rw [if_pos g, if_pos g2]
    rw [q]
    refine JC_seq ?_
    refine JC_region ?_
    refine JL_1 rfl (op_buildN (qs := []) rfl rfl rfl rfl trivial (by rfl) nrmT) ?_
    refine JL_1 rfl (op_buildN (qs := []) rfl rfl rfl rfl trivial (by rfl) nrmT) ?_
    refine JL_s0 (op_storeN (Ev.rfl' rfl) (Ev.rfl' rfl) cellsT replT nrmT (by rfl) (by rfl) (by rfl)) ?_
    refine JL_s0 (op_storeN (Ev.rfl' rfl) (Ev.rfl' rfl) cellsT replT nrmT (by rfl) (by rfl) (by rfl)) ?_
    refine JL_1 rfl (op_assign rfl) ?_
    refine JL_1 rfl (op_assign rfl) ?_
    refine JL_nil ?_
    refine JQ_then (JC_ret (JQ_then_ret ?_))
    exact JQ_ret (Bs := [IsPg Pg.nil, IsNd Nd.nil, Is (.bool true), Is (.int .i64 3)]) Try.results80 ⟨⟨_, _, _, _, rfl, memT, rfl, .inr ⟨rfl, _, rfl, rfl, subT⟩⟩, ⟨⟨_, _, _, _, rfl, memT, rfl, .inr ⟨rfl, _, rfl, rfl, subT⟩⟩, ⟨⟨_, rfl, subT⟩, ⟨⟨_, rfl, subT⟩, trivial⟩⟩⟩⟩ () SubL.rfl' (List.nil_sublist _)
  have g2 : ¬ lockB (latP ks (98 + m)) = true := fun e => Bool.noConfusion ((show false = true from h4.symm.trans e))
  have q : nodeV ks m = (latP ks (98 + m), (readN (latP ks (98 + m))).1, true, (readN (latP ks (98 + m))).2) := by unfold nodeV; rw [if_pos g, if_neg g2]
  rw [q]
  clear h4
  refine JC_skip (JQ_then (JC_seq ?_))
  refine JC_region ?_
  refine JL_1 rfl (by first | exact op_loadRefsN (n := 9) (Ev.rfl' rfl) rfl rfl rfl (by rfl) nrmT | exact op_loadPtrsN (n := 9) (Ev.rfl' rfl) memT (by rfl) (by rfl) (by rfl) (by rfl) nrmT) ?_
  refine JL_1 rfl (op_call Try.call17 (ReadNode_ok _) ⟨evS, trivial⟩) ?_
  refine JL_1 rfl (op_move rfl) ?_
  refine JL_1 rfl (op_extract (Ev.rfl' rfl) rfl) ?_
  refine JL_1 rfl (op_extract (Ev.rfl' rfl) rfl) ?_
  refine JL_s0 (op_storeN (Ev.rfl' rfl) (Ev.rfl' rfl) cellsT replT nrmT (by rfl) (by rfl) (by rfl)) ?_
  refine JL_1 rfl (op_assign rfl) ?_
  refine JL_nil ?_
  refine JQ_then (JC_seq ?_)
  refine JC_dr rfl (by kernel_rfl) ?_
  refine JD_phase [1, 1, 0, 1, 1, 0, 0] (by kernel_rfl) (by kernel_rfl) ?_
  refine PW_1 (by first | exact op_loadRefsN (n := 9) (Ev.rfl' rfl) rfl rfl rfl (by rfl) nrmT | exact op_loadPtrsN (n := 9) (Ev.rfl' rfl) memT (by rfl) (by rfl) (by rfl) (by rfl) nrmT) ?_
  refine PW_1 (by first | exact op_loadRefsN (n := 16) (Ev.rfl' rfl) rfl rfl rfl (by rfl) nrmT | exact op_loadPtrsN (n := 16) (Ev.rfl' rfl) memT (by rfl) (by rfl) (by rfl) (by rfl) nrmT) ?_
  refine PW_0 (op_move rfl) ?_
  refine PW_3 (op_storeN (Ev.rfl' rfl) (Ev.rfl' rfl) cellsT replT nrmT (by rfl) (by rfl) (by rfl)) ?_
  refine PW_3 (op_storeN (Ev.rfl' rfl) (Ev.rfl' rfl) cellsT replT nrmT (by rfl) (by rfl) (by rfl)) ?_
  refine PW_0 (op_assign rfl) ?_
  refine PW_0 (op_assign rfl) ?_
  refine PW_end ?_
  refine JD_end ?_
  refine JQ_then (JC_ret ?_)
  exact JQ_ret (Bs := [IsPg (latP ks (98 + m)), IsNd (readN (latP ks (98 + m))).1, Is (.bool true), Is (.int .i64 (readN (latP ks (98 + m))).2)]) Try.results80 ⟨⟨_, _, _, _, rfl, memT, rfl, .inr ⟨rfl, _, rfl, rfl, subT⟩⟩, ⟨⟨_, _, _, _, rfl, memT, rfl, .inr ⟨rfl, _, rfl, rfl, subT⟩⟩, ⟨⟨_, rfl, subT⟩, ⟨⟨_, rfl, subT⟩, trivial⟩⟩⟩⟩ () SubL.rfl' (List.nil_sublist _)
-- segment.header: function 84
theorem header_ok (ks : List Pg) (m : Int) : FnP Try.prog 84 [IsSl tPg ks, Is (.int .i64 m)] (IsHead (headV ks m)) := by
  refine FnP.enter Try.func84 Try.ntmps84 rfl rfl ?_
  intro c hX
  refine JC_seq ?_
  refine JC_region ?_
  (refine JL_n rfl (op_allocN rfl nrmT rfl) ?_; intro i4)
  (refine JL_n rfl (op_allocN rfl nrmT rfl) ?_; intro i5)
  refine JL_1 rfl (op_assign rfl) ?_
  refine JL_1 rfl (op_assign rfl) ?_
  refine JL_nil ?_
  refine JQ_then (JC_seq ?_)
  refine JC_region ?_
  refine JL_1 rfl (op_move rfl) ?_
  refine JL_1 rfl (op_move rfl) ?_
  refine JL_1 rfl (op_call Try.call31 (HeaderLine_ok _) ⟨evS, trivial⟩) ?_
  refine JL_1 rfl (op_call Try.call86 (Latest_ok _ _) ⟨evS, ⟨evS, trivial⟩⟩) ?_
  refine JL_1 rfl (op_move rfl) ?_
  refine JL_1 rfl (op_extract (Ev.rfl' rfl) rfl) ?_
  refine JL_1 rfl (op_extract (Ev.rfl' rfl) rfl) ?_
  refine JL_s0 (op_storeN (Ev.rfl' rfl) (Ev.rfl' rfl) cellsT replT nrmT (by rfl) (by rfl) (by rfl)) ?_
  refine JL_1 rfl (op_assign rfl) ?_
  refine JL_nil ?_
  refine JQ_then (JC_seq (JC_seq ?_))
  refine JC_region ?_
  refine JL_1 rfl (op_move rfl) ?_
  refine JL_1 rfl (op_not (Ev.rfl' rfl)) ?_
  refine JL_nil ?_
  refine JQ_then ?_
  refine JC_cond (Ev.rfl' rfl) (fun h2 => ?_) (fun h2 => ?_)
  · have g : latB ks (lineV m) = false := by unfold latB; simpa using h2
    have q : headV ks m = (Pg.nil, Hd.nil, false, 0) := by unfold headV; rw [if_neg (by rw [g]; simp)]
    rw [q]
    refine JC_seq ?_
    refine JC_region ?_
    refine JL_1 rfl (op_buildN (qs := []) rfl rfl rfl rfl trivial (by rfl) nrmT) ?_
    refine JL_1 rfl (op_buildN (qs := []) rfl rfl rfl rfl trivial (by rfl) nrmT) ?_
    refine JL_s0 (op_storeN (Ev.rfl' rfl) (Ev.rfl' rfl) cellsT replT nrmT (by rfl) (by rfl) (by rfl)) ?_
    refine JL_s0 (op_storeN (Ev.rfl' rfl) (Ev.rfl' rfl) cellsT replT nrmT (by rfl) (by rfl) (by rfl)) ?_
    refine JL_1 rfl (op_assign rfl) ?_
    refine JL_1 rfl (op_assign rfl) ?_
    refine JL_nil ?_
    refine JQ_then (JC_ret (JQ_then_ret ?_))
    exact JQ_ret (Bs := [IsPg Pg.nil, IsHd Hd.nil, Is (.bool false), Is (.int .i64 0)]) Try.results84 ⟨⟨_, _, _, _, rfl, memT, rfl, .inr ⟨rfl, _, rfl, rfl, subT⟩⟩, ⟨⟨_, _, _, _, rfl, memT, rfl, .inr ⟨rfl, _, rfl, rfl, subT⟩⟩, ⟨⟨_, rfl, subT⟩, ⟨⟨_, rfl, subT⟩, trivial⟩⟩⟩⟩ () SubL.rfl' (List.nil_sublist _)
  have g : latB ks (lineV m) = true := by unfold latB; simpa using h2
  refine JC_skip (JQ_then (JC_seq (JC_seq ?_)))
  refine JC_region ?_
  refine JL_1 rfl (by first | exact op_loadRefsN (n := 9) (Ev.rfl' rfl) rfl rfl rfl (by rfl) nrmT | exact op_loadPtrsN (n := 9) (Ev.rfl' rfl) memT (by rfl) (by rfl) (by rfl) (by rfl) nrmT) ?_
  refine JL_1 rfl (op_call Try.call88 (Locked_ok _) ⟨evS, trivial⟩) ?_
  refine JL_nil ?_
  refine JQ_then ?_
  refine JC_cond (Ev.rfl' rfl) (fun h4 => ?_) (fun h4 => ?_)
  · have g2 : lockB (latP ks (lineV m)) = true := h4
    have q : headV ks m = (Pg.nil, Hd.nil, true, 3) := by unfold headV; rw [if_pos g, if_pos g2]
    rw [q]
    refine JC_seq ?_
    refine JC_region ?_
    refine JL_1 rfl (op_buildN (qs := []) rfl rfl rfl rfl trivial (by rfl) nrmT) ?_
    refine JL_1 rfl (op_buildN (qs := []) rfl rfl rfl rfl trivial (by rfl) nrmT) ?_
    refine JL_s0 (op_storeN (Ev.rfl' rfl) (Ev.rfl' rfl) cellsT replT nrmT (by rfl) (by rfl) (by rfl)) ?_
    refine JL_s0 (op_storeN (Ev.rfl' rfl) (Ev.rfl' rfl) cellsT replT nrmT (by rfl) (by rfl) (by rfl)) ?_
    refine JL_1 rfl (op_assign rfl) ?_
    refine JL_1 rfl (op_assign rfl) ?_
    refine JL_nil ?_
    refine JQ_then (JC_ret (JQ_then_ret ?_))
    exact JQ_ret (Bs := [IsPg Pg.nil, IsHd Hd.nil, Is (.bool true), Is (.int .i64 3)]) Try.results84 ⟨⟨_, _, _, _, rfl, memT, rfl, .inr ⟨rfl, _, rfl, rfl, subT⟩⟩, ⟨⟨_, _, _, _, rfl, memT, rfl, .inr ⟨rfl, _, rfl, rfl, subT⟩⟩, ⟨⟨_, rfl, subT⟩, ⟨⟨_, rfl, subT⟩, trivial⟩⟩⟩⟩ () SubL.rfl' (List.nil_sublist _)
  have g2 : ¬ lockB (latP ks (lineV m)) = true := fun e => Bool.noConfusion ((show false = true from h4.symm.trans e))
  have q : headV ks m = (latP ks (lineV m), (readH (latP ks (lineV m))).1, true, (readH (latP ks (lineV m))).2) := by unfold headV; rw [if_pos g, if_neg g2]
  rw [q]
  clear h4
  refine JC_skip (JQ_then (JC_seq ?_))
  refine JC_region ?_
  refine JL_1 rfl (by first | exact op_loadRefsN (n := 9) (Ev.rfl' rfl) rfl rfl rfl (by rfl) nrmT | exact op_loadPtrsN (n := 9) (Ev.rfl' rfl) memT (by rfl) (by rfl) (by rfl) (by rfl) nrmT) ?_
  refine JL_1 rfl (op_call Try.call15 (ReadHeader_ok _) ⟨evS, trivial⟩) ?_
  refine JL_1 rfl (op_move rfl) ?_
  refine JL_1 rfl (op_extract (Ev.rfl' rfl) rfl) ?_
  refine JL_1 rfl (op_extract (Ev.rfl' rfl) rfl) ?_
  refine JL_s0 (op_storeN (Ev.rfl' rfl) (Ev.rfl' rfl) cellsT replT nrmT (by rfl) (by rfl) (by rfl)) ?_
  refine JL_1 rfl (op_assign rfl) ?_
  refine JL_nil ?_
  refine JQ_then (JC_seq ?_)
  refine JC_dr rfl (by kernel_rfl) ?_
  refine JD_phase [1, 1, 0, 1, 1, 0, 0] (by kernel_rfl) (by kernel_rfl) ?_
  refine PW_1 (by first | exact op_loadRefsN (n := 9) (Ev.rfl' rfl) rfl rfl rfl (by rfl) nrmT | exact op_loadPtrsN (n := 9) (Ev.rfl' rfl) memT (by rfl) (by rfl) (by rfl) (by rfl) nrmT) ?_
  refine PW_1 (by first | exact op_loadRefsN (n := 2) (Ev.rfl' rfl) rfl rfl rfl (by rfl) nrmT | exact op_loadPtrsN (n := 2) (Ev.rfl' rfl) memT (by rfl) (by rfl) (by rfl) (by rfl) nrmT) ?_
  refine PW_0 (op_move rfl) ?_
  refine PW_3 (op_storeN (Ev.rfl' rfl) (Ev.rfl' rfl) cellsT replT nrmT (by rfl) (by rfl) (by rfl)) ?_
  refine PW_3 (op_storeN (Ev.rfl' rfl) (Ev.rfl' rfl) cellsT replT nrmT (by rfl) (by rfl) (by rfl)) ?_
  refine PW_0 (op_assign rfl) ?_
  refine PW_0 (op_assign rfl) ?_
  refine PW_end ?_
  refine JD_end ?_
  refine JQ_then (JC_ret ?_)
  exact JQ_ret (Bs := [IsPg (latP ks (lineV m)), IsHd (readH (latP ks (lineV m))).1, Is (.bool true), Is (.int .i64 (readH (latP ks (lineV m))).2)]) Try.results84 ⟨⟨_, _, _, _, rfl, memT, rfl, .inr ⟨rfl, _, rfl, rfl, subT⟩⟩, ⟨⟨_, _, _, _, rfl, memT, rfl, .inr ⟨rfl, _, rfl, rfl, subT⟩⟩, ⟨⟨_, rfl, subT⟩, ⟨⟨_, rfl, subT⟩, trivial⟩⟩⟩⟩ () SubL.rfl' (List.nil_sublist _)
end Go.Proofs.Ytpfojangcgffkaa

/- Contracts: the first segment without an owner; two pages in ascending order; a segment taken. Own work. -/
namespace Go.Proofs.Ytpfojangcgffkaa
open Go.RowKit
set_option linter.unusedVariables false
set_option linter.unusedSimpArgs false
set_option maxRecDepth 100000
theorem tmN (a b n : Nat) : ((a : Int) + (b : Int)).tmod (n : Int) = ((a + b) % n : Nat) := by
  rw [← Int.natCast_add, Int.tmod_eq_emod_of_nonneg (by omega), Int.natCast_emod]
def fstF (f : Nat → Bool) : Nat → Nat → Option Nat
  | _, 0 => none
  | k, n + 1 => if f k = true then some k else fstF f (k + 1) n
def freeB (ks : List Pg) (s : Nat) : Bool := (headV ks (s : Nat)).2.2.2 == 0 && (headV ks (s : Nat)).2.1.owner == -1
def unO (ks : List Pg) (st n : Nat) : Option Nat := fstF (fun i => freeB ks ((st + i) % n)) 0 n
theorem unO_step {ks : List Pg} {st n k : Nat} (hk : k < n) : fstF (fun i => freeB ks ((st + i) % n)) k (n - k) = if freeB ks ((st + k) % n) = true then some k else fstF (fun i => freeB ks ((st + i) % n)) (k + 1) (n - (k + 1)) := by
  obtain ⟨m, e⟩ : ∃ m, n - k = m + 1 := ⟨n - k - 1, by omega⟩
  rw [e, show n - (k + 1) = m by omega]
  rfl
def sV (ks : List Pg) (st n : Nat) : Nat := ((unO ks st n).map fun i => (st + i) % n).getD 0
def sB (ks : List Pg) (st n : Nat) : Bool := (unO ks st n).isSome
theorem fst_some {f : Nat → Bool} : ∀ {n k i : Nat}, fstF f k n = some i → f i = true ∧ k ≤ i ∧ i < k + n
  | 0, k, i, h => by simp [fstF] at h
  | n + 1, k, i, h => by
    unfold fstF at h
    split at h
    · rename_i g
      cases h
      exact ⟨g, Nat.le_refl _, by omega⟩
    · obtain ⟨h1, h2, h3⟩ := fst_some h
      exact ⟨h1, by omega, by omega⟩
theorem sB_yes {ks : List Pg} {st n : Nat} (h : sB ks st n = true) : freeB ks (sV ks st n) = true ∧ sV ks st n < n := by
  unfold sB at h
  obtain ⟨i, hi⟩ := Option.isSome_iff_exists.1 h
  obtain ⟨h1, _, h2⟩ := fst_some hi
  have e : sV ks st n = (st + i) % n := by unfold sV; rw [hi]; rfl
  rw [e]
  exact ⟨h1, Nat.mod_lt _ (by omega)⟩
-- segment.unowned: function 83
theorem unowned_ok (ks : List Pg) (st n : Nat) (hst : st ≤ 1000) (hn : n ≤ 9) : FnP Try.prog 83 [IsSl tPg ks, Is (.int .i64 (st : Nat)), Is (.int .i64 (n : Nat))] (IsTup [Is (.int .i64 (sV ks st n : Nat)), Is (.bool (sB ks st n))]) := by
  refine FnP.enter Try.func83 Try.ntmps83 rfl rfl ?_
  intro c hX
  refine JC_seq ?_
  refine JC_region ?_
  refine JL_1 rfl (op_assign rfl) ?_
  refine JL_1 rfl (op_assign rfl) ?_
  refine JL_nil ?_
  refine JQ_then (JC_seq (JC_seq ?_))
  refine JC_region ?_
  refine JL_1 rfl (op_assign rfl) ?_
  refine JL_nil ?_
  refine JQ_then (JC_block ?_)
  refine JC_loopP (fun k : Nat => k ≤ n ∧ unO ks st n = fstF (fun i => freeB ks ((st + i) % n)) k (n - k)) (fun k => [(0, IsSl tPg ks), (1, Is (.int .i64 (st : Nat))), (2, Is (.int .i64 (n : Nat))), (8, Is (.int .i64 (k : Nat)))]) (fun _ => []) (fun k => n - k) 0 ⟨Nat.zero_le _, rfl⟩ esubT lessT ?_
  rintro k ⟨hk, hs⟩
  refine JC_seq (JC_seq ?_)
  refine JC_region ?_
  refine JL_1 rfl (op_move rfl) ?_
  refine JL_1 rfl (op_move rfl) ?_
  refine JL_1 rfl (op_lss (Ev.rfl' rfl) (Ev.rfl' rfl)) ?_
  refine JL_nil ?_
  refine JQ_then ?_
  refine JC_cond (Ev.rfl' rfl) (fun h2 => ?_) (fun h2 => ?_)
  · have hlt : k < n := by have := of_decide_eq_true h2; omega
    clear h2
    have hm : (st + k) % n < n := Nat.mod_lt _ (by omega)
    rw [unO_step hlt] at hs
    refine JC_skip (JQ_then (JC_seq (JC_block (JC_seq ?_))))
    refine JC_region ?_
    refine JL_1 rfl (op_move rfl) ?_
    refine JL_1 rfl (op_move rfl) ?_
    refine JL_1 rfl (op_add (Ev.rfl' rfl) (Ev.rfl' rfl) wrapT) ?_
    refine JL_1 rfl (op_move rfl) ?_
    refine JL_1 rfl (op_rem (Ev.rfl' rfl) (Ev.rfl' rfl) (by omega) (tmN _ _ _)) ?_
    refine JL_1 rfl (op_assign rfl) ?_
    refine JL_nil ?_
    refine JQ_then (JC_seq ?_)
    refine JC_region ?_
    refine JL_1 rfl (op_move rfl) ?_
    refine JL_1 rfl (op_move rfl) ?_
    refine JL_1 rfl (op_call Try.call84 (header_ok _ _) ⟨evS, ⟨evS, trivial⟩⟩) ?_
    refine JL_1 rfl (op_move rfl) ?_
    refine JL_1 rfl (op_extract (Ev.rfl' rfl) rfl) ?_
    refine JL_1 rfl (op_extract (Ev.rfl' rfl) rfl) ?_
    refine JL_1 rfl (op_extract (Ev.rfl' rfl) rfl) ?_
    refine JL_1 rfl (op_extract (Ev.rfl' rfl) rfl) ?_
    (refine JL_n rfl (op_allocN rfl nrmT rfl) ?_; intro i10)
    (refine JL_n rfl (op_allocN rfl nrmT rfl) ?_; intro i11)
    refine JL_s0 (op_storeN (Ev.rfl' rfl) (Ev.rfl' rfl) cellsT replT nrmT (by rfl) (by rfl) (by rfl)) ?_
    refine JL_s0 (op_storeN (Ev.rfl' rfl) (Ev.rfl' rfl) cellsT replT nrmT (by rfl) (by rfl) (by rfl)) ?_
    refine JL_1 rfl (op_assign rfl) ?_
    refine JL_1 rfl (op_assign rfl) ?_
    refine JL_nil ?_
    refine JQ_then (JC_seq ?_)
    refine JC_region ?_
    refine JL_1 rfl (op_move rfl) ?_
    refine JL_1 rfl (op_eql (Ev.rfl' rfl) (Ev.rfl' rfl)) ?_
    refine JL_1 rfl (op_move rfl) ?_
    (first | refine JL_i0 rfl rfl rfl (fun hg => (by have hg0 := hg; (try simp at hg); first | exact op_fieldPtr (k := 0) evG rfl rfl rfl rfl | exact op_fieldRefN (k := 0) evG rfl rfl rfl rfl nrmT)) ?_ | refine JL_i rfl rfl rfl (fun hp hg => (by have hpg := Bool.and_eq_true_iff.2 ⟨hp, hg⟩; have hg0 := hg; (try simp at hg); first | exact op_fieldPtr (k := 0) evG rfl rfl rfl rfl | exact op_fieldRefN (k := 0) evG rfl rfl rfl rfl nrmT)) ?_)
    (first | refine JL_i0 rfl rfl rfl (fun hg => (by have hg0 := hg; (try simp at hg); first | exact op_loadRef evG rfl rfl rfl | exact op_loadPtr evG memT (by rfl) (by rfl) (by rfl))) ?_ | refine JL_i rfl rfl rfl (fun hp hg => (by have hpg := Bool.and_eq_true_iff.2 ⟨hp, hg⟩; have hg0 := hg; (try simp at hg); first | exact op_loadRef evG rfl rfl rfl | exact op_loadPtr evG memT (by rfl) (by rfl) (by rfl))) ?_)
    (first | refine JL_i0 rfl rfl rfl (fun hg => (by have hg0 := hg; (try simp at hg); exact op_eql evG evG)) ?_ | refine JL_i rfl rfl rfl (fun hp hg => (by have hpg := Bool.and_eq_true_iff.2 ⟨hp, hg⟩; have hg0 := hg; (try simp at hg); exact op_eql evG evG)) ?_)
    refine JL_1 rfl (op_and (Ev.rfl' rfl) rfl (fun h => by first | exact SubL.rfl' | exact SubL.iteT (by first | (rw [h]; rfl) | (simp_all; done)) SubL.rfl')) ?_
    refine JL_nil ?_
    refine JQ_then ?_
    refine JC_cond (Ev.rfl' rfl) (fun h6 => ?_) (fun h6 => ?_)
    · have g : freeB ks ((st + k) % n) = true := h6
      rw [if_pos g] at hs
      have e1 : sV ks st n = (st + k) % n := by unfold sV; rw [hs]; rfl
      have e2 : sB ks st n = true := by unfold sB; rw [hs]; rfl
      rw [e1, e2]
      refine JC_seq ?_
      refine JC_region ?_
      refine JL_1 rfl (op_move rfl) ?_
      refine JL_1 rfl (op_assign rfl) ?_
      refine JL_1 rfl (op_assign rfl) ?_
      refine JL_nil ?_
      refine JQ_then (JC_ret (JQ_block_ret (JQ_then_ret (JQ_then_ret (JQ_block_ret (JQ_then_ret ?_))))))
      exact JQ_ret (Bs := [Is (.int .i64 ((st + k) % n : Nat)), Is (.bool true)]) Try.results83 ⟨⟨_, rfl, subT⟩, ⟨⟨_, rfl, subT⟩, trivial⟩⟩ () SubL.rfl' (List.nil_sublist _)
    have g : ¬ freeB ks ((st + k) % n) = true := fun e => Bool.noConfusion (show false = true from h6.symm.trans e)
    rw [if_neg g] at hs
    refine JC_skip (JQ_block (JQ_then ?_))
    refine JC_region ?_
    refine JL_1 rfl (op_move rfl) ?_
    refine JL_1 rfl (op_add (Ev.rfl' rfl) (Ev.rfl' rfl) wrapT) ?_
    refine JL_1 rfl (op_assign rfl) ?_
    refine JL_nil ?_
    exact JQ_roundP (k + 1) ⟨by omega, hs⟩ (by omega) esubT lessT
  have hge : k = n := by have := of_decide_eq_false h2; omega
  subst hge
  have e : unO ks st k = none := by rw [hs, Nat.sub_self]; rfl
  have e1 : sV ks st k = 0 := by unfold sV; rw [e]; rfl
  have e2 : sB ks st k = false := by unfold sB; rw [e]; rfl
  rw [e1, e2]
  refine JC_exit (JQ_then_exit (JQ_then_exit (JQ_hit (JQ_then (JC_seq ?_)))))
  refine JC_region ?_
  refine JL_1 rfl (op_assign rfl) ?_
  refine JL_1 rfl (op_assign rfl) ?_
  refine JL_nil ?_
  refine JQ_then (JC_ret ?_)
  exact JQ_ret (Bs := [Is (.int .i64 (0 : Nat)), Is (.bool false)]) Try.results83 ⟨⟨_, rfl, subT⟩, ⟨⟨_, rfl, subT⟩, trivial⟩⟩ () SubL.rfl' (List.nil_sublist _)
theorem two_asc {a b : Pg} {ys : List Pg} (h : a.l < b.l) (hs : Srt Pg.l 0 2 ys) (hp : PI 0 2 [a, b] ys) : ys = [a, b] := by
  have hl : ys.length = 2 := hp.len
  have hd : (ys.map Pg.l).Nodup := ((hp.perm.map Pg.l).nodup_iff).2 (by simp; omega)
  exact asc_unique (key := Pg.l) hp.perm (srt_asc (by rw [hl]; exact hs) hd) (by simp [h])
def countN (l : Int) : Nat := (countV l).toNat
theorem countN_le (l : Int) : countN l ≤ 9 := by unfold countN; have := count_rng l; omega
theorem CountN_ok (l : Int) : FnP Try.prog 29 [Is (.int .i64 l)] (Is (.int .i64 (countN l : Nat))) := by
  have e : ((countN l : Nat) : Int) = countV l := by unfold countN; have := count_rng l; omega
  rw [e]
  exact Count_ok l
def hdrL (lines : Int) : List Int := (ownV 511#32 (countN lines)).map lineV
@[reducible] def ndS (n : Nd) (s : Nat) (inc : Int) : Nd := ⟨n.pin, n.ep, n.sg ||| BitVec.ofInt 32 1 <<< ((s : Nat) : Int).toNat, inc, n.r0, n.r1, n.r2, n.r3⟩
@[reducible] def hdS (h : Hd) (o : Int) : Hd := ⟨o, h.used⟩
def mineW (ks : List Pg) (c : Nat) (inc : Int) (s : Nat) : Pg := (writeN (nodeV ks c).1 (ndS (nodeV ks c).2.1 s inc)).1
def headW (ks : List Pg) (c s : Nat) : Pg := (writeH (headV ks s).1 (hdS (headV ks s).2.1 (c : Nat))).1
@[reducible] def IsAcq (r : List Int × List Pg × Nat × Int × Bool) : VP := IsTup [IsSl tI64 r.1, IsSl tPg r.2.1, Is (.int .i64 (r.2.2.1 : Nat)), Is (.int .i64 r.2.2.2.1), Is (.bool r.2.2.2.2)]
def acqV (ks : List Pg) (c : Nat) (inc lines : Int) : List Int × List Pg × Nat × Int × Bool :=
  if 0 < (missV ks [98 + (c : Int)]).length then (missV ks [98 + (c : Int)], [], 0, 0, false)
  else if (nodeV ks c).2.2.2 ≠ 0 then ([], [], 0, (nodeV ks c).2.2.2, true)
  else if 0 < (missV ks (hdrL lines)).length then (missV ks (hdrL lines), [], 0, 0, false)
  else if sB ks c (countN lines) = true then ([], [mineW ks c inc (sV ks c (countN lines)), headW ks c (sV ks c (countN lines))], sV ks c (countN lines), 0, true)
  else ([], [], 0, 12, true)
theorem free_have {ks : List Pg} {s : Nat} (h : freeB ks s = true) : (headV ks s).2.2.1 = true ∧ (headV ks s).2.2.2 = 0 ∧ (headV ks s).2.1.owner = -1 := by
  unfold freeB at h
  rw [Bool.and_eq_true, beq_iff_eq, beq_iff_eq] at h
  refine ⟨?_, h.1, h.2⟩
  have h2 := h.2
  revert h2
  unfold headV
  split
  · split <;> intro _ <;> rfl
  · intro e; exact absurd e (by decide)
theorem miss1 (ks : List Pg) (l : Int) : (missV ks [l]).length ≤ 1 := by
  unfold missV
  exact List.length_filter_le _ _
-- segment.Acquire: function 38
set_option maxHeartbeats 400000 in
theorem Acquire_ok (ks : List Pg) (cl : Nat) (inc lines : Int) (hc : cl < 6) (hi : 1 ≤ inc ∧ inc ≤ 59) (hz : sizeB lines = true) (h2m : ¬ 0 < (missV ks [98 + (cl : Int)]).length → (missV ks (hdrL lines)).length ≤ 1)
    (hlt : sB ks cl (countN lines) = true → (mineW ks cl inc (sV ks cl (countN lines))).l < (headW ks cl (sV ks cl (countN lines))).l) :
    FnP Try.prog 38 [IsAgg [Is (.int .i64 (cl : Nat)), Is (.int .i64 inc), Is (.int .i64 lines), Is (.int .i64 (-1))], IsSl tPg ks] (IsAcq (acqV ks cl inc lines)) := by
  have hcn := countN_le lines
  have hm1 := miss1 ks (98 + (cl : Int))
  have hol := ownV_len 511#32 (countN lines)
  have hcb : clientB (cl : Nat) = true := by unfold clientB; simp; omega
  refine FnP.enter Try.func38 Try.ntmps38 rfl rfl ?_
  intro c hX
  refine JC_seq ?_
  refine JC_region ?_
  (refine JL_n rfl (op_box (Ev.rfl' rfl) cellsT) ?_; intro i2)
  refine JL_1 rfl (op_assign rfl) ?_
  refine JL_1 rfl (op_assign rfl) ?_
  refine JL_1 rfl (op_assign rfl) ?_
  refine JL_1 rfl (op_assign rfl) ?_
  refine JL_1 rfl (op_assign rfl) ?_
  refine JL_nil ?_
  refine JQ_then (JC_seq (JC_seq ?_))
  refine JC_region ?_
  refine JL_1 rfl (by first | exact op_fieldPtr (k := 0) (Ev.rfl' rfl) rfl rfl rfl rfl | exact op_fieldRefN (k := 0) (Ev.rfl' rfl) rfl rfl rfl rfl nrmT) ?_
  refine JL_1 rfl (by first | exact op_loadRef (Ev.rfl' rfl) rfl rfl rfl | exact op_loadPtr (Ev.rfl' rfl) memT (by rfl) (by rfl) (by rfl)) ?_
  refine JL_1 rfl (op_call Try.call78 (isClient_ok _) ⟨evS, trivial⟩) ?_
  refine JL_1 rfl (op_not (Ev.rfl' rfl)) ?_
  refine JL_1 rfl (op_move rfl) ?_
  (first | refine JL_i0 rfl rfl rfl (fun hg => (by have hg0 := hg; (try simp at hg); first | exact op_fieldPtr (k := 1) evG rfl rfl rfl rfl | exact op_fieldRefN (k := 1) evG rfl rfl rfl rfl nrmT)) ?_ | refine JL_i rfl rfl rfl (fun hp hg => (by have hpg := Bool.and_eq_true_iff.2 ⟨hp, hg⟩; have hg0 := hg; (try simp at hg); first | exact op_fieldPtr (k := 1) evG rfl rfl rfl rfl | exact op_fieldRefN (k := 1) evG rfl rfl rfl rfl nrmT)) ?_)
  (first | refine JL_i0 rfl rfl rfl (fun hg => (by have hg0 := hg; (try simp at hg); first | exact op_loadRef evG rfl rfl rfl | exact op_loadPtr evG memT (by rfl) (by rfl) (by rfl))) ?_ | refine JL_i rfl rfl rfl (fun hp hg => (by have hpg := Bool.and_eq_true_iff.2 ⟨hp, hg⟩; have hg0 := hg; (try simp at hg); first | exact op_loadRef evG rfl rfl rfl | exact op_loadPtr evG memT (by rfl) (by rfl) (by rfl))) ?_)
  (first | refine JL_i0 rfl rfl rfl (fun hg => (by have hg0 := hg; (try simp at hg); exact op_lss evG evG)) ?_ | refine JL_i rfl rfl rfl (fun hp hg => (by have hpg := Bool.and_eq_true_iff.2 ⟨hp, hg⟩; have hg0 := hg; (try simp at hg); exact op_lss evG evG)) ?_)
  refine JL_1 rfl (op_or (Ev.rfl' rfl) rfl (fun h => by first | exact SubL.rfl' | exact SubL.iteT (by first | (rw [h]; rfl) | (simp_all; done)) SubL.rfl')) ?_
  refine JL_1 rfl (op_move rfl) ?_
  (first | refine JL_i0 rfl rfl rfl (fun hg => (by have hg0 := hg; (try simp at hg); first | exact op_fieldPtr (k := 1) evG rfl rfl rfl rfl | exact op_fieldRefN (k := 1) evG rfl rfl rfl rfl nrmT)) ?_ | refine JL_i rfl rfl rfl (fun hp hg => (by have hpg := Bool.and_eq_true_iff.2 ⟨hp, hg⟩; have hg0 := hg; (try simp at hg); first | exact op_fieldPtr (k := 1) evG rfl rfl rfl rfl | exact op_fieldRefN (k := 1) evG rfl rfl rfl rfl nrmT)) ?_)
  (first | refine JL_i0 rfl rfl rfl (fun hg => (by have hg0 := hg; (try simp at hg); first | exact op_loadRef evG rfl rfl rfl | exact op_loadPtr evG memT (by rfl) (by rfl) (by rfl))) ?_ | refine JL_i rfl rfl rfl (fun hp hg => (by have hpg := Bool.and_eq_true_iff.2 ⟨hp, hg⟩; have hg0 := hg; (try simp at hg); first | exact op_loadRef evG rfl rfl rfl | exact op_loadPtr evG memT (by rfl) (by rfl) (by rfl))) ?_)
  (first | refine JL_i0 rfl rfl rfl (fun hg => (by have hg0 := hg; (try simp at hg); exact op_gtr evG evG)) ?_ | refine JL_i rfl rfl rfl (fun hp hg => (by have hpg := Bool.and_eq_true_iff.2 ⟨hp, hg⟩; have hg0 := hg; (try simp at hg); exact op_gtr evG evG)) ?_)
  refine JL_1 rfl (op_or (Ev.rfl' rfl) rfl (fun h => by first | exact SubL.rfl' | exact SubL.iteT (by first | (rw [h]; rfl) | (simp_all; done)) SubL.rfl')) ?_
  refine JL_1 rfl (op_move rfl) ?_
  (first | refine JL_i0 rfl rfl rfl (fun hg => (by have hg0 := hg; (try simp at hg); first | exact op_fieldPtr (k := 2) evG rfl rfl rfl rfl | exact op_fieldRefN (k := 2) evG rfl rfl rfl rfl nrmT)) ?_ | refine JL_i rfl rfl rfl (fun hp hg => (by have hpg := Bool.and_eq_true_iff.2 ⟨hp, hg⟩; have hg0 := hg; (try simp at hg); first | exact op_fieldPtr (k := 2) evG rfl rfl rfl rfl | exact op_fieldRefN (k := 2) evG rfl rfl rfl rfl nrmT)) ?_)
  (first | refine JL_i0 rfl rfl rfl (fun hg => (by have hg0 := hg; (try simp at hg); first | exact op_loadRef evG rfl rfl rfl | exact op_loadPtr evG memT (by rfl) (by rfl) (by rfl))) ?_ | refine JL_i rfl rfl rfl (fun hp hg => (by have hpg := Bool.and_eq_true_iff.2 ⟨hp, hg⟩; have hg0 := hg; (try simp at hg); first | exact op_loadRef evG rfl rfl rfl | exact op_loadPtr evG memT (by rfl) (by rfl) (by rfl))) ?_)
  (first | refine JL_i0 rfl rfl rfl (fun hg => (by have hg0 := hg; (try simp at hg); exact op_call Try.call75 (isSize_ok _) ⟨evS, trivial⟩)) ?_ | refine JL_i rfl rfl rfl (fun hp hg => (by have hpg := Bool.and_eq_true_iff.2 ⟨hp, hg⟩; have hg0 := hg; (try simp at hg); exact op_call Try.call75 (isSize_ok _) ⟨evS, trivial⟩)) ?_)
  (first | refine JL_i0 rfl rfl rfl (fun hg => (by have hg0 := hg; (try simp at hg); exact op_not evG)) ?_ | refine JL_i rfl rfl rfl (fun hp hg => (by have hpg := Bool.and_eq_true_iff.2 ⟨hp, hg⟩; have hg0 := hg; (try simp at hg); exact op_not evG)) ?_)
  refine JL_1 rfl (op_or (Ev.rfl' rfl) rfl (fun h => by first | exact SubL.rfl' | exact SubL.iteT (by first | (rw [h]; rfl) | (simp_all; done)) SubL.rfl')) ?_
  refine JL_1 rfl (op_move rfl) ?_
  (first | refine JL_i0 rfl rfl rfl (fun hg => (by have hg0 := hg; (try simp at hg); first | exact op_fieldPtr (k := 3) evG rfl rfl rfl rfl | exact op_fieldRefN (k := 3) evG rfl rfl rfl rfl nrmT)) ?_ | refine JL_i rfl rfl rfl (fun hp hg => (by have hpg := Bool.and_eq_true_iff.2 ⟨hp, hg⟩; have hg0 := hg; (try simp at hg); first | exact op_fieldPtr (k := 3) evG rfl rfl rfl rfl | exact op_fieldRefN (k := 3) evG rfl rfl rfl rfl nrmT)) ?_)
  (first | refine JL_i0 rfl rfl rfl (fun hg => (by have hg0 := hg; (try simp at hg); first | exact op_loadRef evG rfl rfl rfl | exact op_loadPtr evG memT (by rfl) (by rfl) (by rfl))) ?_ | refine JL_i rfl rfl rfl (fun hp hg => (by have hpg := Bool.and_eq_true_iff.2 ⟨hp, hg⟩; have hg0 := hg; (try simp at hg); first | exact op_loadRef evG rfl rfl rfl | exact op_loadPtr evG memT (by rfl) (by rfl) (by rfl))) ?_)
  (first | refine JL_i0 rfl rfl rfl (fun hg => (by have hg0 := hg; (try simp at hg); exact op_lss evG evG)) ?_ | refine JL_i rfl rfl rfl (fun hp hg => (by have hpg := Bool.and_eq_true_iff.2 ⟨hp, hg⟩; have hg0 := hg; (try simp at hg); exact op_lss evG evG)) ?_)
  refine JL_1 rfl (op_or (Ev.rfl' rfl) rfl (fun h => by first | exact SubL.rfl' | exact SubL.iteT (by first | (rw [h]; rfl) | (simp_all; done)) SubL.rfl')) ?_
  refine JL_1 rfl (op_move rfl) ?_
  (first | refine JL_i0 rfl rfl rfl (fun hg => (by have hg0 := hg; (try simp at hg); first | exact op_fieldPtr (k := 3) evG rfl rfl rfl rfl | exact op_fieldRefN (k := 3) evG rfl rfl rfl rfl nrmT)) ?_ | refine JL_i rfl rfl rfl (fun hp hg => (by have hpg := Bool.and_eq_true_iff.2 ⟨hp, hg⟩; have hg0 := hg; (try simp at hg); first | exact op_fieldPtr (k := 3) evG rfl rfl rfl rfl | exact op_fieldRefN (k := 3) evG rfl rfl rfl rfl nrmT)) ?_)
  (first | refine JL_i0 rfl rfl rfl (fun hg => (by have hg0 := hg; (try simp at hg); first | exact op_loadRef evG rfl rfl rfl | exact op_loadPtr evG memT (by rfl) (by rfl) (by rfl))) ?_ | refine JL_i rfl rfl rfl (fun hp hg => (by have hpg := Bool.and_eq_true_iff.2 ⟨hp, hg⟩; have hg0 := hg; (try simp at hg); first | exact op_loadRef evG rfl rfl rfl | exact op_loadPtr evG memT (by rfl) (by rfl) (by rfl))) ?_)
  (first | refine JL_i0 rfl rfl rfl (fun hg => (by have hg0 := hg; (try simp at hg); exact op_geq evG evG)) ?_ | refine JL_i rfl rfl rfl (fun hp hg => (by have hpg := Bool.and_eq_true_iff.2 ⟨hp, hg⟩; have hg0 := hg; (try simp at hg); exact op_geq evG evG)) ?_)
  refine JL_1 rfl (op_or (Ev.rfl' rfl) rfl (fun h => by first | exact SubL.rfl' | exact SubL.iteT (by first | (rw [h]; rfl) | (simp_all; done)) SubL.rfl')) ?_
  refine JL_1 rfl (op_move rfl) ?_
  (first | refine JL_i0 rfl rfl rfl (fun hg => (by have hg0 := hg; (try simp at hg); first | exact op_fieldPtr (k := 3) evG rfl rfl rfl rfl | exact op_fieldRefN (k := 3) evG rfl rfl rfl rfl nrmT)) ?_ | refine JL_i rfl rfl rfl (fun hp hg => (by have hpg := Bool.and_eq_true_iff.2 ⟨hp, hg⟩; have hg0 := hg; (try simp at hg); first | exact op_fieldPtr (k := 3) evG rfl rfl rfl rfl | exact op_fieldRefN (k := 3) evG rfl rfl rfl rfl nrmT)) ?_)
  (first | refine JL_i0 rfl rfl rfl (fun hg => (by have hg0 := hg; (try simp at hg); first | exact op_loadRef evG rfl rfl rfl | exact op_loadPtr evG memT (by rfl) (by rfl) (by rfl))) ?_ | refine JL_i rfl rfl rfl (fun hp hg => (by have hpg := Bool.and_eq_true_iff.2 ⟨hp, hg⟩; have hg0 := hg; (try simp at hg); first | exact op_loadRef evG rfl rfl rfl | exact op_loadPtr evG memT (by rfl) (by rfl) (by rfl))) ?_)
  (first | refine JL_i0 rfl rfl rfl (fun hg => (by have hg0 := hg; (try simp at hg); first | exact op_fieldPtr (k := 0) evG rfl rfl rfl rfl | exact op_fieldRefN (k := 0) evG rfl rfl rfl rfl nrmT)) ?_ | refine JL_i rfl rfl rfl (fun hp hg => (by have hpg := Bool.and_eq_true_iff.2 ⟨hp, hg⟩; have hg0 := hg; (try simp at hg); first | exact op_fieldPtr (k := 0) evG rfl rfl rfl rfl | exact op_fieldRefN (k := 0) evG rfl rfl rfl rfl nrmT)) ?_)
  (first | refine JL_i0 rfl rfl rfl (fun hg => (by have hg0 := hg; (try simp at hg); first | exact op_loadRef evG rfl rfl rfl | exact op_loadPtr evG memT (by rfl) (by rfl) (by rfl))) ?_ | refine JL_i rfl rfl rfl (fun hp hg => (by have hpg := Bool.and_eq_true_iff.2 ⟨hp, hg⟩; have hg0 := hg; (try simp at hg); first | exact op_loadRef evG rfl rfl rfl | exact op_loadPtr evG memT (by rfl) (by rfl) (by rfl))) ?_)
  (first | refine JL_i0 rfl rfl rfl (fun hg => (by have hg0 := hg; (try simp at hg); exact op_eql evG evG)) ?_ | refine JL_i rfl rfl rfl (fun hp hg => (by have hpg := Bool.and_eq_true_iff.2 ⟨hp, hg⟩; have hg0 := hg; (try simp at hg); exact op_eql evG evG)) ?_)
  refine JL_1 rfl (op_or (Ev.rfl' rfl) rfl (fun h => by first | exact SubL.rfl' | exact SubL.iteT (by first | (rw [h]; rfl) | (simp_all; done)) SubL.rfl')) ?_
  refine JL_nil ?_
  refine JQ_then ?_
  refine JC_cond (Ev.rfl' rfl) (fun h1 => ?_) (fun h1 => ?_)
  · exact absurd h1 (by rw [hcb, hz]; simp; omega)
  clear h1
  refine JC_skip (JQ_then (JC_seq ?_))
  refine JC_region ?_
  refine JL_1 rfl (by first | exact op_fieldPtr (k := 0) (Ev.rfl' rfl) rfl rfl rfl rfl | exact op_fieldRefN (k := 0) (Ev.rfl' rfl) rfl rfl rfl rfl nrmT) ?_
  refine JL_1 rfl (by first | exact op_loadRef (Ev.rfl' rfl) rfl rfl rfl | exact op_loadPtr (Ev.rfl' rfl) memT (by rfl) (by rfl) (by rfl)) ?_
  refine JL_1 rfl (op_add (Ev.rfl' rfl) (Ev.rfl' rfl) wrapT) ?_
  refine JL_1 rfl (op_buildSlice (size := 1) (qs := [(0, _)]) rfl rfl rfl ⟨⟨rfl, _, (Ev.rfl' rfl), cellsT⟩, trivial⟩ (by rfl) (by rfl)) ?_
  refine JL_1 rfl (op_assign rfl) ?_
  refine JL_nil ?_
  refine JQ_then (JC_seq (JC_seq ?_))
  refine JC_region ?_
  refine JL_1 rfl (by first | exact op_fieldPtr (k := 3) (Ev.rfl' rfl) rfl rfl rfl rfl | exact op_fieldRefN (k := 3) (Ev.rfl' rfl) rfl rfl rfl rfl nrmT) ?_
  refine JL_1 rfl (by first | exact op_loadRef (Ev.rfl' rfl) rfl rfl rfl | exact op_loadPtr (Ev.rfl' rfl) memT (by rfl) (by rfl) (by rfl)) ?_
  refine JL_1 rfl (op_neq (Ev.rfl' rfl) (Ev.rfl' rfl)) ?_
  refine JL_nil ?_
  refine JQ_then ?_
  refine JC_cond (Ev.rfl' rfl) (fun h4 => ?_) (fun h4 => ?_)
  · exact absurd h4 (by simp)
  refine JC_skip (JQ_then (JC_seq (JC_seq ?_)))
  refine JC_region ?_
  refine JL_1 rfl (op_move rfl) ?_
  refine JL_1 rfl (op_move rfl) ?_
  refine JL_1 rfl (op_call Try.call79 (missing_ok _ [98 + (cl : Int)] hm1) ⟨evS, ⟨evS, trivial⟩⟩) ?_
  refine JL_1 rfl (op_assign rfl) ?_
  refine JL_nil ?_
  refine JQ_then (JC_seq ?_)
  refine JC_region ?_
  refine JL_1 rfl (op_move rfl) ?_
  refine JL_1 rfl (by first | exact op_len (Ev.rfl' rfl) rfl | exact op_lenLit (Ev.rfl' rfl) rfl) ?_
  refine JL_1 rfl (op_gtr (Ev.rfl' rfl) (Ev.rfl' rfl)) ?_
  refine JL_nil ?_
  refine JQ_then ?_
  refine JC_cond (Ev.rfl' rfl) (fun h7 => ?_) (fun h7 => ?_)
  · have g : 0 < (missV ks [98 + (cl : Int)]).length := by have := of_decide_eq_true h7; omega
    have e : acqV ks cl inc lines = (missV ks [98 + (cl : Int)], [], 0, 0, false) := by unfold acqV; rw [if_pos g]
    rw [e]
    refine JC_seq ?_
    refine JC_region ?_
    refine JL_1 rfl (op_move rfl) ?_
    refine JL_1 rfl (op_assign rfl) ?_
    refine JL_1 rfl (op_assign rfl) ?_
    refine JL_1 rfl (op_assign rfl) ?_
    refine JL_1 rfl (op_assign rfl) ?_
    refine JL_1 rfl (op_assign rfl) ?_
    refine JL_nil ?_
    refine JQ_then (JC_ret (JQ_then_ret ?_))
    exact JQ_ret (Bs := [IsSl tI64 (missV ks [98 + (cl : Int)]), IsSl tPg [], Is (.int .i64 (0 : Nat)), Is (.int .i64 0), Is (.bool false)]) Try.results38 ⟨⟨_, rfl, subT⟩, ⟨⟨_, rfl, subT⟩, ⟨⟨_, rfl, subT⟩, ⟨⟨_, rfl, subT⟩, ⟨⟨_, rfl, subT⟩, trivial⟩⟩⟩⟩⟩ () SubL.rfl' (List.nil_sublist _)
  have g : ¬ 0 < (missV ks [98 + (cl : Int)]).length := by have := of_decide_eq_false h7; omega
  clear h7
  refine JC_skip (JQ_then (JC_seq ?_))
  refine JC_region ?_
  refine JL_1 rfl (op_move rfl) ?_
  refine JL_1 rfl (by first | exact op_fieldPtr (k := 0) (Ev.rfl' rfl) rfl rfl rfl rfl | exact op_fieldRefN (k := 0) (Ev.rfl' rfl) rfl rfl rfl rfl nrmT) ?_
  refine JL_1 rfl (by first | exact op_loadRef (Ev.rfl' rfl) rfl rfl rfl | exact op_loadPtr (Ev.rfl' rfl) memT (by rfl) (by rfl) (by rfl)) ?_
  refine JL_1 rfl (by first | ((refine op_call Try.call80 (node_ok _ _ ?_) ⟨evS, ⟨evS, trivial⟩⟩); all_goals (first | omega))) ?_
  refine JL_1 rfl (op_move rfl) ?_
  refine JL_1 rfl (op_extract (Ev.rfl' rfl) rfl) ?_
  refine JL_1 rfl (op_extract (Ev.rfl' rfl) rfl) ?_
  refine JL_1 rfl (op_extract (Ev.rfl' rfl) rfl) ?_
  refine JL_1 rfl (op_extract (Ev.rfl' rfl) rfl) ?_
  (refine JL_n rfl (op_allocN rfl nrmT rfl) ?_; intro i10)
  (refine JL_n rfl (op_allocN rfl nrmT rfl) ?_; intro i11)
  refine JL_s0 (op_storeN (Ev.rfl' rfl) (Ev.rfl' rfl) cellsT replT nrmT (by rfl) (by rfl) (by rfl)) ?_
  refine JL_s0 (op_storeN (Ev.rfl' rfl) (Ev.rfl' rfl) cellsT replT nrmT (by rfl) (by rfl) (by rfl)) ?_
  refine JL_1 rfl (op_assign rfl) ?_
  refine JL_1 rfl (op_assign rfl) ?_
  refine JL_nil ?_
  refine JQ_then (JC_seq (JC_seq ?_))
  refine JC_region ?_
  refine JL_1 rfl (op_move rfl) ?_
  refine JL_1 rfl (op_neq (Ev.rfl' rfl) (Ev.rfl' rfl)) ?_
  refine JL_nil ?_
  refine JQ_then ?_
  refine JC_cond (Ev.rfl' rfl) (fun h10 => ?_) (fun h10 => ?_)
  · have g2 : (nodeV ks cl).2.2.2 ≠ 0 := by simpa using h10
    have e : acqV ks cl inc lines = ([], [], 0, (nodeV ks cl).2.2.2, true) := by unfold acqV; rw [if_neg g, if_pos g2]
    rw [e]
    refine JC_seq ?_
    refine JC_region ?_
    refine JL_1 rfl (op_move rfl) ?_
    refine JL_1 rfl (op_assign rfl) ?_
    refine JL_1 rfl (op_assign rfl) ?_
    refine JL_1 rfl (op_assign rfl) ?_
    refine JL_1 rfl (op_assign rfl) ?_
    refine JL_1 rfl (op_assign rfl) ?_
    refine JL_nil ?_
    refine JQ_then (JC_ret (JQ_then_ret ?_))
    exact JQ_ret (Bs := [IsSl tI64 [], IsSl tPg [], Is (.int .i64 (0 : Nat)), Is (.int .i64 (nodeV ks cl).2.2.2), Is (.bool true)]) Try.results38 ⟨⟨_, rfl, subT⟩, ⟨⟨_, rfl, subT⟩, ⟨⟨_, rfl, subT⟩, ⟨⟨_, rfl, subT⟩, ⟨⟨_, rfl, subT⟩, trivial⟩⟩⟩⟩⟩ () SubL.rfl' (List.nil_sublist _)
  have g2 : ¬ (nodeV ks cl).2.2.2 ≠ 0 := by simpa using h10
  clear h10
  refine JC_skip (JQ_then (JC_seq ?_))
  refine JC_region ?_
  (refine JL_n rfl (op_allocN rfl nrmT rfl) ?_; intro i13)
  refine JL_nil ?_
  refine JQ_then (JC_seq ?_)
  refine JC_region ?_
  (refine JL_n rfl (op_allocN rfl nrmT rfl) ?_; intro i14)
  refine JL_nil ?_
  refine JQ_then (JC_seq (JC_seq ?_))
  refine JC_region ?_
  refine JL_1 rfl (by first | exact op_fieldPtr (k := 3) (Ev.rfl' rfl) rfl rfl rfl rfl | exact op_fieldRefN (k := 3) (Ev.rfl' rfl) rfl rfl rfl rfl nrmT) ?_
  refine JL_1 rfl (by first | exact op_loadRef (Ev.rfl' rfl) rfl rfl rfl | exact op_loadPtr (Ev.rfl' rfl) memT (by rfl) (by rfl) (by rfl)) ?_
  refine JL_1 rfl (op_neq (Ev.rfl' rfl) (Ev.rfl' rfl)) ?_
  refine JL_nil ?_
  refine JQ_then ?_
  refine JC_cond (Ev.rfl' rfl) (fun h14 => ?_) (fun h14 => ?_)
  · exact absurd h14 (by simp)
  refine JC_skip (JQ_then (JC_seq ?_))
  refine JC_region ?_
  refine JL_1 rfl (by first | exact op_fieldPtr (k := 2) (Ev.rfl' rfl) rfl rfl rfl rfl | exact op_fieldRefN (k := 2) (Ev.rfl' rfl) rfl rfl rfl rfl nrmT) ?_
  refine JL_1 rfl (by first | exact op_loadRef (Ev.rfl' rfl) rfl rfl rfl | exact op_loadPtr (Ev.rfl' rfl) memT (by rfl) (by rfl) (by rfl)) ?_
  refine JL_1 rfl (op_call Try.call29 (CountN_ok _) ⟨evS, trivial⟩) ?_
  refine JL_1 rfl (op_assign rfl) ?_
  refine JL_nil ?_
  refine JQ_then (JC_seq (JC_seq ?_))
  refine JC_region ?_
  refine JL_1 rfl (by first | exact op_fieldPtr (k := 3) (Ev.rfl' rfl) rfl rfl rfl rfl | exact op_fieldRefN (k := 3) (Ev.rfl' rfl) rfl rfl rfl rfl nrmT) ?_
  refine JL_1 rfl (by first | exact op_loadRef (Ev.rfl' rfl) rfl rfl rfl | exact op_loadPtr (Ev.rfl' rfl) memT (by rfl) (by rfl) (by rfl)) ?_
  refine JL_1 rfl (op_eql (Ev.rfl' rfl) (Ev.rfl' rfl)) ?_
  refine JL_nil ?_
  refine JQ_then ?_
  refine JC_cond (Ev.rfl' rfl) (fun h19 => ?_) (fun h19 => ?_)
  · refine JC_seq (JC_seq ?_)
    refine JC_region ?_
    refine JL_1 rfl (op_move rfl) ?_
    refine JL_1 rfl (op_move rfl) ?_
    refine JL_1 rfl (op_call Try.call82 (owned_ok (511#32) _ hcn) ⟨evS, ⟨evS, trivial⟩⟩) ?_
    refine JL_1 rfl (by first | ((refine op_call Try.call81 (headerLines_ok _ ?_) ⟨evS, trivial⟩); all_goals (first | omega))) ?_
    refine JL_1 rfl (op_call Try.call79 (missing_ok _ _ (h2m g)) ⟨evS, ⟨evS, trivial⟩⟩) ?_
    refine JL_1 rfl (op_assign rfl) ?_
    refine JL_nil ?_
    refine JQ_then (JC_seq ?_)
    refine JC_region ?_
    refine JL_1 rfl (op_move rfl) ?_
    refine JL_1 rfl (by first | exact op_len (Ev.rfl' rfl) rfl | exact op_lenLit (Ev.rfl' rfl) rfl) ?_
    refine JL_1 rfl (op_gtr (Ev.rfl' rfl) (Ev.rfl' rfl)) ?_
    refine JL_nil ?_
    refine JQ_then ?_
    refine JC_cond (Ev.rfl' rfl) (fun h21 => ?_) (fun h21 => ?_)
    · have g3 : 0 < (missV ks (hdrL lines)).length := by have := of_decide_eq_true h21; omega
      have e : acqV ks cl inc lines = (missV ks (hdrL lines), [], 0, 0, false) := by unfold acqV; rw [if_neg g, if_neg g2, if_pos g3]
      rw [e]
      refine JC_seq ?_
      refine JC_region ?_
      refine JL_1 rfl (op_move rfl) ?_
      refine JL_1 rfl (op_assign rfl) ?_
      refine JL_1 rfl (op_assign rfl) ?_
      refine JL_1 rfl (op_assign rfl) ?_
      refine JL_1 rfl (op_assign rfl) ?_
      refine JL_1 rfl (op_assign rfl) ?_
      refine JL_nil ?_
      refine JQ_then (JC_ret (JQ_then_ret (JQ_then_ret ?_)))
      exact JQ_ret (Bs := [IsSl tI64 (missV ks (hdrL lines)), IsSl tPg [], Is (.int .i64 (0 : Nat)), Is (.int .i64 0), Is (.bool false)]) Try.results38 ⟨⟨_, rfl, subT⟩, ⟨⟨_, rfl, subT⟩, ⟨⟨_, rfl, subT⟩, ⟨⟨_, rfl, subT⟩, ⟨⟨_, rfl, subT⟩, trivial⟩⟩⟩⟩⟩ () SubL.rfl' (List.nil_sublist _)
    have g3 : ¬ 0 < (missV ks (hdrL lines)).length := by have := of_decide_eq_false h21; omega
    clear h21
    refine JC_skip (JQ_then (JC_seq ?_))
    refine JC_region ?_
    refine JL_1 rfl (op_assign rfl) ?_
    refine JL_nil ?_
    refine JQ_then (JC_seq ?_)
    refine JC_region ?_
    refine JL_1 rfl (op_move rfl) ?_
    refine JL_1 rfl (by first | exact op_fieldPtr (k := 0) (Ev.rfl' rfl) rfl rfl rfl rfl | exact op_fieldRefN (k := 0) (Ev.rfl' rfl) rfl rfl rfl rfl nrmT) ?_
    refine JL_1 rfl (by first | exact op_loadRef (Ev.rfl' rfl) rfl rfl rfl | exact op_loadPtr (Ev.rfl' rfl) memT (by rfl) (by rfl) (by rfl)) ?_
    refine JL_1 rfl (op_move rfl) ?_
    refine JL_1 rfl (by first | ((refine op_call Try.call83 (unowned_ok _ _ _ ?_ hcn) ⟨evS, ⟨evS, ⟨evS, trivial⟩⟩⟩); all_goals (first | omega))) ?_
    refine JL_1 rfl (op_move rfl) ?_
    refine JL_1 rfl (op_extract (Ev.rfl' rfl) rfl) ?_
    refine JL_1 rfl (op_extract (Ev.rfl' rfl) rfl) ?_
    refine JL_1 rfl (op_assign rfl) ?_
    refine JL_1 rfl (op_assign rfl) ?_
    refine JL_nil ?_
    refine JQ_then (JC_seq ?_)
    refine JC_region ?_
    refine JL_1 rfl (op_move rfl) ?_
    refine JL_1 rfl (op_not (Ev.rfl' rfl)) ?_
    refine JL_nil ?_
    refine JQ_then ?_
    refine JC_cond (Ev.rfl' rfl) (fun h25 => ?_) (fun h25 => ?_)
    · have g4 : ¬ sB ks cl (countN lines) = true := by simpa using h25
      have e : acqV ks cl inc lines = ([], [], 0, 12, true) := by unfold acqV; rw [if_neg g, if_neg g2, if_neg g3, if_neg g4]
      rw [e]
      refine JC_seq ?_
      refine JC_region ?_
      refine JL_1 rfl (op_assign rfl) ?_
      refine JL_1 rfl (op_assign rfl) ?_
      refine JL_1 rfl (op_assign rfl) ?_
      refine JL_1 rfl (op_assign rfl) ?_
      refine JL_1 rfl (op_assign rfl) ?_
      refine JL_nil ?_
      refine JQ_then (JC_ret (JQ_then_ret ?_))
      exact JQ_ret (Bs := [IsSl tI64 [], IsSl tPg [], Is (.int .i64 (0 : Nat)), Is (.int .i64 12), Is (.bool true)]) Try.results38 ⟨⟨_, rfl, subT⟩, ⟨⟨_, rfl, subT⟩, ⟨⟨_, rfl, subT⟩, ⟨⟨_, rfl, subT⟩, ⟨⟨_, rfl, subT⟩, trivial⟩⟩⟩⟩⟩ () SubL.rfl' (List.nil_sublist _)
    have g4 : sB ks cl (countN lines) = true := by simpa using h25
    obtain ⟨hfr, hsn⟩ := sB_yes g4
    obtain ⟨q1, q2, q3⟩ := free_have hfr
    have hlt' := hlt g4
    have e : acqV ks cl inc lines = ([], [mineW ks cl inc (sV ks cl (countN lines)), headW ks cl (sV ks cl (countN lines))], sV ks cl (countN lines), 0, true) := by unfold acqV; rw [if_neg g, if_neg g2, if_neg g3, if_pos g4]
    rw [e]
    unfold mineW headW at hlt' ⊢
    obtain ⟨s, hs⟩ : ∃ s, sV ks cl (countN lines) = s := ⟨_, rfl⟩
    rw [hs] at hlt' q1 q2 q3 hsn
    rw [hs]
    clear h25
    refine JC_skip (JQ_then (JC_seq ?_))
    refine JC_region ?_
    refine JL_1 rfl (op_move rfl) ?_
    refine JL_1 rfl (op_move rfl) ?_
    refine JL_1 rfl (op_call Try.call84 (header_ok _ _) ⟨evS, ⟨evS, trivial⟩⟩) ?_
    refine JL_1 rfl (op_move rfl) ?_
    refine JL_1 rfl (op_extract (Ev.rfl' rfl) rfl) ?_
    refine JL_1 rfl (op_extract (Ev.rfl' rfl) rfl) ?_
    refine JL_1 rfl (op_extract (Ev.rfl' rfl) rfl) ?_
    refine JL_1 rfl (op_extract (Ev.rfl' rfl) rfl) ?_
    (refine JL_n rfl (op_allocN rfl nrmT rfl) ?_; intro i18)
    (refine JL_n rfl (op_allocN rfl nrmT rfl) ?_; intro i19)
    refine JL_s0 (op_storeN (Ev.rfl' rfl) (Ev.rfl' rfl) cellsT replT nrmT (by rfl) (by rfl) (by rfl)) ?_
    refine JL_s0 (op_storeN (Ev.rfl' rfl) (Ev.rfl' rfl) cellsT replT nrmT (by rfl) (by rfl) (by rfl)) ?_
    refine JL_1 rfl (op_assign rfl) ?_
    refine JL_1 rfl (op_assign rfl) ?_
    refine JL_nil ?_
    refine JQ_then (JC_seq (JC_block (JC_seq ?_)))
    refine JC_region ?_
    refine JL_1 rfl (op_move rfl) ?_
    refine JL_1 rfl (op_not (Ev.rfl' rfl)) ?_
    refine JL_1 rfl (op_assign rfl) ?_
    refine JL_nil ?_
    refine JQ_then ?_
    refine JC_cond (Ev.rfl' rfl) (fun h32 => ?_) (fun h32 => ?_)
    · exact absurd h32 (by rw [q1]; simp)
    refine JC_seq ?_
    refine JC_region ?_
    refine JL_1 rfl (op_move rfl) ?_
    refine JL_1 rfl (op_neq (Ev.rfl' rfl) (Ev.rfl' rfl)) ?_
    refine JL_1 rfl (op_assign rfl) ?_
    refine JL_nil ?_
    refine JQ_then ?_
    refine JC_cond (Ev.rfl' rfl) (fun h34 => ?_) (fun h34 => ?_)
    · exact absurd h34 (by rw [q2]; simp)
    refine JC_seq ?_
    refine JC_region ?_
    refine JL_1 rfl (by first | exact op_fieldPtr (k := 0) (Ev.rfl' rfl) rfl rfl rfl rfl | exact op_fieldRefN (k := 0) (Ev.rfl' rfl) rfl rfl rfl rfl nrmT) ?_
    refine JL_1 rfl (by first | exact op_loadRef (Ev.rfl' rfl) rfl rfl rfl | exact op_loadPtr (Ev.rfl' rfl) memT (by rfl) (by rfl) (by rfl)) ?_
    refine JL_1 rfl (by first | exact op_fieldPtr (k := 3) (Ev.rfl' rfl) rfl rfl rfl rfl | exact op_fieldRefN (k := 3) (Ev.rfl' rfl) rfl rfl rfl rfl nrmT) ?_
    refine JL_1 rfl (by first | exact op_loadRef (Ev.rfl' rfl) rfl rfl rfl | exact op_loadPtr (Ev.rfl' rfl) memT (by rfl) (by rfl) (by rfl)) ?_
    refine JL_1 rfl (op_neq (Ev.rfl' rfl) (Ev.rfl' rfl)) ?_
    refine JL_1 rfl (op_assign rfl) ?_
    refine JL_nil ?_
    refine JQ_then ?_
    refine JC_cond (Ev.rfl' rfl) (fun h36 => ?_) (fun h36 => ?_)
    · exact absurd h36 (by rw [q3]; simp)
    refine JC_skip (JQ_block (JQ_then (JC_seq ?_)))
    refine JC_region ?_
    refine JL_1 rfl (by first | exact op_fieldPtr (k := 2) (Ev.rfl' rfl) rfl rfl rfl rfl | exact op_fieldRefN (k := 2) (Ev.rfl' rfl) rfl rfl rfl rfl nrmT) ?_
    refine JL_1 rfl (by first | exact op_loadRef (Ev.rfl' rfl) rfl rfl rfl | exact op_loadPtr (Ev.rfl' rfl) memT (by rfl) (by rfl) (by rfl)) ?_
    refine JL_1 rfl (op_move rfl) ?_
    refine JL_1 rfl (op_conv (Ev.rfl' rfl) rfl rfl convT) ?_
    refine JL_1 rfl (by first | exact op_shlU32 (k := _) ev32 (Ev.rfl' rfl) (by first | omega | exact UV_nonneg _) idxT | exact op_shl (Ev.rfl' rfl) (Ev.rfl' rfl) (by first | omega | exact UV_nonneg _) rfl) ?_
    refine JL_1 rfl (by first | exact op_bits ev32 ev32 (by simp) (or_u32 _ _) | exact op_bits (Ev.rfl' rfl) (Ev.rfl' rfl) (by simp) rfl) ?_
    refine JL_1 rfl (by first | exact op_fieldPtr (k := 2) (Ev.rfl' rfl) rfl rfl rfl rfl | exact op_fieldRefN (k := 2) (Ev.rfl' rfl) rfl rfl rfl rfl nrmT) ?_
    refine JL_s0 (op_storeN (Ev.rfl' rfl) (Ev.rfl' rfl) cellsT replT nrmT (by rfl) (by rfl) (by rfl)) ?_
    refine JL_nil ?_
    refine JQ_then (JC_seq ?_)
    refine JC_region ?_
    refine JL_1 rfl (by first | exact op_fieldPtr (k := 1) (Ev.rfl' rfl) rfl rfl rfl rfl | exact op_fieldRefN (k := 1) (Ev.rfl' rfl) rfl rfl rfl rfl nrmT) ?_
    refine JL_1 rfl (by first | exact op_loadRef (Ev.rfl' rfl) rfl rfl rfl | exact op_loadPtr (Ev.rfl' rfl) memT (by rfl) (by rfl) (by rfl)) ?_
    refine JL_1 rfl (by first | exact op_fieldPtr (k := 3) (Ev.rfl' rfl) rfl rfl rfl rfl | exact op_fieldRefN (k := 3) (Ev.rfl' rfl) rfl rfl rfl rfl nrmT) ?_
    refine JL_s0 (op_storeN (Ev.rfl' rfl) (Ev.rfl' rfl) cellsT replT nrmT (by rfl) (by rfl) (by rfl)) ?_
    refine JL_nil ?_
    refine JQ_then (JC_seq ?_)
    refine JC_region ?_
    refine JL_1 rfl (by first | exact op_fieldPtr (k := 0) (Ev.rfl' rfl) rfl rfl rfl rfl | exact op_fieldRefN (k := 0) (Ev.rfl' rfl) rfl rfl rfl rfl nrmT) ?_
    refine JL_1 rfl (by first | exact op_loadRef (Ev.rfl' rfl) rfl rfl rfl | exact op_loadPtr (Ev.rfl' rfl) memT (by rfl) (by rfl) (by rfl)) ?_
    refine JL_1 rfl (by first | exact op_fieldPtr (k := 0) (Ev.rfl' rfl) rfl rfl rfl rfl | exact op_fieldRefN (k := 0) (Ev.rfl' rfl) rfl rfl rfl rfl nrmT) ?_
    refine JL_s0 (op_storeN (Ev.rfl' rfl) (Ev.rfl' rfl) cellsT replT nrmT (by rfl) (by rfl) (by rfl)) ?_
    refine JL_nil ?_
    refine JQ_then (JC_seq ?_)
    refine JC_region ?_
    refine JL_1 rfl (by first | exact op_loadRefsN (n := 9) (Ev.rfl' rfl) rfl rfl rfl (by rfl) nrmT | exact op_loadPtrsN (n := 9) (Ev.rfl' rfl) memT (by rfl) (by rfl) (by rfl) (by rfl) nrmT) ?_
    refine JL_1 rfl (by first | exact op_loadRefsN (n := 16) (Ev.rfl' rfl) rfl rfl rfl (by rfl) nrmT | exact op_loadPtrsN (n := 16) (Ev.rfl' rfl) memT (by rfl) (by rfl) (by rfl) (by rfl) nrmT) ?_
    refine JL_1 rfl (op_call Try.call24 (WriteNode_ok _ (ndS (nodeV ks cl).2.1 s inc)) ⟨evS, ⟨evS, trivial⟩⟩) ?_
    refine JL_1 rfl (op_move rfl) ?_
    refine JL_1 rfl (op_extract (Ev.rfl' rfl) rfl) ?_
    refine JL_1 rfl (op_extract (Ev.rfl' rfl) rfl) ?_
    refine JL_s0 (op_storeN (Ev.rfl' rfl) (Ev.rfl' rfl) cellsT replT nrmT (by rfl) (by rfl) (by rfl)) ?_
    refine JL_nil ?_
    refine JQ_then (JC_seq ?_)
    refine JC_region ?_
    refine JL_1 rfl (by first | exact op_loadRefsN (n := 9) (Ev.rfl' rfl) rfl rfl rfl (by rfl) nrmT | exact op_loadPtrsN (n := 9) (Ev.rfl' rfl) memT (by rfl) (by rfl) (by rfl) (by rfl) nrmT) ?_
    refine JL_1 rfl (by first | exact op_loadRefsN (n := 2) (Ev.rfl' rfl) rfl rfl rfl (by rfl) nrmT | exact op_loadPtrsN (n := 2) (Ev.rfl' rfl) memT (by rfl) (by rfl) (by rfl) (by rfl) nrmT) ?_
    refine JL_1 rfl (op_call Try.call22 (WriteHeader_ok _ (hdS (headV ks s).2.1 cl)) ⟨evS, ⟨evS, trivial⟩⟩) ?_
    refine JL_1 rfl (op_move rfl) ?_
    refine JL_1 rfl (op_extract (Ev.rfl' rfl) rfl) ?_
    refine JL_1 rfl (op_extract (Ev.rfl' rfl) rfl) ?_
    refine JL_s0 (op_storeN (Ev.rfl' rfl) (Ev.rfl' rfl) cellsT replT nrmT (by rfl) (by rfl) (by rfl)) ?_
    refine JL_nil ?_
    refine JQ_then (JC_seq ?_)
    obtain ⟨a, ha⟩ : ∃ a, (writeN (nodeV ks cl).1 (ndS (nodeV ks cl).2.1 s inc)).1 = a := ⟨_, rfl⟩
    rw [ha] at hlt' ⊢
    obtain ⟨b, hb⟩ : ∃ b, (writeH (headV ks s).1 (hdS (headV ks s).2.1 cl)).1 = b := ⟨_, rfl⟩
    rw [hb] at hlt' ⊢
    refine JC_region ?_
    refine JL_1 rfl (by first | exact op_loadRefsN (n := 9) (Ev.rfl' rfl) rfl rfl rfl (by rfl) nrmT | exact op_loadPtrsN (n := 9) (Ev.rfl' rfl) memT (by rfl) (by rfl) (by rfl) (by rfl) nrmT) ?_
    refine JL_1 rfl (by first | exact op_loadRefsN (n := 9) (Ev.rfl' rfl) rfl rfl rfl (by rfl) nrmT | exact op_loadPtrsN (n := 9) (Ev.rfl' rfl) memT (by rfl) (by rfl) (by rfl) (by rfl) nrmT) ?_
    (refine JL_n rfl (op_buildSliceO (T := tPg) ([a, b]) (size := 9) (Rs := [a, b].flatMap tPg.cells) (qs := [(0, tPg.cells a), (1, tPg.cells b)]) rfl rfl rfl ⟨⟨rfl, _, (Ev.rfl' rfl), cellsT⟩, ⟨⟨rfl, _, (Ev.rfl' rfl), cellsT⟩, trivial⟩⟩ (by rfl) (by rfl) SubLs.rfl') ?_; intro i191)
    refine JL_1 rfl (op_assign rfl) ?_
    refine JL_nil ?_
    refine JQ_then (JC_seq (JC_seq ?_))
    refine JC_region ?_
    refine JL_1 rfl (by first | exact op_fieldPtr (k := 3) (Ev.rfl' rfl) rfl rfl rfl rfl | exact op_fieldRefN (k := 3) (Ev.rfl' rfl) rfl rfl rfl rfl nrmT) ?_
    refine JL_1 rfl (by first | exact op_loadRef (Ev.rfl' rfl) rfl rfl rfl | exact op_loadPtr (Ev.rfl' rfl) memT (by rfl) (by rfl) (by rfl)) ?_
    refine JL_1 rfl (op_neq (Ev.rfl' rfl) (Ev.rfl' rfl)) ?_
    refine JL_nil ?_
    refine JQ_then ?_
    refine JC_cond (Ev.rfl' rfl) (fun h44 => ?_) (fun h44 => ?_)
    · exact absurd h44 (by simp)
    refine JC_skip (JQ_then (JC_seq ?_))
    refine JC_region ?_
    refine JL_1 rfl (op_move rfl) ?_
    (refine JL_s rfl (by first | ((refine op_callT drop1T Try.call77 (ascending_ok [a, b] 2 (some ⟨i191, 0, none⟩, 2) rfl ?_) ⟨evS, trivial⟩); all_goals (first | simp))) ?_; intro i213)
    refine JL_1 rfl (op_move rfl) ?_
    refine JL_1 rfl (op_assign rfl) ?_
    refine JL_1 rfl (op_assign rfl) ?_
    refine JL_1 rfl (op_assign rfl) ?_
    refine JL_1 rfl (op_assign rfl) ?_
    refine JL_1 rfl (op_assign rfl) ?_
    refine JL_nil ?_
    refine JQ_then (JC_ret ?_)
    obtain ⟨ys, hy1, hy2⟩ := i213
    dsimp only
    have hy := two_asc hlt' hy1 hy2
    subst hy
    refine JQ_freeze hX (v := slV 2 (some ⟨i191, 0, none⟩, 2)) replT ?_
    exact JQ_ret (Bs := [IsSl tI64 [], IsSl tPg [a, b], Is (.int .i64 (s : Nat)), Is (.int .i64 0), Is (.bool true)]) Try.results38 ⟨⟨_, rfl, subT⟩, ⟨⟨_, rfl, subT⟩, ⟨⟨_, rfl, subT⟩, ⟨⟨_, rfl, subT⟩, ⟨⟨_, rfl, subT⟩, trivial⟩⟩⟩⟩⟩ () SubL.rfl' (List.nil_sublist _)
  exact absurd h19 (by simp)
end Go.Proofs.Ytpfojangcgffkaa

/- Contracts: a new heap; the example of the statements. Own work. -/
namespace Go.Proofs.Ytpfojangcgffkaa
open Go.RowKit
set_option linter.unusedVariables false
set_option linter.unusedSimpArgs false
set_option maxRecDepth 100000
def pgN (k : Nat) : Pg := ⟨96 + k, 256#64, 0#64, 0#64, 0#64, 0#64, 0#64, 0#64, 0#64⟩
def newL : Nat → List Pg
  | 0 => []
  | n + 1 => newL n ++ [pgN n]
theorem newL_len : ∀ n : Nat, (newL n).length = n
  | 0 => rfl
  | n + 1 => by unfold newL; rw [List.length_append, newL_len n]; rfl
theorem newL_succ (n : Nat) : newL (n + 1) = newL n ++ [pgN n] := rfl
@[reducible] def heapC (pv : Value) (lines : Int) : List VP := [Is pv, Is (.int .i64 lines), Is (.int .i64 0), Is (.slice none 0 0), Is (.int .i64 1), Is (.int .i64 0), Is (.int .u32 1)]
-- bodegaheap.New: function 36
theorem New_ok (n : Nat) (hn : n ≤ 200) : Fn Try.prog 36 [Is (.int .i64 (96 + (n : Int)))] [] (fun i : Nat × (Option Addr × Nat) => Is (.pointer (some ⟨i.1, 0, none⟩))) (fun i => [blk i.1 80 (heapC (slV n i.2) (96 + (n : Int))), buf (slV n i.2) 25 tPg (newL n)]) := by
  refine Fn.enterN Try.func36 Try.ntmps36 rfl rfl ?_
  intro c hX
  refine JC_seq ?_
  refine JC_region ?_
  refine JL_1 rfl (op_assign rfl) ?_
  refine JL_nil ?_
  refine JQ_then (JC_seq ?_)
  refine JC_region ?_
  refine JL_1 rfl (op_move rfl) ?_
  refine JL_1 rfl (op_buildN (qs := [(0, _), (2, _)]) rfl rfl rfl rfl ⟨⟨rfl, _, (Ev.rfl' rfl), cellsT⟩, ⟨⟨rfl, _, (Ev.rfl' rfl), cellsT⟩, trivial⟩⟩ (by rfl) nrmT) ?_
  refine JL_1 rfl (op_buildN (qs := [(1, _), (4, _)]) rfl rfl rfl rfl ⟨⟨rfl, _, (Ev.rfl' rfl), cellsT⟩, ⟨⟨rfl, _, (Ev.rfl' rfl), cellsT⟩, trivial⟩⟩ (by rfl) nrmT) ?_
  (refine JL_n rfl (op_box (Ev.rfl' rfl) cellsT) ?_; intro i8)
  refine JL_1 rfl (op_assign rfl) ?_
  refine JL_nil ?_
  refine JQ_then (JC_seq (JC_seq ?_))
  refine JC_buf0 25 tPg ?_
  refine JC_region ?_
  refine JL_1 rfl (op_assign rfl) ?_
  refine JL_nil ?_
  refine JQ_then (JC_block ?_)
  refine JC_loopP (fun z : Nat × (Option Addr × Nat) => z.1 ≤ n) (fun z => [(0, Is (.int .i64 (96 + (n : Int)))), (3, Is (.pointer (some ⟨i8, 0, none⟩))), (4, Is (.int .i64 (96 + (z.1 : Int))))]) (fun z => [blk i8 80 (heapC (slV (newL z.1).length z.2) (96 + (n : Int))), buf (slV (newL z.1).length z.2) 25 tPg (newL z.1)]) (fun z => n - z.1) (0, (none, 0)) (Nat.zero_le _) esubT lessT ?_
  rintro ⟨k, s⟩ hk
  dsimp only at hk ⊢
  have hkl := newL_len k
  refine JC_seq (JC_seq ?_)
  refine JC_region ?_
  refine JL_1 rfl (op_move rfl) ?_
  refine JL_1 rfl (op_move rfl) ?_
  refine JL_1 rfl (op_lss (Ev.rfl' rfl) (Ev.rfl' rfl)) ?_
  refine JL_nil ?_
  refine JQ_then ?_
  refine JC_cond (Ev.rfl' rfl) (fun h3 => ?_) (fun h3 => ?_)
  · have hlt : k < n := by have := of_decide_eq_true h3; omega
    clear h3
    refine JC_skip (JQ_then (JC_seq (JC_block ?_)))
    refine JC_region ?_
    refine JL_1 rfl (op_move rfl) ?_
    refine JL_1 rfl (op_move rfl) ?_
    refine JL_1 rfl (by first | exact op_nilCheck (Ev.rfl' rfl) | exact op_nilRef (Ev.rfl' rfl)) ?_
    refine JL_1 rfl (by first | exact op_fieldPtr (k := 0) (Ev.rfl' rfl) rfl rfl rfl rfl | exact op_fieldRefN (k := 0) (Ev.rfl' rfl) rfl rfl rfl rfl nrmT) ?_
    refine JL_1 rfl (by first | exact op_loadRef (Ev.rfl' rfl) rfl rfl rfl | exact op_loadPtr (Ev.rfl' rfl) memT (by rfl) (by rfl) (by rfl)) ?_
    refine JL_1 rfl (op_move rfl) ?_
    refine JL_1 rfl (op_buildN (qs := [(0, _), (1, _)]) rfl rfl rfl rfl ⟨⟨rfl, _, (Ev.rfl' rfl), cellsT⟩, ⟨⟨rfl, _, (Ev.rfl' rfl), cellsT⟩, trivial⟩⟩ (by rfl) nrmT) ?_
    refine JL_1 rfl (op_buildSlice (size := 9) (qs := [(0, _)]) rfl rfl rfl ⟨⟨rfl, _, (Ev.rfl' rfl), cellsT⟩, trivial⟩ (by rfl) (by rfl)) ?_
    (refine JL_s rfl (op_app (Ev.rfl' rfl) (fun _ => replT) (by first | exact Ev.rfl' rfl | exact Ev.sub rfl (by first | exact SubL.row (xs := [pgN k]) (by rfl) (by rfl) subsT | exact subT)) (by exact appT rfl rfl rfl) lenT) ?_; intro i22)
    refine JL_1 rfl (by first | exact op_nilCheck (Ev.rfl' rfl) | exact op_nilRef (Ev.rfl' rfl)) ?_
    refine JL_1 rfl (by first | exact op_fieldPtr (k := 0) (Ev.rfl' rfl) rfl rfl rfl rfl | exact op_fieldRefN (k := 0) (Ev.rfl' rfl) rfl rfl rfl rfl nrmT) ?_
    refine JL_s0 (op_storeN (Ev.rfl' rfl) (Ev.rfl' rfl) cellsT replT nrmT (by rfl) (by rfl) (by rfl)) ?_
    refine JL_nil ?_
    refine JQ_block (JQ_then ?_)
    refine JC_region ?_
    refine JL_1 rfl (op_move rfl) ?_
    refine JL_1 rfl (op_add (Ev.rfl' rfl) (Ev.rfl' rfl) wrapT) ?_
    refine JL_1 rfl (op_assign rfl) ?_
    refine JL_nil ?_
    rw [← newL_succ]
    exact JQ_roundP (k + 1, i22) (by dsimp only; omega) (by dsimp only; omega) ⟨⟨_, rfl, SubL.rfl'⟩, ⟨_, rfl, SubL.rfl'⟩, ⟨_, rfl, SubL.eq (ieq (by omega))⟩, trivial⟩ lessT
  have hke : k = n := by have := of_decide_eq_false h3; omega
  subst hke
  clear h3
  rw [hkl]
  refine JC_exit (JQ_then_exit (JQ_then_exit (JQ_hit (JQ_then (JC_seq ?_)))))
  refine JC_region ?_
  refine JL_1 rfl (op_move rfl) ?_
  refine JL_1 rfl (op_assign rfl) ?_
  refine JL_nil ?_
  refine JQ_then (JC_ret ?_)
  exact JQ_retP (Bs := [Is (.pointer (some ⟨i8, 0, none⟩))]) Try.results36 ⟨⟨_, rfl, subT⟩, trivial⟩ (i8, s) SubL.rfl' lessT
theorem acq0 : acqV [] 1 1 256 = ([99], [], 0, 0, false) := by rfl
theorem acq1 : ((acqV (newL 160) 1 1 256).1.length, (acqV (newL 160) 1 1 256).2.1.length, (acqV (newL 160) 1 1 256).2.2) = (0, 2, 1, 0, true) := by kernel_rfl
theorem acqH0 : ¬ 0 < (missV [] [98 + ((1 : Nat) : Int)]).length → (missV [] (hdrL 256)).length ≤ 1 := fun h => absurd (by decide) h
theorem acqH1 : (missV (newL 160) (hdrL 256)).length ≤ 1 := Nat.le_of_ble_eq_true (by kernel_rfl)
theorem acqL0 (h : sB [] 1 (countN 256) = true) : (mineW [] 1 1 (sV [] 1 (countN 256))).l < (headW [] 1 (sV [] 1 (countN 256))).l := absurd h (by decide)
theorem acqL1 : (mineW (newL 160) 1 1 (sV (newL 160) 1 (countN 256))).l < (headW (newL 160) 1 (sV (newL 160) 1 (countN 256))).l := of_decide_eq_true (by kernel_rfl)
-- bodegalaw20.awake: function 19
theorem awake_ok : FnP Try.prog 19 [] (Is (.bool true)) := by
  refine FnP.enter Try.func19 Try.ntmps19 rfl rfl ?_
  intro c hX
  refine JC_seq ?_
  refine JC_region ?_
  refine JL_1 rfl (op_assign rfl) ?_
  refine JL_nil ?_
  refine JQ_then (JC_seq ?_)
  refine JC_region ?_
  (refine JL_s rfl (by first | ((refine op_callN Try.call36 (New_ok 160 ?_) ⟨evS, trivial⟩); all_goals (first | decide))) ?_; intro i12)
  refine JL_1 rfl (op_assign rfl) ?_
  refine JL_nil ?_
  refine JQ_then (JC_seq ?_)
  refine JC_freeze hX (v := slV 160 i12.2) replT ?_
  refine JC_freezeB hX (b := i12.1) replT ?_
  refine JC_set 1 (IsRef (heapC (slV 160 i12.2) 256)) rfl (SubL.fact memT) ?_
  refine JC_region ?_
  refine JL_1 rfl (op_buildN (qs := [(0, _), (1, _), (2, _), (3, _)]) rfl rfl rfl rfl ⟨⟨rfl, _, (Ev.rfl' rfl), cellsT⟩, ⟨⟨rfl, _, (Ev.rfl' rfl), cellsT⟩, ⟨⟨rfl, _, (Ev.rfl' rfl), cellsT⟩, ⟨⟨rfl, _, (Ev.rfl' rfl), cellsT⟩, trivial⟩⟩⟩⟩ (by rfl) nrmT) ?_
  refine JL_1 rfl (by first | ((refine op_call Try.call38 (Acquire_ok [] 1 1 256 ?_ ?_ rfl acqH0 acqL0) ⟨evS, ⟨evS, trivial⟩⟩); all_goals (first | decide))) ?_
  refine JL_1 rfl (op_move rfl) ?_
  refine JL_1 rfl (op_extract (Ev.rfl' rfl) rfl) ?_
  refine JL_1 rfl (op_extract (Ev.rfl' rfl) rfl) ?_
  refine JL_1 rfl (op_extract (Ev.rfl' rfl) rfl) ?_
  refine JL_1 rfl (op_extract (Ev.rfl' rfl) rfl) ?_
  refine JL_1 rfl (op_extract (Ev.rfl' rfl) rfl) ?_
  refine JL_1 rfl (op_assign rfl) ?_
  refine JL_1 rfl (op_assign rfl) ?_
  refine JL_1 rfl (op_assign rfl) ?_
  refine JL_1 rfl (op_assign rfl) ?_
  refine JL_1 rfl (op_assign rfl) ?_
  refine JL_nil ?_
  refine JQ_then (JC_seq ?_)
  refine JC_region ?_
  refine JL_1 rfl (op_buildN (qs := [(0, _), (1, _), (2, _), (3, _)]) rfl rfl rfl rfl ⟨⟨rfl, _, (Ev.rfl' rfl), cellsT⟩, ⟨⟨rfl, _, (Ev.rfl' rfl), cellsT⟩, ⟨⟨rfl, _, (Ev.rfl' rfl), cellsT⟩, ⟨⟨rfl, _, (Ev.rfl' rfl), cellsT⟩, trivial⟩⟩⟩⟩ (by rfl) nrmT) ?_
  refine JL_1 rfl (op_move rfl) ?_
  refine JL_1 rfl (by first | exact op_nilCheck (Ev.rfl' rfl) | exact op_nilRef (Ev.rfl' rfl)) ?_
  refine JL_1 rfl (by first | exact op_fieldPtr (k := 0) (Ev.rfl' rfl) rfl rfl rfl rfl | exact op_fieldRefN (k := 0) (Ev.rfl' rfl) rfl rfl rfl rfl nrmT) ?_
  refine JL_1 rfl (by first | exact op_loadRef (Ev.rfl' rfl) rfl rfl rfl | exact op_loadPtr (Ev.rfl' rfl) memT (by rfl) (by rfl) (by rfl)) ?_
  refine JL_1 rfl (by first | ((refine op_call Try.call38 (Acquire_ok (newL 160) 1 1 256 ?_ ?_ rfl (fun _ => acqH1) (fun _ => acqL1)) ⟨evS, ⟨evS, trivial⟩⟩); all_goals (first | decide))) ?_
  refine JL_1 rfl (op_move rfl) ?_
  refine JL_1 rfl (op_extract (Ev.rfl' rfl) rfl) ?_
  refine JL_1 rfl (op_extract (Ev.rfl' rfl) rfl) ?_
  refine JL_1 rfl (op_extract (Ev.rfl' rfl) rfl) ?_
  refine JL_1 rfl (op_extract (Ev.rfl' rfl) rfl) ?_
  refine JL_1 rfl (op_extract (Ev.rfl' rfl) rfl) ?_
  refine JL_1 rfl (op_assign rfl) ?_
  refine JL_1 rfl (op_assign rfl) ?_
  refine JL_1 rfl (op_assign rfl) ?_
  refine JL_1 rfl (op_assign rfl) ?_
  refine JL_1 rfl (op_assign rfl) ?_
  refine JL_nil ?_
  refine JQ_then (JC_seq ?_)
  refine JC_region ?_
  refine JL_1 rfl (op_move rfl) ?_
  refine JL_1 rfl (op_not (Ev.rfl' rfl)) ?_
  refine JL_1 rfl (op_move rfl) ?_
  (first | refine JL_i0 rfl rfl rfl (fun hg => (by have hg0 := hg; (try simp at hg); first | exact op_moveE (Ev.sub rfl (SubL.iteT (by first | assumption | (simp; done) | (simp; omega) | (simp_all; done)) SubL.rfl')) | exact op_moveE (Ev.rfl' rfl))) ?_ | refine JL_i rfl rfl rfl (fun hp hg => (by have hpg := Bool.and_eq_true_iff.2 ⟨hp, hg⟩; have hg0 := hg; (try simp at hg); first | exact op_moveE (Ev.sub rfl (SubL.iteT (by first | assumption | (simp; done) | (simp; omega) | (simp_all; done)) SubL.rfl')) | exact op_moveE (Ev.rfl' rfl))) ?_)
  (first | refine JL_i0 rfl rfl rfl (fun hg => (by have hg0 := hg; (try simp at hg); first | exact op_len evG rfl | exact op_lenLit evG rfl)) ?_ | refine JL_i rfl rfl rfl (fun hp hg => (by have hpg := Bool.and_eq_true_iff.2 ⟨hp, hg⟩; have hg0 := hg; (try simp at hg); first | exact op_len evG rfl | exact op_lenLit evG rfl)) ?_)
  (first | refine JL_i0 rfl rfl rfl (fun hg => (by have hg0 := hg; (try simp at hg); exact op_eql evG evG)) ?_ | refine JL_i rfl rfl rfl (fun hp hg => (by have hpg := Bool.and_eq_true_iff.2 ⟨hp, hg⟩; have hg0 := hg; (try simp at hg); exact op_eql evG evG)) ?_)
  refine JL_1 rfl (op_and (Ev.rfl' rfl) rfl (fun h => by first | exact SubL.rfl' | exact SubL.iteT (by first | (rw [h]; rfl) | (simp_all; done)) SubL.rfl')) ?_
  refine JL_1 rfl (op_move rfl) ?_
  (first | refine JL_i0 rfl rfl rfl (fun hg => (by have hg0 := hg; (try simp at hg); first | exact op_moveE (Ev.sub rfl (SubL.iteT (by first | assumption | (simp; done) | (simp; omega) | (simp_all; done)) SubL.rfl')) | exact op_moveE (Ev.rfl' rfl))) ?_ | refine JL_i rfl rfl rfl (fun hp hg => (by have hpg := Bool.and_eq_true_iff.2 ⟨hp, hg⟩; have hg0 := hg; (try simp at hg); first | exact op_moveE (Ev.sub rfl (SubL.iteT (by first | assumption | (simp; done) | (simp; omega) | (simp_all; done)) SubL.rfl')) | exact op_moveE (Ev.rfl' rfl))) ?_)
  refine JL_1 rfl (op_and (Ev.rfl' rfl) rfl (fun h => by first | exact SubL.rfl' | exact SubL.iteT (by first | (rw [h]; rfl) | (simp_all; done)) SubL.rfl')) ?_
  refine JL_1 rfl (op_move rfl) ?_
  (first | refine JL_i0 rfl rfl rfl (fun hg => (by have hg0 := hg; (try simp at hg); first | exact op_moveE (Ev.sub rfl (SubL.iteT (by first | assumption | (simp; done) | (simp; omega) | (simp_all; done)) SubL.rfl')) | exact op_moveE (Ev.rfl' rfl))) ?_ | refine JL_i rfl rfl rfl (fun hp hg => (by have hpg := Bool.and_eq_true_iff.2 ⟨hp, hg⟩; have hg0 := hg; (try simp at hg); first | exact op_moveE (Ev.sub rfl (SubL.iteT (by first | assumption | (simp; done) | (simp; omega) | (simp_all; done)) SubL.rfl')) | exact op_moveE (Ev.rfl' rfl))) ?_)
  (first | refine JL_i0 rfl rfl rfl (fun hg => (by have hg0 := hg; (try simp at hg); exact op_eql evG evG)) ?_ | refine JL_i rfl rfl rfl (fun hp hg => (by have hpg := Bool.and_eq_true_iff.2 ⟨hp, hg⟩; have hg0 := hg; (try simp at hg); exact op_eql evG evG)) ?_)
  refine JL_1 rfl (op_and (Ev.rfl' rfl) rfl (fun h => by first | exact SubL.rfl' | exact SubL.iteT (by first | (rw [h]; rfl) | (simp_all; done)) SubL.rfl')) ?_
  refine JL_1 rfl (op_move rfl) ?_
  (first | refine JL_i0 rfl rfl rfl (fun hg => (by have hg0 := hg; (try simp at hg); first | exact op_moveE (Ev.sub rfl (SubL.iteT (by first | assumption | (simp; done) | (simp; omega) | (simp_all; done)) SubL.rfl')) | exact op_moveE (Ev.rfl' rfl))) ?_ | refine JL_i rfl rfl rfl (fun hp hg => (by have hpg := Bool.and_eq_true_iff.2 ⟨hp, hg⟩; have hg0 := hg; (try simp at hg); first | exact op_moveE (Ev.sub rfl (SubL.iteT (by first | assumption | (simp; done) | (simp; omega) | (simp_all; done)) SubL.rfl')) | exact op_moveE (Ev.rfl' rfl))) ?_)
  (first | refine JL_i0 rfl rfl rfl (fun hg => (by have hg0 := hg; (try simp at hg); exact op_eql evG evG)) ?_ | refine JL_i rfl rfl rfl (fun hp hg => (by have hpg := Bool.and_eq_true_iff.2 ⟨hp, hg⟩; have hg0 := hg; (try simp at hg); exact op_eql evG evG)) ?_)
  refine JL_1 rfl (op_and (Ev.rfl' rfl) rfl (fun h => by first | exact SubL.rfl' | exact SubL.iteT (by first | (rw [h]; rfl) | (simp_all; done)) SubL.rfl')) ?_
  refine JL_1 rfl (op_move rfl) ?_
  (first | refine JL_i0 rfl rfl rfl (fun hg => (by have hg0 := hg; (try simp at hg); first | exact op_moveE (Ev.sub rfl (SubL.iteT (by first | assumption | (simp; done) | (simp; omega) | (simp_all; done)) SubL.rfl')) | exact op_moveE (Ev.rfl' rfl))) ?_ | refine JL_i rfl rfl rfl (fun hp hg => (by have hpg := Bool.and_eq_true_iff.2 ⟨hp, hg⟩; have hg0 := hg; (try simp at hg); first | exact op_moveE (Ev.sub rfl (SubL.iteT (by first | assumption | (simp; done) | (simp; omega) | (simp_all; done)) SubL.rfl')) | exact op_moveE (Ev.rfl' rfl))) ?_)
  (first | refine JL_i0 rfl rfl rfl (fun hg => (by have hg0 := hg; (try simp at hg); first | exact op_len evG rfl | exact op_lenLit evG rfl)) ?_ | refine JL_i rfl rfl rfl (fun hp hg => (by have hpg := Bool.and_eq_true_iff.2 ⟨hp, hg⟩; have hg0 := hg; (try simp at hg); first | exact op_len evG rfl | exact op_lenLit evG rfl)) ?_)
  (first | refine JL_i0 rfl rfl rfl (fun hg => (by have hg0 := hg; (try simp at hg); exact op_eql evG evG)) ?_ | refine JL_i rfl rfl rfl (fun hp hg => (by have hpg := Bool.and_eq_true_iff.2 ⟨hp, hg⟩; have hg0 := hg; (try simp at hg); exact op_eql evG evG)) ?_)
  refine JL_1 rfl (op_and (Ev.rfl' rfl) rfl (fun h => by first | exact SubL.rfl' | exact SubL.iteT (by first | (rw [h]; rfl) | (simp_all; done)) SubL.rfl')) ?_
  refine JL_1 rfl (op_assign rfl) ?_
  refine JL_nil ?_
  refine JQ_then (JC_ret ?_)
  refine JQ_ret1 Try.results19 rfl () (SubL.eq ?_) (List.nil_sublist _)
  rfl
end Go.Proofs.Ytpfojangcgffkaa

/- The contract of bodegahand.Pick: the remainder that is not negative. Own work. -/
namespace Go.Proofs.Ytpfojangcgffkaa
open Go.RowKit
set_option linter.unusedVariables false
set_option linter.unusedSimpArgs false
theorem pick_emod (n k : Int) (h : 1 ≤ k) : (n.tmod k + k) % k = n % k := by
  rw [Int.add_emod_right, Int.tmod_eq_emod]
  split
  · show (n % k - 0) % k = _; rw [Int.sub_zero, Int.emod_emod_of_dvd _ (Int.dvd_refl k)]
  · rw [Int.natAbs_of_nonneg (by omega), Int.sub_emod, Int.emod_self]; simp
theorem Pick_any (n k : Int) (w : World) (hb : 1 ≤ k) (hb2 : k ≤ 4611686018427387903) :
    Calls Try.prog 14 #[.int .i64 n, .int .i64 k] w fun e w' => e = .returned (.int .i64 (n % k)) ∧ w = w' := by
  have h1 := Int.tmod_lt_of_pos n (show 0 < k by omega)
  have h2 := Int.lt_tmod_of_pos n (show 0 < k by omega)
  have H := Lib.hid (pick_emod n k hb)
  go_enter Try.func14, Try.ntmps14
  go_wp2
  go_ret
  refine ⟨?_, rfl⟩
  rw [← H.out]
  rfl
/-- The same, the remainder as a new number. -/
theorem Pick_ex (n k : Int) (w : World) (hb : 1 ≤ k) (hb2 : k ≤ 4611686018427387903) :
    Calls Try.prog 14 #[.int .i64 n, .int .i64 k] w fun e w' => ∃ r : Int, e = .returned (.int .i64 r) ∧ 0 ≤ r ∧ r < k ∧ Hid (r = n % k) ∧ w = w' :=
  (Pick_any n k w hb hb2).mono fun e w' ⟨he, hw⟩ => ⟨n % k, he, Int.emod_nonneg _ (by omega), Int.emod_lt_of_pos _ (by omega), rfl, hw⟩
/-- Inside a region that draws: the remainder as a new natural number. -/
theorem call_pick {W : World} {K : Value → Prop} (n k : Int) (hb : 1 ≤ k) (hb2 : k ≤ 4611686018427387903) (h : ∀ j : Nat, (j : Int) < k → Hid ((j : Int) = n % k) → K (.int .i64 (j : Int))) :
    ∃ v, Calls Try.prog 14 #[.int .i64 n, .int .i64 k] W (fun e w'' => e = .returned v ∧ w'' = W) ∧ K v := by
  obtain ⟨j, hj⟩ := Int.eq_ofNat_of_zero_le (Int.emod_nonneg n (show k ≠ 0 by omega))
  have hlt := Int.emod_lt_of_pos n (show 0 < k by omega)
  refine ⟨_, (Pick_any n k W hb hb2).mono fun e w' ⟨he, hw⟩ => ⟨he, hw.symm⟩, ?_⟩
  rw [hj]
  exact h j (by omega) hj.symm
end Go.Proofs.Ytpfojangcgffkaa

/- Contract: a number in range. Own work. -/
namespace Go.Proofs.Ytpfojangcgffkaa
open Go.RowKit
set_option linter.unusedVariables false
set_option linter.unusedSimpArgs false
set_option maxRecDepth 100000
theorem pick_tmod (n k : Int) (h : 1 ≤ k) : (n.tmod k + k).tmod k = n % k := by
  have h2 := Int.lt_tmod_of_pos n (show 0 < k by omega)
  rw [Int.tmod_eq_emod_of_nonneg (by omega), pick_emod n k h]
-- bodegahand.Pick: function 14
theorem PickH_ok (n k : Int) (hb : 1 ≤ k) (hb2 : k ≤ 4611686018427387903) : FnP Try.prog 14 [Is (.int .i64 n), Is (.int .i64 k)] (Is (.int .i64 (n % k))) := by
  have h1 := Int.tmod_lt_of_pos n (show 0 < k by omega)
  have h2 := Int.lt_tmod_of_pos n (show 0 < k by omega)
  refine FnP.enter Try.func14 Try.ntmps14 rfl rfl ?_
  intro c hX
  (repeat (first | with_reducible refine JC_seq ?_ | with_reducible refine JQ_then ?_ | with_reducible refine JC_block ?_ | with_reducible refine JC_skip ?_ | with_reducible refine JC_exit ?_ | with_reducible refine JQ_then_exit ?_ | with_reducible refine JQ_then_ret ?_ | with_reducible refine JQ_block ?_ | with_reducible refine JQ_block_ret ?_ | with_reducible refine JQ_hit ?_ | ((with_reducible refine JQ_block_miss ?_ ?_); (focus exact rfl)) | with_reducible refine JC_ret ?_ | with_reducible refine JQ_end ?_))
  refine JC_region ?_
  refine JL_1 rfl (op_assign rfl) ?_
  refine JL_nil ?_
  (repeat (first | with_reducible refine JC_seq ?_ | with_reducible refine JQ_then ?_ | with_reducible refine JC_block ?_ | with_reducible refine JC_skip ?_ | with_reducible refine JC_exit ?_ | with_reducible refine JQ_then_exit ?_ | with_reducible refine JQ_then_ret ?_ | with_reducible refine JQ_block ?_ | with_reducible refine JQ_block_ret ?_ | with_reducible refine JQ_hit ?_ | ((with_reducible refine JQ_block_miss ?_ ?_); (focus exact rfl)) | with_reducible refine JC_ret ?_ | with_reducible refine JQ_end ?_))
  (repeat (first | with_reducible refine JC_seq ?_ | with_reducible refine JQ_then ?_ | with_reducible refine JC_block ?_ | with_reducible refine JC_skip ?_ | with_reducible refine JC_exit ?_ | with_reducible refine JQ_then_exit ?_ | with_reducible refine JQ_then_ret ?_ | with_reducible refine JQ_block ?_ | with_reducible refine JQ_block_ret ?_ | with_reducible refine JQ_hit ?_ | ((with_reducible refine JQ_block_miss ?_ ?_); (focus exact rfl)) | with_reducible refine JC_ret ?_ | with_reducible refine JQ_end ?_))
  refine JC_region ?_
  refine JL_1 rfl (op_move rfl) ?_
  refine JL_1 rfl (op_lss (Ev.rfl' rfl) (Ev.rfl' rfl)) ?_
  refine JL_nil ?_
  (repeat (first | with_reducible refine JC_seq ?_ | with_reducible refine JQ_then ?_ | with_reducible refine JC_block ?_ | with_reducible refine JC_skip ?_ | with_reducible refine JC_exit ?_ | with_reducible refine JQ_then_exit ?_ | with_reducible refine JQ_then_ret ?_ | with_reducible refine JQ_block ?_ | with_reducible refine JQ_block_ret ?_ | with_reducible refine JQ_hit ?_ | ((with_reducible refine JQ_block_miss ?_ ?_); (focus exact rfl)) | with_reducible refine JC_ret ?_ | with_reducible refine JQ_end ?_))
  refine JC_cond (Ev.rfl' rfl) (fun h => absurd (of_decide_eq_true h) (by omega)) (fun h => ?_)
  (repeat (first | with_reducible refine JC_seq ?_ | with_reducible refine JQ_then ?_ | with_reducible refine JC_block ?_ | with_reducible refine JC_skip ?_ | with_reducible refine JC_exit ?_ | with_reducible refine JQ_then_exit ?_ | with_reducible refine JQ_then_ret ?_ | with_reducible refine JQ_block ?_ | with_reducible refine JQ_block_ret ?_ | with_reducible refine JQ_hit ?_ | ((with_reducible refine JQ_block_miss ?_ ?_); (focus exact rfl)) | with_reducible refine JC_ret ?_ | with_reducible refine JQ_end ?_))
  refine JC_region ?_
  refine JL_1 rfl (op_move rfl) ?_
  refine JL_1 rfl (op_move rfl) ?_
  refine JL_1 rfl (op_rem (Ev.rfl' rfl) (Ev.rfl' rfl) (by omega) rfl) ?_
  refine JL_1 rfl (op_move rfl) ?_
  refine JL_1 rfl (op_add (Ev.rfl' rfl) (Ev.rfl' rfl) wrapT) ?_
  refine JL_1 rfl (op_move rfl) ?_
  refine JL_1 rfl (op_rem (Ev.rfl' rfl) (Ev.rfl' rfl) (by omega) rfl) ?_
  refine JL_1 rfl (op_assign rfl) ?_
  refine JL_nil ?_
  (repeat (first | with_reducible refine JC_seq ?_ | with_reducible refine JQ_then ?_ | with_reducible refine JC_block ?_ | with_reducible refine JC_skip ?_ | with_reducible refine JC_exit ?_ | with_reducible refine JQ_then_exit ?_ | with_reducible refine JQ_then_ret ?_ | with_reducible refine JQ_block ?_ | with_reducible refine JQ_block_ret ?_ | with_reducible refine JQ_hit ?_ | ((with_reducible refine JQ_block_miss ?_ ?_); (focus exact rfl)) | with_reducible refine JC_ret ?_ | with_reducible refine JQ_end ?_))
  exact JQ_ret1 Try.results14 rfl () (SubL.eq (by rw [pick_tmod n k hb])) (List.nil_sublist _)
theorem UV_ofInt64 {n : Int} (h : 0 ≤ n ∧ n < 18446744073709551616) : UV (BitVec.ofInt 64 n) = n := by
  unfold UV; rw [BitVec.toNat_ofInt]; simp; omega
theorem wrr (n : Int) : 0 ≤ IntKind.u64.wrap n ∧ IntKind.u64.wrap n < 18446744073709551616 := by
  rw [wrap_u64_mod]; omega
end Go.Proofs.Ytpfojangcgffkaa

/- Plain laws: what has been written is read again. Own work. -/
namespace Go.Proofs.Ytpfojangcgffkaa
open Go.RowKit
set_option linter.unusedVariables false
set_option linter.unusedSimpArgs false
set_option maxRecDepth 100000
theorem UV_set32 (x : BitVec 32) : UV (x.setWidth 64) = UV x := by
  unfold UV
  rw [BitVec.toNat_setWidth]
  have := x.isLt
  congr 1
  omega
theorem back_header {p : Pg} {h : Hd} (e : (writeH p h).2 = 0) : readH (writeH p h).1 = (h, 0) ∧ (writeH p h).1.l = p.l ∧ (writeH p h).1.h = p.h := by
  unfold writeH at e ⊢
  split at e
  · exact absurd e (by decide)
  · rename_i hb
    rw [if_neg hb]
    have hb' : hdBad p h = false := by simpa using hb
    obtain ⟨r1, r2⟩ := hd_rng hb'
    have hl : hdrB p.l = true := by
      unfold hdBad at hb'
      simp only [Bool.or_eq_false_iff, Bool.not_eq_false'] at hb'
      exact hb'.1.1.1
    have hu : UV (h.used &&& ~~~BitVec.ofInt 32 65534) = 0 := by
      unfold hdBad at hb'
      simp only [Bool.or_eq_false_iff] at hb'
      simpa using hb'.2
    refine ⟨?_, rfl, rfl⟩
    have hd0 : UV (hdPut p h).d0 = h.owner + 1 := UV_ofInt64 (by omega)
    have hd1 : UV ((hdPut p h).d1 &&& ~~~BitVec.ofInt 64 65534) = 0 := by
      rw [uv0_iff] at hu ⊢
      show h.used.setWidth 64 &&& ~~~BitVec.ofInt 64 65534 = 0#64
      apply BitVec.eq_of_getLsbD_eq
      intro i hi
      rw [BitVec.getLsbD_and, BitVec.getLsbD_setWidth]
      rcases Nat.lt_or_ge i 32 with h32 | h32
      · have h1 := congrArg (fun x : BitVec 32 => x.getLsbD i) hu
        simp only [BitVec.getLsbD_and, BitVec.getLsbD_not, h32, decide_true, Bool.true_and] at h1
        simp only [BitVec.getLsbD_not, hi, decide_true, Bool.true_and]
        have h2 : (BitVec.ofInt 64 65534).getLsbD i = (BitVec.ofInt 32 65534).getLsbD i := by
          have h3 : BitVec.ofInt 32 65534 = (BitVec.ofInt 64 65534).setWidth 32 := by decide
          rw [h3, BitVec.getLsbD_setWidth]; simp [h32]
        rw [h2]; simpa using h1
      · rw [BitVec.getLsbD_of_ge h.used i h32]; simp
    have hub : useB (hdPut p h) = false := by
      unfold useB
      rw [hd0, hd1]
      simp; omega
    have hz : zB (hdPut p h) = true := by
      unfold zB hdPut Pg.nil; rfl
    unfold readH
    rw [if_pos (show hdrB (hdPut p h).l = true from hl), if_neg (by rw [hub, hz]; simp), hd0]
    have e1 : h.owner + 1 - 1 = h.owner := by omega
    have e2 : (hdPut p h).d1.setWidth 32 = h.used := setW_setW h.used
    rw [e1, e2]
theorem re_back {r : Re} (h : rwB r = true) : retE (rwV r) = r ∧ retB (rwV r) = true := by
  by_cases hr : r = Re.nil
  · subst hr
    exact ret_0 (by unfold rwV; rw [if_pos rfl])
  · have hv : validP r.to = true := by rw [rwB_re hr] at h; exact h
    have e : rwV r = packW (packP r.to) (r.ep.setWidth 64) := by unfold rwV; rw [if_neg hr]
    have e1 : (rwV r).setWidth 32 = packP r.to := by rw [e]; exact pack_low _ _
    have e2 : (rwV r >>> 32).setWidth 32 = r.ep := by rw [e, pack_high]; exact setW_setW _
    have hne : ¬ rwV r = 0#64 := fun h0 => by
      rw [h0] at e1
      exact pack_ne hv e1.symm
    obtain ⟨h1, h2⟩ := ret_1 hne
    rw [h1, h2, e1, e2, unpack_pack hv]
    exact ⟨rfl, hv⟩
theorem okR_all {n : Nd} (h : okR n 4 = true) : rwB n.r0 = true ∧ rwB n.r1 = true ∧ rwB n.r2 = true ∧ rwB n.r3 = true := by
  unfold okR at h
  simp only [Bool.and_eq_true] at h
  simp_all
theorem back_node {p : Pg} {n : Nd} (e : (writeN p n).2 = 0) : readN (writeN p n).1 = (n, 0) ∧ (writeN p n).1.l = p.l ∧ (writeN p n).1.h = p.h := by
  cases hb : badW p n with
  | true => rw [writeN_b hb] at e; exact absurd e (by decide)
  | false =>
    cases hk : okR n 4 with
    | false => rw [writeN_x hb hk] at e; exact absurd e (by decide)
    | true =>
      rw [writeN_0 hb hk]
      refine ⟨?_, rfl, rfl⟩
      obtain ⟨i1, i2, i3⟩ := badW_rng hb
      have hl : ownB p.l = true := by
        unfold badW at hb
        simp only [Bool.or_eq_false_iff, Bool.not_eq_false'] at hb
        exact hb.1
      have hpin : n.pin = false → UV n.ep = 0 := fun h => by
        unfold badW at hb
        simp only [Bool.or_eq_false_iff] at hb
        have := hb.2.1
        rw [h] at this
        simpa using this
      obtain ⟨k0, k1, k2, k3⟩ := okR_all hk
      obtain ⟨a0, b0⟩ := re_back k0
      obtain ⟨a1, b1⟩ := re_back k1
      obtain ⟨a2, b2⟩ := re_back k2
      obtain ⟨a3, b3⟩ := re_back k3
      have hep := UV_set32 n.ep
      have hepr : 0 ≤ UV n.ep ∧ UV n.ep < 4294967296 := by unfold UV; have := n.ep.isLt; omega
      have d0 : UV (pgK p n 4).d0 = if n.pin = true then UV n.ep + 1 else 0 := by
        show UV (pinW n) = _
        unfold pinW
        split
        · unfold UV
          rw [BitVec.toNat_add, BitVec.toNat_setWidth]
          have := n.ep.isLt
          simp
          omega
        · rfl
      have d1 : UV (pgK p n 4).d1 = UV n.sg := UV_set32 n.sg
      have d2 : UV (pgK p n 4).d2 = n.inc := UV_ofInt64 (by omega)
      have hbad : badN (pgK p n 4) = false := by
        unfold badN
        rw [d0, d1, d2]
        simp only [Bool.or_eq_false_iff, decide_eq_false_iff_not]
        refine ⟨⟨?_, by omega⟩, by omega⟩
        split <;> omega
      have hok : okN (pgK p n 4) 4 = true := by
        unfold okN
        show _ = _
        have c0 : retB (pgK p n 4).d3 = true := b0
        have c1 : retB (pgK p n 4).d4 = true := b1
        have c2 : retB (pgK p n 4).d5 = true := b2
        have c3 : retB (pgK p n 4).d6 = true := b3
        simp [c0, c1, c2, c3]
      rw [readN_0 (show ownB (pgK p n 4).l = true from hl) hbad hok]
      have f0 : pinV (pgK p n 4) = n.pin := by
        unfold pinV
        rw [d0]
        cases n.pin <;> simp; omega
      have f1 : epV (pgK p n 4) = n.ep := by
        unfold epV
        rw [d0]
        cases hp : n.pin with
        | true =>
          rw [if_pos rfl, if_pos (by omega)]
          show (pinW n - 1#64).setWidth 32 = n.ep
          unfold pinW
          rw [if_pos hp, BitVec.add_sub_cancel]
          exact setW_setW _
        | false =>
          have := (uv0_iff).1 (hpin hp)
          simp [this]
      have f2 : (pgK p n 4).d1.setWidth 32 = n.sg := setW_setW n.sg
      have g0 : reK 4 0 (retE (pgK p n 4).d3) = n.r0 := a0
      have g1 : reK 4 1 (retE (pgK p n 4).d4) = n.r1 := a1
      have g2 : reK 4 2 (retE (pgK p n 4).d5) = n.r2 := a2
      have g3 : reK 4 3 (retE (pgK p n 4).d6) = n.r3 := a3
      unfold ndK
      rw [f0, f1, f2, d2, g0, g1, g2, g3]
end Go.Proofs.Ytpfojangcgffkaa

/- Contracts: tags; pages with tags. Own work. -/
namespace Go.Proofs.Ytpfojangcgffkaa
open Go.RowKit
set_option linter.unusedVariables false
set_option linter.unusedSimpArgs false
set_option maxRecDepth 100000
structure Tg where
  kind : Int
  gen : Int
  aux : BitVec 32
@[reducible] def tTg : Ty Tg := ⟨3, fun t => [Is (.int .i64 t.kind), Is (.int .i64 t.gen), Is (.int .u32 (UV t.aux))], fun _ => rfl⟩
@[reducible] def IsTg (t : Tg) : VP := IsAgg (tTg.cells t)
def kindV (x : BitVec 64) : Int := UV (x &&& BitVec.ofInt 64 255)
def genV (x : BitVec 64) : Int := UV (x >>> 8 &&& BitVec.ofInt 64 16777215)
def auxV (x : BitVec 64) : BitVec 32 := (x >>> 32).setWidth 32
theorem kind_eq (x : BitVec 64) : kindV x = UV x % 256 := by
  unfold kindV; rw [UV_low 64 8 x _ rfl]; rfl
theorem gen_eq (x : BitVec 64) : genV x = UV x / 256 % 16777216 := by
  unfold genV; rw [UV_low 64 24 _ _ rfl, UV_shr]; rfl
theorem kind_in (x : BitVec 64) : -9223372036854775808 ≤ UV (x &&& BitVec.ofInt 64 255) ∧ UV (x &&& BitVec.ofInt 64 255) ≤ 9223372036854775807 := by
  have := kind_eq x
  unfold kindV at this
  omega
theorem gen_in (x : BitVec 64) : -9223372036854775808 ≤ UV (x >>> 8 &&& BitVec.ofInt 64 16777215) ∧ UV (x >>> 8 &&& BitVec.ofInt 64 16777215) ≤ 9223372036854775807 := by
  have := gen_eq x
  unfold genV at this
  omega
def unpackT (x : BitVec 64) : Tg := ⟨kindV x, genV x, auxV x⟩
-- pointer.UnpackTag: function 87
theorem UnpackTag_ok (x : BitVec 64) : FnP Try.prog 87 [Is (.int .u64 (UV x))] (IsTg (unpackT x)) := by
  have h1 := kind_in x
  have h2 := gen_in x
  refine FnP.enter Try.func87 Try.ntmps87 rfl rfl ?_
  intro c hX
  refine JC_seq ?_
  refine JC_region ?_
  (refine JL_n rfl (op_allocN rfl nrmT rfl) ?_; intro i2)
  refine JL_nil ?_
  refine JQ_then (JC_seq ?_)
  refine JC_region ?_
  refine JL_1 rfl (op_move rfl) ?_
  refine JL_1 rfl (by first | exact op_bits ev64 ev64 (by simp) (and_u64 _ _) | exact op_bits (Ev.rfl' rfl) (Ev.rfl' rfl) (by simp) rfl) ?_
  refine JL_1 rfl (op_conv (Ev.rfl' rfl) rfl rfl convT) ?_
  refine JL_1 rfl (op_move rfl) ?_
  refine JL_1 rfl (by first | exact op_shrU (k := 8) ev64 (Ev.rfl' rfl) (by first | omega | exact UV_nonneg _) idxT | exact op_shr (Ev.rfl' rfl) (Ev.rfl' rfl) (by first | omega | exact UV_nonneg _) rfl) ?_
  refine JL_1 rfl (by first | exact op_bits ev64 ev64 (by simp) (and_u64 _ _) | exact op_bits (Ev.rfl' rfl) (Ev.rfl' rfl) (by simp) rfl) ?_
  refine JL_1 rfl (op_conv (Ev.rfl' rfl) rfl rfl convT) ?_
  refine JL_1 rfl (op_move rfl) ?_
  refine JL_1 rfl (by first | exact op_shrU (k := 32) ev64 (Ev.rfl' rfl) (by first | omega | exact UV_nonneg _) idxT | exact op_shr (Ev.rfl' rfl) (Ev.rfl' rfl) (by first | omega | exact UV_nonneg _) rfl) ?_
  refine JL_1 rfl (op_conv (Ev.rfl' rfl) rfl rfl convT) ?_
  refine JL_1 rfl (op_buildN (qs := [(0, _), (1, _), (2, _)]) rfl rfl rfl rfl ⟨⟨rfl, _, (Ev.rfl' rfl), cellsT⟩, ⟨⟨rfl, _, (Ev.rfl' rfl), cellsT⟩, ⟨⟨rfl, _, (Ev.rfl' rfl), cellsT⟩, trivial⟩⟩⟩ (by rfl) nrmT) ?_
  refine JL_s0 (op_storeN (Ev.rfl' rfl) (Ev.rfl' rfl) cellsT replT nrmT (by rfl) (by rfl) (by rfl)) ?_
  refine JL_nil ?_
  refine JQ_then (JC_ret ?_)
  exact JQ_ret (Bs := [IsTg (unpackT x)]) Try.results87 ⟨⟨_, _, _, _, rfl, memT, rfl, .inr ⟨rfl, _, rfl, rfl, subT⟩⟩, trivial⟩ () SubL.rfl' (List.nil_sublist _)
def packT (t : Tg) : BitVec 64 := (BitVec.ofInt 64 t.kind &&& BitVec.ofInt 64 255) ||| ((BitVec.ofInt 64 t.gen &&& BitVec.ofInt 64 16777215) <<< 8) ||| (t.aux.setWidth 64 <<< 32)
-- pointer.PackTag: function 117
theorem PackTag_ok (t : Tg) : FnP Try.prog 117 [IsTg t] (Is (.int .u64 (UV (packT t)))) := by
  refine FnP.enter Try.func117 Try.ntmps117 rfl rfl ?_
  intro c hX
  refine JC_seq ?_
  refine JC_region ?_
  (refine JL_n rfl (op_box (Ev.rfl' rfl) cellsT) ?_; intro i1)
  refine JL_1 rfl (op_assign rfl) ?_
  refine JL_nil ?_
  refine JQ_then (JC_seq ?_)
  refine JC_region ?_
  refine JL_1 rfl (by first | exact op_fieldPtr (k := 0) (Ev.rfl' rfl) rfl rfl rfl rfl | exact op_fieldRefN (k := 0) (Ev.rfl' rfl) rfl rfl rfl rfl nrmT) ?_
  refine JL_1 rfl (by first | exact op_loadRef (Ev.rfl' rfl) rfl rfl rfl | exact op_loadPtr (Ev.rfl' rfl) memT (by rfl) (by rfl) (by rfl)) ?_
  refine JL_1 rfl (op_conv (Ev.rfl' rfl) rfl rfl convT) ?_
  refine JL_1 rfl (by first | exact op_bits ev64 ev64 (by simp) (and_u64 _ _) | exact op_bits (Ev.rfl' rfl) (Ev.rfl' rfl) (by simp) rfl) ?_
  refine JL_1 rfl (op_assign rfl) ?_
  refine JL_nil ?_
  refine JQ_then (JC_seq ?_)
  refine JC_region ?_
  refine JL_1 rfl (by first | exact op_fieldPtr (k := 1) (Ev.rfl' rfl) rfl rfl rfl rfl | exact op_fieldRefN (k := 1) (Ev.rfl' rfl) rfl rfl rfl rfl nrmT) ?_
  refine JL_1 rfl (by first | exact op_loadRef (Ev.rfl' rfl) rfl rfl rfl | exact op_loadPtr (Ev.rfl' rfl) memT (by rfl) (by rfl) (by rfl)) ?_
  refine JL_1 rfl (op_conv (Ev.rfl' rfl) rfl rfl convT) ?_
  refine JL_1 rfl (by first | exact op_bits ev64 ev64 (by simp) (and_u64 _ _) | exact op_bits (Ev.rfl' rfl) (Ev.rfl' rfl) (by simp) rfl) ?_
  refine JL_1 rfl (op_assign rfl) ?_
  refine JL_nil ?_
  refine JQ_then (JC_seq ?_)
  refine JC_region ?_
  refine JL_1 rfl (op_move rfl) ?_
  refine JL_1 rfl (op_move rfl) ?_
  refine JL_1 rfl (by first | exact op_shlU (k := 8) ev64 (Ev.rfl' rfl) (by first | omega | exact UV_nonneg _) idxT | exact op_shl (Ev.rfl' rfl) (Ev.rfl' rfl) (by first | omega | exact UV_nonneg _) rfl) ?_
  refine JL_1 rfl (by first | exact op_bits ev64 ev64 (by simp) (or_u64 _ _) | exact op_bits (Ev.rfl' rfl) (Ev.rfl' rfl) (by simp) rfl) ?_
  refine JL_1 rfl (by first | exact op_fieldPtr (k := 2) (Ev.rfl' rfl) rfl rfl rfl rfl | exact op_fieldRefN (k := 2) (Ev.rfl' rfl) rfl rfl rfl rfl nrmT) ?_
  refine JL_1 rfl (by first | exact op_loadRef (Ev.rfl' rfl) rfl rfl rfl | exact op_loadPtr (Ev.rfl' rfl) memT (by rfl) (by rfl) (by rfl)) ?_
  refine JL_1 rfl (op_conv (Ev.rfl' rfl) rfl rfl convT) ?_
  refine JL_1 rfl (by first | exact op_shlU (k := 32) ev64 (Ev.rfl' rfl) (by first | omega | exact UV_nonneg _) idxT | exact op_shl (Ev.rfl' rfl) (Ev.rfl' rfl) (by first | omega | exact UV_nonneg _) rfl) ?_
  refine JL_1 rfl (by first | exact op_bits ev64 ev64 (by simp) (or_u64 _ _) | exact op_bits (Ev.rfl' rfl) (Ev.rfl' rfl) (by simp) rfl) ?_
  refine JL_1 rfl (op_assign rfl) ?_
  refine JL_nil ?_
  refine JQ_then (JC_ret ?_)
  refine JQ_ret1 Try.results117 rfl () (SubL.eq ?_) (List.nil_sublist _)
  rfl
-- pointer.tagOf: function 89
theorem tagOf_ok (p : Pg) : FnP Try.prog 89 [IsPg p] (IsTg (unpackT p.d0)) := by
  have hd0 : (dat p)[0]? = some p.d0 := rfl
  refine FnP.enter Try.func89 Try.ntmps89 rfl rfl ?_
  intro c hX
  refine JC_seq ?_
  refine JC_region ?_
  (refine JL_n rfl (op_box (Ev.rfl' rfl) cellsT) ?_; intro i1)
  (refine JL_n rfl (op_allocN rfl nrmT rfl) ?_; intro i2)
  refine JL_nil ?_
  refine JQ_then (JC_seq ?_)
  refine JC_region ?_
  refine JL_1 rfl (by first | exact op_fieldPtr (k := 2) (Ev.rfl' rfl) rfl rfl rfl rfl | exact op_fieldRefN (k := 2) (Ev.rfl' rfl) rfl rfl rfl rfl nrmT) ?_
  refine JL_1 rfl (op_indexArr (k := 0) (sz := 1) (Ev.rfl' rfl) (Ev.rfl' rfl) rfl rfl idxT (by first | decide | omega)) ?_
  refine JL_1 rfl (by first | exact op_loadRef (Ev.rfl' rfl) rfl rfl rfl | exact op_loadPtr (Ev.rfl' rfl) memT (by rfl) (by rfl) (by rfl)) ?_
  refine JL_1 rfl (op_call Try.call87 (UnpackTag_ok _) ⟨evS, trivial⟩) ?_
  refine JL_s0 (op_storeN (Ev.rfl' rfl) (Ev.rfl' rfl) cellsT replT nrmT (by rfl) (by rfl) (by rfl)) ?_
  refine JL_nil ?_
  refine JQ_then (JC_ret ?_)
  exact JQ_ret (Bs := [IsTg (unpackT p.d0)]) Try.results89 ⟨⟨_, _, _, _, rfl, memT, rfl, .inr ⟨rfl, _, rfl, rfl, subT⟩⟩, trivial⟩ () SubL.rfl' (List.nil_sublist _)
-- pointer.At: function 43
theorem At_ok (p : Pg) : FnP Try.prog 43 [IsPg p] (IsPt ⟨p.l, genV p.d0⟩) := by
  refine FnP.enter Try.func43 Try.ntmps43 rfl rfl ?_
  intro c hX
  refine JC_seq ?_
  refine JC_region ?_
  (refine JL_n rfl (op_box (Ev.rfl' rfl) cellsT) ?_; intro i1)
  (refine JL_n rfl (op_allocN rfl nrmT rfl) ?_; intro i2)
  refine JL_nil ?_
  refine JQ_then (JC_seq ?_)
  refine JC_dr rfl (by kernel_rfl) ?_
  refine JD_stretch 6 (by kernel_rfl) ?_
  refine JW_1 (by first | exact op_fieldPtr (k := 0) (Ev.rfl' rfl) rfl rfl rfl rfl | exact op_fieldRefN (k := 0) (Ev.rfl' rfl) rfl rfl rfl rfl nrmT) ?_
  refine JW_1 (by first | exact op_loadRef (Ev.rfl' rfl) rfl rfl rfl | exact op_loadPtr (Ev.rfl' rfl) memT (by rfl) (by rfl) (by rfl)) ?_
  refine JW_1 (by first | exact op_loadRefsN (n := 9) (Ev.rfl' rfl) rfl rfl rfl (by rfl) nrmT | exact op_loadPtrsN (n := 9) (Ev.rfl' rfl) memT (by rfl) (by rfl) (by rfl) (by rfl) nrmT) ?_
  refine JW_1 (op_call Try.call89 (tagOf_ok p) ⟨evS, trivial⟩) ?_
  refine JW_1 (op_fieldV1 (Ev.rfl' rfl) rfl rfl rfl rfl rfl) ?_
  refine JW_1 (op_buildN (qs := [(0, _), (1, _)]) rfl rfl rfl rfl ⟨⟨rfl, _, (Ev.rfl' rfl), cellsT⟩, ⟨⟨rfl, _, (Ev.rfl' rfl), cellsT⟩, trivial⟩⟩ (by rfl) nrmT) ?_
  refine ⟨rfl, ?_⟩
  refine JD_s0 (by kernel_rfl) rfl (op_storeN (Ev.rfl' rfl) (Ev.rfl' rfl) cellsT replT nrmT (by rfl) (by rfl) (by rfl)) ?_
  refine JD_end ?_
  refine JQ_then (JC_ret ?_)
  exact JQ_ret (Bs := [IsPt ⟨p.l, genV p.d0⟩]) Try.results43 ⟨⟨_, _, _, _, rfl, memT, rfl, .inr ⟨rfl, _, rfl, rfl, subT⟩⟩, trivial⟩ () SubL.rfl' (List.nil_sublist _)
def tagP (p : Pg) (g : Tg) : Pg := ⟨p.l, p.h, packT g, 0#64, 0#64, 0#64, 0#64, 0#64, 0#64⟩
-- pointer.tagged: function 91
theorem tagged_ok (p : Pg) (g : Tg) : FnP Try.prog 91 [IsPg p, IsTg g] (IsPg (tagP p g)) := by
  refine FnP.enter Try.func91 Try.ntmps91 rfl rfl ?_
  intro c hX
  refine JC_seq ?_
  refine JC_region ?_
  (refine JL_n rfl (op_box (Ev.rfl' rfl) cellsT) ?_; intro i2)
  (refine JL_n rfl (op_box (Ev.rfl' rfl) cellsT) ?_; intro i3)
  (refine JL_n rfl (op_allocN rfl nrmT rfl) ?_; intro i4)
  refine JL_nil ?_
  refine JQ_then (JC_seq ?_)
  refine JC_region ?_
  refine JL_1 rfl (by first | exact op_fieldPtr (k := 0) (Ev.rfl' rfl) rfl rfl rfl rfl | exact op_fieldRefN (k := 0) (Ev.rfl' rfl) rfl rfl rfl rfl nrmT) ?_
  refine JL_1 rfl (by first | exact op_loadRef (Ev.rfl' rfl) rfl rfl rfl | exact op_loadPtr (Ev.rfl' rfl) memT (by rfl) (by rfl) (by rfl)) ?_
  refine JL_1 rfl (by first | exact op_fieldPtr (k := 1) (Ev.rfl' rfl) rfl rfl rfl rfl | exact op_fieldRefN (k := 1) (Ev.rfl' rfl) rfl rfl rfl rfl nrmT) ?_
  refine JL_1 rfl (by first | exact op_loadRef (Ev.rfl' rfl) rfl rfl rfl | exact op_loadPtr (Ev.rfl' rfl) memT (by rfl) (by rfl) (by rfl)) ?_
  refine JL_1 rfl (op_buildN (qs := [(0, _), (1, _)]) rfl rfl rfl rfl ⟨⟨rfl, _, (Ev.rfl' rfl), cellsT⟩, ⟨⟨rfl, _, (Ev.rfl' rfl), cellsT⟩, trivial⟩⟩ (by rfl) nrmT) ?_
  (refine JL_n rfl (op_allocN rfl nrmT rfl) ?_; intro i5)
  refine JL_s0 (op_storeN (Ev.rfl' rfl) (Ev.rfl' rfl) cellsT replT nrmT (by rfl) (by rfl) (by rfl)) ?_
  refine JL_nil ?_
  refine JQ_then (JC_seq ?_)
  refine JC_region ?_
  refine JL_1 rfl (by first | exact op_loadRefsN (n := 3) (Ev.rfl' rfl) rfl rfl rfl (by rfl) nrmT | exact op_loadPtrsN (n := 3) (Ev.rfl' rfl) memT (by rfl) (by rfl) (by rfl) (by rfl) nrmT) ?_
  refine JL_1 rfl (op_call Try.call117 (PackTag_ok g) ⟨evS, trivial⟩) ?_
  refine JL_1 rfl (by first | exact op_fieldPtr (k := 2) (Ev.rfl' rfl) rfl rfl rfl rfl | exact op_fieldRefN (k := 2) (Ev.rfl' rfl) rfl rfl rfl rfl nrmT) ?_
  refine JL_1 rfl (op_indexArr (k := 0) (sz := 1) (Ev.rfl' rfl) (Ev.rfl' rfl) rfl rfl idxT (by first | decide | omega)) ?_
  refine JL_s0 (op_storeN (Ev.rfl' rfl) (Ev.rfl' rfl) cellsT replT nrmT (by rfl) (by rfl) (by rfl)) ?_
  refine JL_nil ?_
  refine JQ_then (JC_seq ?_)
  refine JC_region ?_
  refine JL_1 rfl (by first | exact op_loadRefsN (n := 9) (Ev.rfl' rfl) rfl rfl rfl (by rfl) nrmT | exact op_loadPtrsN (n := 9) (Ev.rfl' rfl) memT (by rfl) (by rfl) (by rfl) (by rfl) nrmT) ?_
  refine JL_s0 (op_storeN (Ev.rfl' rfl) (Ev.rfl' rfl) cellsT replT nrmT (by rfl) (by rfl) (by rfl)) ?_
  refine JL_nil ?_
  refine JQ_then (JC_ret ?_)
  exact JQ_ret (Bs := [IsPg (tagP p g)]) Try.results91 ⟨⟨_, _, _, _, rfl, memT, rfl, .inr ⟨rfl, _, rfl, rfl, subT⟩⟩, trivial⟩ () SubL.rfl' (List.nil_sublist _)
def relP (p : Pg) : Pg × Int :=
  if heapB p.l = true then (if lockB p = true then (Pg.nil, 3) else if kindV p.d0 = 0 then (Pg.nil, 16) else (tagP p ⟨0, genV p.d0, 0#32⟩, 0)) else (Pg.nil, 1)
-- pointer.Release: function 94
theorem Release_ok (p : Pg) : FnP Try.prog 94 [IsPg p] (IsTup [IsPg (relP p).1, Is (.int .i64 (relP p).2)]) := by
  refine FnP.enter Try.func94 Try.ntmps94 rfl rfl ?_
  intro c hX
  refine JC_seq ?_
  refine JC_region ?_
  (refine JL_n rfl (op_box (Ev.rfl' rfl) cellsT) ?_; intro i1)
  (refine JL_n rfl (op_allocN rfl nrmT rfl) ?_; intro i2)
  refine JL_1 rfl (op_assign rfl) ?_
  refine JL_nil ?_
  refine JQ_then (JC_seq ?_)
  refine JC_region ?_
  refine JL_1 rfl (by first | exact op_loadRefsN (n := 9) (Ev.rfl' rfl) rfl rfl rfl (by rfl) nrmT | exact op_loadPtrsN (n := 9) (Ev.rfl' rfl) memT (by rfl) (by rfl) (by rfl) (by rfl) nrmT) ?_
  refine JL_1 rfl (op_call Try.call89 (tagOf_ok p) ⟨evS, trivial⟩) ?_
  (refine JL_n rfl (op_allocN rfl nrmT rfl) ?_; intro i4)
  refine JL_s0 (op_storeN (Ev.rfl' rfl) (Ev.rfl' rfl) cellsT replT nrmT (by rfl) (by rfl) (by rfl)) ?_
  refine JL_nil ?_
  refine JQ_then (JC_seq (JC_block (JC_seq ?_)))
  refine JC_region ?_
  refine JL_1 rfl (by first | exact op_fieldPtr (k := 0) (Ev.rfl' rfl) rfl rfl rfl rfl | exact op_fieldRefN (k := 0) (Ev.rfl' rfl) rfl rfl rfl rfl nrmT) ?_
  refine JL_1 rfl (by first | exact op_loadRef (Ev.rfl' rfl) rfl rfl rfl | exact op_loadPtr (Ev.rfl' rfl) memT (by rfl) (by rfl) (by rfl)) ?_
  refine JL_1 rfl (op_call Try.call90 (inHeap_ok _) ⟨evS, trivial⟩) ?_
  refine JL_1 rfl (op_not (Ev.rfl' rfl)) ?_
  refine JL_1 rfl (op_assign rfl) ?_
  refine JL_nil ?_
  refine JQ_then ?_
  refine JC_cond (Ev.rfl' rfl) (fun h2 => ?_) (fun h2 => ?_)
  · have e : relP p = (Pg.nil, 1) := by unfold relP; rw [if_neg (by simpa using h2)]
    rw [e]
    refine JC_seq ?_
    refine JC_region ?_
    refine JL_1 rfl (op_buildN (qs := []) rfl rfl rfl rfl trivial (by rfl) nrmT) ?_
    refine JL_s0 (op_storeN (Ev.rfl' rfl) (Ev.rfl' rfl) cellsT replT nrmT (by rfl) (by rfl) (by rfl)) ?_
    refine JL_1 rfl (op_assign rfl) ?_
    refine JL_nil ?_
    refine JQ_then (JC_ret (JQ_block_ret (JQ_then_ret ?_)))
    exact JQ_ret (Bs := [IsPg Pg.nil, Is (.int .i64 1)]) Try.results94 ⟨⟨_, _, _, _, rfl, memT, rfl, .inr ⟨rfl, _, rfl, rfl, subT⟩⟩, ⟨⟨_, rfl, subT⟩, trivial⟩⟩ () SubL.rfl' (List.nil_sublist _)
  have g1 : heapB p.l = true := by simpa using h2
  refine JC_seq ?_
  refine JC_region ?_
  refine JL_1 rfl (by first | exact op_loadRefsN (n := 9) (Ev.rfl' rfl) rfl rfl rfl (by rfl) nrmT | exact op_loadPtrsN (n := 9) (Ev.rfl' rfl) memT (by rfl) (by rfl) (by rfl) (by rfl) nrmT) ?_
  refine JL_1 rfl (op_call Try.call88 (Locked_ok _) ⟨evS, trivial⟩) ?_
  refine JL_1 rfl (op_assign rfl) ?_
  refine JL_nil ?_
  refine JQ_then ?_
  refine JC_cond (Ev.rfl' rfl) (fun h4 => ?_) (fun h4 => ?_)
  · have e : relP p = (Pg.nil, 3) := by unfold relP; rw [if_pos g1, if_pos (show lockB p = true from h4)]
    rw [e]
    refine JC_seq ?_
    refine JC_region ?_
    refine JL_1 rfl (op_buildN (qs := []) rfl rfl rfl rfl trivial (by rfl) nrmT) ?_
    refine JL_s0 (op_storeN (Ev.rfl' rfl) (Ev.rfl' rfl) cellsT replT nrmT (by rfl) (by rfl) (by rfl)) ?_
    refine JL_1 rfl (op_assign rfl) ?_
    refine JL_nil ?_
    refine JQ_then (JC_ret (JQ_block_ret (JQ_then_ret ?_)))
    exact JQ_ret (Bs := [IsPg Pg.nil, Is (.int .i64 3)]) Try.results94 ⟨⟨_, _, _, _, rfl, memT, rfl, .inr ⟨rfl, _, rfl, rfl, subT⟩⟩, ⟨⟨_, rfl, subT⟩, trivial⟩⟩ () SubL.rfl' (List.nil_sublist _)
  have g2 : ¬ lockB p = true := fun e => Bool.noConfusion (show false = true from h4.symm.trans e)
  refine JC_seq ?_
  refine JC_region ?_
  refine JL_1 rfl (by first | exact op_fieldPtr (k := 0) (Ev.rfl' rfl) rfl rfl rfl rfl | exact op_fieldRefN (k := 0) (Ev.rfl' rfl) rfl rfl rfl rfl nrmT) ?_
  refine JL_1 rfl (by first | exact op_loadRef (Ev.rfl' rfl) rfl rfl rfl | exact op_loadPtr (Ev.rfl' rfl) memT (by rfl) (by rfl) (by rfl)) ?_
  refine JL_1 rfl (op_eql (Ev.rfl' rfl) (Ev.rfl' rfl)) ?_
  refine JL_1 rfl (op_assign rfl) ?_
  refine JL_nil ?_
  refine JQ_then ?_
  refine JC_cond (Ev.rfl' rfl) (fun h6 => ?_) (fun h6 => ?_)
  · have g3 : kindV p.d0 = 0 := by simpa [unpackT] using h6
    have e : relP p = (Pg.nil, 16) := by unfold relP; rw [if_pos g1, if_neg g2, if_pos g3]
    rw [e]
    refine JC_seq ?_
    refine JC_region ?_
    refine JL_1 rfl (op_buildN (qs := []) rfl rfl rfl rfl trivial (by rfl) nrmT) ?_
    refine JL_s0 (op_storeN (Ev.rfl' rfl) (Ev.rfl' rfl) cellsT replT nrmT (by rfl) (by rfl) (by rfl)) ?_
    refine JL_1 rfl (op_assign rfl) ?_
    refine JL_nil ?_
    refine JQ_then (JC_ret (JQ_block_ret (JQ_then_ret ?_)))
    exact JQ_ret (Bs := [IsPg Pg.nil, Is (.int .i64 16)]) Try.results94 ⟨⟨_, _, _, _, rfl, memT, rfl, .inr ⟨rfl, _, rfl, rfl, subT⟩⟩, ⟨⟨_, rfl, subT⟩, trivial⟩⟩ () SubL.rfl' (List.nil_sublist _)
  have g3 : ¬ kindV p.d0 = 0 := by simpa [unpackT] using h6
  have e : relP p = (tagP p ⟨0, genV p.d0, 0#32⟩, 0) := by unfold relP; rw [if_pos g1, if_neg g2, if_neg g3]
  rw [e]
  clear h6
  refine JC_skip (JQ_block (JQ_then (JC_seq ?_)))
  refine JC_region ?_
  refine JL_1 rfl (by first | exact op_loadRefsN (n := 9) (Ev.rfl' rfl) rfl rfl rfl (by rfl) nrmT | exact op_loadPtrsN (n := 9) (Ev.rfl' rfl) memT (by rfl) (by rfl) (by rfl) (by rfl) nrmT) ?_
  refine JL_1 rfl (by first | exact op_fieldPtr (k := 1) (Ev.rfl' rfl) rfl rfl rfl rfl | exact op_fieldRefN (k := 1) (Ev.rfl' rfl) rfl rfl rfl rfl nrmT) ?_
  refine JL_1 rfl (by first | exact op_loadRef (Ev.rfl' rfl) rfl rfl rfl | exact op_loadPtr (Ev.rfl' rfl) memT (by rfl) (by rfl) (by rfl)) ?_
  refine JL_1 rfl (op_buildN (qs := [(0, _), (1, _)]) rfl rfl rfl rfl ⟨⟨rfl, _, (Ev.rfl' rfl), cellsT⟩, ⟨⟨rfl, _, (Ev.rfl' rfl), cellsT⟩, trivial⟩⟩ (by rfl) nrmT) ?_
  refine JL_1 rfl (op_call Try.call91 (tagged_ok p ⟨0, genV p.d0, 0#32⟩) ⟨evS, ⟨evS, trivial⟩⟩) ?_
  refine JL_s0 (op_storeN (Ev.rfl' rfl) (Ev.rfl' rfl) cellsT replT nrmT (by rfl) (by rfl) (by rfl)) ?_
  refine JL_1 rfl (op_assign rfl) ?_
  refine JL_nil ?_
  refine JQ_then (JC_ret ?_)
  exact JQ_ret (Bs := [IsPg (tagP p ⟨0, genV p.d0, 0#32⟩), Is (.int .i64 0)]) Try.results94 ⟨⟨_, _, _, _, rfl, memT, rfl, .inr ⟨rfl, _, rfl, rfl, subT⟩⟩, ⟨⟨_, rfl, subT⟩, trivial⟩⟩ () SubL.rfl' (List.nil_sublist _)
def allP (p : Pg) (kind : Int) (aux : BitVec 32) : Pg × Int :=
  if heapB p.l = true then (if lockB p = true then (Pg.nil, 3) else if kindV p.d0 ≠ 0 then (Pg.nil, 17) else if genV p.d0 = 16777215 then (Pg.nil, 18) else (tagP p ⟨kind, genV p.d0 + 1, aux⟩, 0)) else (Pg.nil, 1)
-- pointer.Allocate: function 41
theorem AllocateP_ok (p : Pg) (kind : Int) (aux : BitVec 32) (hk : 1 ≤ kind ∧ kind ≤ 4) : FnP Try.prog 41 [IsPg p, Is (.int .i64 kind), Is (.int .u32 (UV aux))] (IsTup [IsPg (allP p kind aux).1, Is (.int .i64 (allP p kind aux).2)]) := by
  have hgen := gen_eq p.d0
  have hgr : 0 ≤ genV p.d0 ∧ genV p.d0 ≤ 16777215 := by rw [hgen]; have := UV_nonneg p.d0; omega
  refine FnP.enter Try.func41 Try.ntmps41 rfl rfl ?_
  intro c hX
  refine JC_seq ?_
  refine JC_region ?_
  (refine JL_n rfl (op_box (Ev.rfl' rfl) cellsT) ?_; intro i3)
  (refine JL_n rfl (op_allocN rfl nrmT rfl) ?_; intro i6)
  refine JL_1 rfl (op_assign rfl) ?_
  refine JL_nil ?_
  refine JQ_then (JC_seq ?_)
  refine JC_region ?_
  refine JL_1 rfl (by first | exact op_loadRefsN (n := 9) (Ev.rfl' rfl) rfl rfl rfl (by rfl) nrmT | exact op_loadPtrsN (n := 9) (Ev.rfl' rfl) memT (by rfl) (by rfl) (by rfl) (by rfl) nrmT) ?_
  refine JL_1 rfl (op_call Try.call89 (tagOf_ok p) ⟨evS, trivial⟩) ?_
  (refine JL_n rfl (op_allocN rfl nrmT rfl) ?_; intro i8)
  refine JL_s0 (op_storeN (Ev.rfl' rfl) (Ev.rfl' rfl) cellsT replT nrmT (by rfl) (by rfl) (by rfl)) ?_
  refine JL_nil ?_
  refine JQ_then (JC_seq (JC_block (JC_seq ?_)))
  refine JC_region ?_
  refine JL_1 rfl (by first | exact op_fieldPtr (k := 0) (Ev.rfl' rfl) rfl rfl rfl rfl | exact op_fieldRefN (k := 0) (Ev.rfl' rfl) rfl rfl rfl rfl nrmT) ?_
  refine JL_1 rfl (by first | exact op_loadRef (Ev.rfl' rfl) rfl rfl rfl | exact op_loadPtr (Ev.rfl' rfl) memT (by rfl) (by rfl) (by rfl)) ?_
  refine JL_1 rfl (op_call Try.call90 (inHeap_ok _) ⟨evS, trivial⟩) ?_
  refine JL_1 rfl (op_not (Ev.rfl' rfl)) ?_
  refine JL_1 rfl (op_move rfl) ?_
  (first | refine JL_i0 rfl rfl rfl (fun hg => (by have hg0 := hg; (try simp at hg); first | exact op_moveE (Ev.sub rfl (SubL.iteT (by first | assumption | (simp; done) | (simp; omega) | (simp_all; done)) SubL.rfl')) | exact op_moveE (Ev.rfl' rfl))) ?_ | refine JL_i rfl rfl rfl (fun hp hg => (by have hpg := Bool.and_eq_true_iff.2 ⟨hp, hg⟩; have hg0 := hg; (try simp at hg); first | exact op_moveE (Ev.sub rfl (SubL.iteT (by first | assumption | (simp; done) | (simp; omega) | (simp_all; done)) SubL.rfl')) | exact op_moveE (Ev.rfl' rfl))) ?_)
  (first | refine JL_i0 rfl rfl rfl (fun hg => (by have hg0 := hg; (try simp at hg); exact op_lss evG evG)) ?_ | refine JL_i rfl rfl rfl (fun hp hg => (by have hpg := Bool.and_eq_true_iff.2 ⟨hp, hg⟩; have hg0 := hg; (try simp at hg); exact op_lss evG evG)) ?_)
  refine JL_1 rfl (op_or (Ev.rfl' rfl) rfl (fun h => by first | exact SubL.rfl' | exact SubL.iteT (by first | (rw [h]; rfl) | (simp_all; done)) SubL.rfl')) ?_
  refine JL_1 rfl (op_move rfl) ?_
  (first | refine JL_i0 rfl rfl rfl (fun hg => (by have hg0 := hg; (try simp at hg); first | exact op_moveE (Ev.sub rfl (SubL.iteT (by first | assumption | (simp; done) | (simp; omega) | (simp_all; done)) SubL.rfl')) | exact op_moveE (Ev.rfl' rfl))) ?_ | refine JL_i rfl rfl rfl (fun hp hg => (by have hpg := Bool.and_eq_true_iff.2 ⟨hp, hg⟩; have hg0 := hg; (try simp at hg); first | exact op_moveE (Ev.sub rfl (SubL.iteT (by first | assumption | (simp; done) | (simp; omega) | (simp_all; done)) SubL.rfl')) | exact op_moveE (Ev.rfl' rfl))) ?_)
  (first | refine JL_i0 rfl rfl rfl (fun hg => (by have hg0 := hg; (try simp at hg); exact op_gtr evG evG)) ?_ | refine JL_i rfl rfl rfl (fun hp hg => (by have hpg := Bool.and_eq_true_iff.2 ⟨hp, hg⟩; have hg0 := hg; (try simp at hg); exact op_gtr evG evG)) ?_)
  refine JL_1 rfl (op_or (Ev.rfl' rfl) rfl (fun h => by first | exact SubL.rfl' | exact SubL.iteT (by first | (rw [h]; rfl) | (simp_all; done)) SubL.rfl')) ?_
  refine JL_1 rfl (op_assign rfl) ?_
  refine JL_nil ?_
  refine JQ_then ?_
  refine JC_cond (Ev.rfl' rfl) (fun h2 => ?_) (fun h2 => ?_)
  · have g1 : ¬ heapB p.l = true := by
      intro hh
      rw [hh] at h2
      simp at h2
      omega
    have e : allP p kind aux = (Pg.nil, 1) := by unfold allP; rw [if_neg g1]
    rw [e]
    refine JC_seq ?_
    refine JC_region ?_
    refine JL_1 rfl (op_buildN (qs := []) rfl rfl rfl rfl trivial (by rfl) nrmT) ?_
    refine JL_s0 (op_storeN (Ev.rfl' rfl) (Ev.rfl' rfl) cellsT replT nrmT (by rfl) (by rfl) (by rfl)) ?_
    refine JL_1 rfl (op_assign rfl) ?_
    refine JL_nil ?_
    refine JQ_then (JC_ret (JQ_block_ret (JQ_then_ret ?_)))
    exact JQ_ret (Bs := [IsPg Pg.nil, Is (.int .i64 1)]) Try.results41 ⟨⟨_, _, _, _, rfl, memT, rfl, .inr ⟨rfl, _, rfl, rfl, subT⟩⟩, ⟨⟨_, rfl, subT⟩, trivial⟩⟩ () SubL.rfl' (List.nil_sublist _)
  have g1 : heapB p.l = true := by simp at h2; exact h2.1.1
  refine JC_seq ?_
  refine JC_region ?_
  refine JL_1 rfl (by first | exact op_loadRefsN (n := 9) (Ev.rfl' rfl) rfl rfl rfl (by rfl) nrmT | exact op_loadPtrsN (n := 9) (Ev.rfl' rfl) memT (by rfl) (by rfl) (by rfl) (by rfl) nrmT) ?_
  refine JL_1 rfl (op_call Try.call88 (Locked_ok _) ⟨evS, trivial⟩) ?_
  refine JL_1 rfl (op_assign rfl) ?_
  refine JL_nil ?_
  refine JQ_then ?_
  refine JC_cond (Ev.rfl' rfl) (fun h4 => ?_) (fun h4 => ?_)
  · have e : allP p kind aux = (Pg.nil, 3) := by unfold allP; rw [if_pos g1, if_pos (show lockB p = true from h4)]
    rw [e]
    refine JC_seq ?_
    refine JC_region ?_
    refine JL_1 rfl (op_buildN (qs := []) rfl rfl rfl rfl trivial (by rfl) nrmT) ?_
    refine JL_s0 (op_storeN (Ev.rfl' rfl) (Ev.rfl' rfl) cellsT replT nrmT (by rfl) (by rfl) (by rfl)) ?_
    refine JL_1 rfl (op_assign rfl) ?_
    refine JL_nil ?_
    refine JQ_then (JC_ret (JQ_block_ret (JQ_then_ret ?_)))
    exact JQ_ret (Bs := [IsPg Pg.nil, Is (.int .i64 3)]) Try.results41 ⟨⟨_, _, _, _, rfl, memT, rfl, .inr ⟨rfl, _, rfl, rfl, subT⟩⟩, ⟨⟨_, rfl, subT⟩, trivial⟩⟩ () SubL.rfl' (List.nil_sublist _)
  have g2 : ¬ lockB p = true := fun e => Bool.noConfusion (show false = true from h4.symm.trans e)
  refine JC_seq ?_
  refine JC_region ?_
  refine JL_1 rfl (by first | exact op_fieldPtr (k := 0) (Ev.rfl' rfl) rfl rfl rfl rfl | exact op_fieldRefN (k := 0) (Ev.rfl' rfl) rfl rfl rfl rfl nrmT) ?_
  refine JL_1 rfl (by first | exact op_loadRef (Ev.rfl' rfl) rfl rfl rfl | exact op_loadPtr (Ev.rfl' rfl) memT (by rfl) (by rfl) (by rfl)) ?_
  refine JL_1 rfl (op_neq (Ev.rfl' rfl) (Ev.rfl' rfl)) ?_
  refine JL_1 rfl (op_assign rfl) ?_
  refine JL_nil ?_
  refine JQ_then ?_
  refine JC_cond (Ev.rfl' rfl) (fun h6 => ?_) (fun h6 => ?_)
  · have g3 : kindV p.d0 ≠ 0 := by simpa [unpackT] using h6
    have e : allP p kind aux = (Pg.nil, 17) := by unfold allP; rw [if_pos g1, if_neg g2, if_pos g3]
    rw [e]
    refine JC_seq ?_
    refine JC_region ?_
    refine JL_1 rfl (op_buildN (qs := []) rfl rfl rfl rfl trivial (by rfl) nrmT) ?_
    refine JL_s0 (op_storeN (Ev.rfl' rfl) (Ev.rfl' rfl) cellsT replT nrmT (by rfl) (by rfl) (by rfl)) ?_
    refine JL_1 rfl (op_assign rfl) ?_
    refine JL_nil ?_
    refine JQ_then (JC_ret (JQ_block_ret (JQ_then_ret ?_)))
    exact JQ_ret (Bs := [IsPg Pg.nil, Is (.int .i64 17)]) Try.results41 ⟨⟨_, _, _, _, rfl, memT, rfl, .inr ⟨rfl, _, rfl, rfl, subT⟩⟩, ⟨⟨_, rfl, subT⟩, trivial⟩⟩ () SubL.rfl' (List.nil_sublist _)
  have g3 : ¬ kindV p.d0 ≠ 0 := by simpa [unpackT] using h6
  refine JC_seq ?_
  refine JC_region ?_
  refine JL_1 rfl (by first | exact op_fieldPtr (k := 1) (Ev.rfl' rfl) rfl rfl rfl rfl | exact op_fieldRefN (k := 1) (Ev.rfl' rfl) rfl rfl rfl rfl nrmT) ?_
  refine JL_1 rfl (by first | exact op_loadRef (Ev.rfl' rfl) rfl rfl rfl | exact op_loadPtr (Ev.rfl' rfl) memT (by rfl) (by rfl) (by rfl)) ?_
  refine JL_1 rfl (op_eql (Ev.rfl' rfl) (Ev.rfl' rfl)) ?_
  refine JL_1 rfl (op_assign rfl) ?_
  refine JL_nil ?_
  refine JQ_then ?_
  refine JC_cond (Ev.rfl' rfl) (fun h8 => ?_) (fun h8 => ?_)
  · have g4 : genV p.d0 = 16777215 := by simpa [unpackT] using h8
    have e : allP p kind aux = (Pg.nil, 18) := by unfold allP; rw [if_pos g1, if_neg g2, if_neg g3, if_pos g4]
    rw [e]
    refine JC_seq ?_
    refine JC_region ?_
    refine JL_1 rfl (op_buildN (qs := []) rfl rfl rfl rfl trivial (by rfl) nrmT) ?_
    refine JL_s0 (op_storeN (Ev.rfl' rfl) (Ev.rfl' rfl) cellsT replT nrmT (by rfl) (by rfl) (by rfl)) ?_
    refine JL_1 rfl (op_assign rfl) ?_
    refine JL_nil ?_
    refine JQ_then (JC_ret (JQ_block_ret (JQ_then_ret ?_)))
    exact JQ_ret (Bs := [IsPg Pg.nil, Is (.int .i64 18)]) Try.results41 ⟨⟨_, _, _, _, rfl, memT, rfl, .inr ⟨rfl, _, rfl, rfl, subT⟩⟩, ⟨⟨_, rfl, subT⟩, trivial⟩⟩ () SubL.rfl' (List.nil_sublist _)
  have g4 : ¬ genV p.d0 = 16777215 := by simpa [unpackT] using h8
  have e : allP p kind aux = (tagP p ⟨kind, genV p.d0 + 1, aux⟩, 0) := by unfold allP; rw [if_pos g1, if_neg g2, if_neg g3, if_neg g4]
  rw [e]
  clear h8 h6
  refine JC_skip (JQ_block (JQ_then (JC_seq ?_)))
  refine JC_region ?_
  refine JL_1 rfl (by first | exact op_loadRefsN (n := 9) (Ev.rfl' rfl) rfl rfl rfl (by rfl) nrmT | exact op_loadPtrsN (n := 9) (Ev.rfl' rfl) memT (by rfl) (by rfl) (by rfl) (by rfl) nrmT) ?_
  refine JL_1 rfl (op_move rfl) ?_
  refine JL_1 rfl (by first | exact op_fieldPtr (k := 1) (Ev.rfl' rfl) rfl rfl rfl rfl | exact op_fieldRefN (k := 1) (Ev.rfl' rfl) rfl rfl rfl rfl nrmT) ?_
  refine JL_1 rfl (by first | exact op_loadRef (Ev.rfl' rfl) rfl rfl rfl | exact op_loadPtr (Ev.rfl' rfl) memT (by rfl) (by rfl) (by rfl)) ?_
  refine JL_1 rfl (op_add (Ev.rfl' rfl) (Ev.rfl' rfl) (wI64 (n := genV p.d0 + 1) (by omega))) ?_
  refine JL_1 rfl (op_move rfl) ?_
  refine JL_1 rfl (op_buildN (qs := [(0, _), (1, _), (2, _)]) rfl rfl rfl rfl ⟨⟨rfl, _, (Ev.rfl' rfl), cellsT⟩, ⟨⟨rfl, _, (Ev.rfl' rfl), cellsT⟩, ⟨⟨rfl, _, (Ev.rfl' rfl), cellsT⟩, trivial⟩⟩⟩ (by rfl) nrmT) ?_
  refine JL_1 rfl (op_call Try.call91 (tagged_ok p ⟨kind, genV p.d0 + 1, aux⟩) ⟨evS, ⟨evS, trivial⟩⟩) ?_
  refine JL_s0 (op_storeN (Ev.rfl' rfl) (Ev.rfl' rfl) cellsT replT nrmT (by rfl) (by rfl) (by rfl)) ?_
  refine JL_1 rfl (op_assign rfl) ?_
  refine JL_nil ?_
  refine JQ_then (JC_ret ?_)
  exact JQ_ret (Bs := [IsPg (tagP p ⟨kind, genV p.d0 + 1, aux⟩), Is (.int .i64 0)]) Try.results41 ⟨⟨_, _, _, _, rfl, memT, rfl, .inr ⟨rfl, _, rfl, rfl, subT⟩⟩, ⟨⟨_, rfl, subT⟩, trivial⟩⟩ () SubL.rfl' (List.nil_sublist _)
end Go.Proofs.Ytpfojangcgffkaa

/- Contracts: pages committed to a heap. Own work. -/
namespace Go.Proofs.Ytpfojangcgffkaa
open Go.RowKit
set_option linter.unusedVariables false
set_option linter.unusedSimpArgs false
set_option maxRecDepth 100000
def nextH (x : BitVec 64) : BitVec 64 := BitVec.ofInt 64 (IntKind.u64.wrap (IntKind.u64.wrap (IntKind.u64.wrap ((UV x).tdiv 256) + 1) * 256))
def comP (H : List Pg) (w : Pg) : List Pg := if 96 ≤ w.l ∧ w.l < 96 + (H.length : Int) then H.set (w.l - 96).toNat { w with h := nextH (H.getD (w.l - 96).toNat Pg.nil).h } else H
theorem comP_len (H : List Pg) (w : Pg) : (comP H w).length = H.length := by unfold comP; split <;> simp
theorem com_len : ∀ (ws H : List Pg), (ws.foldl comP H).length = H.length
  | [], H => rfl
  | w :: ws, H => by rw [List.foldl_cons, com_len ws, comP_len]
theorem com_take {ws H : List Pg} {k : Nat} {w : Pg} (h : ws[k]? = some w) : (ws.take (k + 1)).foldl comP H = comP ((ws.take k).foldl comP H) w := by
  rw [List.take_add_one, h, List.foldl_append]; rfl
theorem nextH_eq (x : BitVec 64) : IntKind.u64.wrap (IntKind.u64.wrap (IntKind.u64.wrap ((UV x).tdiv 256) + 1) * 256) = UV (nextH x) := (UV_ofInt64 (wrr _)).symm
-- (*bodega/bodegaheap.Heap).Commit: function 39
set_option maxHeartbeats 1000000 in
theorem Commit_ok (b n : Nat) (s : Option Addr × Nat) (lines : Int) (H ws : List Pg) (hH : H.length = n) (hn : n ≤ 200) (hlo : ∀ w, w ∈ ws → -9223372036854775000 ≤ w.l ∧ w.l ≤ 9223372036854775807) :
    Fn Try.prog 39 [Is (.pointer (some ⟨b, 0, none⟩)), IsSl tPg ws] [blk b 80 (heapC (slV n s) lines), buf (slV n s) 25 tPg H] (fun _ : Unit => IsTup []) (fun _ => [blk b 80 (heapC (slV n s) lines), buf (slV n s) 25 tPg (ws.foldl comP H)]) := by
  refine Fn.enterN Try.func39 Try.ntmps39 rfl rfl ?_
  intro c hX
  refine JC_len (t := 1) rfl (fun hlen => ?_)
  refine JC_seq ?_
  refine JC_region ?_
  refine JL_1 rfl (op_assign rfl) ?_
  refine JL_nil ?_
  refine JQ_then (JC_block ?_)
  refine JC_loopP (fun k : Nat => k ≤ ws.length) (fun k => [(0, Is (.pointer (some ⟨b, 0, none⟩))), (1, IsSl tPg ws), (4, Is (.int .i64 (k : Nat)))]) (fun k => [blk b 80 (heapC (slV n s) lines), buf (slV n s) 25 tPg ((ws.take k).foldl comP H)]) (fun k => ws.length - k) 0 (Nat.zero_le _) esubT lessT ?_
  rintro k hk
  refine JC_seq (JC_seq ?_)
  refine JC_region ?_
  refine JL_1 rfl (op_move rfl) ?_
  refine JL_1 rfl (op_move rfl) ?_
  refine JL_1 rfl (by first | exact op_len (Ev.rfl' rfl) rfl | exact op_lenLit (Ev.rfl' rfl) rfl) ?_
  refine JL_1 rfl (op_lss (Ev.rfl' rfl) (Ev.rfl' rfl)) ?_
  refine JL_nil ?_
  refine JQ_then ?_
  refine JC_cond (Ev.rfl' rfl) (fun h1 => ?_) (fun h1 => ?_)
  · have hlt : k < ws.length := by have := of_decide_eq_true h1; omega
    clear h1
    obtain ⟨w, hz⟩ : ∃ z, ws[k]? = some z := ⟨ws[k], List.getElem?_eq_getElem hlt⟩
    have hct := com_take (H := H) hz
    have hwl := hlo w (List.mem_of_getElem? hz)
    obtain ⟨G, hG⟩ : ∃ G, (ws.take k).foldl comP H = G := ⟨_, rfl⟩
    have hGl : G.length = n := by rw [← hG, com_len, hH]
    rw [hG] at hct
    rw [hG]
    refine JC_skip (JQ_then (JC_seq (JC_block (JC_seq ?_))))
    refine JC_region ?_
    refine JL_1 rfl (op_move rfl) ?_
    refine JL_1 rfl (op_move rfl) ?_
    refine JL_1 rfl (by first | exact op_indexBuf (k := _) (Ev.rfl' rfl) memT (Ev.rfl' rfl) rfl rfl idxT lenT | exact op_index (j := _) (Ev.rfl' rfl) (Ev.rfl' rfl) rfl rfl (by first | rfl | omega) hz | exact op_index (j := _) (Ev.rfl' rfl) (Ev.rfl' rfl) rfl rfl (by first | rfl | omega) (by assumption)) ?_
    refine JL_1 rfl (by first | exact op_fieldPtr (k := 0) (Ev.rfl' rfl) rfl rfl rfl rfl | exact op_fieldRefN (k := 0) (Ev.rfl' rfl) rfl rfl rfl rfl nrmT | exact op_fieldBuf (k := 0) (Ev.rfl' rfl) memT lenT rfl rfl rfl rfl) ?_
    refine JL_1 rfl (by first | exact op_loadBuf (Ev.rfl' rfl) memT (by assumption) rfl rfl (by rfl) | exact op_loadBuf0 (Ev.rfl' rfl) memT (by assumption) rfl rfl (by rfl) | exact op_loadRef (Ev.rfl' rfl) rfl rfl rfl | exact op_loadPtr (Ev.rfl' rfl) memT (by rfl) (by rfl) (by rfl)) ?_
    refine JL_1 rfl (op_sub (Ev.rfl' rfl) (Ev.rfl' rfl) wrapT) ?_
    refine JL_1 rfl (op_assign rfl) ?_
    refine JL_nil ?_
    refine JQ_then (JC_seq ?_)
    refine JC_region ?_
    refine JL_1 rfl (op_move rfl) ?_
    refine JL_1 rfl (op_geq (Ev.rfl' rfl) (Ev.rfl' rfl)) ?_
    refine JL_1 rfl (op_move rfl) ?_
    (first | refine JL_i0 rfl rfl rfl (fun hg => (by have hg0 := hg; (try simp at hg); first | exact op_moveE (Ev.sub rfl (SubL.iteT (by first | assumption | (simp; done) | (simp; omega) | (simp_all; done)) SubL.rfl')) | exact op_moveE (Ev.rfl' rfl))) ?_ | refine JL_i rfl rfl rfl (fun hp hg => (by have hpg := Bool.and_eq_true_iff.2 ⟨hp, hg⟩; have hg0 := hg; (try simp at hg); first | exact op_moveE (Ev.sub rfl (SubL.iteT (by first | assumption | (simp; done) | (simp; omega) | (simp_all; done)) SubL.rfl')) | exact op_moveE (Ev.rfl' rfl))) ?_)
    (first | refine JL_i0 rfl rfl rfl (fun hg => (by have hg0 := hg; (try simp at hg); first | exact op_moveE (Ev.sub rfl (SubL.iteT (by first | assumption | (simp; done) | (simp; omega) | (simp_all; done)) SubL.rfl')) | exact op_moveE (Ev.rfl' rfl))) ?_ | refine JL_i rfl rfl rfl (fun hp hg => (by have hpg := Bool.and_eq_true_iff.2 ⟨hp, hg⟩; have hg0 := hg; (try simp at hg); first | exact op_moveE (Ev.sub rfl (SubL.iteT (by first | assumption | (simp; done) | (simp; omega) | (simp_all; done)) SubL.rfl')) | exact op_moveE (Ev.rfl' rfl))) ?_)
    (first | refine JL_i0 rfl rfl rfl (fun hg => (by have hg0 := hg; (try simp at hg); first | exact op_nilCheck evG | exact op_nilRef evG | exact op_nilBuf evG memT lenT)) ?_ | refine JL_i rfl rfl rfl (fun hp hg => (by have hpg := Bool.and_eq_true_iff.2 ⟨hp, hg⟩; have hg0 := hg; (try simp at hg); first | exact op_nilCheck evG | exact op_nilRef evG | exact op_nilBuf evG memT lenT)) ?_)
    (first | refine JL_i0 rfl rfl rfl (fun hg => (by have hg0 := hg; (try simp at hg); first | exact op_fieldPtr (k := 0) evG rfl rfl rfl rfl | exact op_fieldRefN (k := 0) evG rfl rfl rfl rfl nrmT | exact op_fieldBuf (k := 0) evG memT lenT rfl rfl rfl rfl)) ?_ | refine JL_i rfl rfl rfl (fun hp hg => (by have hpg := Bool.and_eq_true_iff.2 ⟨hp, hg⟩; have hg0 := hg; (try simp at hg); first | exact op_fieldPtr (k := 0) evG rfl rfl rfl rfl | exact op_fieldRefN (k := 0) evG rfl rfl rfl rfl nrmT | exact op_fieldBuf (k := 0) evG memT lenT rfl rfl rfl rfl)) ?_)
    (first | refine JL_i0 rfl rfl rfl (fun hg => (by have hg0 := hg; (try simp at hg); first | exact op_loadBuf evG memT (by assumption) rfl rfl (by rfl) | exact op_loadBuf0 evG memT (by assumption) rfl rfl (by rfl) | exact op_loadRef evG rfl rfl rfl | exact op_loadPtr evG memT (by rfl) (by rfl) (by rfl))) ?_ | refine JL_i rfl rfl rfl (fun hp hg => (by have hpg := Bool.and_eq_true_iff.2 ⟨hp, hg⟩; have hg0 := hg; (try simp at hg); first | exact op_loadBuf evG memT (by assumption) rfl rfl (by rfl) | exact op_loadBuf0 evG memT (by assumption) rfl rfl (by rfl) | exact op_loadRef evG rfl rfl rfl | exact op_loadPtr evG memT (by rfl) (by rfl) (by rfl))) ?_)
    (first | refine JL_i0 rfl rfl rfl (fun hg => (by have hg0 := hg; (try simp at hg); first | exact op_len evG rfl | exact op_lenLit evG rfl)) ?_ | refine JL_i rfl rfl rfl (fun hp hg => (by have hpg := Bool.and_eq_true_iff.2 ⟨hp, hg⟩; have hg0 := hg; (try simp at hg); first | exact op_len evG rfl | exact op_lenLit evG rfl)) ?_)
    (first | refine JL_i0 rfl rfl rfl (fun hg => (by have hg0 := hg; (try simp at hg); exact op_lss evG evG)) ?_ | refine JL_i rfl rfl rfl (fun hp hg => (by have hpg := Bool.and_eq_true_iff.2 ⟨hp, hg⟩; have hg0 := hg; (try simp at hg); exact op_lss evG evG)) ?_)
    refine JL_1 rfl (op_and (Ev.rfl' rfl) rfl (fun h => by first | exact SubL.rfl' | exact SubL.iteT (by first | (rw [h]; rfl) | (simp_all; done)) SubL.rfl')) ?_
    refine JL_nil ?_
    refine JQ_then ?_
    refine JC_cond (Ev.rfl' rfl) (fun h4 => ?_) (fun h4 => ?_)
    · have g : 96 ≤ w.l ∧ w.l < 96 + (n : Int) := by simp at h4; omega
      obtain ⟨j, hj⟩ : ∃ j : Nat, w.l - 96 = (j : Int) := ⟨(w.l - 96).toNat, by omega⟩
      have hjn : j < G.length := by omega
      obtain ⟨q, hq⟩ : ∃ q, G[j]? = some q := ⟨G[j], List.getElem?_eq_getElem hjn⟩
      have hcv : comP G w = G.set j { w with h := nextH q.h } := by
        unfold comP
        rw [if_pos (by omega), hj, Int.toNat_natCast, List.getD_eq_getElem?_getD, hq]
        rfl
      rw [hcv] at hct
      clear h4
      rw [hj]
      refine JC_seq ?_
      refine JC_region ?_
      refine JL_1 rfl (op_move rfl) ?_
      refine JL_1 rfl (op_move rfl) ?_
      refine JL_1 rfl (by first | exact op_indexBuf (k := _) (Ev.rfl' rfl) memT (Ev.rfl' rfl) rfl rfl idxT lenT | exact op_index (j := _) (Ev.rfl' rfl) (Ev.rfl' rfl) rfl rfl (by first | rfl | omega) hz | exact op_index (j := _) (Ev.rfl' rfl) (Ev.rfl' rfl) rfl rfl (by first | rfl | omega) (by assumption)) ?_
      refine JL_1 rfl (by first | exact op_loadBufs (Ev.rfl' rfl) memT (by assumption) rfl rfl rfl | exact op_loadRefsN (n := 9) (Ev.rfl' rfl) rfl rfl rfl (by rfl) nrmT | exact op_loadPtrsN (n := 9) (Ev.rfl' rfl) memT (by rfl) (by rfl) (by rfl) (by rfl) nrmT) ?_
      (refine JL_n rfl (op_allocN rfl nrmT rfl) ?_; intro i6)
      refine JL_s0 (op_storeN (Ev.rfl' rfl) (Ev.rfl' rfl) cellsT replT nrmT (by rfl) (by rfl) (by rfl)) ?_
      refine JL_nil ?_
      refine JQ_then (JC_seq ?_)
      refine JC_region ?_
      refine JL_1 rfl (op_move rfl) ?_
      refine JL_1 rfl (by first | exact op_nilCheck (Ev.rfl' rfl) | exact op_nilRef (Ev.rfl' rfl) | exact op_nilBuf (Ev.rfl' rfl) memT lenT) ?_
      refine JL_1 rfl (by first | exact op_fieldPtr (k := 0) (Ev.rfl' rfl) rfl rfl rfl rfl | exact op_fieldRefN (k := 0) (Ev.rfl' rfl) rfl rfl rfl rfl nrmT | exact op_fieldBuf (k := 0) (Ev.rfl' rfl) memT lenT rfl rfl rfl rfl) ?_
      refine JL_1 rfl (by first | exact op_loadBuf (Ev.rfl' rfl) memT hq rfl rfl (by rfl) | exact op_loadBuf0 (Ev.rfl' rfl) memT hq rfl rfl (by rfl) | exact op_loadRef (Ev.rfl' rfl) rfl rfl rfl | exact op_loadPtr (Ev.rfl' rfl) memT (by rfl) (by rfl) (by rfl)) ?_
      refine JL_1 rfl (op_move rfl) ?_
      refine JL_1 rfl (by first | exact op_indexBuf (k := j) (Ev.rfl' rfl) memT (Ev.rfl' rfl) rfl rfl idxT lenT | exact op_index (j := _) (Ev.rfl' rfl) (Ev.rfl' rfl) rfl rfl (by first | rfl | omega) hz | exact op_index (j := _) (Ev.rfl' rfl) (Ev.rfl' rfl) rfl rfl (by first | rfl | omega) (by assumption)) ?_
      refine JL_1 rfl (by first | exact op_fieldPtr (k := 1) (Ev.rfl' rfl) rfl rfl rfl rfl | exact op_fieldRefN (k := 1) (Ev.rfl' rfl) rfl rfl rfl rfl nrmT | exact op_fieldBuf (k := 1) (Ev.rfl' rfl) memT lenT rfl rfl rfl rfl) ?_
      refine JL_1 rfl (by first | exact op_loadBuf (Ev.rfl' rfl) memT hq rfl rfl (by rfl) | exact op_loadBuf0 (Ev.rfl' rfl) memT hq rfl rfl (by rfl) | exact op_loadRef (Ev.rfl' rfl) rfl rfl rfl | exact op_loadPtr (Ev.rfl' rfl) memT (by rfl) (by rfl) (by rfl)) ?_
      refine JL_1 rfl (op_quo (Ev.rfl' rfl) (Ev.rfl' rfl) (by omega) wrapT) ?_
      refine JL_1 rfl (by first | exact op_binU ev64 ev64 (add_u64 _ _ _) | exact op_add (Ev.rfl' rfl) (Ev.rfl' rfl) wrapT) ?_
      refine JL_1 rfl (by first | exact op_binU ev64 ev64 (mul_u64 _ _ _) | exact op_mul (Ev.rfl' rfl) (Ev.rfl' rfl) wrapT) ?_
      refine JL_1 rfl (by first | exact op_fieldPtr (k := 1) (Ev.rfl' rfl) rfl rfl rfl rfl | exact op_fieldRefN (k := 1) (Ev.rfl' rfl) rfl rfl rfl rfl nrmT | exact op_fieldBuf (k := 1) (Ev.rfl' rfl) memT lenT rfl rfl rfl rfl) ?_
      refine JL_set 44 (Is (.int .u64 (UV (nextH q.h)))) rfl (SubL.eq (congrArg Is (congrArg (Value.int .u64) (nextH_eq q.h)))) ?_
      refine JL_s0 (op_storeN (Ev.rfl' rfl) (Ev.rfl' rfl) cellsT replT nrmT (by rfl) (by rfl) (by rfl)) ?_
      refine JL_nil ?_
      refine JQ_then ?_
      refine JC_dr rfl (by kernel_rfl) ?_
      refine JD_phase [0, 1, 1, 1, 0, 1, 1, 2] (by kernel_rfl) (by kernel_rfl) ?_
      refine PW_0 (op_move rfl) ?_
      refine PW_1 (by first | exact op_nilCheck (Ev.rfl' rfl) | exact op_nilRef (Ev.rfl' rfl) | exact op_nilBuf (Ev.rfl' rfl) memT lenT) ?_
      refine PW_1 (by first | exact op_fieldPtr (k := 0) (Ev.rfl' rfl) rfl rfl rfl rfl | exact op_fieldRefN (k := 0) (Ev.rfl' rfl) rfl rfl rfl rfl nrmT | exact op_fieldBuf (k := 0) (Ev.rfl' rfl) memT lenT rfl rfl rfl rfl) ?_
      refine PW_1 (by first | exact op_loadBuf (Ev.rfl' rfl) memT hq rfl rfl (by rfl) | exact op_loadBuf0 (Ev.rfl' rfl) memT hq rfl rfl (by rfl) | exact op_loadRef (Ev.rfl' rfl) rfl rfl rfl | exact op_loadPtr (Ev.rfl' rfl) memT (by rfl) (by rfl) (by rfl)) ?_
      refine PW_0 (op_move rfl) ?_
      refine PW_1 (by first | exact op_loadBufs (Ev.rfl' rfl) memT hq rfl rfl rfl | exact op_loadRefsN (n := 9) (Ev.rfl' rfl) rfl rfl rfl (by rfl) nrmT | exact op_loadPtrsN (n := 9) (Ev.rfl' rfl) memT (by rfl) (by rfl) (by rfl) (by rfl) nrmT) ?_
      refine PW_1 (by first | exact op_indexBuf (k := j) (Ev.rfl' rfl) memT (Ev.rfl' rfl) rfl rfl idxT lenT | exact op_index (j := _) (Ev.rfl' rfl) (Ev.rfl' rfl) rfl rfl (by first | rfl | omega) hz | exact op_index (j := _) (Ev.rfl' rfl) (Ev.rfl' rfl) rfl rfl (by first | rfl | omega) (by assumption)) ?_
      refine PW_2 (by first | exact op_storeBuf (z' := { w with h := nextH q.h }) (Ev.rfl' rfl) (Ev.rfl' rfl) cellsT replT hq rfl (by rfl) (by rfl) | exact op_storeBuf0 (z' := { w with h := nextH q.h }) (Ev.rfl' rfl) (Ev.rfl' rfl) cellsT replT hq rfl (by rfl) (by rfl)) ?_
      refine PW_end ?_
      refine JD_end ?_
      refine JQ_block (JQ_then ?_)
      refine JC_region ?_
      refine JL_1 rfl (op_move rfl) ?_
      refine JL_1 rfl (op_add (Ev.rfl' rfl) (Ev.rfl' rfl) wrapT) ?_
      refine JL_1 rfl (op_assign rfl) ?_
      refine JL_nil ?_
      first | (rw [← hct]; exact JQ_roundP (k + 1) (by omega) (by omega) esubT lessT) | exact JQ_roundP (k + 1) (by omega) (by omega) esubT lessT
    have hcv : comP G w = G := by
      unfold comP
      rw [if_neg]
      simp at h4
      omega
    rw [hcv] at hct
    rw [← hct]
    clear h4
    refine JC_skip (JQ_block (JQ_then ?_))
    refine JC_region ?_
    refine JL_1 rfl (op_move rfl) ?_
    refine JL_1 rfl (op_add (Ev.rfl' rfl) (Ev.rfl' rfl) wrapT) ?_
    refine JL_1 rfl (op_assign rfl) ?_
    refine JL_nil ?_
    first | (rw [← hct]; exact JQ_roundP (k + 1) (by omega) (by omega) esubT lessT) | exact JQ_roundP (k + 1) (by omega) (by omega) esubT lessT
  have hke : k = ws.length := by have := of_decide_eq_false h1; omega
  subst hke
  clear h1
  rw [List.take_length]
  refine JC_exit (JQ_then_exit (JQ_then_exit (JQ_hit (JQ_end ?_))))
  exact JQ_retP (Bs := []) Try.results39 trivial () SubL.rfl' lessT
end Go.Proofs.Ytpfojangcgffkaa

/- Contracts: the number of ones of a word; the pages of a segment that are not allocated; maps looked up. Own work. -/
namespace Go.Proofs.Ytpfojangcgffkaa
open Go.RowKit
set_option linter.unusedVariables false
set_option linter.unusedSimpArgs false
set_option maxRecDepth 100000
theorem op_indexPop {P : Program} {c : Ctx} {A : Nat → Option VP} {L : List Item} {d : Option Tmp} {ty : TypeId} {pos : String} {af : Array Edge} {g : Option (Nat × Bool)} {t : TypeId} {s : ByteArray} {y : Operand} {q : IntKind} {j : Int} (hs : s = Lib.pop8tab) (hu : P.underlying t = some .string) (hy : Ev A L y (Is (.int q j))) (h0 : 0 ≤ j) (h1 : j ≤ 255) :
    OpP P c ⟨d, .index t (.const (.string s)) y, ty, pos, af, g⟩ A L (Is (.int .u8 (Lib.pop8 j))) :=
  opp fun φ a w hm he => by
    have e1 : a.eval y = .int q j := he y (by simp [Op.operands]) _ hy
    refine ⟨_, ?_, rfl⟩
    have e2 : a.eval (.const (.string s)) = .string s := rfl
    simp only [execOp, e1, e2, hs]
    exact run_val (Lib.run_index_pop8tab w t q j hu h0 h1)
theorem pop8_rng : ∀ n : Fin 256, 0 ≤ Lib.pop8 (n.val : Int) ∧ Lib.pop8 (n.val : Int) ≤ 8 := by decide +kernel
theorem pop8_in {j : Int} (h0 : 0 ≤ j) (h1 : j ≤ 255) : 0 ≤ Lib.pop8 j ∧ Lib.pop8 j ≤ 8 := by
  have h := pop8_rng ⟨j.toNat, by omega⟩
  rw [show ((⟨j.toNat, by omega⟩ : Fin 256).val : Int) = j by simp; omega] at h
  exact h
theorem wU8 {n : Int} (h : 0 ≤ n ∧ n < 256) : IntKind.u8.wrap n = n := by
  rw [to_u8_int]; unfold UV; rw [BitVec.toNat_ofInt]; simp; omega
def popV (u : BitVec 32) : Int := Lib.pop8 (UV (u >>> 24)) + Lib.pop8 (UV (u >>> 16 &&& BitVec.ofInt 32 255)) + Lib.pop8 (UV (u >>> 8 &&& BitVec.ofInt 32 255)) + Lib.pop8 (UV (u &&& BitVec.ofInt 32 255))
theorem b255 (x : BitVec 32) : 0 ≤ UV (x &&& BitVec.ofInt 32 255) ∧ UV (x &&& BitVec.ofInt 32 255) ≤ 255 := by
  rw [UV_low 32 8 x _ rfl]
  have := UV_nonneg x
  omega
theorem b24 (x : BitVec 32) : 0 ≤ UV (x >>> 24) ∧ UV (x >>> 24) ≤ 255 := by
  rw [UV_shr]
  have := UV_nonneg x
  have h : UV x < 4294967296 := by unfold UV; have := x.isLt; omega
  omega
theorem popV_rng (u : BitVec 32) : 0 ≤ popV u ∧ popV u ≤ 32 := by
  unfold popV
  have h1 := pop8_in (b24 u).1 (b24 u).2
  have h2 := pop8_in (b255 (u >>> 16)).1 (b255 (u >>> 16)).2
  have h3 := pop8_in (b255 (u >>> 8)).1 (b255 (u >>> 8)).2
  have h4 := pop8_in (b255 u).1 (b255 u).2
  omega
-- math/bits.OnesCount32: function 116
theorem OnesCount32_ok (u : BitVec 32) : FnP Try.prog 116 [Is (.int .u32 (UV u))] (Is (.int .i64 (popV u))) := by
  have h1 := pop8_in (b24 u).1 (b24 u).2
  have h2 := pop8_in (b255 (u >>> 16)).1 (b255 (u >>> 16)).2
  have h3 := pop8_in (b255 (u >>> 8)).1 (b255 (u >>> 8)).2
  have h4 := pop8_in (b255 u).1 (b255 u).2
  refine FnP.enter Try.func116 Try.ntmps116 rfl rfl ?_
  intro c hX
  refine JC_seq ?_
  refine JC_region ?_
  refine JL_1 rfl (op_assign rfl) ?_
  refine JL_nil ?_
  refine JQ_then (JC_seq ?_)
  refine JC_dr rfl (by kernel_rfl) ?_
  refine JD_stretch 19 (by kernel_rfl) ?_
  refine JW_1 (op_move rfl) ?_
  refine JW_1 (by first | exact op_shrU32 (k := 24) ev32 (Ev.rfl' rfl) (by first | omega | exact UV_nonneg _) idxT | exact op_shr (Ev.rfl' rfl) (Ev.rfl' rfl) (by first | omega | exact UV_nonneg _) rfl) ?_
  refine JW_1 (op_indexPop rfl rfl (Ev.rfl' rfl) (b24 u).1 (b24 u).2) ?_
  refine JW_1 (op_move rfl) ?_
  refine JW_1 (by first | exact op_shrU32 (k := 16) ev32 (Ev.rfl' rfl) (by first | omega | exact UV_nonneg _) idxT | exact op_shr (Ev.rfl' rfl) (Ev.rfl' rfl) (by first | omega | exact UV_nonneg _) rfl) ?_
  refine JW_1 (by first | exact op_bits ev32 ev32 (by simp) (and_u32 _ _) | exact op_bits (Ev.rfl' rfl) (Ev.rfl' rfl) (by simp) rfl) ?_
  refine JW_1 (op_indexPop rfl rfl (Ev.rfl' rfl) (b255 _).1 (b255 _).2) ?_
  refine JW_1 (op_add (Ev.rfl' rfl) (Ev.rfl' rfl) (wU8 (by omega))) ?_
  refine JW_1 (op_move rfl) ?_
  refine JW_1 (by first | exact op_shrU32 (k := 8) ev32 (Ev.rfl' rfl) (by first | omega | exact UV_nonneg _) idxT | exact op_shr (Ev.rfl' rfl) (Ev.rfl' rfl) (by first | omega | exact UV_nonneg _) rfl) ?_
  refine JW_1 (by first | exact op_bits ev32 ev32 (by simp) (and_u32 _ _) | exact op_bits (Ev.rfl' rfl) (Ev.rfl' rfl) (by simp) rfl) ?_
  refine JW_1 (op_indexPop rfl rfl (Ev.rfl' rfl) (b255 _).1 (b255 _).2) ?_
  refine JW_1 (op_add (Ev.rfl' rfl) (Ev.rfl' rfl) (wU8 (by omega))) ?_
  refine JW_1 (op_move rfl) ?_
  refine JW_1 (by first | exact op_bits ev32 ev32 (by simp) (and_u32 _ _) | exact op_bits (Ev.rfl' rfl) (Ev.rfl' rfl) (by simp) rfl) ?_
  refine JW_1 (op_indexPop rfl rfl (Ev.rfl' rfl) (b255 _).1 (b255 _).2) ?_
  refine JW_1 (op_add (Ev.rfl' rfl) (Ev.rfl' rfl) (wU8 (by omega))) ?_
  refine JW_1 (op_conv (Ev.rfl' rfl) rfl rfl (wI64 (by omega))) ?_
  refine JW_1 (op_assign rfl) ?_
  refine ⟨rfl, ?_⟩
  refine JD_end ?_
  refine JQ_then (JC_ret ?_)
  refine JQ_ret1 Try.results116 rfl () (SubL.eq ?_) (List.nil_sublist _)
  rfl
def vacV (h : Hd) : Int := 15 - popV h.used
-- segment.vacant: function 85
theorem vacant_ok (h : Hd) : FnP Try.prog 85 [IsHd h] (Is (.int .i64 (vacV h))) := by
  have := popV_rng h.used
  refine FnP.enter Try.func85 Try.ntmps85 rfl rfl ?_
  intro c hX
  refine JC_seq ?_
  refine JC_region ?_
  (refine JL_n rfl (op_box (Ev.rfl' rfl) cellsT) ?_; intro i1)
  refine JL_1 rfl (op_assign rfl) ?_
  refine JL_nil ?_
  refine JQ_then (JC_seq ?_)
  refine JC_region ?_
  refine JL_1 rfl (by first | exact op_fieldPtr (k := 1) (Ev.rfl' rfl) rfl rfl rfl rfl | exact op_fieldRefN (k := 1) (Ev.rfl' rfl) rfl rfl rfl rfl nrmT) ?_
  refine JL_1 rfl (by first | exact op_loadRef (Ev.rfl' rfl) rfl rfl rfl | exact op_loadPtr (Ev.rfl' rfl) memT (by rfl) (by rfl) (by rfl)) ?_
  refine JL_1 rfl (op_call Try.call116 (OnesCount32_ok _) ⟨evS, trivial⟩) ?_
  refine JL_1 rfl (op_sub (Ev.rfl' rfl) (Ev.rfl' rfl) wrapT) ?_
  refine JL_1 rfl (op_assign rfl) ?_
  refine JL_nil ?_
  refine JQ_then (JC_ret ?_)
  refine JQ_ret1 Try.results85 rfl () (SubL.eq ?_) (List.nil_sublist _)
  rfl
/-! ### Maps: a key that is there, a key that is not -/
section
variable {P : Program} {c : Ctx} {A : Nat → Option VP} {L : List Item} {d : Option Tmp} {ty : TypeId} {pos : String} {af : Array Edge} {g : Option (Nat × Bool)} {α : Type} {V : α → VP} {l : List (Int × α)} {b : Nat} {t kt et : TypeId} {x y : Operand}
theorem op_lookupS {k : Int} {zv : Value} {v : α} (hv : mget l k = some v) (hx : Ev A L x (Is (.map (some b)))) (hL : mp b V l ∈ L) (hy : Ev A L y (Is (.int .i64 k))) (hu : P.underlying t = some (.map kt et)) (hk : P.underlying kt = some (.int .i64)) (hz : (P.info? et).map (·.zero) = some (some zv)) :
    OpP P c ⟨d, .lookup t x y false, ty, pos, af, g⟩ A L (V v) := by
  have h := op_lookup (P := P) (c := c) (d := d) (ty := ty) (pos := pos) (af := af) (g := g) hx hL hy hu hk hz
  rw [hv] at h
  exact h
end
end Go.Proofs.Ytpfojangcgffkaa

/- Plain laws: which pages are taken when pages are allocated. Own work. -/
namespace Go.Proofs.Ytpfojangcgffkaa
open Go.RowKit
set_option linter.unusedVariables false
set_option linter.unusedSimpArgs false
set_option maxRecDepth 100000
/-! ### Maps that are told as lists of keys -/
theorem mput_new {α : Type} {k : Int} {x : α} : ∀ {l : List (Int × α)}, k ∉ l.map Prod.fst → mput l k x = l ++ [(k, x)]
  | [], _ => rfl
  | (j, y) :: l, h => by
    simp only [List.map_cons, List.mem_cons, not_or] at h
    unfold mput
    rw [if_neg (fun e => h.1 e.symm), mput_new h.2]
    rfl
theorem mput_last {α : Type} {k : Int} {x y : α} : ∀ {l : List (Int × α)}, k ∉ l.map Prod.fst → mput (l ++ [(k, y)]) k x = l ++ [(k, x)]
  | [], _ => by simp [mput]
  | (j, z) :: l, h => by
    simp only [List.map_cons, List.mem_cons, not_or] at h
    rw [List.cons_append]
    unfold mput
    rw [if_neg (fun e => h.1 e.symm), mput_last h.2]
    rfl
theorem mget_none {α : Type} {k : Int} : ∀ {l : List (Int × α)}, k ∉ l.map Prod.fst → mget l k = none
  | [], _ => rfl
  | (j, y) :: l, h => by
    simp only [List.map_cons, List.mem_cons, not_or] at h
    unfold mget
    rw [if_neg (fun e => h.1 e.symm), mget_none h.2]
theorem mget_map {α : Type} {f : Int → α} {s : Int} : ∀ {S : List Int}, s ∈ S → mget (S.map fun s => (s, f s)) s = some (f s)
  | [], h => by cases h
  | j :: S, h => by
    simp only [List.map_cons]
    unfold mget
    by_cases e : j = s
    · rw [if_pos e, e]
    · rw [if_neg e]
      rcases List.mem_cons.1 h with h | h
      · exact absurd h.symm e
      · exact mget_map h
theorem mget_append_right {α : Type} {k : Int} : ∀ {l m : List (Int × α)}, k ∉ l.map Prod.fst → mget (l ++ m) k = mget m k
  | [], m, _ => rfl
  | (j, y) :: l, m, h => by
    simp only [List.map_cons, List.mem_cons, not_or] at h
    rw [List.cons_append]
    conv => lhs; unfold mget
    rw [if_neg (fun e => h.1 e.symm), mget_append_right h.2]
theorem not_in_take {S : List Int} {k : Nat} {s : Int} (hz : S[k]? = some s) (hnd : S.Nodup) : s ∉ S.take k := fun hm => by
  obtain ⟨j, hj, e⟩ := List.getElem_of_mem hm
  rw [List.getElem_take] at e
  obtain ⟨hk, e2⟩ := List.getElem?_eq_some_iff.1 hz
  have hjk : j < k := by simp at hj; omega
  exact (List.pairwise_iff_getElem.1 hnd) j k (by omega) hk hjk (e.trans e2.symm)
theorem mput_map {α : Type} {f : Int → α} {S : List Int} {k : Nat} {s : Int} (hz : S[k]? = some s) (hnd : S.Nodup) : mput ((S.take k).map fun s => (s, f s)) s (f s) = (S.take (k + 1)).map fun s => (s, f s) := by
  rw [mput_new, List.take_add_one, hz, List.map_append]
  · rfl
  · rw [List.map_map]
    show s ∉ (S.take k).map (fun x => x)
    rw [List.map_id']
    exact not_in_take hz hnd
/-! ### The segments of a bitmap are different -/
theorem ownV_lt {bm : BitVec 32} {x : Int} : ∀ {n : Nat}, x ∈ ownV bm n → 0 ≤ x ∧ x < n
  | 0, h => by cases h
  | n + 1, h => by
    unfold ownV at h
    split at h
    · rcases List.mem_append.1 h with h | h
      · have := ownV_lt h; omega
      · simp at h; omega
    · have := ownV_lt h; omega
theorem ownV_nodup (bm : BitVec 32) : ∀ n : Nat, (ownV bm n).Nodup
  | 0 => List.nodup_nil
  | n + 1 => by
    unfold ownV
    split
    · refine List.nodup_append.2 ⟨ownV_nodup bm n, by simp, fun a ha b hb e => ?_⟩
      simp at hb
      have := ownV_lt ha
      omega
    · exact ownV_nodup bm n
/-! ### What is taken -/
abbrev Pk := List (Int × List Nat)
abbrev Alo := List Int × List Pg × List Pg × Int × Bool
@[reducible] def errA (e : Int) : Alo := ([], [], [], e, true)
def orb (u : BitVec 32) (q : List Nat) : BitVec 32 := q.foldl (fun u i => u ||| BitVec.ofInt 32 1 <<< i) u
theorem orb_snoc (u : BitVec 32) (q : List Nat) (i : Nat) : orb u (q ++ [i]) = orb u q ||| BitVec.ofInt 32 1 <<< i := by unfold orb; rw [List.foldl_append]; rfl
def pkV (ks : List Pg) (l : Int) : Int :=
  if latB ks l = true then (if lockB (latP ks l) = true then 3 else if kindV (latP ks l).d0 ≠ 0 then 11 else if genV (latP ks l).d0 = 16777215 then -1 else 0) else 0
def inn (ks : List Pg) (s : Int) (cnt : Nat) : Nat → Nat → Nat → BitVec 32 → List Nat → Except Int (List Nat)
  | 0, _, _, _, q => .ok q
  | f + 1, i, ch, u, q =>
    if ch < cnt then
      if bitB u i = true then inn ks s cnt f (i + 1) ch u q
      else if pkV ks (lineV s + i) = -1 then inn ks s cnt f (i + 1) ch u q
      else if pkV ks (lineV s + i) = 0 then inn ks s cnt f (i + 1) (ch + 1) (u ||| BitVec.ofInt 32 1 <<< i) (q ++ [i])
      else .error (pkV ks (lineV s + i))
    else .ok q
def hdS' (ks : List Pg) (s : Int) : Hd := (headV ks s).2.1
def outS (ks : List Pg) (cnt : Nat) : List Int → Nat → Pk → Except Int Pk
  | [], _, ps => .ok ps
  | s :: ss, ch, ps => match inn ks s cnt 15 1 ch (hdS' ks s).used [] with
    | .error e => .error e
    | .ok q => outS ks cnt ss (ch + q.length) (ps ++ [(s, q)])
def totP (ps : Pk) : Nat := (ps.map fun x => x.2.length).sum
def linP (ps : Pk) : List Int := ps.flatMap fun x => x.2.map fun i : Nat => lineV x.1 + (i : Int)
def needP (ks : List Pg) (ps : Pk) : List Int := (linP ps).filter fun l => !latB ks l
def freP (ks : List Pg) (ps : Pk) : List Pg := ((linP ps).filter fun l => latB ks l).map (latP ks)
def newHd (ks : List Pg) (x : Int × List Nat) : Hd := ⟨(hdS' ks x.1).owner, orb (hdS' ks x.1).used x.2⟩
def chgP (ks : List Pg) (ps : Pk) : List (Int × Hd) := (ps.filter fun x => !x.2.isEmpty).map fun x => (x.1, newHd ks x)
def wriP (ks : List Pg) (ps : Pk) : List Pg := (ps.filter fun x => !x.2.isEmpty).map fun x => (writeH (headV ks x.1).1 (newHd ks x)).1
def finA (ks : List Pg) (cnt : Nat) (ps : Pk) : Alo :=
  if totP ps < cnt then errA 12 else if 0 < (needP ks ps).length then (needP ks ps, [], [], 0, false) else ([], freP ks ps, wriP ks ps, 0, true)
def excA (ks : List Pg) (cnt : Nat) : Except Int Pk → Alo
  | .error e => errA e
  | .ok ps => finA ks cnt ps
def srcV (ks : List Pg) (cnt : Nat) (S : List Int) : List Int := match S.find? fun s => decide (vacV (hdS' ks s) ≥ (cnt : Int)) with
  | some s => [s]
  | none => S
def hdE (ks : List Pg) (cl : Int) : List Int → Option Int
  | [] => none
  | s :: ss => if (headV ks s).2.2.2 ≠ 0 then some (headV ks s).2.2.2 else if (hdS' ks s).owner ≠ cl then some 11 else hdE ks cl ss
def aloH (ks : List Pg) (cl : Int) (cnt : Nat) (S T : List Int) : Alo := match hdE ks cl T with
  | some e => errA e
  | none => excA ks cnt (outS ks cnt (srcV ks cnt S) 0 [])
def innX (ks : List Pg) (cnt : Nat) (s : Int) (ss : List Int) (ch0 : Nat) (ps : Pk) : Except Int (List Nat) → Alo
  | .error e => errA e
  | .ok q => excA ks cnt (outS ks cnt ss (ch0 + q.length) (ps ++ [(s, q)]))
theorem outS_step {ks : List Pg} {cnt : Nat} {s : Int} {ss : List Int} {ch : Nat} {ps : Pk} : excA ks cnt (outS ks cnt (s :: ss) ch ps) = innX ks cnt s ss ch ps (inn ks s cnt 15 1 ch (hdS' ks s).used []) := by
  show excA ks cnt (match inn ks s cnt 15 1 ch (hdS' ks s).used [] with
    | .error e => .error e
    | .ok q => outS ks cnt ss (ch + q.length) (ps ++ [(s, q)])) = _
  cases inn ks s cnt 15 1 ch (hdS' ks s).used [] <;> rfl
theorem linP_snoc (ps : Pk) (s : Int) (q : List Nat) (i : Nat) : linP (ps ++ [(s, q ++ [i])]) = linP (ps ++ [(s, q)]) ++ [lineV s + (i : Int)] := by
  unfold linP
  simp
theorem linP_nil (ps : Pk) (s : Int) : linP (ps ++ [(s, [])]) = linP ps := by unfold linP; simp
theorem tot_snoc (ps : Pk) (s : Int) (q : List Nat) : totP (ps ++ [(s, q)]) = totP ps + q.length := by unfold totP; simp
theorem lin_len (ps : Pk) : (linP ps).length = totP ps := by
  unfold linP totP
  induction ps with
  | nil => rfl
  | cons x ps ih => simp [ih]
theorem need_le (ks : List Pg) (ps : Pk) : (needP ks ps).length ≤ totP ps := by
  rw [← lin_len]; exact List.length_filter_le _ _
theorem fre_le (ks : List Pg) (ps : Pk) : (freP ks ps).length ≤ totP ps := by
  rw [← lin_len]; unfold freP; rw [List.length_map]; exact List.length_filter_le _ _
theorem wri_le (ks : List Pg) (ps : Pk) : (wriP ks ps).length ≤ ps.length := by
  unfold wriP; rw [List.length_map]; exact List.length_filter_le _ _
theorem need_snoc0 {ks : List Pg} {ps : Pk} {s : Int} {q : List Nat} {i : Nat} (h : latB ks (lineV s + (i : Int)) = false) : needP ks (ps ++ [(s, q ++ [i])]) = needP ks (ps ++ [(s, q)]) ++ [lineV s + (i : Int)] := by
  unfold needP; rw [linP_snoc, List.filter_append]; simp [h]
theorem need_snoc1 {ks : List Pg} {ps : Pk} {s : Int} {q : List Nat} {i : Nat} (h : latB ks (lineV s + (i : Int)) = true) : needP ks (ps ++ [(s, q ++ [i])]) = needP ks (ps ++ [(s, q)]) := by
  unfold needP; rw [linP_snoc, List.filter_append]; simp [h]
theorem fre_snoc0 {ks : List Pg} {ps : Pk} {s : Int} {q : List Nat} {i : Nat} (h : latB ks (lineV s + (i : Int)) = false) : freP ks (ps ++ [(s, q ++ [i])]) = freP ks (ps ++ [(s, q)]) := by
  unfold freP; rw [linP_snoc, List.filter_append]; simp [h]
theorem fre_snoc1 {ks : List Pg} {ps : Pk} {s : Int} {q : List Nat} {i : Nat} (h : latB ks (lineV s + (i : Int)) = true) : freP ks (ps ++ [(s, q ++ [i])]) = freP ks (ps ++ [(s, q)]) ++ [latP ks (lineV s + (i : Int))] := by
  unfold freP; rw [linP_snoc, List.filter_append]; simp [h]
theorem need_nil (ks : List Pg) (ps : Pk) (s : Int) : needP ks (ps ++ [(s, [])]) = needP ks ps := by unfold needP; rw [linP_nil]
theorem fre_nil (ks : List Pg) (ps : Pk) (s : Int) : freP ks (ps ++ [(s, [])]) = freP ks ps := by unfold freP; rw [linP_nil]
theorem chg_nil (ks : List Pg) (ps : Pk) (s : Int) : chgP ks (ps ++ [(s, [])]) = chgP ks ps := by unfold chgP; simp
theorem chg_keys {ks : List Pg} {ps : Pk} {s : Int} (h : s ∉ ps.map Prod.fst) : s ∉ (chgP ks ps).map Prod.fst := fun hm => by
  unfold chgP at hm
  rw [List.map_map] at hm
  obtain ⟨x, hx, rfl⟩ := List.mem_map.1 hm
  exact h (List.mem_map.2 ⟨x, (List.mem_filter.1 hx).1, rfl⟩)
theorem chg_put {ks : List Pg} {ps : Pk} {s : Int} {q : List Nat} {i : Nat} (h : s ∉ ps.map Prod.fst) : mput (chgP ks (ps ++ [(s, q)])) s (newHd ks (s, q ++ [i])) = chgP ks (ps ++ [(s, q ++ [i])]) := by
  have e : chgP ks (ps ++ [(s, q ++ [i])]) = chgP ks ps ++ [(s, newHd ks (s, q ++ [i]))] := by unfold chgP; simp
  rw [e]
  cases q with
  | nil => rw [chg_nil, mput_new (chg_keys h)]
  | cons a q =>
    have e2 : chgP ks (ps ++ [(s, a :: q)]) = chgP ks ps ++ [(s, newHd ks (s, a :: q))] := by unfold chgP; simp
    rw [e2, mput_last (chg_keys h)]
theorem chg_get {ks : List Pg} : ∀ {ps : Pk} {k : Nat} {s : Int} {q : List Nat}, (ps.map Prod.fst).Nodup → ps[k]? = some (s, q) → mget (chgP ks ps) s = if q = [] then none else some (newHd ks (s, q))
  | [], k, s, q, _, h => by simp at h
  | (s', q') :: ps, 0, s, q, hn, h => by
    simp at h
    obtain ⟨rfl, rfl⟩ := h
    have hk := (List.nodup_cons.1 hn).1
    cases q' with
    | nil =>
      rw [if_pos rfl]
      exact mget_none (by have := chg_keys (ks := ks) hk; unfold chgP at this ⊢; simpa using this)
    | cons a q =>
      rw [if_neg (by simp)]
      have e2 : chgP ks ((s', a :: q) :: ps) = (s', newHd ks (s', a :: q)) :: chgP ks ps := by unfold chgP; simp
      rw [e2]
      unfold mget
      rw [if_pos rfl]
  | (s', q') :: ps, k + 1, s, q, hn, h => by
    have hk := (List.nodup_cons.1 hn).1
    have h' : ps[k]? = some (s, q) := by simpa using h
    have hne : s' ≠ s := fun e => hk (by
      rw [show (s', q').fst = s' from rfl, e]
      exact List.mem_map.2 ⟨_, List.mem_of_getElem? h', rfl⟩)
    have ih := chg_get (ks := ks) (List.nodup_cons.1 hn).2 h'
    cases q' with
    | nil =>
      have e2 : chgP ks ((s', []) :: ps) = chgP ks ps := by unfold chgP; simp
      rw [e2]; exact ih
    | cons a q'' =>
      have e2 : chgP ks ((s', a :: q'') :: ps) = (s', newHd ks (s', a :: q'')) :: chgP ks ps := by unfold chgP; simp
      rw [e2]
      conv => lhs; unfold mget
      rw [if_neg hne]; exact ih
theorem wri_take {ks : List Pg} {ps : Pk} {k : Nat} {s : Int} {q : List Nat} (h : ps[k]? = some (s, q)) : wriP ks (ps.take (k + 1)) = if q = [] then wriP ks (ps.take k) else wriP ks (ps.take k) ++ [(writeH (headV ks s).1 (newHd ks (s, q))).1] := by
  unfold wriP
  rw [List.take_add_one, h, List.filter_append, List.map_append]
  cases q <;> simp
end Go.Proofs.Ytpfojangcgffkaa
