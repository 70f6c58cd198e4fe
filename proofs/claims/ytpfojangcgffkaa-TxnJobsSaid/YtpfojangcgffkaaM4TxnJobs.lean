/- Texts of this claim, laid together (part 4): walks of functions, what they compute, and plain laws of it. Own work. -/
import Derived.Shelf.Sort.Plain
import Derived.Shelf.Slices.CompactI
import Derived.Test.YtpfojangcgffkaaM3TxnJobs
/- The contract of bodegahand.Pick: the remainder that is not negative. Own work. -/
namespace Go.Proofs.Ytpfojangcgffkaa
open Go.RowKit
set_option linter.unusedVariables false
set_option linter.unusedSimpArgs false
theorem pick_emod (n k : Int) (h : 1 ≤ k) : (n.tmod k + k) % k = n % k := by
  rw [Int.add_emod_right, Int.tmod_eq_emod]
  split
  · show (n % k - 0) % k = _; rw [Int.sub_zero, Int.emod_emod_of_dvd _ (Int.dvd_refl k)]
  · rw [Int.natAbs_of_nonneg (by omega), Int.sub_emod, Int.emod_self]; simp
theorem Pick_any (n k : Int) (w : World) (hb : 1 ≤ k) (hb2 : k ≤ 4611686018427387903) :
    Calls Try.prog 14 #[.int .i64 n, .int .i64 k] w fun e w' => e = .returned (.int .i64 (n % k)) ∧ w = w' := by
  have h1 := Int.tmod_lt_of_pos n (show 0 < k by omega)
  have h2 := Int.lt_tmod_of_pos n (show 0 < k by omega)
  have H := Lib.hid (pick_emod n k hb)
  go_enter Try.func14, Try.ntmps14
  go_wp2
  go_ret
  refine ⟨?_, rfl⟩
  rw [← H.out]
  rfl
/-- The same, the remainder as a new number. -/
theorem Pick_ex (n k : Int) (w : World) (hb : 1 ≤ k) (hb2 : k ≤ 4611686018427387903) :
    Calls Try.prog 14 #[.int .i64 n, .int .i64 k] w fun e w' => ∃ r : Int, e = .returned (.int .i64 r) ∧ 0 ≤ r ∧ r < k ∧ Hid (r = n % k) ∧ w = w' :=
  (Pick_any n k w hb hb2).mono fun e w' ⟨he, hw⟩ => ⟨n % k, he, Int.emod_nonneg _ (by omega), Int.emod_lt_of_pos _ (by omega), rfl, hw⟩
/-- Inside a region that draws: the remainder as a new natural number. -/
theorem call_pick {W : World} {K : Value → Prop} (n k : Int) (hb : 1 ≤ k) (hb2 : k ≤ 4611686018427387903) (h : ∀ j : Nat, (j : Int) < k → Hid ((j : Int) = n % k) → K (.int .i64 (j : Int))) :
    ∃ v, Calls Try.prog 14 #[.int .i64 n, .int .i64 k] W (fun e w'' => e = .returned v ∧ w'' = W) ∧ K v := by
  obtain ⟨j, hj⟩ := Int.eq_ofNat_of_zero_le (Int.emod_nonneg n (show k ≠ 0 by omega))
  have hlt := Int.emod_lt_of_pos n (show 0 < k by omega)
  refine ⟨_, (Pick_any n k W hb hb2).mono fun e w' ⟨he, hw⟩ => ⟨he, hw.symm⟩, ?_⟩
  rw [hj]
  exact h j (by omega) hj.symm
end Go.Proofs.Ytpfojangcgffkaa

/- For the transactions alone (XG8, parts of XG9, XGC, XGD): the last known page of a line; what is missing; the segments of a bitmap; known node pages and header pages. Own work. -/
namespace Go.Proofs.Ytpfojangcgffkaa
open Go.RowKit
set_option linter.unusedVariables false
set_option linter.unusedSimpArgs false
set_option maxRecDepth 100000
/-! ### A constant string's byte -/
theorem op_indexStr {P : Program} {c : Ctx} {A : Nat → Option VP} {L : List Item} {d : Option Tmp} {ty : TypeId} {pos : String} {af : Array Edge} {g : Option (Nat × Bool)} {t : TypeId} {s : ByteArray} {y : Operand} {q : IntKind} {j : Int} {k : Nat} {b : UInt8} (hu : P.underlying t = some .string) (hy : Ev A L y (Is (.int q j))) (hj : j = k) (hb : s[k]? = some b) :
    OpP P c ⟨d, .index t (.const (.string s)) y, ty, pos, af, g⟩ A L (Is (.int .u8 b.toNat)) :=
  opp fun φ a w hm he => by
    have h1 : a.eval y = .int q j := he y (by simp [Op.operands]) _ hy
    refine ⟨_, ?_, rfl⟩
    have h2 : a.eval (.const (.string s)) = .string s := rfl
    subst hj
    simp only [execOp, h1, h2]
    refine run_val ?_
    simp only [Instr.index, asIntOf, Sem.run_bind, Sem.run_pure, Result.andThen_ok, run_underlying hu]
    rw [if_pos (by omega)]
    simp only [Int.toNat_natCast, hb]
    rfl
-- math/bits.Len64: function 142
theorem Len64_0 : FnP Try.prog 142 [Is (.int .u64 0)] (Is (.int .i64 0)) := by
  refine FnP.enter Try.func142 Try.ntmps142 rfl rfl ?_
  intro c hX
  refine JC_seq ?_
  refine JC_region ?_
  refine JL_1 rfl (op_assign rfl) ?_
  refine JL_nil ?_
  refine JQ_then (JC_seq (JC_seq ?_))
  refine JC_region ?_
  refine JL_1 rfl (op_move rfl) ?_
  refine JL_1 rfl (op_geq (Ev.rfl' rfl) (Ev.rfl' rfl)) ?_
  refine JL_nil ?_
  refine JQ_then ?_
  refine JC_cond (Ev.rfl' rfl) (fun h1 => ?_) (fun h1 => ?_)
  · exact absurd (of_decide_eq_true h1) (by omega)
  refine JC_skip (JQ_then (JC_seq (JC_seq ?_)))
  refine JC_region ?_
  refine JL_1 rfl (op_move rfl) ?_
  refine JL_1 rfl (op_geq (Ev.rfl' rfl) (Ev.rfl' rfl)) ?_
  refine JL_nil ?_
  refine JQ_then ?_
  refine JC_cond (Ev.rfl' rfl) (fun h4 => ?_) (fun h4 => ?_)
  · exact absurd (of_decide_eq_true h4) (by omega)
  refine JC_skip (JQ_then (JC_seq (JC_seq ?_)))
  refine JC_region ?_
  refine JL_1 rfl (op_move rfl) ?_
  refine JL_1 rfl (op_geq (Ev.rfl' rfl) (Ev.rfl' rfl)) ?_
  refine JL_nil ?_
  refine JQ_then ?_
  refine JC_cond (Ev.rfl' rfl) (fun h7 => ?_) (fun h7 => ?_)
  · exact absurd (of_decide_eq_true h7) (by omega)
  refine JC_skip (JQ_then (JC_seq ?_))
  refine JC_region ?_
  refine JL_1 rfl (op_move rfl) ?_
  refine JL_1 rfl (op_move rfl) ?_
  refine JL_1 rfl (op_conv (Ev.rfl' rfl) rfl rfl convT) ?_
  refine JL_1 rfl (op_indexStr (k := 0) (b := 0) rfl (Ev.rfl' rfl) rfl rfl) ?_
  refine JL_1 rfl (op_conv (Ev.rfl' rfl) rfl rfl convT) ?_
  refine JL_1 rfl (op_add (Ev.rfl' rfl) (Ev.rfl' rfl) wrapT) ?_
  refine JL_1 rfl (op_assign rfl) ?_
  refine JL_nil ?_
  refine JQ_then (JC_ret ?_)
  refine JQ_ret1 Try.results142 rfl () (SubL.eq ?_) (List.nil_sublist _)
  rfl
-- math/bits.Len: function 122
theorem Len_0 : FnP Try.prog 122 [Is (.int .u64 0)] (Is (.int .i64 0)) := by
  refine FnP.enter Try.func122 Try.ntmps122 rfl rfl ?_
  intro c hX
  refine JC_seq ?_
  refine JC_region ?_
  refine JL_1 rfl (op_assign rfl) ?_
  refine JL_nil ?_
  refine JQ_then (JC_seq ?_)
  refine JC_cond (Ev.rfl' rfl) (fun h0 => ?_) (fun h0 => ?_)
  · exact absurd h0 (by simp)
  refine JC_skip (JQ_then (JC_seq ?_))
  refine JC_region ?_
  refine JL_1 rfl (op_move rfl) ?_
  refine JL_1 rfl (op_call Try.call142 (Len64_0) ⟨evS, trivial⟩) ?_
  refine JL_1 rfl (op_assign rfl) ?_
  refine JL_nil ?_
  refine JQ_then (JC_ret ?_)
  refine JQ_ret1 Try.results122 rfl () (SubL.eq ?_) (List.nil_sublist _)
  rfl
-- math/bits.Len64: function 142
theorem Len64_1 : FnP Try.prog 142 [Is (.int .u64 1)] (Is (.int .i64 1)) := by
  refine FnP.enter Try.func142 Try.ntmps142 rfl rfl ?_
  intro c hX
  refine JC_seq ?_
  refine JC_region ?_
  refine JL_1 rfl (op_assign rfl) ?_
  refine JL_nil ?_
  refine JQ_then (JC_seq (JC_seq ?_))
  refine JC_region ?_
  refine JL_1 rfl (op_move rfl) ?_
  refine JL_1 rfl (op_geq (Ev.rfl' rfl) (Ev.rfl' rfl)) ?_
  refine JL_nil ?_
  refine JQ_then ?_
  refine JC_cond (Ev.rfl' rfl) (fun h1 => ?_) (fun h1 => ?_)
  · exact absurd (of_decide_eq_true h1) (by omega)
  refine JC_skip (JQ_then (JC_seq (JC_seq ?_)))
  refine JC_region ?_
  refine JL_1 rfl (op_move rfl) ?_
  refine JL_1 rfl (op_geq (Ev.rfl' rfl) (Ev.rfl' rfl)) ?_
  refine JL_nil ?_
  refine JQ_then ?_
  refine JC_cond (Ev.rfl' rfl) (fun h4 => ?_) (fun h4 => ?_)
  · exact absurd (of_decide_eq_true h4) (by omega)
  refine JC_skip (JQ_then (JC_seq (JC_seq ?_)))
  refine JC_region ?_
  refine JL_1 rfl (op_move rfl) ?_
  refine JL_1 rfl (op_geq (Ev.rfl' rfl) (Ev.rfl' rfl)) ?_
  refine JL_nil ?_
  refine JQ_then ?_
  refine JC_cond (Ev.rfl' rfl) (fun h7 => ?_) (fun h7 => ?_)
  · exact absurd (of_decide_eq_true h7) (by omega)
  refine JC_skip (JQ_then (JC_seq ?_))
  refine JC_region ?_
  refine JL_1 rfl (op_move rfl) ?_
  refine JL_1 rfl (op_move rfl) ?_
  refine JL_1 rfl (op_conv (Ev.rfl' rfl) rfl rfl convT) ?_
  refine JL_1 rfl (op_indexStr (k := 1) (b := 1) rfl (Ev.rfl' rfl) rfl rfl) ?_
  refine JL_1 rfl (op_conv (Ev.rfl' rfl) rfl rfl convT) ?_
  refine JL_1 rfl (op_add (Ev.rfl' rfl) (Ev.rfl' rfl) wrapT) ?_
  refine JL_1 rfl (op_assign rfl) ?_
  refine JL_nil ?_
  refine JQ_then (JC_ret ?_)
  refine JQ_ret1 Try.results142 rfl () (SubL.eq ?_) (List.nil_sublist _)
  rfl
-- math/bits.Len: function 122
theorem Len_1 : FnP Try.prog 122 [Is (.int .u64 1)] (Is (.int .i64 1)) := by
  refine FnP.enter Try.func122 Try.ntmps122 rfl rfl ?_
  intro c hX
  refine JC_seq ?_
  refine JC_region ?_
  refine JL_1 rfl (op_assign rfl) ?_
  refine JL_nil ?_
  refine JQ_then (JC_seq ?_)
  refine JC_cond (Ev.rfl' rfl) (fun h0 => ?_) (fun h0 => ?_)
  · exact absurd h0 (by simp)
  refine JC_skip (JQ_then (JC_seq ?_))
  refine JC_region ?_
  refine JL_1 rfl (op_move rfl) ?_
  refine JL_1 rfl (op_call Try.call142 (Len64_1) ⟨evS, trivial⟩) ?_
  refine JL_1 rfl (op_assign rfl) ?_
  refine JL_nil ?_
  refine JQ_then (JC_ret ?_)
  refine JQ_ret1 Try.results122 rfl () (SubL.eq ?_) (List.nil_sublist _)
  rfl
-- slices.insertionSortOrdered[int]: function 132
theorem insI_ok (n : Nat) (i : Option Addr × Nat) (hn : n ≤ 1) : FnP Try.prog 132 [Is (slV n i), Is (.int .i64 0), Is (.int .i64 (n : Nat))] (IsTup []) := by
  refine FnP.enter Try.func132 Try.ntmps132 rfl rfl ?_
  intro c hX
  refine JC_seq ?_
  refine JC_region ?_
  refine JL_1 rfl (op_move rfl) ?_
  refine JL_1 rfl (op_add (Ev.rfl' rfl) (Ev.rfl' rfl) wrapT) ?_
  refine JL_1 rfl (op_assign rfl) ?_
  refine JL_nil ?_
  refine JQ_then (JC_block ?_)
  refine JC_loopP (fun _ : Unit => True) (fun _ => [(2, Is (.int .i64 (n : Nat))), (6, Is (.int .i64 1))]) (fun _ => []) (fun _ => 0) () trivial esubT lessT ?_
  rintro _ _
  refine JC_seq (JC_seq ?_)
  refine JC_region ?_
  refine JL_1 rfl (op_move rfl) ?_
  refine JL_1 rfl (op_move rfl) ?_
  refine JL_1 rfl (op_lss (Ev.rfl' rfl) (Ev.rfl' rfl)) ?_
  refine JL_nil ?_
  refine JQ_then ?_
  refine JC_cond (Ev.rfl' rfl) (fun h1 => ?_) (fun h1 => ?_)
  · exact absurd (of_decide_eq_true h1) (by omega)
  refine JC_exit (JQ_then_exit (JQ_then_exit (JQ_hit (JQ_end ?_))))
  exact JQ_retP (Bs := []) Try.results132 trivial () SubL.rfl' lessT
-- slices.pdqsortOrdered[int]: function 121
theorem pdqI_ok (n : Nat) (i : Option Addr × Nat) (hn : n ≤ 1) : FnP Try.prog 121 [Is (slV n i), Is (.int .i64 0), Is (.int .i64 (n : Nat)), Is (.int .i64 (n : Nat))] (IsTup []) := by
  refine FnP.enter Try.func121 Try.ntmps121 rfl rfl ?_
  intro c hX
  refine JC_seq ?_
  refine JC_region ?_
  refine JL_1 rfl (op_assign rfl) ?_
  refine JL_nil ?_
  refine JQ_then (JC_seq ?_)
  refine JC_region ?_
  refine JL_1 rfl (op_assign rfl) ?_
  refine JL_nil ?_
  refine JQ_then (JC_block ?_)
  refine JC_loopP (fun _ : Unit => True) (fun _ => [(0, Is (slV n i)), (1, Is (.int .i64 0)), (2, Is (.int .i64 (n : Nat)))]) (fun _ => []) (fun _ => 0) () trivial esubT lessT ?_
  rintro _ _
  refine JC_block (JC_seq ?_)
  refine JC_region ?_
  refine JL_1 rfl (op_move rfl) ?_
  refine JL_1 rfl (op_move rfl) ?_
  refine JL_1 rfl (op_sub (Ev.rfl' rfl) (Ev.rfl' rfl) wrapT) ?_
  refine JL_1 rfl (op_assign rfl) ?_
  refine JL_nil ?_
  refine JQ_then (JC_seq (JC_seq ?_))
  refine JC_region ?_
  refine JL_1 rfl (op_move rfl) ?_
  refine JL_1 rfl (op_leq (Ev.rfl' rfl) (Ev.rfl' rfl)) ?_
  refine JL_nil ?_
  refine JQ_then ?_
  refine JC_cond (Ev.rfl' rfl) (fun h3 => ?_) (fun h3 => ?_)
  · refine JC_seq ?_
    refine JC_region ?_
    refine JL_1 rfl (op_move rfl) ?_
    refine JL_1 rfl (op_move rfl) ?_
    refine JL_1 rfl (op_move rfl) ?_
    refine JL_1 rfl (op_call Try.call132 (insI_ok n i hn) ⟨evS, ⟨evS, ⟨evS, trivial⟩⟩⟩) ?_
    refine JL_nil ?_
    refine JQ_then (JC_ret (JQ_then_ret (JQ_block_ret (JQ_then_ret (JQ_block_ret ?_)))))
    exact JQ_retP (Bs := []) Try.results121 trivial () SubL.rfl' lessT
  exact absurd (of_decide_eq_false h3) (by omega)
-- slices.Sort[[]int,int]: function 100
theorem SortI_0 (i : Option Addr × Nat) : FnP Try.prog 100 [Is (slV 0 i)] (IsTup []) := by
  refine FnP.enter Try.func100 Try.ntmps100 rfl rfl ?_
  intro c hX
  refine JC_seq ?_
  refine JC_region ?_
  refine JL_1 rfl (op_move rfl) ?_
  refine JL_1 rfl (by first | exact op_len (Ev.rfl' rfl) rfl | exact op_lenLit (Ev.rfl' rfl) rfl) ?_
  refine JL_1 rfl (op_assign rfl) ?_
  refine JL_nil ?_
  refine JQ_then ?_
  refine JC_region ?_
  refine JL_1 rfl (op_move rfl) ?_
  refine JL_1 rfl (op_move rfl) ?_
  refine JL_1 rfl (op_move rfl) ?_
  refine JL_1 rfl (op_conv (Ev.rfl' rfl) rfl rfl rfl) ?_
  refine JL_1 rfl (op_call Try.call122 (Len_0) ⟨evS, trivial⟩) ?_
  refine JL_1 rfl (by first | ((refine op_call Try.call121 (pdqI_ok 0 i ?_) ⟨evS, ⟨evS, ⟨evS, ⟨evS, trivial⟩⟩⟩⟩); all_goals (first | decide))) ?_
  refine JL_nil ?_
  refine JQ_end ?_
  exact JQ_retP (Bs := []) Try.results100 trivial () SubL.rfl' lessT
-- slices.Sort[[]int,int]: function 100
theorem SortI_1 (i : Option Addr × Nat) : FnP Try.prog 100 [Is (slV 1 i)] (IsTup []) := by
  refine FnP.enter Try.func100 Try.ntmps100 rfl rfl ?_
  intro c hX
  refine JC_seq ?_
  refine JC_region ?_
  refine JL_1 rfl (op_move rfl) ?_
  refine JL_1 rfl (by first | exact op_len (Ev.rfl' rfl) rfl | exact op_lenLit (Ev.rfl' rfl) rfl) ?_
  refine JL_1 rfl (op_assign rfl) ?_
  refine JL_nil ?_
  refine JQ_then ?_
  refine JC_region ?_
  refine JL_1 rfl (op_move rfl) ?_
  refine JL_1 rfl (op_move rfl) ?_
  refine JL_1 rfl (op_move rfl) ?_
  refine JL_1 rfl (op_conv (Ev.rfl' rfl) rfl rfl rfl) ?_
  refine JL_1 rfl (op_call Try.call122 (Len_1) ⟨evS, trivial⟩) ?_
  refine JL_1 rfl (by first | ((refine op_call Try.call121 (pdqI_ok 1 i ?_) ⟨evS, ⟨evS, ⟨evS, ⟨evS, trivial⟩⟩⟩⟩); all_goals (first | decide))) ?_
  refine JL_nil ?_
  refine JQ_end ?_
  exact JQ_retP (Bs := []) Try.results100 trivial () SubL.rfl' lessT
theorem SortI_ok (n : Nat) (i : Option Addr × Nat) (hn : n ≤ 1) : FnP Try.prog 100 [Is (slV n i)] (IsTup []) := by
  match n, hn with
  | 0, _ => exact SortI_0 i
  | 1, _ => exact SortI_1 i
-- slices.Compact[[]int,int]: function 101
theorem CompactI_ok (n : Nat) (i : Option Addr × Nat) (hn : n ≤ 1) : FnP Try.prog 101 [Is (slV n i)] (Is (slV n i)) := by
  refine FnP.enter Try.func101 Try.ntmps101 rfl rfl ?_
  intro c hX
  refine JC_seq ?_
  refine JC_region ?_
  refine JL_1 rfl (op_assign rfl) ?_
  refine JL_nil ?_
  refine JQ_then (JC_seq (JC_seq ?_))
  refine JC_region ?_
  refine JL_1 rfl (op_move rfl) ?_
  refine JL_1 rfl (by first | exact op_len (Ev.rfl' rfl) rfl | exact op_lenLit (Ev.rfl' rfl) rfl) ?_
  refine JL_1 rfl (op_lss (Ev.rfl' rfl) (Ev.rfl' rfl)) ?_
  refine JL_nil ?_
  refine JQ_then ?_
  refine JC_cond (Ev.rfl' rfl) (fun h1 => ?_) (fun h1 => ?_)
  · refine JC_seq ?_
    refine JC_region ?_
    refine JL_1 rfl (op_move rfl) ?_
    refine JL_1 rfl (op_assign rfl) ?_
    refine JL_nil ?_
    refine JQ_then (JC_ret (JQ_then_ret ?_))
    exact JQ_retP (Bs := [Is (slV n i)]) Try.results101 ⟨⟨_, rfl, subT⟩, trivial⟩ () SubL.rfl' lessT
  exact absurd (of_decide_eq_false h1) (by omega)
/-! ### The last known page -/
def latO (xs : List Pg) (l : Int) : Option Pg := (xs.filter fun p => decide (p.l = l)).getLast?
theorem lat_hit {xs : List Pg} {k : Nat} {l : Int} {p : Pg} (h : xs[k]? = some p) (hl : p.l = l) (hs : ∀ (j : Nat) q, k < j → xs[j]? = some q → q.l ≠ l) : latO xs l = some p := by
  obtain ⟨hk, rfl⟩ := List.getElem?_eq_some_iff.1 h
  have e : xs = xs.take k ++ (xs[k] :: xs.drop (k + 1)) := by rw [List.getElem_cons_drop, List.take_append_drop]
  have e2 : (xs.drop (k + 1)).filter (fun p => decide (p.l = l)) = [] := List.filter_eq_nil_iff.2 fun q hq => by
    obtain ⟨j, hj, rfl⟩ := List.getElem_of_mem hq
    have := hs (k + 1 + j) (xs.drop (k + 1))[j] (by omega) (by rw [← List.getElem?_drop, List.getElem?_eq_getElem hj])
    simpa using this
  unfold latO
  conv => lhs; rw [e]
  rw [List.filter_append, List.filter_cons, e2]
  simp [hl]
theorem lat_none {xs : List Pg} {l : Int} (hs : ∀ (j : Nat) q, xs[j]? = some q → q.l ≠ l) : latO xs l = none := by
  unfold latO
  rw [List.getLast?_eq_none_iff, List.filter_eq_nil_iff]
  intro q hq
  obtain ⟨j, hj, rfl⟩ := List.getElem_of_mem hq
  simpa using hs j _ (List.getElem?_eq_getElem hj)
-- pointer.Latest: function 86
theorem Latest_ok (xs : List Pg) (l : Int) : FnP Try.prog 86 [IsSl tPg xs, Is (.int .i64 l)] (IsTup [IsPg ((latO xs l).getD Pg.nil), Is (.bool (latO xs l).isSome)]) := by
  refine FnP.enter Try.func86 Try.ntmps86 rfl rfl ?_
  intro c hX
  refine JC_len (t := 0) rfl (fun hlen => ?_)
  refine JC_seq ?_
  refine JC_region ?_
  (refine JL_n rfl (op_allocN rfl nrmT rfl) ?_; intro i4)
  refine JL_1 rfl (op_assign rfl) ?_
  refine JL_nil ?_
  refine JQ_then (JC_seq (JC_seq ?_))
  refine JC_region ?_
  refine JL_1 rfl (op_move rfl) ?_
  refine JL_1 rfl (by first | exact op_len (Ev.rfl' rfl) rfl | exact op_lenLit (Ev.rfl' rfl) rfl) ?_
  refine JL_1 rfl (op_sub (Ev.rfl' rfl) (Ev.rfl' rfl) rfl) ?_
  refine JL_1 rfl (op_assign rfl) ?_
  refine JL_nil ?_
  refine JQ_then (JC_block ?_)
  refine JC_loopP (fun k : Nat => k ≤ xs.length ∧ ∀ (j : Nat) q, k ≤ j → xs[j]? = some q → q.l ≠ l) (fun k => [(0, IsSl tPg xs), (1, Is (.int .i64 l)), (4, Is (.pointer (some ⟨i4, 0, none⟩))), (6, Is (.int .i64 ((k : Int) - 1)))]) (fun _ => [blk i4 25 (tPg.cells Pg.nil)]) (fun k => k) xs.length ⟨Nat.le_refl _, fun j q hj hq => absurd (List.getElem?_eq_some_iff.1 hq).1 (by omega)⟩ ⟨⟨_, rfl, SubL.rfl'⟩, ⟨_, rfl, SubL.rfl'⟩, ⟨_, rfl, SubL.rfl'⟩, ⟨_, rfl, SubL.eq (ieq (wI64 (by omega)))⟩, trivial⟩ lessT ?_
  rintro k ⟨hk, hs⟩
  refine JC_seq (JC_seq ?_)
  refine JC_region ?_
  refine JL_1 rfl (op_move rfl) ?_
  refine JL_1 rfl (op_geq (Ev.rfl' rfl) (Ev.rfl' rfl)) ?_
  refine JL_nil ?_
  refine JQ_then ?_
  refine JC_cond (Ev.rfl' rfl) (fun h2 => ?_) (fun h2 => ?_)
  · have h' : 0 < k := by have := of_decide_eq_true h2; omega
    clear h2
    obtain ⟨k, rfl⟩ : ∃ j, k = j + 1 := ⟨k - 1, by omega⟩
    obtain ⟨z, hz⟩ : ∃ z, xs[k]? = some z := ⟨xs[k], List.getElem?_eq_getElem (by omega)⟩
    refine JC_skip (JQ_then (JC_seq (JC_block (JC_seq ?_))))
    refine JC_region ?_
    refine JL_1 rfl (op_move rfl) ?_
    refine JL_1 rfl (op_move rfl) ?_
    refine JL_1 rfl (by first | exact op_index (j := _) (Ev.rfl' rfl) (Ev.rfl' rfl) rfl rfl (by first | rfl | omega) hz | exact op_index (j := _) (Ev.rfl' rfl) (Ev.rfl' rfl) rfl rfl (by first | rfl | omega) (by assumption)) ?_
    refine JL_1 rfl (by first | exact op_fieldPtr (k := 0) (Ev.rfl' rfl) rfl rfl rfl rfl | exact op_fieldRefN (k := 0) (Ev.rfl' rfl) rfl rfl rfl rfl nrmT) ?_
    refine JL_1 rfl (by first | exact op_loadRef (Ev.rfl' rfl) rfl rfl rfl | exact op_loadPtr (Ev.rfl' rfl) memT (by rfl) (by rfl) (by rfl)) ?_
    refine JL_1 rfl (op_move rfl) ?_
    refine JL_1 rfl (op_eql (Ev.rfl' rfl) (Ev.rfl' rfl)) ?_
    refine JL_nil ?_
    refine JQ_then ?_
    refine JC_cond (Ev.rfl' rfl) (fun h4 => ?_) (fun h4 => ?_)
    · have hzl : z.l = l := by simpa using h4
      clear h4
      have e : latO xs l = some z := lat_hit hz hzl fun j q hj hq => hs j q (by omega) hq
      refine JC_seq ?_
      refine JC_region ?_
      refine JL_1 rfl (op_move rfl) ?_
      refine JL_1 rfl (op_move rfl) ?_
      refine JL_1 rfl (by first | exact op_index (j := _) (Ev.rfl' rfl) (Ev.rfl' rfl) rfl rfl (by first | rfl | omega) hz | exact op_index (j := _) (Ev.rfl' rfl) (Ev.rfl' rfl) rfl rfl (by first | rfl | omega) (by assumption)) ?_
      refine JL_1 rfl (by first | exact op_loadRefsN (n := 9) (Ev.rfl' rfl) rfl rfl rfl (by rfl) nrmT | exact op_loadPtrsN (n := 9) (Ev.rfl' rfl) memT (by rfl) (by rfl) (by rfl) (by rfl) nrmT) ?_
      refine JL_s0 (op_storeN (Ev.rfl' rfl) (Ev.rfl' rfl) cellsT replT nrmT (by rfl) (by rfl) (by rfl)) ?_
      refine JL_1 rfl (op_assign rfl) ?_
      refine JL_nil ?_
      refine JQ_then (JC_ret (JQ_block_ret (JQ_then_ret (JQ_then_ret (JQ_block_ret (JQ_then_ret ?_))))))
      exact JQ_ret (Bs := [IsPg z, Is (.bool true)]) Try.results86 ⟨⟨_, _, _, _, rfl, memT, rfl, .inr ⟨rfl, _, rfl, rfl, subT⟩⟩, ⟨⟨_, rfl, subT⟩, trivial⟩⟩ () (SubL.eq (by rw [e]; rfl)) (List.nil_sublist _)
    have hzl : ¬ z.l = l := by simpa using h4
    clear h4
    refine JC_skip (JQ_block (JQ_then ?_))
    refine JC_region ?_
    refine JL_1 rfl (op_move rfl) ?_
    refine JL_1 rfl (op_sub (Ev.rfl' rfl) (Ev.rfl' rfl) rfl) ?_
    refine JL_1 rfl (op_assign rfl) ?_
    refine JL_nil ?_
    exact JQ_roundP k ⟨by omega, fun j q hj hq => by
      by_cases hjk : j = k
      · subst hjk; rw [hz] at hq; cases hq; exact hzl
      · exact hs j q (by omega) hq⟩ (by omega) ⟨⟨_, rfl, SubL.rfl'⟩, ⟨_, rfl, SubL.rfl'⟩, ⟨_, rfl, SubL.rfl'⟩, ⟨_, rfl, SubL.eq (ieq (by rw [wI64 (by omega)]; omega))⟩, trivial⟩ lessT
  have h' : k = 0 := by have := of_decide_eq_false h2; omega
  subst h'
  clear h2
  have e : latO xs l = none := lat_none fun j q hq => hs j q (Nat.zero_le _) hq
  refine JC_exit (JQ_then_exit (JQ_then_exit (JQ_hit (JQ_then (JC_seq ?_)))))
  refine JC_region ?_
  refine JL_1 rfl (op_buildN (qs := []) rfl rfl rfl rfl trivial (by rfl) nrmT) ?_
  refine JL_s0 (op_storeN (Ev.rfl' rfl) (Ev.rfl' rfl) cellsT replT nrmT (by rfl) (by rfl) (by rfl)) ?_
  refine JL_1 rfl (op_assign rfl) ?_
  refine JL_nil ?_
  refine JQ_then (JC_ret ?_)
  exact JQ_ret (Bs := [IsPg Pg.nil, Is (.bool false)]) Try.results86 ⟨⟨_, _, _, _, rfl, memT, rfl, .inr ⟨rfl, _, rfl, rfl, subT⟩⟩, ⟨⟨_, rfl, subT⟩, trivial⟩⟩ () (SubL.eq (by rw [e]; rfl)) (List.nil_sublist _)
-- pointer.Locked: function 88
theorem Locked_ok (p : Pg) : FnP Try.prog 88 [IsPg p] (Is (.bool (UV (p.h &&& 255#64) != 0))) := by
  refine FnP.enter Try.func88 Try.ntmps88 rfl rfl ?_
  intro c hX
  refine JC_seq ?_
  refine JC_region ?_
  (refine JL_n rfl (op_box (Ev.rfl' rfl) cellsT) ?_; intro i1)
  refine JL_1 rfl (op_assign rfl) ?_
  refine JL_nil ?_
  refine JQ_then (JC_seq ?_)
  refine JC_region ?_
  refine JL_1 rfl (by first | exact op_fieldPtr (k := 1) (Ev.rfl' rfl) rfl rfl rfl rfl | exact op_fieldRefN (k := 1) (Ev.rfl' rfl) rfl rfl rfl rfl nrmT) ?_
  refine JL_1 rfl (by first | exact op_loadRef (Ev.rfl' rfl) rfl rfl rfl | exact op_loadPtr (Ev.rfl' rfl) memT (by rfl) (by rfl) (by rfl)) ?_
  refine JL_1 rfl (by first | exact op_bits ev64 ev64 (by simp) (and_u64 _ _) | exact op_bits (Ev.rfl' rfl) (Ev.rfl' rfl) (by simp) rfl) ?_
  refine JL_1 rfl (op_neq (Ev.rfl' rfl) (Ev.rfl' rfl)) ?_
  refine JL_1 rfl (op_assign rfl) ?_
  refine JL_nil ?_
  refine JQ_then (JC_ret ?_)
  refine JQ_ret1 Try.results88 rfl () (SubL.eq ?_) (List.nil_sublist _)
  rfl
/-! ### What is missing -/
def missV (ks : List Pg) (ls : List Int) : List Int := ls.filter fun l => (latO ks l).isNone
theorem miss_take {ks : List Pg} {ls : List Int} {k : Nat} {l : Int} (h : ls[k]? = some l) : missV ks (ls.take (k + 1)) = if (latO ks l).isNone = true then missV ks (ls.take k) ++ [l] else missV ks (ls.take k) := by
  unfold missV
  rw [List.take_add_one, h, List.filter_append]
  by_cases g : (latO ks l).isNone = true
  · rw [if_pos g]; simp [g]
  · rw [if_neg g]; simp [g]
-- segment.missing: function 79
theorem missing_ok (ks : List Pg) (ls : List Int) (hn : (missV ks ls).length ≤ 1) : FnP Try.prog 79 [IsSl tPg ks, IsSl tI64 ls] (IsSl tI64 (missV ks ls)) := by
  refine FnP.enter Try.func79 Try.ntmps79 rfl rfl ?_
  intro c hX
  refine JC_len (t := 1) rfl (fun hlen => ?_)
  refine JC_seq ?_
  refine JC_region ?_
  refine JL_1 rfl (op_assign rfl) ?_
  refine JL_nil ?_
  refine JQ_then (JC_seq ?_)
  refine JC_region ?_
  refine JL_1 rfl (op_assign rfl) ?_
  refine JL_nil ?_
  refine JQ_then (JC_seq (JC_seq ?_))
  refine JC_buf0 3 tI64 ?_
  refine JC_region ?_
  refine JL_1 rfl (op_move rfl) ?_
  refine JL_1 rfl (by first | exact op_len (Ev.rfl' rfl) rfl | exact op_lenLit (Ev.rfl' rfl) rfl) ?_
  refine JL_1 rfl (op_move rfl) ?_
  refine JL_nil ?_
  refine JQ_then (JC_block ?_)
  refine JC_loopP (fun z : Nat × (Option Addr × Nat) => z.1 ≤ ls.length) (fun z => [(0, IsSl tPg ks), (1, IsSl tI64 ls), (5, Is (slV (missV ks (ls.take z.1)).length z.2)), (10, IsSl tI64 ls), (11, Is (.int .i64 (ls.length : Nat))), (12, Is (.int .i64 (z.1 : Nat)))]) (fun z => [buf (slV (missV ks (ls.take z.1)).length z.2) 3 tI64 (missV ks (ls.take z.1))]) (fun z => ls.length - z.1) (0, (none, 0)) (Nat.zero_le _) esubT lessT ?_
  rintro ⟨k, s⟩ hk
  dsimp only at hk ⊢
  refine JC_seq ?_
  refine JC_region ?_
  refine JL_1 rfl (op_lss (Ev.rfl' rfl) (Ev.rfl' rfl)) ?_
  refine JL_nil ?_
  refine JQ_then (JC_seq ?_)
  refine JC_cond (Ev.rfl' rfl) (fun h3 => ?_) (fun h3 => ?_)
  · have hlt : k < ls.length := by have := of_decide_eq_true h3; omega
    clear h3
    obtain ⟨l, hz⟩ : ∃ z, ls[k]? = some z := ⟨ls[k], List.getElem?_eq_getElem hlt⟩
    have hmt := miss_take (ks := ks) hz
    have hml : (missV ks (ls.take k)).length ≤ (missV ks ls).length := ((List.take_sublist _ _).filter _).length_le
    refine JC_skip (JQ_then (JC_seq (JC_block (JC_seq ?_))))
    refine JC_region ?_
    refine JL_1 rfl (by first | exact op_index (j := _) (Ev.rfl' rfl) (Ev.rfl' rfl) rfl rfl (by first | rfl | omega) hz | exact op_index (j := _) (Ev.rfl' rfl) (Ev.rfl' rfl) rfl rfl (by first | rfl | omega) (by assumption)) ?_
    refine JL_1 rfl (by first | exact op_loadRef (Ev.rfl' rfl) rfl rfl rfl | exact op_loadPtr (Ev.rfl' rfl) memT (by rfl) (by rfl) (by rfl)) ?_
    refine JL_1 rfl (op_assign rfl) ?_
    refine JL_nil ?_
    refine JQ_then (JC_seq ?_)
    refine JC_region ?_
    refine JL_1 rfl (op_move rfl) ?_
    refine JL_1 rfl (op_move rfl) ?_
    refine JL_1 rfl (op_call Try.call86 (Latest_ok _ _) ⟨evS, ⟨evS, trivial⟩⟩) ?_
    refine JL_1 rfl (op_move rfl) ?_
    refine JL_1 rfl (op_extract (Ev.rfl' rfl) rfl) ?_
    refine JL_1 rfl (op_extract (Ev.rfl' rfl) rfl) ?_
    (refine JL_n rfl (op_allocN rfl nrmT rfl) ?_; intro i8)
    refine JL_s0 (op_storeN (Ev.rfl' rfl) (Ev.rfl' rfl) cellsT replT nrmT (by rfl) (by rfl) (by rfl)) ?_
    refine JL_1 rfl (op_assign rfl) ?_
    refine JL_nil ?_
    refine JQ_then (JC_seq ?_)
    refine JC_region ?_
    refine JL_1 rfl (op_move rfl) ?_
    refine JL_1 rfl (op_not (Ev.rfl' rfl)) ?_
    refine JL_nil ?_
    refine JQ_then ?_
    refine JC_cond (Ev.rfl' rfl) (fun h6 => ?_) (fun h6 => ?_)
    · have g : (latO ks l).isNone = true := by revert h6; cases latO ks l <;> simp
      clear h6
      rw [if_pos g] at hmt
      refine JC_region ?_
      refine JL_1 rfl (op_move rfl) ?_
      refine JL_1 rfl (op_move rfl) ?_
      refine JL_1 rfl (op_buildSlice (size := 1) (qs := [(0, _)]) rfl rfl rfl ⟨⟨rfl, _, (Ev.rfl' rfl), cellsT⟩, trivial⟩ (by rfl) (by rfl)) ?_
      (refine JL_s rfl (op_app (Ev.rfl' rfl) (fun _ => replT) (by first | exact Ev.rfl' rfl | exact Ev.sub rfl (by first | exact SubL.row (xs := [l]) (by rfl) (by rfl) subsT | exact subT)) (by exact appT rfl rfl rfl) lenT) ?_; intro i27)
      refine JL_1 rfl (op_assign rfl) ?_
      refine JL_nil ?_
      refine JQ_block (JQ_then ?_)
      refine JC_region ?_
      refine JL_1 rfl (op_add (Ev.rfl' rfl) (Ev.rfl' rfl) wrapT) ?_
      refine JL_1 rfl (op_move rfl) ?_
      refine JL_nil ?_
      rw [← hmt]
      first | exact JQ_roundP (k + 1, i27) (by dsimp only; omega) (by dsimp only; omega) esubT lessT | exact JQ_roundP (k + 1, s) (by dsimp only; omega) (by dsimp only; omega) esubT lessT
    have g : ¬ (latO ks l).isNone = true := by revert h6; cases latO ks l <;> simp
    clear h6
    rw [if_neg g] at hmt
    refine JC_skip (JQ_block (JQ_then ?_))
    refine JC_region ?_
    refine JL_1 rfl (op_add (Ev.rfl' rfl) (Ev.rfl' rfl) wrapT) ?_
    refine JL_1 rfl (op_move rfl) ?_
    refine JL_nil ?_
    rw [← hmt]
    first | exact JQ_roundP (k + 1, i27) (by dsimp only; omega) (by dsimp only; omega) esubT lessT | exact JQ_roundP (k + 1, s) (by dsimp only; omega) (by dsimp only; omega) esubT lessT
  have hke : k = ls.length := by have := of_decide_eq_false h3; omega
  subst hke
  clear h3
  rw [List.take_length]
  refine JC_exit (JQ_then_exit (JQ_then_exit (JQ_hit (JQ_then (JC_seq ?_)))))
  refine JC_region ?_
  refine JL_1 rfl (op_move rfl) ?_
  refine JL_1 rfl (op_call Try.call100 (SortI_ok _ _ hn) ⟨evS, trivial⟩) ?_
  refine JL_nil ?_
  refine JQ_then (JC_seq ?_)
  refine JC_region ?_
  refine JL_1 rfl (op_move rfl) ?_
  refine JL_1 rfl (op_call Try.call101 (CompactI_ok _ _ hn) ⟨evS, trivial⟩) ?_
  refine JL_1 rfl (op_assign rfl) ?_
  refine JL_nil ?_
  refine JQ_then (JC_ret ?_)
  refine JQ_freeze hX replT ?_
  exact JQ_ret (Bs := [IsSl tI64 (missV ks ls)]) Try.results79 ⟨⟨_, rfl, subT⟩, trivial⟩ () SubL.rfl' (List.nil_sublist _)
def lockB (p : Pg) : Bool := UV (p.h &&& 255#64) != 0
def latP (ks : List Pg) (l : Int) : Pg := (latO ks l).getD Pg.nil
def latB (ks : List Pg) (l : Int) : Bool := (latO ks l).isSome
theorem pick_tmod (n k : Int) (h : 1 ≤ k) : (n.tmod k + k).tmod k = n % k := by
  have h2 := Int.lt_tmod_of_pos n (show 0 < k by omega)
  rw [Int.tmod_eq_emod_of_nonneg (by omega), pick_emod n k h]
-- bodegahand.Pick: function 14
theorem PickH_ok (n k : Int) (hb : 1 ≤ k) (hb2 : k ≤ 4611686018427387903) : FnP Try.prog 14 [Is (.int .i64 n), Is (.int .i64 k)] (Is (.int .i64 (n % k))) := by
  have h1 := Int.tmod_lt_of_pos n (show 0 < k by omega)
  have h2 := Int.lt_tmod_of_pos n (show 0 < k by omega)
  refine FnP.enter Try.func14 Try.ntmps14 rfl rfl ?_
  intro c hX
  (repeat (first | with_reducible refine JC_seq ?_ | with_reducible refine JQ_then ?_ | with_reducible refine JC_block ?_ | with_reducible refine JC_skip ?_ | with_reducible refine JC_exit ?_ | with_reducible refine JQ_then_exit ?_ | with_reducible refine JQ_then_ret ?_ | with_reducible refine JQ_block ?_ | with_reducible refine JQ_block_ret ?_ | with_reducible refine JQ_hit ?_ | ((with_reducible refine JQ_block_miss ?_ ?_); (focus exact rfl)) | with_reducible refine JC_ret ?_ | with_reducible refine JQ_end ?_))
  refine JC_region ?_
  refine JL_1 rfl (op_assign rfl) ?_
  refine JL_nil ?_
  (repeat (first | with_reducible refine JC_seq ?_ | with_reducible refine JQ_then ?_ | with_reducible refine JC_block ?_ | with_reducible refine JC_skip ?_ | with_reducible refine JC_exit ?_ | with_reducible refine JQ_then_exit ?_ | with_reducible refine JQ_then_ret ?_ | with_reducible refine JQ_block ?_ | with_reducible refine JQ_block_ret ?_ | with_reducible refine JQ_hit ?_ | ((with_reducible refine JQ_block_miss ?_ ?_); (focus exact rfl)) | with_reducible refine JC_ret ?_ | with_reducible refine JQ_end ?_))
  (repeat (first | with_reducible refine JC_seq ?_ | with_reducible refine JQ_then ?_ | with_reducible refine JC_block ?_ | with_reducible refine JC_skip ?_ | with_reducible refine JC_exit ?_ | with_reducible refine JQ_then_exit ?_ | with_reducible refine JQ_then_ret ?_ | with_reducible refine JQ_block ?_ | with_reducible refine JQ_block_ret ?_ | with_reducible refine JQ_hit ?_ | ((with_reducible refine JQ_block_miss ?_ ?_); (focus exact rfl)) | with_reducible refine JC_ret ?_ | with_reducible refine JQ_end ?_))
  refine JC_region ?_
  refine JL_1 rfl (op_move rfl) ?_
  refine JL_1 rfl (op_lss (Ev.rfl' rfl) (Ev.rfl' rfl)) ?_
  refine JL_nil ?_
  (repeat (first | with_reducible refine JC_seq ?_ | with_reducible refine JQ_then ?_ | with_reducible refine JC_block ?_ | with_reducible refine JC_skip ?_ | with_reducible refine JC_exit ?_ | with_reducible refine JQ_then_exit ?_ | with_reducible refine JQ_then_ret ?_ | with_reducible refine JQ_block ?_ | with_reducible refine JQ_block_ret ?_ | with_reducible refine JQ_hit ?_ | ((with_reducible refine JQ_block_miss ?_ ?_); (focus exact rfl)) | with_reducible refine JC_ret ?_ | with_reducible refine JQ_end ?_))
  refine JC_cond (Ev.rfl' rfl) (fun h => absurd (of_decide_eq_true h) (by omega)) (fun h => ?_)
  (repeat (first | with_reducible refine JC_seq ?_ | with_reducible refine JQ_then ?_ | with_reducible refine JC_block ?_ | with_reducible refine JC_skip ?_ | with_reducible refine JC_exit ?_ | with_reducible refine JQ_then_exit ?_ | with_reducible refine JQ_then_ret ?_ | with_reducible refine JQ_block ?_ | with_reducible refine JQ_block_ret ?_ | with_reducible refine JQ_hit ?_ | ((with_reducible refine JQ_block_miss ?_ ?_); (focus exact rfl)) | with_reducible refine JC_ret ?_ | with_reducible refine JQ_end ?_))
  refine JC_region ?_
  refine JL_1 rfl (op_move rfl) ?_
  refine JL_1 rfl (op_move rfl) ?_
  refine JL_1 rfl (op_rem (Ev.rfl' rfl) (Ev.rfl' rfl) (by omega) rfl) ?_
  refine JL_1 rfl (op_move rfl) ?_
  refine JL_1 rfl (op_add (Ev.rfl' rfl) (Ev.rfl' rfl) wrapT) ?_
  refine JL_1 rfl (op_move rfl) ?_
  refine JL_1 rfl (op_rem (Ev.rfl' rfl) (Ev.rfl' rfl) (by omega) rfl) ?_
  refine JL_1 rfl (op_assign rfl) ?_
  refine JL_nil ?_
  (repeat (first | with_reducible refine JC_seq ?_ | with_reducible refine JQ_then ?_ | with_reducible refine JC_block ?_ | with_reducible refine JC_skip ?_ | with_reducible refine JC_exit ?_ | with_reducible refine JQ_then_exit ?_ | with_reducible refine JQ_then_ret ?_ | with_reducible refine JQ_block ?_ | with_reducible refine JQ_block_ret ?_ | with_reducible refine JQ_hit ?_ | ((with_reducible refine JQ_block_miss ?_ ?_); (focus exact rfl)) | with_reducible refine JC_ret ?_ | with_reducible refine JQ_end ?_))
  exact JQ_ret1 Try.results14 rfl () (SubL.eq (by rw [pick_tmod n k hb])) (List.nil_sublist _)
theorem UV_ofInt64 {n : Int} (h : 0 ≤ n ∧ n < 18446744073709551616) : UV (BitVec.ofInt 64 n) = n := by
  unfold UV; rw [BitVec.toNat_ofInt]; simp; omega
section
variable {P : Program} {c : Ctx} {N : Nat} {E : Env} {L : List Item} {Q : Exit → Act → World → Prop} {ops : Array Oper} {rest : List Oper}
/-- A number of 64 bits as a new word. -/
theorem JL_u64 {n : Int} (t : Nat) (hl : look E t = some (Is (.int .u64 n))) (hn : 0 ≤ n ∧ n < 18446744073709551616) (h : ∀ d : BitVec 64, UV d = n → JL P ops Q c N rest ((t, Is (.int .u64 (UV d))) :: E) L) : JL P ops Q c N rest E L :=
  JL_set t (Is (.int .u64 (UV (BitVec.ofInt 64 n)))) hl (SubL.eq (by rw [UV_ofInt64 hn])) (h _ (UV_ofInt64 hn))
theorem JL_u32 {n : Int} (t : Nat) (hl : look E t = some (Is (.int .u32 n))) (hn : 0 ≤ n ∧ n < 4294967296) (h : ∀ d : BitVec 32, UV d = n → JL P ops Q c N rest ((t, Is (.int .u32 (UV d))) :: E) L) : JL P ops Q c N rest E L :=
  JL_set t (Is (.int .u32 (UV (BitVec.ofInt 32 n)))) hl (SubL.eq (by rw [UV_ofInt32 hn])) (h _ (UV_ofInt32 hn))
end
theorem tmr {n : Int} (h : 0 ≤ n) (m : Int) (hm : 0 < m ∧ m ≤ 18446744073709551616) : 0 ≤ n.tmod m ∧ n.tmod m < 18446744073709551616 := by
  have h1 := Int.tmod_nonneg m h
  have h2 := Int.tmod_lt_of_pos n hm.1
  omega
theorem tdr {n : Int} (h : 0 ≤ n ∧ n < 18446744073709551616) (m : Int) (hm : 0 < m) : 0 ≤ n.tdiv m ∧ n.tdiv m < 18446744073709551616 := by
  rw [Int.tdiv_eq_ediv_of_nonneg h.1]
  have h1 := Int.ediv_nonneg h.1 (show 0 ≤ m by omega)
  have h2 := Int.ediv_le_self m h.1
  omega
theorem wrr (n : Int) : 0 ≤ IntKind.u64.wrap n ∧ IntKind.u64.wrap n < 18446744073709551616 := by
  rw [wrap_u64_mod]; omega
theorem UV_rng (d : BitVec 64) : 0 ≤ UV d ∧ UV d < 18446744073709551616 := by unfold UV; omega
theorem tmr32 {n : Int} (h : 0 ≤ n) (m : Int) (hm : 0 < m ∧ m ≤ 4294967296) : 0 ≤ n.tmod m ∧ n.tmod m < 4294967296 := by
  have h1 := Int.tmod_nonneg m h
  have h2 := Int.tmod_lt_of_pos n hm.1
  omega
theorem wrr32 (n : Int) : 0 ≤ IntKind.u32.wrap n ∧ IntKind.u32.wrap n < 4294967296 := by
  rw [wrap_u32_mod]; omega
end Go.Proofs.Ytpfojangcgffkaa

/- Contracts for transactions: lines put into an ascending list; the last known page by the reference; clones. Own work. -/
namespace Go.Proofs.Ytpfojangcgffkaa
open Go.RowKit
set_option linter.unusedVariables false
set_option linter.unusedSimpArgs false
set_option maxRecDepth 100000
theorem op_buildSlice0E {P : Program} {c : Ctx} {A : Nat → Option VP} {L : List Item} {d : Option Tmp} {ty : TypeId} {pos : String} {af : Array Edge} {g : Option (Nat × Bool)} {α : Type} {t : TypeId} {size : Nat} {et : TypeId} (T : Ty α) (hu : P.underlying t = some (.slice et)) (hs : (P.info? et).map (·.size) = some size) :
    OpN P c ⟨d, .buildSlice t 0 #[], ty, pos, af, g⟩ A L (slV ([] : List α).length) (fun i => buf (slV ([] : List α).length i) et T ([] : List α)) :=
  fun φ a w K Q hm he hk => op_buildSlice0 T hu hs φ a w K Q hm he fun b φ' w' hp => hk (some ⟨b, 0, none⟩, 0) φ' w' hp
def linesV : List Int → Int → List Int
  | [], x => [x]
  | y :: l, x => if y < x then y :: linesV l x else if y = x then y :: l else x :: y :: l
theorem lines_same : ∀ {W : List Int} {x : Int} (k : Nat), (∀ (j : Nat) q, j < k → W[j]? = some q → q < x) → W[k]? = some x → linesV W x = W
  | [], x, k, _, hq => by simp at hq
  | y :: W, x, 0, _, hq => by
    simp at hq; subst hq
    unfold linesV
    rw [if_neg (by omega), if_pos rfl]
  | y :: W, x, k + 1, h, hq => by
    have h0 := h 0 y (by omega) rfl
    unfold linesV
    rw [if_pos h0, lines_same k (fun j q hj hq => h (j + 1) q (by omega) (by simpa using hq)) (by simpa using hq)]
theorem lines_put : ∀ {W : List Int} {x : Int} (k : Nat), k ≤ W.length → (∀ (j : Nat) q, j < k → W[j]? = some q → q < x) → (∀ q, W[k]? = some q → x < q) → linesV W x = W.take k ++ ([x] ++ W.drop k)
  | [], x, k, hk, _, _ => by
    have : k = 0 := by simpa using hk
    subst this; rfl
  | y :: W, x, 0, _, _, h2 => by
    have := h2 y rfl
    unfold linesV
    rw [if_neg (by omega), if_neg (by omega)]; rfl
  | y :: W, x, k + 1, hk, h, h2 => by
    have h0 := h 0 y (by omega) rfl
    unfold linesV
    rw [if_pos h0, lines_put k (by simpa using hk) (fun j q hj hq => h (j + 1) q (by omega) (by simpa using hq)) (fun q hq => h2 q (by simpa using hq))]; rfl
theorem lines_len : ∀ (W : List Int) (x : Int), (linesV W x).length ≤ W.length + 1
  | [], x => by simp [linesV]
  | y :: W, x => by
    unfold linesV
    have := lines_len W x
    split
    · simp only [List.length_cons]; omega
    · split <;> simp
-- bodegaref19.Lines: function 44
theorem Lines_ok (W : List Int) (x : Int) (hn : W.length ≤ 1000000) : FnP Try.prog 44 [IsSl tI64 W, Is (.int .i64 x)] (IsSl tI64 (linesV W x)) := by
  refine FnP.enter Try.func44 Try.ntmps44 rfl rfl ?_
  intro c hX
  refine JC_len (t := 0) rfl (fun hlen => ?_)
  refine JC_seq ?_
  refine JC_region ?_
  refine JL_1 rfl (op_assign rfl) ?_
  refine JL_nil ?_
  refine JQ_then (JC_seq ?_)
  refine JC_region ?_
  refine JL_1 rfl (op_assign rfl) ?_
  refine JL_nil ?_
  refine JQ_then (JC_seq (JC_block ?_))
  refine JC_loopP (fun k : Nat => k ≤ W.length ∧ ∀ (j : Nat) q, j < k → W[j]? = some q → q < x) (fun k => [(0, IsSl tI64 W), (1, Is (.int .i64 x)), (5, Is (.int .i64 (k : Nat)))]) (fun _ => []) (fun k => W.length - k) 0 ⟨Nat.zero_le _, fun j q hj _ => by omega⟩ esubT lessT ?_
  rintro k ⟨hk, hlo⟩
  obtain ⟨q, hq0⟩ : ∃ q, W.getD k 0 = q := ⟨_, rfl⟩
  have hq : k < W.length → W[k]? = some q := fun h => by rw [← hq0, List.getD_eq_getElem?_getD, List.getElem?_eq_getElem h]; rfl
  refine JC_seq (JC_seq ?_)
  refine JC_region ?_
  refine JL_1 rfl (op_move rfl) ?_
  refine JL_1 rfl (op_move rfl) ?_
  refine JL_1 rfl (by first | exact op_len (Ev.rfl' rfl) rfl | exact op_lenLit (Ev.rfl' rfl) rfl) ?_
  refine JL_1 rfl (op_lss (Ev.rfl' rfl) (Ev.rfl' rfl)) ?_
  refine JL_1 rfl (op_move rfl) ?_
  (first | refine JL_i0 rfl rfl rfl (fun hg => (by have hg0 := hg; (try simp at hg); first | exact op_moveE (Ev.sub rfl (SubL.iteT (by first | assumption | (simp; done) | (simp; omega) | (simp_all; done)) SubL.rfl')) | exact op_moveE (Ev.rfl' rfl))) ?_ | refine JL_i rfl rfl rfl (fun hp hg => (by have hpg := Bool.and_eq_true_iff.2 ⟨hp, hg⟩; have hg0 := hg; (try simp at hg); first | exact op_moveE (Ev.sub rfl (SubL.iteT (by first | assumption | (simp; done) | (simp; omega) | (simp_all; done)) SubL.rfl')) | exact op_moveE (Ev.rfl' rfl))) ?_)
  (first | refine JL_i0 rfl rfl rfl (fun hg => (by have hg0 := hg; (try simp at hg); first | exact op_moveE (Ev.sub rfl (SubL.iteT (by first | assumption | (simp; done) | (simp; omega) | (simp_all; done)) SubL.rfl')) | exact op_moveE (Ev.rfl' rfl))) ?_ | refine JL_i rfl rfl rfl (fun hp hg => (by have hpg := Bool.and_eq_true_iff.2 ⟨hp, hg⟩; have hg0 := hg; (try simp at hg); first | exact op_moveE (Ev.sub rfl (SubL.iteT (by first | assumption | (simp; done) | (simp; omega) | (simp_all; done)) SubL.rfl')) | exact op_moveE (Ev.rfl' rfl))) ?_)
  (first | refine JL_i0 rfl rfl rfl (fun hg => (by have hg0 := hg; (try simp at hg); first | exact op_index (j := _) evG evG rfl rfl (by first | rfl | omega) (hq (by omega)) | exact op_index (j := _) evG evG rfl rfl (by first | rfl | omega) (by assumption))) ?_ | refine JL_i rfl rfl rfl (fun hp hg => (by have hpg := Bool.and_eq_true_iff.2 ⟨hp, hg⟩; have hg0 := hg; (try simp at hg); first | exact op_index (j := _) evG evG rfl rfl (by first | rfl | omega) (hq (by omega)) | exact op_index (j := _) evG evG rfl rfl (by first | rfl | omega) (by assumption))) ?_)
  (first | refine JL_i0 rfl rfl rfl (fun hg => (by have hg0 := hg; (try simp at hg); first | exact op_loadRef evG rfl rfl rfl | exact op_loadPtr evG memT (by rfl) (by rfl) (by rfl))) ?_ | refine JL_i rfl rfl rfl (fun hp hg => (by have hpg := Bool.and_eq_true_iff.2 ⟨hp, hg⟩; have hg0 := hg; (try simp at hg); first | exact op_loadRef evG rfl rfl rfl | exact op_loadPtr evG memT (by rfl) (by rfl) (by rfl))) ?_)
  (first | refine JL_i0 rfl rfl rfl (fun hg => (by have hg0 := hg; (try simp at hg); first | exact op_moveE (Ev.sub rfl (SubL.iteT (by first | assumption | (simp; done) | (simp; omega) | (simp_all; done)) SubL.rfl')) | exact op_moveE (Ev.rfl' rfl))) ?_ | refine JL_i rfl rfl rfl (fun hp hg => (by have hpg := Bool.and_eq_true_iff.2 ⟨hp, hg⟩; have hg0 := hg; (try simp at hg); first | exact op_moveE (Ev.sub rfl (SubL.iteT (by first | assumption | (simp; done) | (simp; omega) | (simp_all; done)) SubL.rfl')) | exact op_moveE (Ev.rfl' rfl))) ?_)
  (first | refine JL_i0 rfl rfl rfl (fun hg => (by have hg0 := hg; (try simp at hg); exact op_lss evG evG)) ?_ | refine JL_i rfl rfl rfl (fun hp hg => (by have hpg := Bool.and_eq_true_iff.2 ⟨hp, hg⟩; have hg0 := hg; (try simp at hg); exact op_lss evG evG)) ?_)
  refine JL_1 rfl (op_and (Ev.rfl' rfl) rfl (fun h => by first | exact SubL.rfl' | exact SubL.iteT (by first | (rw [h]; rfl) | (simp_all; done)) SubL.rfl')) ?_
  refine JL_nil ?_
  refine JQ_then ?_
  refine JC_cond (Ev.rfl' rfl) (fun h2 => ?_) (fun h2 => ?_)
  · have h' : k < W.length ∧ q < x := by
      rw [Bool.and_eq_true] at h2
      have h8 := of_decide_eq_true h2.1
      exact ⟨by omega, of_decide_eq_true h2.2⟩
    clear h2
    refine JC_skip (JQ_then (JC_block ?_))
    refine JC_region ?_
    refine JL_1 rfl (op_move rfl) ?_
    refine JL_1 rfl (op_add (Ev.rfl' rfl) (Ev.rfl' rfl) wrapT) ?_
    refine JL_1 rfl (op_assign rfl) ?_
    refine JL_nil ?_
    refine JQ_block ?_
    exact JQ_roundP (k + 1) ⟨by omega, fun i q' hi hq' => by
      by_cases hij : i = k
      · subst hij; rw [hq h'.1] at hq'; cases hq'; exact h'.2
      · exact hlo i q' (by omega) hq'⟩ (by omega) esubT lessT
  have h' : k = W.length ∨ ¬ q < x := by
    by_cases hjl : k = W.length
    · exact .inl hjl
    · refine .inr fun hh => ?_
      have e1 : decide ((k : Int) < (W.length : Int)) = true := decide_eq_true (by omega)
      rw [e1, Bool.true_and, decide_eq_true hh] at h2
      cases h2
  clear h2
  refine JC_exit (JQ_then_exit (JQ_then_exit (JQ_hit (JQ_then (JC_seq (JC_seq ?_))))))
  refine JC_region ?_
  refine JL_1 rfl (op_move rfl) ?_
  refine JL_1 rfl (op_move rfl) ?_
  refine JL_1 rfl (by first | exact op_len (Ev.rfl' rfl) rfl | exact op_lenLit (Ev.rfl' rfl) rfl) ?_
  refine JL_1 rfl (op_lss (Ev.rfl' rfl) (Ev.rfl' rfl)) ?_
  refine JL_1 rfl (op_move rfl) ?_
  (first | refine JL_i0 rfl rfl rfl (fun hg => (by have hg0 := hg; (try simp at hg); first | exact op_moveE (Ev.sub rfl (SubL.iteT (by first | assumption | (simp; done) | (simp; omega) | (simp_all; done)) SubL.rfl')) | exact op_moveE (Ev.rfl' rfl))) ?_ | refine JL_i rfl rfl rfl (fun hp hg => (by have hpg := Bool.and_eq_true_iff.2 ⟨hp, hg⟩; have hg0 := hg; (try simp at hg); first | exact op_moveE (Ev.sub rfl (SubL.iteT (by first | assumption | (simp; done) | (simp; omega) | (simp_all; done)) SubL.rfl')) | exact op_moveE (Ev.rfl' rfl))) ?_)
  (first | refine JL_i0 rfl rfl rfl (fun hg => (by have hg0 := hg; (try simp at hg); first | exact op_moveE (Ev.sub rfl (SubL.iteT (by first | assumption | (simp; done) | (simp; omega) | (simp_all; done)) SubL.rfl')) | exact op_moveE (Ev.rfl' rfl))) ?_ | refine JL_i rfl rfl rfl (fun hp hg => (by have hpg := Bool.and_eq_true_iff.2 ⟨hp, hg⟩; have hg0 := hg; (try simp at hg); first | exact op_moveE (Ev.sub rfl (SubL.iteT (by first | assumption | (simp; done) | (simp; omega) | (simp_all; done)) SubL.rfl')) | exact op_moveE (Ev.rfl' rfl))) ?_)
  (first | refine JL_i0 rfl rfl rfl (fun hg => (by have hg0 := hg; (try simp at hg); first | exact op_index (j := _) evG evG rfl rfl (by first | rfl | omega) (hq (by omega)) | exact op_index (j := _) evG evG rfl rfl (by first | rfl | omega) (by assumption))) ?_ | refine JL_i rfl rfl rfl (fun hp hg => (by have hpg := Bool.and_eq_true_iff.2 ⟨hp, hg⟩; have hg0 := hg; (try simp at hg); first | exact op_index (j := _) evG evG rfl rfl (by first | rfl | omega) (hq (by omega)) | exact op_index (j := _) evG evG rfl rfl (by first | rfl | omega) (by assumption))) ?_)
  (first | refine JL_i0 rfl rfl rfl (fun hg => (by have hg0 := hg; (try simp at hg); first | exact op_loadRef evG rfl rfl rfl | exact op_loadPtr evG memT (by rfl) (by rfl) (by rfl))) ?_ | refine JL_i rfl rfl rfl (fun hp hg => (by have hpg := Bool.and_eq_true_iff.2 ⟨hp, hg⟩; have hg0 := hg; (try simp at hg); first | exact op_loadRef evG rfl rfl rfl | exact op_loadPtr evG memT (by rfl) (by rfl) (by rfl))) ?_)
  (first | refine JL_i0 rfl rfl rfl (fun hg => (by have hg0 := hg; (try simp at hg); first | exact op_moveE (Ev.sub rfl (SubL.iteT (by first | assumption | (simp; done) | (simp; omega) | (simp_all; done)) SubL.rfl')) | exact op_moveE (Ev.rfl' rfl))) ?_ | refine JL_i rfl rfl rfl (fun hp hg => (by have hpg := Bool.and_eq_true_iff.2 ⟨hp, hg⟩; have hg0 := hg; (try simp at hg); first | exact op_moveE (Ev.sub rfl (SubL.iteT (by first | assumption | (simp; done) | (simp; omega) | (simp_all; done)) SubL.rfl')) | exact op_moveE (Ev.rfl' rfl))) ?_)
  (first | refine JL_i0 rfl rfl rfl (fun hg => (by have hg0 := hg; (try simp at hg); exact op_eql evG evG)) ?_ | refine JL_i rfl rfl rfl (fun hp hg => (by have hpg := Bool.and_eq_true_iff.2 ⟨hp, hg⟩; have hg0 := hg; (try simp at hg); exact op_eql evG evG)) ?_)
  refine JL_1 rfl (op_and (Ev.rfl' rfl) rfl (fun h => by first | exact SubL.rfl' | exact SubL.iteT (by first | (rw [h]; rfl) | (simp_all; done)) SubL.rfl')) ?_
  refine JL_nil ?_
  refine JQ_then ?_
  refine JC_cond (Ev.rfl' rfl) (fun h4 => ?_) (fun h4 => ?_)
  · have h2 : k < W.length ∧ q = x := by
      rw [Bool.and_eq_true] at h4
      have h8 := of_decide_eq_true h4.1
      exact ⟨by omega, by simpa using h4.2⟩
    clear h4
    obtain ⟨h2a, rfl⟩ := h2
    rw [lines_same k hlo (hq h2a)]
    refine JC_seq ?_
    refine JC_region ?_
    refine JL_1 rfl (op_move rfl) ?_
    refine JL_1 rfl (op_assign rfl) ?_
    refine JL_nil ?_
    refine JQ_then (JC_ret (JQ_then_ret ?_))
    exact JQ_ret (Bs := [IsSl tI64 W]) Try.results44 ⟨⟨_, rfl, subT⟩, trivial⟩ () SubL.rfl' (List.nil_sublist _)
  have h2 : ∀ q', W[k]? = some q' → x < q' := fun q' hq' => by
    have hjl := (List.getElem?_eq_some_iff.1 hq').1
    rw [hq hjl] at hq'; cases hq'
    have e1 : decide ((k : Int) < (W.length : Int)) = true := decide_eq_true (by omega)
    rw [e1, Bool.true_and] at h4
    have h10 : ¬ q = x := by simpa using h4
    rcases h' with h' | h'
    · omega
    · omega
  clear h4
  rw [lines_put k hk hlo h2]
  refine JC_skip (JQ_then (JC_seq ?_))
  refine JC_dr rfl (by kernel_rfl) ?_
  refine JD_stretch 12 (by kernel_rfl) ?_
  refine JW_n (op_buildSlice0E tI64 rfl rfl) ?_
  refine JW_1 (op_move rfl) ?_
  refine JW_1 (op_move rfl) ?_
  refine JW_1 (op_slice (Ev.rfl' rfl) rfl rfl rfl ⟨_, _, (Ev.rfl' rfl), (by first | rfl | omega)⟩ (by omega) (by omega)) ?_
  refine JW_take rfl rfl rfl (by rfl) (by kernel_rfl) (op_appT evS (by exact appT rfl rfl rfl) lenT) ?_
  refine JW_1 (op_move rfl) ?_
  refine JW_1 (op_buildSlice (size := 1) (qs := [(0, _)]) rfl rfl rfl ⟨⟨rfl, _, (Ev.rfl' rfl), cellsT⟩, trivial⟩ (by rfl) (by rfl)) ?_
  refine JW_take rfl rfl rfl (by rfl) (by kernel_rfl) (op_appT (by first | exact Ev.rfl' rfl | exact Ev.sub rfl (by first | exact SubL.row (xs := [x]) (by rfl) (by rfl) subsT | exact subT)) (by exact appT rfl rfl rfl) lenT) ?_
  refine JW_1 (op_move rfl) ?_
  refine JW_1 (op_move rfl) ?_
  refine JW_1 (op_slice (Ev.rfl' rfl) rfl rfl ⟨_, _, (Ev.rfl' rfl), (by first | rfl | omega)⟩ rfl (by omega) (by omega)) ?_
  refine JW_take rfl rfl rfl (by rfl) (by kernel_rfl) (op_appT evS (by exact appT rfl rfl rfl) lenT) ?_
  refine ⟨rfl, ?_⟩
  intro i44
  refine JD_1 (by kernel_rfl) rfl rfl (op_assign rfl) ?_
  refine JD_end ?_
  refine JQ_then (JC_ret ?_)
  refine JQ_freeze hX replT ?_
  rw [show ([] ++ List.drop 0 (List.take k W) ++ [x] ++ List.drop k (List.take W.length W)) = W.take k ++ ([x] ++ W.drop k) by rw [List.take_length, List.drop_zero, List.nil_append, List.append_assoc]]
  exact JQ_ret (Bs := [IsSl tI64 (W.take k ++ ([x] ++ W.drop k))]) Try.results44 ⟨⟨_, rfl, subT⟩, trivial⟩ () SubL.rfl' (List.nil_sublist _)
/-! ### The last known page, by the reference -/
theorem lat_take {xs : List Pg} {k : Nat} {p : Pg} (h : xs[k]? = some p) (l : Int) : latO (xs.take (k + 1)) l = if p.l = l then some p else latO (xs.take k) l := by
  unfold latO
  rw [List.take_add_one, h, List.filter_append]
  by_cases g : p.l = l
  · rw [if_pos g]; simp [g]
  · rw [if_neg g]; simp [g]
-- bodegaref19.Latest: function 120
theorem LatestR_ok (xs : List Pg) (l : Int) : FnP Try.prog 120 [IsSl tPg xs, Is (.int .i64 l)] (IsTup [IsPg (latP xs l), Is (.bool (latB xs l))]) := by
  refine FnP.enter Try.func120 Try.ntmps120 rfl rfl ?_
  intro c hX
  refine JC_len (t := 0) rfl (fun hlen => ?_)
  refine JC_seq ?_
  refine JC_region ?_
  (refine JL_n rfl (op_allocN rfl nrmT rfl) ?_; intro i4)
  refine JL_1 rfl (op_assign rfl) ?_
  refine JL_nil ?_
  refine JQ_then (JC_seq ?_)
  refine JC_region ?_
  (refine JL_n rfl (op_allocN rfl nrmT rfl) ?_; intro i6)
  refine JL_nil ?_
  refine JQ_then (JC_seq ?_)
  refine JC_region ?_
  refine JL_1 rfl (op_assign rfl) ?_
  refine JL_nil ?_
  refine JQ_then (JC_seq (JC_seq ?_))
  refine JC_region ?_
  refine JL_1 rfl (op_assign rfl) ?_
  refine JL_nil ?_
  refine JQ_then (JC_block ?_)
  refine JC_loopP (fun k : Nat => k ≤ xs.length) (fun k => [(0, IsSl tPg xs), (1, Is (.int .i64 l)), (4, Is (.pointer (some ⟨i4, 0, none⟩))), (6, Is (.pointer (some ⟨i6, 0, none⟩))), (7, Is (.bool (latB (xs.take k) l))), (8, Is (.int .i64 (k : Nat)))]) (fun k => [blk i4 25 (tPg.cells Pg.nil), blk i6 25 (tPg.cells (latP (xs.take k) l))]) (fun k => xs.length - k) 0 (Nat.zero_le _) esubT lessT ?_
  rintro k hk
  refine JC_seq (JC_seq ?_)
  refine JC_region ?_
  refine JL_1 rfl (op_move rfl) ?_
  refine JL_1 rfl (op_move rfl) ?_
  refine JL_1 rfl (by first | exact op_len (Ev.rfl' rfl) rfl | exact op_lenLit (Ev.rfl' rfl) rfl) ?_
  refine JL_1 rfl (op_lss (Ev.rfl' rfl) (Ev.rfl' rfl)) ?_
  refine JL_nil ?_
  refine JQ_then ?_
  refine JC_cond (Ev.rfl' rfl) (fun h4 => ?_) (fun h4 => ?_)
  · have hlt : k < xs.length := by have := of_decide_eq_true h4; omega
    clear h4
    obtain ⟨z, hz⟩ : ∃ z, xs[k]? = some z := ⟨xs[k], List.getElem?_eq_getElem hlt⟩
    have hlk := lat_take hz l
    refine JC_skip (JQ_then (JC_seq (JC_block (JC_seq ?_))))
    refine JC_region ?_
    refine JL_1 rfl (op_move rfl) ?_
    refine JL_1 rfl (op_move rfl) ?_
    refine JL_1 rfl (by first | exact op_index (j := _) (Ev.rfl' rfl) (Ev.rfl' rfl) rfl rfl (by first | rfl | omega) hz | exact op_index (j := _) (Ev.rfl' rfl) (Ev.rfl' rfl) rfl rfl (by first | rfl | omega) (by assumption)) ?_
    refine JL_1 rfl (by first | exact op_fieldPtr (k := 0) (Ev.rfl' rfl) rfl rfl rfl rfl | exact op_fieldRefN (k := 0) (Ev.rfl' rfl) rfl rfl rfl rfl nrmT) ?_
    refine JL_1 rfl (by first | exact op_loadRef (Ev.rfl' rfl) rfl rfl rfl | exact op_loadPtr (Ev.rfl' rfl) memT (by rfl) (by rfl) (by rfl)) ?_
    refine JL_1 rfl (op_move rfl) ?_
    refine JL_1 rfl (op_eql (Ev.rfl' rfl) (Ev.rfl' rfl)) ?_
    refine JL_nil ?_
    refine JQ_then ?_
    refine JC_cond (Ev.rfl' rfl) (fun h6 => ?_) (fun h6 => ?_)
    · have g : z.l = l := by simpa using h6
      have e1 : latP (xs.take (k + 1)) l = z := by unfold latP; rw [hlk, if_pos g]; rfl
      have e2 : latB (xs.take (k + 1)) l = true := by unfold latB; rw [hlk, if_pos g]; rfl
      clear h6
      refine JC_region ?_
      refine JL_1 rfl (op_move rfl) ?_
      refine JL_1 rfl (op_move rfl) ?_
      refine JL_1 rfl (by first | exact op_index (j := _) (Ev.rfl' rfl) (Ev.rfl' rfl) rfl rfl (by first | rfl | omega) hz | exact op_index (j := _) (Ev.rfl' rfl) (Ev.rfl' rfl) rfl rfl (by first | rfl | omega) (by assumption)) ?_
      refine JL_1 rfl (by first | exact op_loadRefsN (n := 9) (Ev.rfl' rfl) rfl rfl rfl (by rfl) nrmT | exact op_loadPtrsN (n := 9) (Ev.rfl' rfl) memT (by rfl) (by rfl) (by rfl) (by rfl) nrmT) ?_
      refine JL_s0 (op_storeN (Ev.rfl' rfl) (Ev.rfl' rfl) cellsT replT nrmT (by rfl) (by rfl) (by rfl)) ?_
      refine JL_1 rfl (op_assign rfl) ?_
      refine JL_nil ?_
      refine JQ_block (JQ_then ?_)
      refine JC_region ?_
      refine JL_1 rfl (op_move rfl) ?_
      refine JL_1 rfl (op_add (Ev.rfl' rfl) (Ev.rfl' rfl) wrapT) ?_
      refine JL_1 rfl (op_assign rfl) ?_
      refine JL_nil ?_
      exact JQ_roundP (k + 1) (by omega) (by omega) ⟨⟨_, rfl, SubL.rfl'⟩, ⟨_, rfl, SubL.rfl'⟩, ⟨_, rfl, SubL.rfl'⟩, ⟨_, rfl, SubL.rfl'⟩, ⟨_, rfl, SubL.eq (by rw [e2])⟩, ⟨_, rfl, SubL.rfl'⟩, trivial⟩ (by rw [e1]; exact lessT)
    have g : ¬ z.l = l := by simpa using h6
    have e1 : latP (xs.take (k + 1)) l = latP (xs.take k) l := by unfold latP; rw [hlk, if_neg g]
    have e2 : latB (xs.take (k + 1)) l = latB (xs.take k) l := by unfold latB; rw [hlk, if_neg g]
    clear h6
    refine JC_skip (JQ_block (JQ_then ?_))
    refine JC_region ?_
    refine JL_1 rfl (op_move rfl) ?_
    refine JL_1 rfl (op_add (Ev.rfl' rfl) (Ev.rfl' rfl) wrapT) ?_
    refine JL_1 rfl (op_assign rfl) ?_
    refine JL_nil ?_
    exact JQ_roundP (k + 1) (by omega) (by omega) ⟨⟨_, rfl, SubL.rfl'⟩, ⟨_, rfl, SubL.rfl'⟩, ⟨_, rfl, SubL.rfl'⟩, ⟨_, rfl, SubL.rfl'⟩, ⟨_, rfl, SubL.eq (by rw [e2])⟩, ⟨_, rfl, SubL.rfl'⟩, trivial⟩ (by rw [e1]; exact lessT)
  have hke : k = xs.length := by have := of_decide_eq_false h4; omega
  subst hke
  clear h4
  rw [List.take_length]
  refine JC_exit (JQ_then_exit (JQ_then_exit (JQ_hit (JQ_then (JC_seq ?_)))))
  refine JC_region ?_
  refine JL_1 rfl (by first | exact op_loadRefsN (n := 9) (Ev.rfl' rfl) rfl rfl rfl (by rfl) nrmT | exact op_loadPtrsN (n := 9) (Ev.rfl' rfl) memT (by rfl) (by rfl) (by rfl) (by rfl) nrmT) ?_
  refine JL_1 rfl (op_move rfl) ?_
  refine JL_s0 (op_storeN (Ev.rfl' rfl) (Ev.rfl' rfl) cellsT replT nrmT (by rfl) (by rfl) (by rfl)) ?_
  refine JL_1 rfl (op_assign rfl) ?_
  refine JL_nil ?_
  refine JQ_then (JC_ret ?_)
  exact JQ_ret (Bs := [IsPg (latP xs l), Is (.bool (latB xs l))]) Try.results120 ⟨⟨_, _, _, _, rfl, memT, rfl, .inr ⟨rfl, _, rfl, rfl, subT⟩⟩, ⟨⟨_, rfl, subT⟩, trivial⟩⟩ () SubL.rfl' (List.nil_sublist _)
theorem LatestV_ok (xs : List Pg) (l : Int) : FnP Try.prog 86 [IsSl tPg xs, Is (.int .i64 l)] (IsTup [IsPg (latP xs l), Is (.bool (latB xs l))]) := Latest_ok xs l
/-! ### Clones -/
-- slices.Clone[[]bodega/api.Page,bodega/api.Page]: function 97
theorem ClonePg_ok (xs : List Pg) (hl : xs.length ≤ 1000000) : FnP Try.prog 97 [IsSl tPg xs] (IsSl tPg xs) := by
  refine FnP.enter Try.func97 Try.ntmps97 rfl rfl ?_
  intro c hX
  refine JC_seq ?_
  refine JC_region ?_
  refine JL_1 rfl (op_assign rfl) ?_
  refine JL_nil ?_
  refine JQ_then (JC_seq (JC_seq ?_))
  refine JC_region ?_
  refine JL_1 rfl (op_move rfl) ?_
  refine JL_1 rfl (op_eqNil (Ev.rfl' rfl) rfl) ?_
  refine JL_nil ?_
  refine JQ_then ?_
  refine JC_ex 4 rfl (fun hb => ?_)
  obtain ⟨b, hb⟩ := hb
  refine JC_cond (Ev.rfl' rfl) (fun h1 => ?_) (fun h1 => ?_)
  · have e := hb h1
    subst e
    refine JC_seq ?_
    refine JC_region ?_
    refine JL_1 rfl (op_assign rfl) ?_
    refine JL_nil ?_
    refine JQ_then (JC_ret (JQ_then_ret ?_))
    exact JQ_ret (Bs := [IsSl tPg []]) Try.results97 ⟨⟨_, rfl, subT⟩, trivial⟩ () SubL.rfl' (List.nil_sublist _)
  refine JC_skip (JQ_then (JC_seq ?_))
  refine JC_region ?_
  (refine JL_n rfl (op_buildSlice0 tPg rfl rfl) ?_; intro i5)
  refine JL_1 rfl (op_move rfl) ?_
  (refine JL_s rfl (op_app (Ev.rfl' rfl) (fun _ => replT) evS (by exact appT rfl rfl rfl) lenT) ?_; intro i7)
  refine JL_1 rfl (op_assign rfl) ?_
  refine JL_nil ?_
  refine JQ_then (JC_ret ?_)
  refine JQ_freeze hX replT ?_
  exact JQ_ret (Bs := [IsSl tPg xs]) Try.results97 ⟨⟨_, rfl, subT⟩, trivial⟩ () SubL.rfl' (List.nil_sublist _)
-- slices.Clone[[]int,int]: function 119
theorem CloneI_ok (xs : List Int) (hl : xs.length ≤ 1000000) : FnP Try.prog 119 [IsSl tI64 xs] (IsSl tI64 xs) := by
  refine FnP.enter Try.func119 Try.ntmps119 rfl rfl ?_
  intro c hX
  refine JC_seq ?_
  refine JC_region ?_
  refine JL_1 rfl (op_assign rfl) ?_
  refine JL_nil ?_
  refine JQ_then (JC_seq (JC_seq ?_))
  refine JC_region ?_
  refine JL_1 rfl (op_move rfl) ?_
  refine JL_1 rfl (op_eqNil (Ev.rfl' rfl) rfl) ?_
  refine JL_nil ?_
  refine JQ_then ?_
  refine JC_ex 4 rfl (fun hb => ?_)
  obtain ⟨b, hb⟩ := hb
  refine JC_cond (Ev.rfl' rfl) (fun h1 => ?_) (fun h1 => ?_)
  · have e := hb h1
    subst e
    refine JC_seq ?_
    refine JC_region ?_
    refine JL_1 rfl (op_assign rfl) ?_
    refine JL_nil ?_
    refine JQ_then (JC_ret (JQ_then_ret ?_))
    exact JQ_ret (Bs := [IsSl tI64 []]) Try.results119 ⟨⟨_, rfl, subT⟩, trivial⟩ () SubL.rfl' (List.nil_sublist _)
  refine JC_skip (JQ_then (JC_seq ?_))
  refine JC_region ?_
  (refine JL_n rfl (op_buildSlice0 tI64 rfl rfl) ?_; intro i5)
  refine JL_1 rfl (op_move rfl) ?_
  (refine JL_s rfl (op_app (Ev.rfl' rfl) (fun _ => replT) evS (by exact appT rfl rfl rfl) lenT) ?_; intro i7)
  refine JL_1 rfl (op_assign rfl) ?_
  refine JL_nil ?_
  refine JQ_then (JC_ret ?_)
  refine JQ_freeze hX replT ?_
  exact JQ_ret (Bs := [IsSl tI64 xs]) Try.results119 ⟨⟨_, rfl, subT⟩, trivial⟩ () SubL.rfl' (List.nil_sublist _)
end Go.Proofs.Ytpfojangcgffkaa

/- Contracts: transactions, their sets. Own work. -/
namespace Go.Proofs.Ytpfojangcgffkaa
open Go.RowKit
set_option linter.unusedVariables false
set_option linter.unusedSimpArgs false
set_option maxRecDepth 100000
structure Tx where
  cl : Int
  sq : Int
  base : List Pg
  chk : List Int
  wr : List Pg
@[reducible] def txC (x : Tx) : List VP := [Is (.int .i64 x.cl), Is (.int .i64 x.sq), IsSl tPg x.base, IsSl tI64 x.chk, IsSl tPg x.wr]
@[reducible] def IsTx (x : Tx) : VP := IsAgg (txC x)
structure Sn where
  line : Int
  head : BitVec 64
  deriving DecidableEq
@[reducible] def tSn : Ty Sn := ⟨2, fun x => [Is (.int .i64 x.line), Is (.int .u64 (UV x.head))], fun _ => rfl⟩
def Sn.cells (x : Sn) : List Value := [.int .i64 x.line, .int .u64 (UV x.head)]
theorem eqSn_run (p q : Sn) (w : World) : (Op.equal 145 (.agg p.cells.toArray) (.agg q.cells.toArray)).run Try.prog w = .ok (decide (p = q)) w := by
  have h : (Op.equalIn (9999 + 1) 145 (.agg #[.int .i64 p.line, .int .u64 (UV p.head)]) (.agg #[.int .i64 q.line, .int .u64 (UV q.head)])).run Try.prog w = .ok (decide (p = q)) w := by
    go_simp
    obtain ⟨a, b⟩ := p
    obtain ⟨a', b'⟩ := q
    by_cases h1 : a = a' <;> by_cases h2 : b = b' <;> simp [h1, h2]
  exact h
theorem eqSn_guard (o : BinOp) (x y : Operand) (p q : Sn) (w : World) : (eqGuard o 145 x y (.agg p.cells.toArray) (.agg q.cells.toArray)).run Try.prog w = .ok () w := by
  have h : Try.prog.eqGuardType Try.prog.depth 145 = false := by kernel_rfl
  cases o <;> simp [eqGuard, program, Sem.run, h]
theorem eqSn_neq (p q : Sn) (w : World) : (binOp .neq 145 (.agg p.cells.toArray) (.agg q.cells.toArray)).run Try.prog w = .ok (.bool (!decide (p = q))) w := by
  simp only [binOp, Sem.run_bind, eqSn_run, Result.andThen_ok, Sem.run_pure]
set_option maxHeartbeats 1000000 in
-- bodegalaw28.sameSeen: function 48
theorem sameSeen_ok (xs ys : List Sn) : FnP Try.prog 48 [IsSl tSn xs, IsSl tSn ys] (Is (.bool (decide (xs = ys)))) := by
  refine FnP.enter Try.func48 Try.ntmps48 rfl rfl ?_
  intro c hX
  refine JC_len (t := 0) rfl (fun hlen => ?_)
  refine JC_seq ?_
  refine JC_region ?_
  refine JL_1 rfl (op_assign rfl) ?_
  refine JL_nil ?_
  refine JQ_then (JC_seq (JC_seq ?_))
  refine JC_region ?_
  refine JL_1 rfl (op_move rfl) ?_
  refine JL_1 rfl (by first | exact op_len (Ev.rfl' rfl) rfl | exact op_lenLit (Ev.rfl' rfl) rfl) ?_
  refine JL_1 rfl (op_move rfl) ?_
  refine JL_1 rfl (by first | exact op_len (Ev.rfl' rfl) rfl | exact op_lenLit (Ev.rfl' rfl) rfl) ?_
  refine JL_1 rfl (op_neq (Ev.rfl' rfl) (Ev.rfl' rfl)) ?_
  refine JL_nil ?_
  refine JQ_then ?_
  refine JC_cond (Ev.rfl' rfl) (fun h1 => ?_) (fun h1 => ?_)
  · have e : xs ≠ ys := by rintro rfl; simp at h1
    refine JC_seq ?_
    refine JC_region ?_
    refine JL_1 rfl (op_assign rfl) ?_
    refine JL_nil ?_
    refine JQ_then (JC_ret (JQ_then_ret ?_))
    refine JQ_ret1 Try.results48 rfl () (SubL.eq ?_) (List.nil_sublist _)
    rw [decide_eq_false e]
  have hl : xs.length = ys.length := by simp at h1; omega
  clear h1
  refine JC_skip (JQ_then (JC_seq (JC_seq ?_)))
  refine JC_region ?_
  refine JL_1 rfl (op_assign rfl) ?_
  refine JL_nil ?_
  refine JQ_then (JC_block ?_)
  refine JC_loopP (fun k : Nat => k ≤ xs.length ∧ xs.take k = ys.take k) (fun k => [(0, IsSl tSn xs), (1, IsSl tSn ys), (5, Is (.int .i64 (k : Nat)))]) (fun _ => []) (fun k => xs.length - k) 0 ⟨Nat.zero_le _, rfl⟩ esubT lessT ?_
  rintro k ⟨hk, hs⟩
  refine JC_seq (JC_seq ?_)
  refine JC_region ?_
  refine JL_1 rfl (op_move rfl) ?_
  refine JL_1 rfl (op_move rfl) ?_
  refine JL_1 rfl (by first | exact op_len (Ev.rfl' rfl) rfl | exact op_lenLit (Ev.rfl' rfl) rfl) ?_
  refine JL_1 rfl (op_lss (Ev.rfl' rfl) (Ev.rfl' rfl)) ?_
  refine JL_nil ?_
  refine JQ_then ?_
  refine JC_cond (Ev.rfl' rfl) (fun h4 => ?_) (fun h4 => ?_)
  · have h' : (k : Int) < xs.length := of_decide_eq_true h4
    clear h4
    obtain ⟨mx, hx⟩ : ∃ m, xs[k]? = some m := ⟨xs[k], List.getElem?_eq_getElem (by omega)⟩
    obtain ⟨my, hy⟩ : ∃ m, ys[k]? = some m := ⟨ys[k], List.getElem?_eq_getElem (by omega)⟩
    refine JC_skip (JQ_then (JC_seq (JC_block (JC_seq ?_))))
    refine JC_dr rfl (by kernel_rfl) ?_
    refine JD_stretch 9 (by kernel_rfl) ?_
    refine JW_1 (op_move rfl) ?_
    refine JW_1 (op_move rfl) ?_
    refine JW_1 (by first | exact op_index (j := _) (Ev.rfl' rfl) (Ev.rfl' rfl) rfl rfl (by first | rfl | omega) hx | exact op_index (j := _) (Ev.rfl' rfl) (Ev.rfl' rfl) rfl rfl (by first | rfl | omega) hy | exact op_index (j := _) (Ev.rfl' rfl) (Ev.rfl' rfl) rfl rfl (by first | rfl | omega) (by assumption)) ?_
    refine JW_1 (by first | exact op_loadRefsN (n := 2) (Ev.rfl' rfl) rfl rfl rfl (by rfl) nrmT | exact op_loadPtrsN (n := 2) (Ev.rfl' rfl) memT (by rfl) (by rfl) (by rfl) (by rfl) nrmT) ?_
    refine JW_1 (op_move rfl) ?_
    refine JW_1 (op_move rfl) ?_
    refine JW_1 (by first | exact op_index (j := _) (Ev.rfl' rfl) (Ev.rfl' rfl) rfl rfl (by first | rfl | omega) hx | exact op_index (j := _) (Ev.rfl' rfl) (Ev.rfl' rfl) rfl rfl (by first | rfl | omega) hy | exact op_index (j := _) (Ev.rfl' rfl) (Ev.rfl' rfl) rfl rfl (by first | rfl | omega) (by assumption)) ?_
    refine JW_1 (by first | exact op_loadRefsN (n := 2) (Ev.rfl' rfl) rfl rfl rfl (by rfl) nrmT | exact op_loadPtrsN (n := 2) (Ev.rfl' rfl) memT (by rfl) (by rfl) (by rfl) (by rfl) nrmT) ?_
    refine JW_1 (op_cmpA (vs := Sn.cells mx) (ws := Sn.cells my) (Ev.rfl' rfl) (Ev.rfl' rfl) (eqSn_guard _ _ _ mx my) (eqSn_neq mx my)) ?_
    refine ⟨rfl, ?_⟩
    refine JD_end ?_
    refine JQ_then ?_
    refine JC_cond (Ev.rfl' rfl) (fun h6 => ?_) (fun h6 => ?_)
    · have e : xs ≠ ys := by
        rintro rfl
        rw [hx] at hy
        have hm : mx = my := by simpa using hy
        subst hm
        simp at h6
      refine JC_seq ?_
      refine JC_region ?_
      refine JL_1 rfl (op_assign rfl) ?_
      refine JL_nil ?_
      refine JQ_then (JC_ret (JQ_block_ret (JQ_then_ret (JQ_then_ret (JQ_block_ret (JQ_then_ret ?_))))))
      refine JQ_ret1 Try.results48 rfl () (SubL.eq ?_) (List.nil_sublist _)
      rw [decide_eq_false e]
    have e : mx = my := by simpa [UV_inj] using h6
    clear h6
    refine JC_skip (JQ_block (JQ_then ?_))
    refine JC_region ?_
    refine JL_1 rfl (op_move rfl) ?_
    refine JL_1 rfl (op_add (Ev.rfl' rfl) (Ev.rfl' rfl) wrapT) ?_
    refine JL_1 rfl (op_assign rfl) ?_
    refine JL_nil ?_
    exact JQ_roundP (k + 1) ⟨by omega, (take_eq_succ hx hy hs).2 e⟩ (by omega) esubT lessT
  have e : xs = ys := by
    have h' : ¬ (k : Int) < xs.length := of_decide_eq_false h4
    rw [List.take_of_length_le (by omega), List.take_of_length_le (by omega)] at hs
    exact hs
  clear h4
  refine JC_exit (JQ_then_exit (JQ_then_exit (JQ_hit (JQ_then (JC_seq ?_)))))
  refine JC_region ?_
  refine JL_1 rfl (op_assign rfl) ?_
  refine JL_nil ?_
  refine JQ_then (JC_ret ?_)
  refine JQ_ret1 Try.results48 rfl () (SubL.eq ?_) (List.nil_sublist _)
  rw [decide_eq_true e]
-- txn.New: function 49
theorem TxNew_ok (cl sq : Int) : FnP Try.prog 49 [Is (.int .i64 cl), Is (.int .i64 sq)] (IsTup [IsTx (if cl < 0 ∨ cl ≥ 6 ∨ sq < 1 ∨ sq ≥ 1073741824 then ⟨0, 0, [], [], []⟩ else ⟨cl, sq, [], [], []⟩), Is (.int .i64 (if cl < 0 ∨ cl ≥ 6 ∨ sq < 1 ∨ sq ≥ 1073741824 then 1 else 0))]) := by
  refine FnP.enter Try.func49 Try.ntmps49 rfl rfl ?_
  intro c hX
  refine JC_seq ?_
  refine JC_region ?_
  (refine JL_n rfl (op_allocN rfl nrmT rfl) ?_; intro i4)
  refine JL_1 rfl (op_assign rfl) ?_
  refine JL_nil ?_
  refine JQ_then (JC_seq (JC_seq ?_))
  refine JC_region ?_
  refine JL_1 rfl (op_move rfl) ?_
  refine JL_1 rfl (op_lss (Ev.rfl' rfl) (Ev.rfl' rfl)) ?_
  refine JL_1 rfl (op_move rfl) ?_
  (first | refine JL_i0 rfl rfl rfl (fun hg => (by have hg0 := hg; (try simp at hg); first | exact op_moveE (Ev.sub rfl (SubL.iteT (by first | assumption | (simp; done) | (simp; omega) | (simp_all; done)) SubL.rfl')) | exact op_moveE (Ev.rfl' rfl))) ?_ | refine JL_i rfl rfl rfl (fun hp hg => (by have hpg := Bool.and_eq_true_iff.2 ⟨hp, hg⟩; have hg0 := hg; (try simp at hg); first | exact op_moveE (Ev.sub rfl (SubL.iteT (by first | assumption | (simp; done) | (simp; omega) | (simp_all; done)) SubL.rfl')) | exact op_moveE (Ev.rfl' rfl))) ?_)
  (first | refine JL_i0 rfl rfl rfl (fun hg => (by have hg0 := hg; (try simp at hg); exact op_geq evG evG)) ?_ | refine JL_i rfl rfl rfl (fun hp hg => (by have hpg := Bool.and_eq_true_iff.2 ⟨hp, hg⟩; have hg0 := hg; (try simp at hg); exact op_geq evG evG)) ?_)
  refine JL_1 rfl (op_or (Ev.rfl' rfl) rfl (fun h => by first | exact SubL.rfl' | exact SubL.iteT (by first | (rw [h]; rfl) | (simp_all; done)) SubL.rfl')) ?_
  refine JL_1 rfl (op_move rfl) ?_
  (first | refine JL_i0 rfl rfl rfl (fun hg => (by have hg0 := hg; (try simp at hg); first | exact op_moveE (Ev.sub rfl (SubL.iteT (by first | assumption | (simp; done) | (simp; omega) | (simp_all; done)) SubL.rfl')) | exact op_moveE (Ev.rfl' rfl))) ?_ | refine JL_i rfl rfl rfl (fun hp hg => (by have hpg := Bool.and_eq_true_iff.2 ⟨hp, hg⟩; have hg0 := hg; (try simp at hg); first | exact op_moveE (Ev.sub rfl (SubL.iteT (by first | assumption | (simp; done) | (simp; omega) | (simp_all; done)) SubL.rfl')) | exact op_moveE (Ev.rfl' rfl))) ?_)
  (first | refine JL_i0 rfl rfl rfl (fun hg => (by have hg0 := hg; (try simp at hg); exact op_lss evG evG)) ?_ | refine JL_i rfl rfl rfl (fun hp hg => (by have hpg := Bool.and_eq_true_iff.2 ⟨hp, hg⟩; have hg0 := hg; (try simp at hg); exact op_lss evG evG)) ?_)
  refine JL_1 rfl (op_or (Ev.rfl' rfl) rfl (fun h => by first | exact SubL.rfl' | exact SubL.iteT (by first | (rw [h]; rfl) | (simp_all; done)) SubL.rfl')) ?_
  refine JL_1 rfl (op_move rfl) ?_
  (first | refine JL_i0 rfl rfl rfl (fun hg => (by have hg0 := hg; (try simp at hg); first | exact op_moveE (Ev.sub rfl (SubL.iteT (by first | assumption | (simp; done) | (simp; omega) | (simp_all; done)) SubL.rfl')) | exact op_moveE (Ev.rfl' rfl))) ?_ | refine JL_i rfl rfl rfl (fun hp hg => (by have hpg := Bool.and_eq_true_iff.2 ⟨hp, hg⟩; have hg0 := hg; (try simp at hg); first | exact op_moveE (Ev.sub rfl (SubL.iteT (by first | assumption | (simp; done) | (simp; omega) | (simp_all; done)) SubL.rfl')) | exact op_moveE (Ev.rfl' rfl))) ?_)
  (first | refine JL_i0 rfl rfl rfl (fun hg => (by have hg0 := hg; (try simp at hg); exact op_geq evG evG)) ?_ | refine JL_i rfl rfl rfl (fun hp hg => (by have hpg := Bool.and_eq_true_iff.2 ⟨hp, hg⟩; have hg0 := hg; (try simp at hg); exact op_geq evG evG)) ?_)
  refine JL_1 rfl (op_or (Ev.rfl' rfl) rfl (fun h => by first | exact SubL.rfl' | exact SubL.iteT (by first | (rw [h]; rfl) | (simp_all; done)) SubL.rfl')) ?_
  refine JL_nil ?_
  refine JQ_then ?_
  refine JC_cond (Ev.rfl' rfl) (fun h1 => ?_) (fun h1 => ?_)
  · have g : cl < 0 ∨ cl ≥ 6 ∨ sq < 1 ∨ sq ≥ 1073741824 := by simp at h1; omega
    rw [if_pos g, if_pos g]
    refine JC_seq ?_
    refine JC_region ?_
    refine JL_1 rfl (op_buildN (qs := []) rfl rfl rfl rfl trivial (by rfl) nrmT) ?_
    refine JL_s0 (op_storeN (Ev.rfl' rfl) (Ev.rfl' rfl) cellsT replT nrmT (by rfl) (by rfl) (by rfl)) ?_
    refine JL_1 rfl (op_assign rfl) ?_
    refine JL_nil ?_
    refine JQ_then (JC_ret (JQ_then_ret ?_))
    exact JQ_ret (Bs := [IsTx ⟨0, 0, [], [], []⟩, Is (.int .i64 1)]) Try.results49 ⟨⟨_, _, _, _, rfl, memT, rfl, .inr ⟨rfl, _, rfl, rfl, subT⟩⟩, ⟨⟨_, rfl, subT⟩, trivial⟩⟩ () SubL.rfl' (List.nil_sublist _)
  have g : ¬ (cl < 0 ∨ cl ≥ 6 ∨ sq < 1 ∨ sq ≥ 1073741824) := by simp at h1; omega
  rw [if_neg g, if_neg g]
  refine JC_skip (JQ_then (JC_seq ?_))
  refine JC_region ?_
  refine JL_1 rfl (op_move rfl) ?_
  refine JL_1 rfl (op_move rfl) ?_
  refine JL_1 rfl (op_buildN (qs := [(0, _), (1, _)]) rfl rfl rfl rfl ⟨⟨rfl, _, (Ev.rfl' rfl), cellsT⟩, ⟨⟨rfl, _, (Ev.rfl' rfl), cellsT⟩, trivial⟩⟩ (by rfl) nrmT) ?_
  refine JL_s0 (op_storeN (Ev.rfl' rfl) (Ev.rfl' rfl) cellsT replT nrmT (by rfl) (by rfl) (by rfl)) ?_
  refine JL_1 rfl (op_assign rfl) ?_
  refine JL_nil ?_
  refine JQ_then (JC_ret ?_)
  exact JQ_ret (Bs := [IsTx ⟨cl, sq, [], [], []⟩, Is (.int .i64 0)]) Try.results49 ⟨⟨_, _, _, _, rfl, memT, rfl, .inr ⟨rfl, _, rfl, rfl, subT⟩⟩, ⟨⟨_, rfl, subT⟩, trivial⟩⟩ () SubL.rfl' (List.nil_sublist _)
-- txn.copied: function 99
theorem copied_ok (x : Tx) (h1 : x.base.length ≤ 1000000) (h2 : x.chk.length ≤ 1000000) (h3 : x.wr.length ≤ 1000000) : FnP Try.prog 99 [IsTx x] (IsTx x) := by
  refine FnP.enter Try.func99 Try.ntmps99 rfl rfl ?_
  intro c hX
  refine JC_seq ?_
  refine JC_region ?_
  (refine JL_n rfl (op_box (Ev.rfl' rfl) cellsT) ?_; intro i1)
  (refine JL_n rfl (op_allocN rfl nrmT rfl) ?_; intro i2)
  refine JL_nil ?_
  refine JQ_then (JC_seq ?_)
  refine JC_dr rfl (by kernel_rfl) ?_
  refine JD_phase [1, 1, 1, 1, 1, 1, 1, 1, 1, 1, 2, 1, 2, 1, 2] (by kernel_rfl) (by kernel_rfl) ?_
  refine PW_1 (by first | exact op_fieldPtr (k := 2) (Ev.rfl' rfl) rfl rfl rfl rfl | exact op_fieldRefN (k := 2) (Ev.rfl' rfl) rfl rfl rfl rfl nrmT) ?_
  refine PW_1 (by first | exact op_loadRef (Ev.rfl' rfl) rfl rfl rfl | exact op_loadPtr (Ev.rfl' rfl) memT (by rfl) (by rfl) (by rfl)) ?_
  refine PW_1 (by first | ((refine op_call Try.call97 (ClonePg_ok _ ?_) ⟨evS, trivial⟩); all_goals (first | assumption))) ?_
  refine PW_1 (by first | exact op_fieldPtr (k := 3) (Ev.rfl' rfl) rfl rfl rfl rfl | exact op_fieldRefN (k := 3) (Ev.rfl' rfl) rfl rfl rfl rfl nrmT) ?_
  refine PW_1 (by first | exact op_loadRef (Ev.rfl' rfl) rfl rfl rfl | exact op_loadPtr (Ev.rfl' rfl) memT (by rfl) (by rfl) (by rfl)) ?_
  refine PW_1 (by first | ((refine op_call Try.call119 (CloneI_ok _ ?_) ⟨evS, trivial⟩); all_goals (first | assumption))) ?_
  refine PW_1 (by first | exact op_fieldPtr (k := 4) (Ev.rfl' rfl) rfl rfl rfl rfl | exact op_fieldRefN (k := 4) (Ev.rfl' rfl) rfl rfl rfl rfl nrmT) ?_
  refine PW_1 (by first | exact op_loadRef (Ev.rfl' rfl) rfl rfl rfl | exact op_loadPtr (Ev.rfl' rfl) memT (by rfl) (by rfl) (by rfl)) ?_
  refine PW_1 (by first | ((refine op_call Try.call97 (ClonePg_ok _ ?_) ⟨evS, trivial⟩); all_goals (first | assumption))) ?_
  refine PW_1 (by first | exact op_fieldPtr (k := 2) (Ev.rfl' rfl) rfl rfl rfl rfl | exact op_fieldRefN (k := 2) (Ev.rfl' rfl) rfl rfl rfl rfl nrmT) ?_
  refine PW_2 (op_storeN (Ev.rfl' rfl) (Ev.rfl' rfl) cellsT replT nrmT (by rfl) (by rfl) (by rfl)) ?_
  refine PW_1 (by first | exact op_fieldPtr (k := 3) (Ev.rfl' rfl) rfl rfl rfl rfl | exact op_fieldRefN (k := 3) (Ev.rfl' rfl) rfl rfl rfl rfl nrmT) ?_
  refine PW_2 (op_storeN (Ev.rfl' rfl) (Ev.rfl' rfl) cellsT replT nrmT (by rfl) (by rfl) (by rfl)) ?_
  refine PW_1 (by first | exact op_fieldPtr (k := 4) (Ev.rfl' rfl) rfl rfl rfl rfl | exact op_fieldRefN (k := 4) (Ev.rfl' rfl) rfl rfl rfl rfl nrmT) ?_
  refine PW_2 (op_storeN (Ev.rfl' rfl) (Ev.rfl' rfl) cellsT replT nrmT (by rfl) (by rfl) (by rfl)) ?_
  refine PW_end ?_
  refine JD_end ?_
  refine JQ_then (JC_seq ?_)
  refine JC_region ?_
  refine JL_1 rfl (by first | exact op_loadRefsN (n := 5) (Ev.rfl' rfl) rfl rfl rfl (by rfl) nrmT | exact op_loadPtrsN (n := 5) (Ev.rfl' rfl) memT (by rfl) (by rfl) (by rfl) (by rfl) nrmT) ?_
  refine JL_s0 (op_storeN (Ev.rfl' rfl) (Ev.rfl' rfl) cellsT replT nrmT (by rfl) (by rfl) (by rfl)) ?_
  refine JL_nil ?_
  refine JQ_then (JC_ret ?_)
  exact JQ_ret (Bs := [IsTx x]) Try.results99 ⟨⟨_, _, _, _, rfl, memT, rfl, .inr ⟨rfl, _, rfl, rfl, subT⟩⟩, trivial⟩ () SubL.rfl' (List.nil_sublist _)
-- txn.Load: function 52
theorem TxLoad_ok (x : Tx) (ps : List Pg) (h1 : x.base.length ≤ 100000) (h2 : x.chk.length ≤ 100000) (h3 : x.wr.length ≤ 100000) (h4 : ps.length ≤ 100000) : FnP Try.prog 52 [IsTx x, IsSl tPg ps] (IsTx { x with base := mergeV x.base ps }) := by
  refine FnP.enter Try.func52 Try.ntmps52 rfl rfl ?_
  intro c hX
  refine JC_seq ?_
  refine JC_region ?_
  (refine JL_n rfl (op_box (Ev.rfl' rfl) cellsT) ?_; intro i2)
  (refine JL_n rfl (op_allocN rfl nrmT rfl) ?_; intro i4)
  refine JL_nil ?_
  refine JQ_then (JC_seq ?_)
  refine JC_region ?_
  refine JL_1 rfl (by first | exact op_loadRefsN (n := 5) (Ev.rfl' rfl) rfl rfl rfl (by rfl) nrmT | exact op_loadPtrsN (n := 5) (Ev.rfl' rfl) memT (by rfl) (by rfl) (by rfl) (by rfl) nrmT) ?_
  refine JL_1 rfl (by first | ((refine op_call Try.call99 (copied_ok x ?_ ?_ ?_) ⟨evS, trivial⟩); all_goals (first | omega))) ?_
  refine JL_s0 (op_storeN (Ev.rfl' rfl) (Ev.rfl' rfl) cellsT replT nrmT (by rfl) (by rfl) (by rfl)) ?_
  refine JL_nil ?_
  refine JQ_then (JC_seq ?_)
  refine JC_region ?_
  refine JL_1 rfl (by first | exact op_fieldPtr (k := 2) (Ev.rfl' rfl) rfl rfl rfl rfl | exact op_fieldRefN (k := 2) (Ev.rfl' rfl) rfl rfl rfl rfl nrmT) ?_
  refine JL_1 rfl (by first | exact op_loadRef (Ev.rfl' rfl) rfl rfl rfl | exact op_loadPtr (Ev.rfl' rfl) memT (by rfl) (by rfl) (by rfl)) ?_
  refine JL_1 rfl (op_move rfl) ?_
  refine JL_1 rfl (by first | ((refine op_call Try.call34 (Merge_ok _ _ ?_) ⟨evS, ⟨evS, trivial⟩⟩); all_goals (first | omega))) ?_
  refine JL_1 rfl (by first | exact op_fieldPtr (k := 2) (Ev.rfl' rfl) rfl rfl rfl rfl | exact op_fieldRefN (k := 2) (Ev.rfl' rfl) rfl rfl rfl rfl nrmT) ?_
  refine JL_s0 (op_storeN (Ev.rfl' rfl) (Ev.rfl' rfl) cellsT replT nrmT (by rfl) (by rfl) (by rfl)) ?_
  refine JL_nil ?_
  refine JQ_then (JC_seq ?_)
  refine JC_region ?_
  refine JL_1 rfl (by first | exact op_loadRefsN (n := 5) (Ev.rfl' rfl) rfl rfl rfl (by rfl) nrmT | exact op_loadPtrsN (n := 5) (Ev.rfl' rfl) memT (by rfl) (by rfl) (by rfl) (by rfl) nrmT) ?_
  refine JL_s0 (op_storeN (Ev.rfl' rfl) (Ev.rfl' rfl) cellsT replT nrmT (by rfl) (by rfl) (by rfl)) ?_
  refine JL_nil ?_
  refine JQ_then (JC_ret ?_)
  exact JQ_ret (Bs := [IsTx { x with base := mergeV x.base ps }]) Try.results52 ⟨⟨_, _, _, _, rfl, memT, rfl, .inr ⟨rfl, _, rfl, rfl, subT⟩⟩, trivial⟩ () SubL.rfl' (List.nil_sublist _)
-- txn.isWritten: function 96
theorem isWritten_ok (x : Tx) (l : Int) : FnP Try.prog 96 [IsTx x, Is (.int .i64 l)] (Is (.bool (latB x.wr l))) := by
  refine FnP.enter Try.func96 Try.ntmps96 rfl rfl ?_
  intro c hX
  refine JC_seq ?_
  refine JC_region ?_
  (refine JL_n rfl (op_box (Ev.rfl' rfl) cellsT) ?_; intro i2)
  refine JL_1 rfl (op_assign rfl) ?_
  refine JL_nil ?_
  refine JQ_then (JC_seq ?_)
  refine JC_region ?_
  refine JL_1 rfl (by first | exact op_fieldPtr (k := 4) (Ev.rfl' rfl) rfl rfl rfl rfl | exact op_fieldRefN (k := 4) (Ev.rfl' rfl) rfl rfl rfl rfl nrmT) ?_
  refine JL_1 rfl (by first | exact op_loadRef (Ev.rfl' rfl) rfl rfl rfl | exact op_loadPtr (Ev.rfl' rfl) memT (by rfl) (by rfl) (by rfl)) ?_
  refine JL_1 rfl (op_move rfl) ?_
  refine JL_1 rfl (op_call Try.call86 (LatestV_ok _ _) ⟨evS, ⟨evS, trivial⟩⟩) ?_
  refine JL_1 rfl (op_move rfl) ?_
  refine JL_1 rfl (op_extract (Ev.rfl' rfl) rfl) ?_
  refine JL_1 rfl (op_extract (Ev.rfl' rfl) rfl) ?_
  (refine JL_n rfl (op_allocN rfl nrmT rfl) ?_; intro i5)
  refine JL_s0 (op_storeN (Ev.rfl' rfl) (Ev.rfl' rfl) cellsT replT nrmT (by rfl) (by rfl) (by rfl)) ?_
  refine JL_1 rfl (op_assign rfl) ?_
  refine JL_nil ?_
  refine JQ_then (JC_seq ?_)
  refine JC_region ?_
  refine JL_1 rfl (op_move rfl) ?_
  refine JL_1 rfl (op_assign rfl) ?_
  refine JL_nil ?_
  refine JQ_then (JC_ret ?_)
  refine JQ_ret1 Try.results96 rfl () (SubL.eq ?_) (List.nil_sublist _)
  rfl
end Go.Proofs.Ytpfojangcgffkaa

/- Contracts: the sets of a transaction, by the program and by the model. Own work. -/
namespace Go.Proofs.Ytpfojangcgffkaa
open Go.RowKit
set_option linter.unusedVariables false
set_option linter.unusedSimpArgs false
set_option maxRecDepth 100000
-- slices.Clone[[]int,int]: function 119
theorem CloneIN_ok (xs : List Int) (hl : xs.length ≤ 1000000) : Fn Try.prog 119 [IsSl tI64 xs] [] (fun i : Option Addr × Nat => Is (slV xs.length i)) (fun i => [buf (slV xs.length i) 3 tI64 xs]) := by
  refine Fn.enterN Try.func119 Try.ntmps119 rfl rfl ?_
  intro c hX
  refine JC_seq ?_
  refine JC_region ?_
  refine JL_1 rfl (op_assign rfl) ?_
  refine JL_nil ?_
  refine JQ_then (JC_seq (JC_seq ?_))
  refine JC_region ?_
  refine JL_1 rfl (op_move rfl) ?_
  refine JL_1 rfl (op_eqNil (Ev.rfl' rfl) rfl) ?_
  refine JL_nil ?_
  refine JQ_then ?_
  refine JC_ex 4 rfl (fun hb => ?_)
  obtain ⟨b, hb⟩ := hb
  refine JC_cond (Ev.rfl' rfl) (fun h1 => ?_) (fun h1 => ?_)
  · have e := hb h1
    subst e
    refine JC_seq ?_
    refine JC_region ?_
    refine JL_1 rfl (op_assign rfl) ?_
    refine JL_nil ?_
    refine JQ_then (JC_ret (JQ_then_ret ?_))
    refine JQ_buf0 3 tI64 ?_
    exact JQ_retP (Bs := [Is (slV ([] : List Int).length (none, 0))]) Try.results119 ⟨⟨_, rfl, subT⟩, trivial⟩ (none, 0) SubL.rfl' lessT
  refine JC_skip (JQ_then (JC_seq ?_))
  refine JC_region ?_
  (refine JL_n rfl (op_buildSlice0 tI64 rfl rfl) ?_; intro i5)
  refine JL_1 rfl (op_move rfl) ?_
  (refine JL_s rfl (op_app (Ev.rfl' rfl) (fun _ => replT) evS (by exact appT rfl rfl rfl) lenT) ?_; intro i7)
  refine JL_1 rfl (op_assign rfl) ?_
  refine JL_nil ?_
  refine JQ_then (JC_ret ?_)
  rw [List.nil_append]
  exact JQ_retP (Bs := [Is (slV xs.length i7)]) Try.results119 ⟨⟨_, rfl, subT⟩, trivial⟩ i7 SubL.rfl' lessT
theorem map_takeL {ws : List Pg} {k : Nat} {p : Pg} (h : ws[k]? = some p) : (ws.take (k + 1)).map Pg.l = (ws.take k).map Pg.l ++ [p.l] := by
  rw [List.take_add_one, h]; simp
def conL (x : Tx) : List Int := x.chk ++ x.wr.map Pg.l
-- txn.concerned: function 95
theorem concerned_ok (x : Tx) (hb2 : x.chk.length ≤ 100000) (hb3 : x.wr.length ≤ 100000) : FnP Try.prog 95 [IsTx x] (IsSl tI64 (conL x)) := by
  refine FnP.enter Try.func95 Try.ntmps95 rfl rfl ?_
  intro c hX
  refine JC_seq ?_
  refine JC_region ?_
  (refine JL_n rfl (op_box (Ev.rfl' rfl) cellsT) ?_; intro i1)
  refine JL_1 rfl (op_assign rfl) ?_
  refine JL_nil ?_
  refine JQ_then (JC_seq ?_)
  refine JC_region ?_
  refine JL_1 rfl (by first | exact op_fieldPtr (k := 3) (Ev.rfl' rfl) rfl rfl rfl rfl | exact op_fieldRefN (k := 3) (Ev.rfl' rfl) rfl rfl rfl rfl nrmT) ?_
  refine JL_1 rfl (by first | exact op_loadRef (Ev.rfl' rfl) rfl rfl rfl | exact op_loadPtr (Ev.rfl' rfl) memT (by rfl) (by rfl) (by rfl)) ?_
  (refine JL_s rfl (by first | ((refine op_callN Try.call119 (CloneIN_ok x.chk ?_) ⟨evS, trivial⟩); all_goals (first | omega))) ?_; intro i8)
  refine JL_1 rfl (op_assign rfl) ?_
  refine JL_nil ?_
  refine JQ_then (JC_seq (JC_seq ?_))
  refine JC_region ?_
  refine JL_1 rfl (by first | exact op_fieldPtr (k := 4) (Ev.rfl' rfl) rfl rfl rfl rfl | exact op_fieldRefN (k := 4) (Ev.rfl' rfl) rfl rfl rfl rfl nrmT) ?_
  refine JL_1 rfl (by first | exact op_loadRef (Ev.rfl' rfl) rfl rfl rfl | exact op_loadPtr (Ev.rfl' rfl) memT (by rfl) (by rfl) (by rfl)) ?_
  refine JL_1 rfl (by first | exact op_len (Ev.rfl' rfl) rfl | exact op_lenLit (Ev.rfl' rfl) rfl) ?_
  refine JL_1 rfl (op_move rfl) ?_
  refine JL_nil ?_
  refine JQ_then (JC_block ?_)
  refine JC_loopP (fun z : Nat × (Option Addr × Nat) => z.1 ≤ x.wr.length) (fun z => [(3, Is (slV (x.chk ++ (x.wr.take z.1).map Pg.l).length z.2)), (10, IsSl tPg x.wr), (11, Is (.int .i64 (x.wr.length : Nat))), (12, Is (.int .i64 (z.1 : Nat)))]) (fun z => [buf (slV (x.chk ++ (x.wr.take z.1).map Pg.l).length z.2) 3 tI64 (x.chk ++ (x.wr.take z.1).map Pg.l)]) (fun z => x.wr.length - z.1) (0, i8) (Nat.zero_le _) ⟨⟨_, rfl, SubL.eq (by simp)⟩, ⟨_, rfl, SubL.rfl'⟩, ⟨_, rfl, SubL.rfl'⟩, ⟨_, rfl, SubL.rfl'⟩, trivial⟩ (by simp only [List.take_zero, List.map_nil, List.append_nil]; exact lessT) ?_
  rintro ⟨k, s⟩ hk
  dsimp only at hk ⊢
  have hml : (x.chk ++ (x.wr.take k).map Pg.l).length ≤ 300000 := by simp; omega
  refine JC_seq ?_
  refine JC_region ?_
  refine JL_1 rfl (op_lss (Ev.rfl' rfl) (Ev.rfl' rfl)) ?_
  refine JL_nil ?_
  refine JQ_then (JC_seq ?_)
  refine JC_cond (Ev.rfl' rfl) (fun h3 => ?_) (fun h3 => ?_)
  · have hlt : k < x.wr.length := by have := of_decide_eq_true h3; omega
    obtain ⟨p, hz⟩ : ∃ z, x.wr[k]? = some z := ⟨x.wr[k], List.getElem?_eq_getElem hlt⟩
    have hmt := map_takeL hz
    refine JC_skip (JQ_then (JC_seq (JC_block (JC_seq ?_))))
    refine JC_region ?_
    refine JL_1 rfl (by first | exact op_index (j := _) (Ev.rfl' rfl) (Ev.rfl' rfl) rfl rfl (by first | rfl | omega) hz | exact op_index (j := _) (Ev.rfl' rfl) (Ev.rfl' rfl) rfl rfl (by first | rfl | omega) (by assumption)) ?_
    refine JL_1 rfl (by first | exact op_loadRefsN (n := 9) (Ev.rfl' rfl) rfl rfl rfl (by rfl) nrmT | exact op_loadPtrsN (n := 9) (Ev.rfl' rfl) memT (by rfl) (by rfl) (by rfl) (by rfl) nrmT) ?_
    (refine JL_n rfl (op_allocN rfl nrmT rfl) ?_; intro i5)
    refine JL_s0 (op_storeN (Ev.rfl' rfl) (Ev.rfl' rfl) cellsT replT nrmT (by rfl) (by rfl) (by rfl)) ?_
    refine JL_nil ?_
    refine JQ_then ?_
    refine JC_region ?_
    refine JL_1 rfl (op_move rfl) ?_
    refine JL_1 rfl (by first | exact op_fieldPtr (k := 0) (Ev.rfl' rfl) rfl rfl rfl rfl | exact op_fieldRefN (k := 0) (Ev.rfl' rfl) rfl rfl rfl rfl nrmT) ?_
    refine JL_1 rfl (by first | exact op_loadRef (Ev.rfl' rfl) rfl rfl rfl | exact op_loadPtr (Ev.rfl' rfl) memT (by rfl) (by rfl) (by rfl)) ?_
    refine JL_1 rfl (op_buildSlice (size := 1) (qs := [(0, _)]) rfl rfl rfl ⟨⟨rfl, _, (Ev.rfl' rfl), cellsT⟩, trivial⟩ (by rfl) (by rfl)) ?_
    (refine JL_s rfl (op_app (Ev.rfl' rfl) (fun _ => replT) (by first | exact Ev.rfl' rfl | exact Ev.sub rfl (by first | exact SubL.row (xs := [p.l]) (by rfl) (by rfl) subsT | exact subT)) (by exact appT rfl rfl rfl) lenT) ?_; intro i20)
    refine JL_1 rfl (op_assign rfl) ?_
    refine JL_nil ?_
    refine JQ_block (JQ_then ?_)
    refine JC_region ?_
    refine JL_1 rfl (op_add (Ev.rfl' rfl) (Ev.rfl' rfl) wrapT) ?_
    refine JL_1 rfl (op_move rfl) ?_
    refine JL_nil ?_
    rw [List.append_assoc, ← hmt]
    exact JQ_roundP (k + 1, i20) (by dsimp only; omega) (by dsimp only; omega) esubT lessT
  have hke : k = x.wr.length := by have := of_decide_eq_false h3; omega
  subst hke
  rw [List.take_length]
  refine JC_exit (JQ_then_exit (JQ_then_exit (JQ_hit (JQ_then (JC_seq ?_)))))
  refine JC_region ?_
  refine JL_1 rfl (op_move rfl) ?_
  refine JL_1 rfl (op_assign rfl) ?_
  refine JL_nil ?_
  refine JQ_then (JC_ret ?_)
  refine JQ_freeze hX replT ?_
  exact JQ_ret (Bs := [IsSl tI64 (conL x)]) Try.results95 ⟨⟨_, rfl, subT⟩, trivial⟩ () SubL.rfl' (List.nil_sublist _)
/-! ### The sets, by the program -/
def lkB (x : Tx) (l : Int) : Bool := lockB (latP x.base l)
def rdL (x : Tx) (ls : List Int) : List Sn := (ls.filter fun l => !latB x.wr l).map fun l => ⟨l, (latP x.base l).h⟩
theorem rd_take {x : Tx} {ls : List Int} {k : Nat} {l : Int} (h : ls[k]? = some l) : rdL x (ls.take (k + 1)) = if latB x.wr l = true then rdL x (ls.take k) else rdL x (ls.take k) ++ [⟨l, (latP x.base l).h⟩] := by
  unfold rdL
  rw [List.take_add_one, h, List.filter_append, List.map_append]
  by_cases g : latB x.wr l = true
  · rw [if_pos g]; simp [g]
  · rw [if_neg g]; simp [g]
theorem rd_len (x : Tx) (ls : List Int) : (rdL x ls).length ≤ ls.length := by
  unfold rdL
  rw [List.length_map]
  exact List.length_filter_le _ _
theorem any_take {f : Int → Bool} {ls : List Int} {k : Nat} {l : Int} (h : ls[k]? = some l) : (ls.take (k + 1)).any f = ((ls.take k).any f || f l) := by
  rw [List.take_add_one, h, List.any_append]; simp
def setsV (x : Tx) (ls cs : List Int) : List Sn × List Pg × Int :=
  if ls.any (fun l => !latB x.base l) = true then ([], [], 16)
  else if ls.any (lkB x) = true then ([], [], 3)
  else if 24 < (rdL x cs).length ∨ 12 < x.wr.length then ([], [], 18)
  else (rdL x cs, x.wr, 0)
@[reducible] def IsSets (r : List Sn × List Pg × Int) : VP := IsTup [IsSl tSn r.1, IsSl tPg r.2.1, Is (.int .i64 r.2.2)]
-- txn.Sets: function 45
set_option maxHeartbeats 1000000 in
theorem Sets_ok (x : Tx) (hb2 : x.chk.length ≤ 100000) (hb3 : x.wr.length ≤ 100000) : FnP Try.prog 45 [IsTx x] (IsSets (setsV x (conL x) x.chk)) := by
  have hcl : (conL x).length ≤ 200000 := by unfold conL; simp; omega
  refine FnP.enter Try.func45 Try.ntmps45 rfl rfl ?_
  intro c hX
  refine JC_seq ?_
  refine JC_region ?_
  (refine JL_n rfl (op_box (Ev.rfl' rfl) cellsT) ?_; intro i1)
  refine JL_1 rfl (op_assign rfl) ?_
  refine JL_1 rfl (op_assign rfl) ?_
  refine JL_1 rfl (op_assign rfl) ?_
  refine JL_nil ?_
  refine JQ_then (JC_seq ?_)
  refine JC_region ?_
  refine JL_1 rfl (op_assign rfl) ?_
  refine JL_nil ?_
  refine JQ_then (JC_seq (JC_seq ?_))
  refine JC_region ?_
  refine JL_1 rfl (by first | exact op_loadRefsN (n := 5) (Ev.rfl' rfl) rfl rfl rfl (by rfl) nrmT | exact op_loadPtrsN (n := 5) (Ev.rfl' rfl) memT (by rfl) (by rfl) (by rfl) (by rfl) nrmT) ?_
  refine JL_1 rfl (by first | ((refine op_call Try.call95 (concerned_ok x ?_ ?_) ⟨evS, trivial⟩); all_goals (first | omega))) ?_
  refine JL_1 rfl (by first | exact op_len (Ev.rfl' rfl) rfl | exact op_lenLit (Ev.rfl' rfl) rfl) ?_
  refine JL_1 rfl (op_move rfl) ?_
  refine JL_nil ?_
  refine JQ_then (JC_block ?_)
  refine JC_loopP (fun k : Nat => k ≤ (conL x).length ∧ ((conL x).take k).any (fun l => !latB x.base l) = false) (fun k => [(1, Is (.pointer (some ⟨i1, 0, none⟩))), (2, Is (.slice none 0 0)), (3, Is (.slice none 0 0)), (4, Is (.int .i64 0)), (5, Is (.bool (((conL x).take k).any (lkB x)))), (15, IsSl tI64 (conL x)), (16, Is (.int .i64 ((conL x).length : Nat))), (17, Is (.int .i64 (k : Nat)))]) (fun k => [blk i1 105 (txC x)]) (fun k => (conL x).length - k) 0 ⟨Nat.zero_le _, rfl⟩ esubT lessT ?_
  rintro k ⟨hk, hs⟩
  refine JC_seq ?_
  refine JC_region ?_
  refine JL_1 rfl (op_lss (Ev.rfl' rfl) (Ev.rfl' rfl)) ?_
  refine JL_nil ?_
  refine JQ_then (JC_seq ?_)
  refine JC_cond (Ev.rfl' rfl) (fun h3 => ?_) (fun h3 => ?_)
  · have hlt : k < (conL x).length := by have := of_decide_eq_true h3; omega
    clear h3
    obtain ⟨l, hz⟩ : ∃ z, (conL x)[k]? = some z := ⟨(conL x)[k], List.getElem?_eq_getElem hlt⟩
    have a1 := any_take (f := fun l => !latB x.base l) hz
    have a2 := any_take (f := lkB x) hz
    refine JC_skip (JQ_then (JC_seq (JC_block (JC_seq ?_))))
    refine JC_region ?_
    refine JL_1 rfl (by first | exact op_index (j := _) (Ev.rfl' rfl) (Ev.rfl' rfl) rfl rfl (by first | rfl | omega) hz | exact op_index (j := _) (Ev.rfl' rfl) (Ev.rfl' rfl) rfl rfl (by first | rfl | omega) (by assumption)) ?_
    refine JL_1 rfl (by first | exact op_loadRef (Ev.rfl' rfl) rfl rfl rfl | exact op_loadPtr (Ev.rfl' rfl) memT (by rfl) (by rfl) (by rfl)) ?_
    refine JL_1 rfl (op_assign rfl) ?_
    refine JL_nil ?_
    refine JQ_then (JC_seq ?_)
    refine JC_region ?_
    refine JL_1 rfl (by first | exact op_fieldPtr (k := 2) (Ev.rfl' rfl) rfl rfl rfl rfl | exact op_fieldRefN (k := 2) (Ev.rfl' rfl) rfl rfl rfl rfl nrmT) ?_
    refine JL_1 rfl (by first | exact op_loadRef (Ev.rfl' rfl) rfl rfl rfl | exact op_loadPtr (Ev.rfl' rfl) memT (by rfl) (by rfl) (by rfl)) ?_
    refine JL_1 rfl (op_move rfl) ?_
    refine JL_1 rfl (op_call Try.call86 (LatestV_ok _ _) ⟨evS, ⟨evS, trivial⟩⟩) ?_
    refine JL_1 rfl (op_move rfl) ?_
    refine JL_1 rfl (op_extract (Ev.rfl' rfl) rfl) ?_
    refine JL_1 rfl (op_extract (Ev.rfl' rfl) rfl) ?_
    (refine JL_n rfl (op_allocN rfl nrmT rfl) ?_; intro i8)
    refine JL_s0 (op_storeN (Ev.rfl' rfl) (Ev.rfl' rfl) cellsT replT nrmT (by rfl) (by rfl) (by rfl)) ?_
    refine JL_1 rfl (op_assign rfl) ?_
    refine JL_nil ?_
    refine JQ_then (JC_seq (JC_seq ?_))
    refine JC_region ?_
    refine JL_1 rfl (op_move rfl) ?_
    refine JL_1 rfl (op_not (Ev.rfl' rfl)) ?_
    refine JL_nil ?_
    refine JQ_then ?_
    refine JC_cond (Ev.rfl' rfl) (fun h6 => ?_) (fun h6 => ?_)
    · have e : setsV x (conL x) x.chk = ([], [], 16) := by
        unfold setsV
        rw [if_pos (List.any_eq_true.2 ⟨l, List.mem_of_getElem? hz, h6⟩)]
      rw [e]
      refine JC_seq ?_
      refine JC_region ?_
      refine JL_1 rfl (op_assign rfl) ?_
      refine JL_1 rfl (op_assign rfl) ?_
      refine JL_1 rfl (op_assign rfl) ?_
      refine JL_nil ?_
      refine JQ_then (JC_ret (JQ_then_ret (JQ_block_ret (JQ_then_ret (JQ_then_ret (JQ_block_ret (JQ_then_ret ?_)))))))
      exact JQ_ret (Bs := [IsSl tSn [], IsSl tPg [], Is (.int .i64 16)]) Try.results45 ⟨⟨_, rfl, subT⟩, ⟨⟨_, rfl, subT⟩, ⟨⟨_, rfl, subT⟩, trivial⟩⟩⟩ () SubL.rfl' (List.nil_sublist _)
    rw [hs, h6] at a1
    clear h6
    refine JC_skip (JQ_then ?_)
    refine JC_region ?_
    refine JL_1 rfl (op_move rfl) ?_
    refine JL_1 rfl (op_move rfl) ?_
    (first | refine JL_i0 rfl rfl rfl (fun hg => (by have hg0 := hg; (try simp at hg); first | exact op_loadRefsN (n := 9) evG rfl rfl rfl (by rfl) nrmT | exact op_loadPtrsN (n := 9) evG memT (by rfl) (by rfl) (by rfl) (by rfl) nrmT)) ?_ | refine JL_i rfl rfl rfl (fun hp hg => (by have hpg := Bool.and_eq_true_iff.2 ⟨hp, hg⟩; have hg0 := hg; (try simp at hg); first | exact op_loadRefsN (n := 9) evG rfl rfl rfl (by rfl) nrmT | exact op_loadPtrsN (n := 9) evG memT (by rfl) (by rfl) (by rfl) (by rfl) nrmT)) ?_)
    (first | refine JL_i0 rfl rfl rfl (fun hg => (by have hg0 := hg; (try simp at hg); exact op_call Try.call88 (Locked_ok _) ⟨evS, trivial⟩)) ?_ | refine JL_i rfl rfl rfl (fun hp hg => (by have hpg := Bool.and_eq_true_iff.2 ⟨hp, hg⟩; have hg0 := hg; (try simp at hg); exact op_call Try.call88 (Locked_ok _) ⟨evS, trivial⟩)) ?_)
    refine JL_1 rfl (op_or (Ev.rfl' rfl) rfl (fun h => by first | exact SubL.rfl' | exact SubL.iteT (by first | (rw [h]; rfl) | (simp_all; done)) SubL.rfl')) ?_
    refine JL_1 rfl (op_assign rfl) ?_
    refine JL_nil ?_
    refine JQ_block (JQ_then ?_)
    refine JC_region ?_
    refine JL_1 rfl (op_add (Ev.rfl' rfl) (Ev.rfl' rfl) wrapT) ?_
    refine JL_1 rfl (op_move rfl) ?_
    refine JL_nil ?_
    exact JQ_roundP (k + 1) ⟨by omega, a1⟩ (by omega) ⟨⟨_, rfl, SubL.rfl'⟩, ⟨_, rfl, SubL.rfl'⟩, ⟨_, rfl, SubL.rfl'⟩, ⟨_, rfl, SubL.rfl'⟩, ⟨_, rfl, SubL.eq (by rw [a2]; rfl)⟩, ⟨_, rfl, SubL.rfl'⟩, ⟨_, rfl, SubL.rfl'⟩, ⟨_, rfl, SubL.rfl'⟩, trivial⟩ lessT
  have hke : k = (conL x).length := by have := of_decide_eq_false h3; omega
  subst hke
  clear h3
  rw [List.take_length] at hs ⊢
  have hs' : ¬ (conL x).any (fun l => !latB x.base l) = true := by rw [hs]; simp
  refine JC_exit (JQ_then_exit (JQ_then_exit (JQ_hit (JQ_then (JC_seq (JC_seq ?_))))))
  refine JC_region ?_
  refine JL_1 rfl (op_move rfl) ?_
  refine JL_nil ?_
  refine JQ_then ?_
  refine JC_cond (Ev.rfl' rfl) (fun h10 => ?_) (fun h10 => ?_)
  · have e : setsV x (conL x) x.chk = ([], [], 3) := by unfold setsV; rw [if_neg hs', if_pos h10]
    rw [e]
    refine JC_seq ?_
    refine JC_region ?_
    refine JL_1 rfl (op_assign rfl) ?_
    refine JL_1 rfl (op_assign rfl) ?_
    refine JL_1 rfl (op_assign rfl) ?_
    refine JL_nil ?_
    refine JQ_then (JC_ret (JQ_then_ret ?_))
    exact JQ_ret (Bs := [IsSl tSn [], IsSl tPg [], Is (.int .i64 3)]) Try.results45 ⟨⟨_, rfl, subT⟩, ⟨⟨_, rfl, subT⟩, ⟨⟨_, rfl, subT⟩, trivial⟩⟩⟩ () SubL.rfl' (List.nil_sublist _)
  have hl' : ¬ (conL x).any (lkB x) = true := by rw [h10]; simp
  clear h10
  refine JC_skip (JQ_then (JC_seq (JC_seq ?_)))
  refine JC_region ?_
  refine JL_1 rfl (by first | exact op_fieldPtr (k := 3) (Ev.rfl' rfl) rfl rfl rfl rfl | exact op_fieldRefN (k := 3) (Ev.rfl' rfl) rfl rfl rfl rfl nrmT) ?_
  refine JL_1 rfl (by first | exact op_loadRef (Ev.rfl' rfl) rfl rfl rfl | exact op_loadPtr (Ev.rfl' rfl) memT (by rfl) (by rfl) (by rfl)) ?_
  refine JL_1 rfl (by first | exact op_len (Ev.rfl' rfl) rfl | exact op_lenLit (Ev.rfl' rfl) rfl) ?_
  refine JL_1 rfl (op_move rfl) ?_
  refine JL_nil ?_
  refine JQ_then (JC_block ?_)
  refine JC_buf0 145 tSn ?_
  refine JC_loopP (fun z : Nat × (Option Addr × Nat) => z.1 ≤ x.chk.length) (fun z => [(1, Is (.pointer (some ⟨i1, 0, none⟩))), (2, Is (slV (rdL x (x.chk.take z.1)).length z.2)), (3, Is (.slice none 0 0)), (4, Is (.int .i64 0)), (38, IsSl tI64 x.chk), (39, Is (.int .i64 (x.chk.length : Nat))), (40, Is (.int .i64 (z.1 : Nat)))]) (fun z => [blk i1 105 (txC x), buf (slV (rdL x (x.chk.take z.1)).length z.2) 145 tSn (rdL x (x.chk.take z.1))]) (fun z => x.chk.length - z.1) (0, (none, 0)) (Nat.zero_le _) esubT lessT ?_
  rintro ⟨k, s⟩ hk
  dsimp only at hk ⊢
  have hrl := rd_len x (x.chk.take k)
  rw [List.length_take] at hrl
  refine JC_seq ?_
  refine JC_region ?_
  refine JL_1 rfl (op_lss (Ev.rfl' rfl) (Ev.rfl' rfl)) ?_
  refine JL_nil ?_
  refine JQ_then (JC_seq ?_)
  refine JC_cond (Ev.rfl' rfl) (fun h13 => ?_) (fun h13 => ?_)
  · have hlt : k < x.chk.length := by have := of_decide_eq_true h13; omega
    clear h13
    obtain ⟨l, hz⟩ : ∃ z, x.chk[k]? = some z := ⟨x.chk[k], List.getElem?_eq_getElem hlt⟩
    have hrt := rd_take (x := x) hz
    refine JC_skip (JQ_then (JC_seq (JC_block (JC_seq ?_))))
    refine JC_region ?_
    refine JL_1 rfl (by first | exact op_index (j := _) (Ev.rfl' rfl) (Ev.rfl' rfl) rfl rfl (by first | rfl | omega) hz | exact op_index (j := _) (Ev.rfl' rfl) (Ev.rfl' rfl) rfl rfl (by first | rfl | omega) (by assumption)) ?_
    refine JL_1 rfl (by first | exact op_loadRef (Ev.rfl' rfl) rfl rfl rfl | exact op_loadPtr (Ev.rfl' rfl) memT (by rfl) (by rfl) (by rfl)) ?_
    refine JL_1 rfl (op_assign rfl) ?_
    refine JL_nil ?_
    refine JQ_then (JC_seq ?_)
    refine JC_region ?_
    refine JL_1 rfl (by first | exact op_fieldPtr (k := 2) (Ev.rfl' rfl) rfl rfl rfl rfl | exact op_fieldRefN (k := 2) (Ev.rfl' rfl) rfl rfl rfl rfl nrmT) ?_
    refine JL_1 rfl (by first | exact op_loadRef (Ev.rfl' rfl) rfl rfl rfl | exact op_loadPtr (Ev.rfl' rfl) memT (by rfl) (by rfl) (by rfl)) ?_
    refine JL_1 rfl (op_move rfl) ?_
    refine JL_1 rfl (op_call Try.call86 (LatestV_ok _ _) ⟨evS, ⟨evS, trivial⟩⟩) ?_
    refine JL_1 rfl (op_move rfl) ?_
    refine JL_1 rfl (op_extract (Ev.rfl' rfl) rfl) ?_
    refine JL_1 rfl (op_extract (Ev.rfl' rfl) rfl) ?_
    (refine JL_n rfl (op_allocN rfl nrmT rfl) ?_; intro i12)
    refine JL_s0 (op_storeN (Ev.rfl' rfl) (Ev.rfl' rfl) cellsT replT nrmT (by rfl) (by rfl) (by rfl)) ?_
    refine JL_1 rfl (op_assign rfl) ?_
    refine JL_nil ?_
    refine JQ_then (JC_seq ?_)
    refine JC_region ?_
    refine JL_1 rfl (by first | exact op_loadRefsN (n := 5) (Ev.rfl' rfl) rfl rfl rfl (by rfl) nrmT | exact op_loadPtrsN (n := 5) (Ev.rfl' rfl) memT (by rfl) (by rfl) (by rfl) (by rfl) nrmT) ?_
    refine JL_1 rfl (op_move rfl) ?_
    refine JL_1 rfl (op_call Try.call96 (isWritten_ok x _) ⟨evS, ⟨evS, trivial⟩⟩) ?_
    refine JL_1 rfl (op_not (Ev.rfl' rfl)) ?_
    refine JL_nil ?_
    refine JQ_then ?_
    refine JC_cond (Ev.rfl' rfl) (fun h16 => ?_) (fun h16 => ?_)
    · have g : ¬ latB x.wr l = true := by simpa using h16
      rw [if_neg g] at hrt
      clear h16
      refine JC_region ?_
      refine JL_1 rfl (op_move rfl) ?_
      refine JL_1 rfl (op_move rfl) ?_
      refine JL_1 rfl (by first | exact op_fieldPtr (k := 1) (Ev.rfl' rfl) rfl rfl rfl rfl | exact op_fieldRefN (k := 1) (Ev.rfl' rfl) rfl rfl rfl rfl nrmT) ?_
      refine JL_1 rfl (by first | exact op_loadRef (Ev.rfl' rfl) rfl rfl rfl | exact op_loadPtr (Ev.rfl' rfl) memT (by rfl) (by rfl) (by rfl)) ?_
      refine JL_1 rfl (op_buildN (qs := [(0, _), (1, _)]) rfl rfl rfl rfl ⟨⟨rfl, _, (Ev.rfl' rfl), cellsT⟩, ⟨⟨rfl, _, (Ev.rfl' rfl), cellsT⟩, trivial⟩⟩ (by rfl) nrmT) ?_
      refine JL_1 rfl (op_buildSlice (size := 2) (qs := [(0, _)]) rfl rfl rfl ⟨⟨rfl, _, (Ev.rfl' rfl), cellsT⟩, trivial⟩ (by rfl) (by rfl)) ?_
      (refine JL_s rfl (op_app (Ev.rfl' rfl) (fun _ => replT) (by first | exact Ev.rfl' rfl | exact Ev.sub rfl (by first | exact SubL.row (xs := [⟨l, (latP x.base l).h⟩]) (by rfl) (by rfl) subsT | exact subT)) (by exact appT rfl rfl rfl) lenT) ?_; intro i61)
      refine JL_1 rfl (op_assign rfl) ?_
      refine JL_nil ?_
      refine JQ_block (JQ_then ?_)
      refine JC_region ?_
      refine JL_1 rfl (op_add (Ev.rfl' rfl) (Ev.rfl' rfl) wrapT) ?_
      refine JL_1 rfl (op_move rfl) ?_
      refine JL_nil ?_
      rw [← hrt]
      first | exact JQ_roundP (k + 1, i61) (by dsimp only; omega) (by dsimp only; omega) esubT lessT | exact JQ_roundP (k + 1, s) (by dsimp only; omega) (by dsimp only; omega) esubT lessT
    have g : latB x.wr l = true := by simpa using h16
    rw [if_pos g] at hrt
    clear h16
    refine JC_skip (JQ_block (JQ_then ?_))
    refine JC_region ?_
    refine JL_1 rfl (op_add (Ev.rfl' rfl) (Ev.rfl' rfl) wrapT) ?_
    refine JL_1 rfl (op_move rfl) ?_
    refine JL_nil ?_
    rw [← hrt]
    first | exact JQ_roundP (k + 1, i61) (by dsimp only; omega) (by dsimp only; omega) esubT lessT | exact JQ_roundP (k + 1, s) (by dsimp only; omega) (by dsimp only; omega) esubT lessT
  have hke : k = x.chk.length := by have := of_decide_eq_false h13; omega
  subst hke
  clear h13
  rw [List.take_length] at hrl ⊢
  refine JC_exit (JQ_then_exit (JQ_then_exit (JQ_hit (JQ_then (JC_seq (JC_seq ?_))))))
  refine JC_region ?_
  refine JL_1 rfl (op_move rfl) ?_
  refine JL_1 rfl (by first | exact op_len (Ev.rfl' rfl) rfl | exact op_lenLit (Ev.rfl' rfl) rfl) ?_
  refine JL_1 rfl (op_gtr (Ev.rfl' rfl) (Ev.rfl' rfl)) ?_
  refine JL_1 rfl (op_move rfl) ?_
  (first | refine JL_i0 rfl rfl rfl (fun hg => (by have hg0 := hg; (try simp at hg); first | exact op_fieldPtr (k := 4) evG rfl rfl rfl rfl | exact op_fieldRefN (k := 4) evG rfl rfl rfl rfl nrmT)) ?_ | refine JL_i rfl rfl rfl (fun hp hg => (by have hpg := Bool.and_eq_true_iff.2 ⟨hp, hg⟩; have hg0 := hg; (try simp at hg); first | exact op_fieldPtr (k := 4) evG rfl rfl rfl rfl | exact op_fieldRefN (k := 4) evG rfl rfl rfl rfl nrmT)) ?_)
  (first | refine JL_i0 rfl rfl rfl (fun hg => (by have hg0 := hg; (try simp at hg); first | exact op_loadRef evG rfl rfl rfl | exact op_loadPtr evG memT (by rfl) (by rfl) (by rfl))) ?_ | refine JL_i rfl rfl rfl (fun hp hg => (by have hpg := Bool.and_eq_true_iff.2 ⟨hp, hg⟩; have hg0 := hg; (try simp at hg); first | exact op_loadRef evG rfl rfl rfl | exact op_loadPtr evG memT (by rfl) (by rfl) (by rfl))) ?_)
  (first | refine JL_i0 rfl rfl rfl (fun hg => (by have hg0 := hg; (try simp at hg); first | exact op_len evG rfl | exact op_lenLit evG rfl)) ?_ | refine JL_i rfl rfl rfl (fun hp hg => (by have hpg := Bool.and_eq_true_iff.2 ⟨hp, hg⟩; have hg0 := hg; (try simp at hg); first | exact op_len evG rfl | exact op_lenLit evG rfl)) ?_)
  (first | refine JL_i0 rfl rfl rfl (fun hg => (by have hg0 := hg; (try simp at hg); exact op_gtr evG evG)) ?_ | refine JL_i rfl rfl rfl (fun hp hg => (by have hpg := Bool.and_eq_true_iff.2 ⟨hp, hg⟩; have hg0 := hg; (try simp at hg); exact op_gtr evG evG)) ?_)
  refine JL_1 rfl (op_or (Ev.rfl' rfl) rfl (fun h => by first | exact SubL.rfl' | exact SubL.iteT (by first | (rw [h]; rfl) | (simp_all; done)) SubL.rfl')) ?_
  refine JL_nil ?_
  refine JQ_then ?_
  refine JC_cond (Ev.rfl' rfl) (fun h19 => ?_) (fun h19 => ?_)
  · have g : 24 < (rdL x x.chk).length ∨ 12 < x.wr.length := by simp at h19; omega
    have e : setsV x (conL x) x.chk = ([], [], 18) := by unfold setsV; rw [if_neg hs', if_neg hl', if_pos g]
    rw [e]
    refine JC_seq ?_
    refine JC_region ?_
    refine JL_1 rfl (op_assign rfl) ?_
    refine JL_1 rfl (op_assign rfl) ?_
    refine JL_1 rfl (op_assign rfl) ?_
    refine JL_nil ?_
    refine JQ_then (JC_ret (JQ_then_ret ?_))
    exact JQ_ret (Bs := [IsSl tSn [], IsSl tPg [], Is (.int .i64 18)]) Try.results45 ⟨⟨_, rfl, subT⟩, ⟨⟨_, rfl, subT⟩, ⟨⟨_, rfl, subT⟩, trivial⟩⟩⟩ () SubL.rfl' (List.nil_sublist _)
  have g : ¬ (24 < (rdL x x.chk).length ∨ 12 < x.wr.length) := by simp at h19; omega
  have e : setsV x (conL x) x.chk = (rdL x x.chk, x.wr, 0) := by unfold setsV; rw [if_neg hs', if_neg hl', if_neg g]
  rw [e]
  refine JC_skip (JQ_then (JC_seq ?_))
  refine JC_region ?_
  refine JL_1 rfl (op_move rfl) ?_
  refine JL_1 rfl (by first | exact op_fieldPtr (k := 4) (Ev.rfl' rfl) rfl rfl rfl rfl | exact op_fieldRefN (k := 4) (Ev.rfl' rfl) rfl rfl rfl rfl nrmT) ?_
  refine JL_1 rfl (by first | exact op_loadRef (Ev.rfl' rfl) rfl rfl rfl | exact op_loadPtr (Ev.rfl' rfl) memT (by rfl) (by rfl) (by rfl)) ?_
  refine JL_1 rfl (by first | ((refine op_call Try.call97 (ClonePg_ok _ ?_) ⟨evS, trivial⟩); all_goals (first | omega))) ?_
  refine JL_1 rfl (op_assign rfl) ?_
  refine JL_1 rfl (op_assign rfl) ?_
  refine JL_1 rfl (op_assign rfl) ?_
  refine JL_nil ?_
  refine JQ_then (JC_ret ?_)
  refine JQ_freeze hX replT ?_
  exact JQ_ret (Bs := [IsSl tSn (rdL x x.chk), IsSl tPg x.wr, Is (.int .i64 0)]) Try.results45 ⟨⟨_, rfl, subT⟩, ⟨⟨_, rfl, subT⟩, ⟨⟨_, rfl, subT⟩, trivial⟩⟩⟩ () SubL.rfl' (List.nil_sublist _)
end Go.Proofs.Ytpfojangcgffkaa

/- Contracts: the sets by the model. Own work. -/
namespace Go.Proofs.Ytpfojangcgffkaa
open Go.RowKit
set_option linter.unusedVariables false
set_option linter.unusedSimpArgs false
set_option maxRecDepth 100000
structure Mo where
  base : List Pg
  wr : List Pg
  chk : List Int
@[reducible] def moC (m : Mo) : List VP := [IsSl tPg m.base, IsSl tPg m.wr, IsSl tI64 m.chk]
theorem and255 (h : BitVec 64) : (UV h).tmod 256 = UV (h &&& 255#64) := by
  rw [UV_low 64 8 h (255#64) (by decide), Int.tmod_eq_emod_of_nonneg (UV_nonneg h)]
  rfl
theorem lock_mod (p : Pg) : ((UV p.h).tmod 256 != 0) = lockB p := by
  rw [and255]; rfl
-- bodegalaw28.known: function 98
theorem known_ok (xs : List Pg) (l : Int) : FnP Try.prog 98 [IsSl tPg xs, Is (.int .i64 l)] (IsTup [IsPg (latP xs l), Is (.bool (latB xs l))]) := by
  refine FnP.enter Try.func98 Try.ntmps98 rfl rfl ?_
  intro c hX
  refine JC_seq ?_
  refine JC_region ?_
  (refine JL_n rfl (op_allocN rfl nrmT rfl) ?_; intro i4)
  refine JL_1 rfl (op_assign rfl) ?_
  refine JL_nil ?_
  refine JQ_then (JC_seq ?_)
  refine JC_region ?_
  refine JL_1 rfl (op_move rfl) ?_
  refine JL_1 rfl (op_move rfl) ?_
  refine JL_1 rfl (op_call Try.call120 (LatestR_ok _ _) ⟨evS, ⟨evS, trivial⟩⟩) ?_
  refine JL_1 rfl (op_extract (Ev.rfl' rfl) rfl) ?_
  refine JL_1 rfl (op_extract (Ev.rfl' rfl) rfl) ?_
  refine JL_s0 (op_storeN (Ev.rfl' rfl) (Ev.rfl' rfl) cellsT replT nrmT (by rfl) (by rfl) (by rfl)) ?_
  refine JL_1 rfl (op_assign rfl) ?_
  refine JL_nil ?_
  refine JQ_then (JC_ret ?_)
  exact JQ_ret (Bs := [IsPg (latP xs l), Is (.bool (latB xs l))]) Try.results98 ⟨⟨_, _, _, _, rfl, memT, rfl, .inr ⟨rfl, _, rfl, rfl, subT⟩⟩, ⟨⟨_, rfl, subT⟩, trivial⟩⟩ () SubL.rfl' (List.nil_sublist _)
def foldL (W : List Int) (ls : List Int) : List Int := ls.foldl linesV W
theorem foldL_take {W ls : List Int} {k : Nat} {l : Int} (h : ls[k]? = some l) : foldL W (ls.take (k + 1)) = linesV (foldL W (ls.take k)) l := by
  unfold foldL
  rw [List.take_add_one, h, List.foldl_append]; rfl
theorem foldL_len (ls : List Int) : ∀ W : List Int, (foldL W ls).length ≤ W.length + ls.length := by
  induction ls with
  | nil => intro W; simp [foldL]
  | cons l ls ih =>
    intro W
    have h1 := ih (linesV W l)
    have h2 := lines_len W l
    have e : foldL W (l :: ls) = foldL (linesV W l) ls := rfl
    rw [e]
    simp only [List.length_cons]; omega
def moL (m : Mo) : List Int := foldL (foldL [] m.chk) (m.wr.map Pg.l)
def moX (m : Mo) : Tx := ⟨0, 0, m.base, m.chk, m.wr⟩
-- (*bodegalaw28.model).sets: function 46
set_option maxHeartbeats 1000000 in
theorem setsM_ok (m : Mo) (hb2 : m.chk.length ≤ 100000) (hb3 : m.wr.length ≤ 100000) : FnP Try.prog 46 [IsRef (moC m)] (IsSets (setsV (moX m) (moL m) (moL m))) := by
  have hl1 := foldL_len m.chk []
  have hl2 := foldL_len (m.wr.map Pg.l) (foldL [] m.chk)
  rw [List.length_map] at hl2
  simp only [List.length_nil] at hl1
  refine FnP.enter Try.func46 Try.ntmps46 rfl rfl ?_
  intro c hX
  refine JC_seq ?_
  refine JC_region ?_
  refine JL_1 rfl (op_assign rfl) ?_
  refine JL_1 rfl (op_assign rfl) ?_
  refine JL_1 rfl (op_assign rfl) ?_
  refine JL_nil ?_
  refine JQ_then (JC_seq ?_)
  refine JC_region ?_
  refine JL_1 rfl (op_assign rfl) ?_
  refine JL_nil ?_
  refine JQ_then (JC_seq (JC_seq ?_))
  refine JC_region ?_
  refine JL_1 rfl (op_assign rfl) ?_
  refine JL_nil ?_
  refine JQ_then (JC_block ?_)
  refine JC_loopP (fun k : Nat => k ≤ m.chk.length) (fun k => [(0, IsRef (moC m)), (2, Is (.slice none 0 0)), (3, Is (.slice none 0 0)), (4, Is (.int .i64 0)), (5, IsSl tI64 (foldL [] (m.chk.take k))), (6, Is (.int .i64 (k : Nat)))]) (fun _ => []) (fun k => m.chk.length - k) 0 (Nat.zero_le _) esubT lessT ?_
  rintro k hk
  have hfl := foldL_len (m.chk.take k) []
  rw [List.length_take] at hfl
  simp only [List.length_nil] at hfl
  refine JC_seq (JC_seq ?_)
  refine JC_region ?_
  refine JL_1 rfl (op_move rfl) ?_
  refine JL_1 rfl (op_move rfl) ?_
  refine JL_1 rfl (by first | exact op_nilCheck (Ev.rfl' rfl) | exact op_nilRef (Ev.rfl' rfl)) ?_
  refine JL_1 rfl (by first | exact op_fieldPtr (k := 2) (Ev.rfl' rfl) rfl rfl rfl rfl | exact op_fieldRefN (k := 2) (Ev.rfl' rfl) rfl rfl rfl rfl nrmT) ?_
  refine JL_1 rfl (by first | exact op_loadRef (Ev.rfl' rfl) rfl rfl rfl | exact op_loadPtr (Ev.rfl' rfl) memT (by rfl) (by rfl) (by rfl)) ?_
  refine JL_1 rfl (by first | exact op_len (Ev.rfl' rfl) rfl | exact op_lenLit (Ev.rfl' rfl) rfl) ?_
  refine JL_1 rfl (op_lss (Ev.rfl' rfl) (Ev.rfl' rfl)) ?_
  refine JL_nil ?_
  refine JQ_then ?_
  refine JC_cond (Ev.rfl' rfl) (fun h3 => ?_) (fun h3 => ?_)
  · have hlt : k < m.chk.length := by have := of_decide_eq_true h3; omega
    clear h3
    obtain ⟨l, hz⟩ : ∃ z, m.chk[k]? = some z := ⟨m.chk[k], List.getElem?_eq_getElem hlt⟩
    have hft := foldL_take (W := []) hz
    refine JC_skip (JQ_then (JC_seq (JC_block ?_)))
    refine JC_region ?_
    refine JL_1 rfl (op_move rfl) ?_
    refine JL_1 rfl (op_move rfl) ?_
    refine JL_1 rfl (by first | exact op_nilCheck (Ev.rfl' rfl) | exact op_nilRef (Ev.rfl' rfl)) ?_
    refine JL_1 rfl (by first | exact op_fieldPtr (k := 2) (Ev.rfl' rfl) rfl rfl rfl rfl | exact op_fieldRefN (k := 2) (Ev.rfl' rfl) rfl rfl rfl rfl nrmT) ?_
    refine JL_1 rfl (by first | exact op_loadRef (Ev.rfl' rfl) rfl rfl rfl | exact op_loadPtr (Ev.rfl' rfl) memT (by rfl) (by rfl) (by rfl)) ?_
    refine JL_1 rfl (op_move rfl) ?_
    refine JL_1 rfl (by first | exact op_index (j := _) (Ev.rfl' rfl) (Ev.rfl' rfl) rfl rfl (by first | rfl | omega) hz | exact op_index (j := _) (Ev.rfl' rfl) (Ev.rfl' rfl) rfl rfl (by first | rfl | omega) (by assumption)) ?_
    refine JL_1 rfl (by first | exact op_loadRef (Ev.rfl' rfl) rfl rfl rfl | exact op_loadPtr (Ev.rfl' rfl) memT (by rfl) (by rfl) (by rfl)) ?_
    refine JL_1 rfl (by first | ((refine op_call Try.call44 (Lines_ok _ _ ?_) ⟨evS, ⟨evS, trivial⟩⟩); all_goals (first | omega))) ?_
    refine JL_1 rfl (op_assign rfl) ?_
    refine JL_nil ?_
    refine JQ_block (JQ_then ?_)
    refine JC_region ?_
    refine JL_1 rfl (op_move rfl) ?_
    refine JL_1 rfl (op_add (Ev.rfl' rfl) (Ev.rfl' rfl) wrapT) ?_
    refine JL_1 rfl (op_assign rfl) ?_
    refine JL_nil ?_
    exact JQ_roundP (k + 1) (by omega) (by omega) ⟨⟨_, rfl, SubL.rfl'⟩, ⟨_, rfl, SubL.rfl'⟩, ⟨_, rfl, SubL.rfl'⟩, ⟨_, rfl, SubL.rfl'⟩, ⟨_, rfl, SubL.eq (by rw [hft])⟩, ⟨_, rfl, SubL.rfl'⟩, trivial⟩ lessT
  have hke : k = m.chk.length := by have := of_decide_eq_false h3; omega
  subst hke
  clear h3 hfl
  rw [List.take_length]
  refine JC_exit (JQ_then_exit (JQ_then_exit (JQ_hit (JQ_then (JC_seq (JC_seq ?_))))))
  refine JC_region ?_
  refine JL_1 rfl (op_assign rfl) ?_
  refine JL_nil ?_
  refine JQ_then (JC_block ?_)
  refine JC_loopP (fun k : Nat => k ≤ m.wr.length) (fun k => [(0, IsRef (moC m)), (2, Is (.slice none 0 0)), (3, Is (.slice none 0 0)), (4, Is (.int .i64 0)), (5, IsSl tI64 (foldL (foldL [] m.chk) ((m.wr.map Pg.l).take k))), (7, Is (.int .i64 (k : Nat)))]) (fun _ => []) (fun k => m.wr.length - k) 0 (Nat.zero_le _) esubT lessT ?_
  rintro k hk
  have hfl := foldL_len ((m.wr.map Pg.l).take k) (foldL [] m.chk)
  rw [List.length_take, List.length_map] at hfl
  refine JC_seq (JC_seq ?_)
  refine JC_region ?_
  refine JL_1 rfl (op_move rfl) ?_
  refine JL_1 rfl (op_move rfl) ?_
  refine JL_1 rfl (by first | exact op_nilCheck (Ev.rfl' rfl) | exact op_nilRef (Ev.rfl' rfl)) ?_
  refine JL_1 rfl (by first | exact op_fieldPtr (k := 1) (Ev.rfl' rfl) rfl rfl rfl rfl | exact op_fieldRefN (k := 1) (Ev.rfl' rfl) rfl rfl rfl rfl nrmT) ?_
  refine JL_1 rfl (by first | exact op_loadRef (Ev.rfl' rfl) rfl rfl rfl | exact op_loadPtr (Ev.rfl' rfl) memT (by rfl) (by rfl) (by rfl)) ?_
  refine JL_1 rfl (by first | exact op_len (Ev.rfl' rfl) rfl | exact op_lenLit (Ev.rfl' rfl) rfl) ?_
  refine JL_1 rfl (op_lss (Ev.rfl' rfl) (Ev.rfl' rfl)) ?_
  refine JL_nil ?_
  refine JQ_then ?_
  refine JC_cond (Ev.rfl' rfl) (fun h7 => ?_) (fun h7 => ?_)
  · have hlt : k < m.wr.length := by have := of_decide_eq_true h7; omega
    clear h7
    obtain ⟨p, hz⟩ : ∃ z, m.wr[k]? = some z := ⟨m.wr[k], List.getElem?_eq_getElem hlt⟩
    have hft := foldL_take (W := foldL [] m.chk) (ls := m.wr.map Pg.l) (k := k) (l := p.l) (by rw [List.getElem?_map, hz]; rfl)
    refine JC_skip (JQ_then (JC_seq (JC_block ?_)))
    refine JC_region ?_
    refine JL_1 rfl (op_move rfl) ?_
    refine JL_1 rfl (op_move rfl) ?_
    refine JL_1 rfl (by first | exact op_nilCheck (Ev.rfl' rfl) | exact op_nilRef (Ev.rfl' rfl)) ?_
    refine JL_1 rfl (by first | exact op_fieldPtr (k := 1) (Ev.rfl' rfl) rfl rfl rfl rfl | exact op_fieldRefN (k := 1) (Ev.rfl' rfl) rfl rfl rfl rfl nrmT) ?_
    refine JL_1 rfl (by first | exact op_loadRef (Ev.rfl' rfl) rfl rfl rfl | exact op_loadPtr (Ev.rfl' rfl) memT (by rfl) (by rfl) (by rfl)) ?_
    refine JL_1 rfl (op_move rfl) ?_
    refine JL_1 rfl (by first | exact op_index (j := _) (Ev.rfl' rfl) (Ev.rfl' rfl) rfl rfl (by first | rfl | omega) hz | exact op_index (j := _) (Ev.rfl' rfl) (Ev.rfl' rfl) rfl rfl (by first | rfl | omega) (by assumption)) ?_
    refine JL_1 rfl (by first | exact op_fieldPtr (k := 0) (Ev.rfl' rfl) rfl rfl rfl rfl | exact op_fieldRefN (k := 0) (Ev.rfl' rfl) rfl rfl rfl rfl nrmT) ?_
    refine JL_1 rfl (by first | exact op_loadRef (Ev.rfl' rfl) rfl rfl rfl | exact op_loadPtr (Ev.rfl' rfl) memT (by rfl) (by rfl) (by rfl)) ?_
    refine JL_1 rfl (by first | ((refine op_call Try.call44 (Lines_ok _ _ ?_) ⟨evS, ⟨evS, trivial⟩⟩); all_goals (first | omega))) ?_
    refine JL_1 rfl (op_assign rfl) ?_
    refine JL_nil ?_
    refine JQ_block (JQ_then ?_)
    refine JC_region ?_
    refine JL_1 rfl (op_move rfl) ?_
    refine JL_1 rfl (op_add (Ev.rfl' rfl) (Ev.rfl' rfl) wrapT) ?_
    refine JL_1 rfl (op_assign rfl) ?_
    refine JL_nil ?_
    exact JQ_roundP (k + 1) (by omega) (by omega) ⟨⟨_, rfl, SubL.rfl'⟩, ⟨_, rfl, SubL.rfl'⟩, ⟨_, rfl, SubL.rfl'⟩, ⟨_, rfl, SubL.rfl'⟩, ⟨_, rfl, SubL.eq (by rw [hft])⟩, ⟨_, rfl, SubL.rfl'⟩, trivial⟩ lessT
  have hke : k = m.wr.length := by have := of_decide_eq_false h7; omega
  subst hke
  clear h7 hfl
  rw [List.take_of_length_le (show (m.wr.map Pg.l).length ≤ m.wr.length by simp)]
  refine JC_exit (JQ_then_exit (JQ_then_exit (JQ_hit (JQ_then (JC_seq ?_)))))
  refine JC_region ?_
  refine JL_1 rfl (op_assign rfl) ?_
  refine JL_nil ?_
  refine JQ_then (JC_seq (JC_seq ?_))
  refine JC_buf0 145 tSn ?_
  refine JC_set 5 (IsSl tI64 (moL m)) rfl SubL.rfl' ?_
  have hcl : (moL m).length ≤ 200000 := by unfold moL; omega
  refine JC_region ?_
  refine JL_1 rfl (op_assign rfl) ?_
  refine JL_nil ?_
  refine JQ_then (JC_block ?_)
  refine JC_loopP (fun z : Nat × (Option Addr × Nat) => z.1 ≤ (moL m).length ∧ ((moL m).take z.1).any (fun l => !latB m.base l) = false) (fun z => [(0, IsRef (moC m)), (2, Is (.slice none 0 0)), (3, Is (.slice none 0 0)), (4, Is (.int .i64 0)), (5, IsSl tI64 (moL m)), (8, Is (slV (rdL (moX m) ((moL m).take z.1)).length z.2)), (9, Is (.int .i64 (z.1 : Nat)))]) (fun z => [buf (slV (rdL (moX m) ((moL m).take z.1)).length z.2) 145 tSn (rdL (moX m) ((moL m).take z.1))]) (fun z => (moL m).length - z.1) (0, (none, 0)) ⟨Nat.zero_le _, rfl⟩ esubT lessT ?_
  rintro ⟨k, s⟩ ⟨hk, hs⟩
  dsimp only at hk hs ⊢
  have hrl := rd_len (moX m) ((moL m).take k)
  rw [List.length_take] at hrl
  refine JC_seq (JC_seq ?_)
  refine JC_region ?_
  refine JL_1 rfl (op_move rfl) ?_
  refine JL_1 rfl (op_move rfl) ?_
  refine JL_1 rfl (by first | exact op_len (Ev.rfl' rfl) rfl | exact op_lenLit (Ev.rfl' rfl) rfl) ?_
  refine JL_1 rfl (op_lss (Ev.rfl' rfl) (Ev.rfl' rfl)) ?_
  refine JL_nil ?_
  refine JQ_then ?_
  refine JC_cond (Ev.rfl' rfl) (fun h12 => ?_) (fun h12 => ?_)
  · have hlt : k < (moL m).length := by have := of_decide_eq_true h12; omega
    clear h12
    obtain ⟨l, hz⟩ : ∃ z, (moL m)[k]? = some z := ⟨(moL m)[k], List.getElem?_eq_getElem hlt⟩
    have hrt := rd_take (x := moX m) hz
    have a1 := any_take (f := fun l => !latB m.base l) hz
    refine JC_skip (JQ_then (JC_seq (JC_block (JC_seq ?_))))
    refine JC_dr rfl (by kernel_rfl) ?_
    refine JD_stretch 15 (by kernel_rfl) ?_
    refine JW_1 (op_move rfl) ?_
    refine JW_1 (by first | exact op_nilCheck (Ev.rfl' rfl) | exact op_nilRef (Ev.rfl' rfl)) ?_
    refine JW_1 (by first | exact op_fieldPtr (k := 0) (Ev.rfl' rfl) rfl rfl rfl rfl | exact op_fieldRefN (k := 0) (Ev.rfl' rfl) rfl rfl rfl rfl nrmT) ?_
    refine JW_1 (by first | exact op_loadRef (Ev.rfl' rfl) rfl rfl rfl | exact op_loadPtr (Ev.rfl' rfl) memT (by rfl) (by rfl) (by rfl)) ?_
    refine JW_1 (op_move rfl) ?_
    refine JW_1 (op_move rfl) ?_
    refine JW_1 (by first | exact op_index (j := _) (Ev.rfl' rfl) (Ev.rfl' rfl) rfl rfl (by first | rfl | omega) hz | exact op_index (j := _) (Ev.rfl' rfl) (Ev.rfl' rfl) rfl rfl (by first | rfl | omega) (by assumption)) ?_
    refine JW_1 (by first | exact op_loadRef (Ev.rfl' rfl) rfl rfl rfl | exact op_loadPtr (Ev.rfl' rfl) memT (by rfl) (by rfl) (by rfl)) ?_
    refine JW_1 (op_call Try.call98 (known_ok _ _) ⟨evS, ⟨evS, trivial⟩⟩) ?_
    refine JW_1 (op_move rfl) ?_
    refine JW_1 (op_extract (Ev.rfl' rfl) rfl) ?_
    refine JW_1 (op_extract (Ev.rfl' rfl) rfl) ?_
    refine JW_n (op_allocN rfl nrmT rfl) ?_
    refine JW_write rfl rfl rfl (by kernel_rfl) (op_storeWN evS cellsT rfl rfl rfl nrmT) ?_
    refine JW_1 (op_assign rfl) ?_
    refine ⟨rfl, ?_⟩
    intro i10
    refine JD_end ?_
    refine JQ_then (JC_seq (JC_seq ?_))
    refine JC_region ?_
    refine JL_1 rfl (op_move rfl) ?_
    refine JL_1 rfl (op_not (Ev.rfl' rfl)) ?_
    refine JL_nil ?_
    refine JQ_then ?_
    refine JC_cond (Ev.rfl' rfl) (fun h15 => ?_) (fun h15 => ?_)
    · have e : setsV (moX m) (moL m) (moL m) = ([], [], 16) := by
        unfold setsV
        rw [if_pos (List.any_eq_true.2 ⟨l, List.mem_of_getElem? hz, h15⟩)]
      rw [e]
      refine JC_seq ?_
      refine JC_region ?_
      refine JL_1 rfl (op_assign rfl) ?_
      refine JL_1 rfl (op_assign rfl) ?_
      refine JL_1 rfl (op_assign rfl) ?_
      refine JL_nil ?_
      refine JQ_then (JC_ret (JQ_then_ret (JQ_block_ret (JQ_then_ret (JQ_then_ret (JQ_block_ret (JQ_then_ret ?_)))))))
      exact JQ_ret (Bs := [IsSl tSn [], IsSl tPg [], Is (.int .i64 16)]) Try.results46 ⟨⟨_, rfl, subT⟩, ⟨⟨_, rfl, subT⟩, ⟨⟨_, rfl, subT⟩, trivial⟩⟩⟩ () SubL.rfl' (List.nil_sublist _)
    rw [hs, h15] at a1
    clear h15
    refine JC_skip (JQ_then (JC_seq ?_))
    refine JC_dr rfl (by kernel_rfl) ?_
    refine JD_stretch 15 (by kernel_rfl) ?_
    refine JW_1 (op_move rfl) ?_
    refine JW_1 (by first | exact op_nilCheck (Ev.rfl' rfl) | exact op_nilRef (Ev.rfl' rfl)) ?_
    refine JW_1 (by first | exact op_fieldPtr (k := 1) (Ev.rfl' rfl) rfl rfl rfl rfl | exact op_fieldRefN (k := 1) (Ev.rfl' rfl) rfl rfl rfl rfl nrmT) ?_
    refine JW_1 (by first | exact op_loadRef (Ev.rfl' rfl) rfl rfl rfl | exact op_loadPtr (Ev.rfl' rfl) memT (by rfl) (by rfl) (by rfl)) ?_
    refine JW_1 (op_move rfl) ?_
    refine JW_1 (op_move rfl) ?_
    refine JW_1 (by first | exact op_index (j := _) (Ev.rfl' rfl) (Ev.rfl' rfl) rfl rfl (by first | rfl | omega) hz | exact op_index (j := _) (Ev.rfl' rfl) (Ev.rfl' rfl) rfl rfl (by first | rfl | omega) (by assumption)) ?_
    refine JW_1 (by first | exact op_loadRef (Ev.rfl' rfl) rfl rfl rfl | exact op_loadPtr (Ev.rfl' rfl) memT (by rfl) (by rfl) (by rfl)) ?_
    refine JW_1 (op_call Try.call98 (known_ok _ _) ⟨evS, ⟨evS, trivial⟩⟩) ?_
    refine JW_1 (op_move rfl) ?_
    refine JW_1 (op_extract (Ev.rfl' rfl) rfl) ?_
    refine JW_1 (op_extract (Ev.rfl' rfl) rfl) ?_
    refine JW_n (op_allocN rfl nrmT rfl) ?_
    refine JW_write rfl rfl rfl (by kernel_rfl) (op_storeWN evS cellsT rfl rfl rfl nrmT) ?_
    refine JW_1 (op_assign rfl) ?_
    refine ⟨rfl, ?_⟩
    intro i12
    refine JD_end ?_
    refine JQ_then (JC_seq ?_)
    refine JC_region ?_
    refine JL_1 rfl (op_move rfl) ?_
    refine JL_1 rfl (op_not (Ev.rfl' rfl)) ?_
    refine JL_nil ?_
    refine JQ_then ?_
    refine JC_cond (Ev.rfl' rfl) (fun h18 => ?_) (fun h18 => ?_)
    · have g : ¬ latB (moX m).wr l = true := by simpa [moX] using h18
      rw [if_neg g] at hrt
      clear h18
      refine JC_dr rfl (by kernel_rfl) ?_
      refine JD_stretch 9 (by kernel_rfl) ?_
      refine JW_1 (op_move rfl) ?_
      refine JW_1 (op_move rfl) ?_
      refine JW_1 (op_move rfl) ?_
      refine JW_1 (by first | exact op_index (j := _) (Ev.rfl' rfl) (Ev.rfl' rfl) rfl rfl (by first | rfl | omega) hz | exact op_index (j := _) (Ev.rfl' rfl) (Ev.rfl' rfl) rfl rfl (by first | rfl | omega) (by assumption)) ?_
      refine JW_1 (by first | exact op_loadRef (Ev.rfl' rfl) rfl rfl rfl | exact op_loadPtr (Ev.rfl' rfl) memT (by rfl) (by rfl) (by rfl)) ?_
      refine JW_1 (by first | exact op_fieldPtr (k := 1) (Ev.rfl' rfl) rfl rfl rfl rfl | exact op_fieldRefN (k := 1) (Ev.rfl' rfl) rfl rfl rfl rfl nrmT) ?_
      refine JW_1 (by first | exact op_loadRef (Ev.rfl' rfl) rfl rfl rfl | exact op_loadPtr (Ev.rfl' rfl) memT (by rfl) (by rfl) (by rfl)) ?_
      refine JW_1 (op_buildN (qs := [(0, _), (1, _)]) rfl rfl rfl rfl ⟨⟨rfl, _, (Ev.rfl' rfl), cellsT⟩, ⟨⟨rfl, _, (Ev.rfl' rfl), cellsT⟩, trivial⟩⟩ (by rfl) nrmT) ?_
      refine JW_1 (op_buildSlice (size := 2) (qs := [(0, _)]) rfl rfl rfl ⟨⟨rfl, _, (Ev.rfl' rfl), cellsT⟩, trivial⟩ (by rfl) (by rfl)) ?_
      refine ⟨rfl, ?_⟩
      (refine JD_s (by kernel_rfl) rfl rfl (op_app (Ev.rfl' rfl) (fun _ => replT) (by first | exact Ev.rfl' rfl | exact Ev.sub rfl (by first | exact SubL.row (xs := [⟨l, (latP m.base l).h⟩]) (by rfl) (by rfl) subsT | exact subT)) (by exact appT rfl rfl rfl) lenT) ?_; intro i97)
      refine JD_1 (by kernel_rfl) rfl rfl (op_assign rfl) ?_
      refine JD_end ?_
      refine JQ_block (JQ_then ?_)
      refine JC_region ?_
      refine JL_1 rfl (op_move rfl) ?_
      refine JL_1 rfl (op_add (Ev.rfl' rfl) (Ev.rfl' rfl) wrapT) ?_
      refine JL_1 rfl (op_assign rfl) ?_
      refine JL_nil ?_
      first | (guard_hyp i97 : Option Addr × Nat; rw [show rdL (moX m) ((moL m).take k) ++ [(⟨l, (latP m.base l).h⟩ : Sn)] = rdL (moX m) ((moL m).take (k + 1)) from hrt.symm]; exact JQ_roundP (k + 1, i97) ⟨by dsimp only; omega, a1⟩ (by dsimp only; omega) esubT lessT) | (rw [← hrt]; exact JQ_roundP (k + 1, s) ⟨by dsimp only; omega, a1⟩ (by dsimp only; omega) esubT lessT)
    have g : latB (moX m).wr l = true := by simpa [moX] using h18
    rw [if_pos g] at hrt
    clear h18
    refine JC_skip (JQ_block (JQ_then ?_))
    refine JC_region ?_
    refine JL_1 rfl (op_move rfl) ?_
    refine JL_1 rfl (op_add (Ev.rfl' rfl) (Ev.rfl' rfl) wrapT) ?_
    refine JL_1 rfl (op_assign rfl) ?_
    refine JL_nil ?_
    first | (guard_hyp i97 : Option Addr × Nat; rw [show rdL (moX m) ((moL m).take k) ++ [(⟨l, (latP m.base l).h⟩ : Sn)] = rdL (moX m) ((moL m).take (k + 1)) from hrt.symm]; exact JQ_roundP (k + 1, i97) ⟨by dsimp only; omega, a1⟩ (by dsimp only; omega) esubT lessT) | (rw [← hrt]; exact JQ_roundP (k + 1, s) ⟨by dsimp only; omega, a1⟩ (by dsimp only; omega) esubT lessT)
  have hke : k = (moL m).length := by have := of_decide_eq_false h12; omega
  subst hke
  clear h12
  rw [List.take_length] at hs hrl ⊢
  have hs' : ¬ (moL m).any (fun l => !latB (moX m).base l) = true := fun e => Bool.noConfusion (show false = true from hs.symm.trans e)
  refine JC_exit (JQ_then_exit (JQ_then_exit (JQ_hit (JQ_then (JC_seq (JC_seq ?_))))))
  refine JC_region ?_
  refine JL_1 rfl (op_assign rfl) ?_
  refine JL_nil ?_
  refine JQ_then (JC_block ?_)
  refine JC_loopP (fun k : Nat => k ≤ (moL m).length ∧ ((moL m).take k).any (lkB (moX m)) = false) (fun k => [(0, IsRef (moC m)), (2, Is (.slice none 0 0)), (3, Is (.slice none 0 0)), (4, Is (.int .i64 0)), (5, IsSl tI64 (moL m)), (8, Is (slV (rdL (moX m) (moL m)).length s)), (14, Is (.int .i64 (k : Nat)))]) (fun _ => [buf (slV (rdL (moX m) (moL m)).length s) 145 tSn (rdL (moX m) (moL m))]) (fun k => (moL m).length - k) 0 ⟨Nat.zero_le _, rfl⟩ esubT lessT ?_
  rintro k ⟨hk, hn⟩
  refine JC_seq (JC_seq ?_)
  refine JC_region ?_
  refine JL_1 rfl (op_move rfl) ?_
  refine JL_1 rfl (op_move rfl) ?_
  refine JL_1 rfl (by first | exact op_len (Ev.rfl' rfl) rfl | exact op_lenLit (Ev.rfl' rfl) rfl) ?_
  refine JL_1 rfl (op_lss (Ev.rfl' rfl) (Ev.rfl' rfl)) ?_
  refine JL_nil ?_
  refine JQ_then ?_
  refine JC_cond (Ev.rfl' rfl) (fun h21 => ?_) (fun h21 => ?_)
  · have hlt : k < (moL m).length := by have := of_decide_eq_true h21; omega
    clear h21
    obtain ⟨l, hz⟩ : ∃ z, (moL m)[k]? = some z := ⟨(moL m)[k], List.getElem?_eq_getElem hlt⟩
    have a2 := any_take (f := lkB (moX m)) hz
    refine JC_skip (JQ_then (JC_seq (JC_block (JC_seq ?_))))
    refine JC_dr rfl (by kernel_rfl) ?_
    refine JD_stretch 15 (by kernel_rfl) ?_
    refine JW_1 (op_move rfl) ?_
    refine JW_1 (by first | exact op_nilCheck (Ev.rfl' rfl) | exact op_nilRef (Ev.rfl' rfl)) ?_
    refine JW_1 (by first | exact op_fieldPtr (k := 0) (Ev.rfl' rfl) rfl rfl rfl rfl | exact op_fieldRefN (k := 0) (Ev.rfl' rfl) rfl rfl rfl rfl nrmT) ?_
    refine JW_1 (by first | exact op_loadRef (Ev.rfl' rfl) rfl rfl rfl | exact op_loadPtr (Ev.rfl' rfl) memT (by rfl) (by rfl) (by rfl)) ?_
    refine JW_1 (op_move rfl) ?_
    refine JW_1 (op_move rfl) ?_
    refine JW_1 (by first | exact op_index (j := _) (Ev.rfl' rfl) (Ev.rfl' rfl) rfl rfl (by first | rfl | omega) hz | exact op_index (j := _) (Ev.rfl' rfl) (Ev.rfl' rfl) rfl rfl (by first | rfl | omega) (by assumption)) ?_
    refine JW_1 (by first | exact op_loadRef (Ev.rfl' rfl) rfl rfl rfl | exact op_loadPtr (Ev.rfl' rfl) memT (by rfl) (by rfl) (by rfl)) ?_
    refine JW_1 (op_call Try.call98 (known_ok _ _) ⟨evS, ⟨evS, trivial⟩⟩) ?_
    refine JW_1 (op_move rfl) ?_
    refine JW_1 (op_extract (Ev.rfl' rfl) rfl) ?_
    refine JW_1 (op_extract (Ev.rfl' rfl) rfl) ?_
    refine JW_n (op_allocN rfl nrmT rfl) ?_
    refine JW_write rfl rfl rfl (by kernel_rfl) (op_storeWN evS cellsT rfl rfl rfl nrmT) ?_
    refine JW_1 (op_assign rfl) ?_
    refine ⟨rfl, ?_⟩
    intro i15
    refine JD_end ?_
    refine JQ_then (JC_seq ?_)
    refine JC_region ?_
    refine JL_1 rfl (by first | exact op_fieldPtr (k := 1) (Ev.rfl' rfl) rfl rfl rfl rfl | exact op_fieldRefN (k := 1) (Ev.rfl' rfl) rfl rfl rfl rfl nrmT) ?_
    refine JL_1 rfl (by first | exact op_loadRef (Ev.rfl' rfl) rfl rfl rfl | exact op_loadPtr (Ev.rfl' rfl) memT (by rfl) (by rfl) (by rfl)) ?_
    refine JL_1 rfl (op_rem (Ev.rfl' rfl) (Ev.rfl' rfl) (by omega) rfl) ?_
    refine JL_1 rfl (op_neq (Ev.rfl' rfl) (Ev.rfl' rfl)) ?_
    refine JL_nil ?_
    refine JQ_then ?_
    refine JC_cond (Ev.rfl' rfl) (fun h24 => ?_) (fun h24 => ?_)
    · have g : lkB (moX m) l = true := by rw [lock_mod] at h24; exact h24
      have e : setsV (moX m) (moL m) (moL m) = ([], [], 3) := by
        unfold setsV
        rw [if_neg hs', if_pos (List.any_eq_true.2 ⟨l, List.mem_of_getElem? hz, g⟩)]
      rw [e]
      refine JC_seq ?_
      refine JC_region ?_
      refine JL_1 rfl (op_assign rfl) ?_
      refine JL_1 rfl (op_assign rfl) ?_
      refine JL_1 rfl (op_assign rfl) ?_
      refine JL_nil ?_
      refine JQ_then (JC_ret (JQ_block_ret (JQ_then_ret (JQ_then_ret (JQ_block_ret (JQ_then_ret ?_))))))
      exact JQ_ret (Bs := [IsSl tSn [], IsSl tPg [], Is (.int .i64 3)]) Try.results46 ⟨⟨_, rfl, subT⟩, ⟨⟨_, rfl, subT⟩, ⟨⟨_, rfl, subT⟩, trivial⟩⟩⟩ () SubL.rfl' (List.nil_sublist _)
    have g : lkB (moX m) l = false := by rw [lock_mod] at h24; exact h24
    rw [hn, g] at a2
    clear h24
    refine JC_skip (JQ_block (JQ_then ?_))
    refine JC_region ?_
    refine JL_1 rfl (op_move rfl) ?_
    refine JL_1 rfl (op_add (Ev.rfl' rfl) (Ev.rfl' rfl) wrapT) ?_
    refine JL_1 rfl (op_assign rfl) ?_
    refine JL_nil ?_
    exact JQ_roundP (k + 1) ⟨by omega, a2⟩ (by omega) esubT lessT
  have hke : k = (moL m).length := by have := of_decide_eq_false h21; omega
  subst hke
  clear h21
  rw [List.take_length] at hn
  have hl' : ¬ (moL m).any (lkB (moX m)) = true := by rw [hn]; simp
  refine JC_exit (JQ_then_exit (JQ_then_exit (JQ_hit (JQ_then (JC_seq (JC_seq ?_))))))
  refine JC_region ?_
  refine JL_1 rfl (op_move rfl) ?_
  refine JL_1 rfl (by first | exact op_len (Ev.rfl' rfl) rfl | exact op_lenLit (Ev.rfl' rfl) rfl) ?_
  refine JL_1 rfl (op_gtr (Ev.rfl' rfl) (Ev.rfl' rfl)) ?_
  refine JL_1 rfl (op_move rfl) ?_
  (first | refine JL_i0 rfl rfl rfl (fun hg => (by have hg0 := hg; (try simp at hg); first | exact op_moveE (Ev.sub rfl (SubL.iteT (by first | assumption | (simp; done) | (simp; omega) | (simp_all; done)) SubL.rfl')) | exact op_moveE (Ev.rfl' rfl))) ?_ | refine JL_i rfl rfl rfl (fun hp hg => (by have hpg := Bool.and_eq_true_iff.2 ⟨hp, hg⟩; have hg0 := hg; (try simp at hg); first | exact op_moveE (Ev.sub rfl (SubL.iteT (by first | assumption | (simp; done) | (simp; omega) | (simp_all; done)) SubL.rfl')) | exact op_moveE (Ev.rfl' rfl))) ?_)
  (first | refine JL_i0 rfl rfl rfl (fun hg => (by have hg0 := hg; (try simp at hg); first | exact op_nilCheck evG | exact op_nilRef evG)) ?_ | refine JL_i rfl rfl rfl (fun hp hg => (by have hpg := Bool.and_eq_true_iff.2 ⟨hp, hg⟩; have hg0 := hg; (try simp at hg); first | exact op_nilCheck evG | exact op_nilRef evG)) ?_)
  (first | refine JL_i0 rfl rfl rfl (fun hg => (by have hg0 := hg; (try simp at hg); first | exact op_fieldPtr (k := 1) evG rfl rfl rfl rfl | exact op_fieldRefN (k := 1) evG rfl rfl rfl rfl nrmT)) ?_ | refine JL_i rfl rfl rfl (fun hp hg => (by have hpg := Bool.and_eq_true_iff.2 ⟨hp, hg⟩; have hg0 := hg; (try simp at hg); first | exact op_fieldPtr (k := 1) evG rfl rfl rfl rfl | exact op_fieldRefN (k := 1) evG rfl rfl rfl rfl nrmT)) ?_)
  (first | refine JL_i0 rfl rfl rfl (fun hg => (by have hg0 := hg; (try simp at hg); first | exact op_loadRef evG rfl rfl rfl | exact op_loadPtr evG memT (by rfl) (by rfl) (by rfl))) ?_ | refine JL_i rfl rfl rfl (fun hp hg => (by have hpg := Bool.and_eq_true_iff.2 ⟨hp, hg⟩; have hg0 := hg; (try simp at hg); first | exact op_loadRef evG rfl rfl rfl | exact op_loadPtr evG memT (by rfl) (by rfl) (by rfl))) ?_)
  (first | refine JL_i0 rfl rfl rfl (fun hg => (by have hg0 := hg; (try simp at hg); first | exact op_len evG rfl | exact op_lenLit evG rfl)) ?_ | refine JL_i rfl rfl rfl (fun hp hg => (by have hpg := Bool.and_eq_true_iff.2 ⟨hp, hg⟩; have hg0 := hg; (try simp at hg); first | exact op_len evG rfl | exact op_lenLit evG rfl)) ?_)
  (first | refine JL_i0 rfl rfl rfl (fun hg => (by have hg0 := hg; (try simp at hg); exact op_gtr evG evG)) ?_ | refine JL_i rfl rfl rfl (fun hp hg => (by have hpg := Bool.and_eq_true_iff.2 ⟨hp, hg⟩; have hg0 := hg; (try simp at hg); exact op_gtr evG evG)) ?_)
  refine JL_1 rfl (op_or (Ev.rfl' rfl) rfl (fun h => by first | exact SubL.rfl' | exact SubL.iteT (by first | (rw [h]; rfl) | (simp_all; done)) SubL.rfl')) ?_
  refine JL_nil ?_
  refine JQ_then ?_
  refine JC_cond (Ev.rfl' rfl) (fun h26 => ?_) (fun h26 => ?_)
  · have g : 24 < (rdL (moX m) (moL m)).length ∨ 12 < (moX m).wr.length := by simp at h26; unfold moX at h26 ⊢; dsimp only at h26 ⊢; omega
    have e : setsV (moX m) (moL m) (moL m) = ([], [], 18) := by unfold setsV; rw [if_neg hs', if_neg hl', if_pos g]
    rw [e]
    refine JC_seq ?_
    refine JC_region ?_
    refine JL_1 rfl (op_assign rfl) ?_
    refine JL_1 rfl (op_assign rfl) ?_
    refine JL_1 rfl (op_assign rfl) ?_
    refine JL_nil ?_
    refine JQ_then (JC_ret (JQ_then_ret ?_))
    exact JQ_ret (Bs := [IsSl tSn [], IsSl tPg [], Is (.int .i64 18)]) Try.results46 ⟨⟨_, rfl, subT⟩, ⟨⟨_, rfl, subT⟩, ⟨⟨_, rfl, subT⟩, trivial⟩⟩⟩ () SubL.rfl' (List.nil_sublist _)
  have g : ¬ (24 < (rdL (moX m) (moL m)).length ∨ 12 < (moX m).wr.length) := by simp at h26; unfold moX at h26 ⊢; dsimp only at h26 ⊢; omega
  have e : setsV (moX m) (moL m) (moL m) = (rdL (moX m) (moL m), m.wr, 0) := by unfold setsV; rw [if_neg hs', if_neg hl', if_neg g]; rfl
  rw [e]
  refine JC_skip (JQ_then (JC_seq ?_))
  refine JC_dr rfl (by kernel_rfl) ?_
  refine JD_stretch 8 (by kernel_rfl) ?_
  refine JW_1 (op_move rfl) ?_
  refine JW_1 (op_move rfl) ?_
  refine JW_1 (by first | exact op_nilCheck (Ev.rfl' rfl) | exact op_nilRef (Ev.rfl' rfl)) ?_
  refine JW_1 (by first | exact op_fieldPtr (k := 1) (Ev.rfl' rfl) rfl rfl rfl rfl | exact op_fieldRefN (k := 1) (Ev.rfl' rfl) rfl rfl rfl rfl nrmT) ?_
  refine JW_1 (by first | exact op_loadRef (Ev.rfl' rfl) rfl rfl rfl | exact op_loadPtr (Ev.rfl' rfl) memT (by rfl) (by rfl) (by rfl)) ?_
  refine JW_1 (op_assign rfl) ?_
  refine JW_1 (op_assign rfl) ?_
  refine JW_1 (op_assign rfl) ?_
  refine ⟨rfl, ?_⟩
  refine JD_end ?_
  refine JQ_then (JC_ret ?_)
  refine JQ_freeze hX replT ?_
  exact JQ_ret (Bs := [IsSl tSn (rdL (moX m) (moL m)), IsSl tPg m.wr, Is (.int .i64 0)]) Try.results46 ⟨⟨_, rfl, subT⟩, ⟨⟨_, rfl, subT⟩, ⟨⟨_, rfl, subT⟩, trivial⟩⟩⟩ () SubL.rfl' (List.nil_sublist _)
end Go.Proofs.Ytpfojangcgffkaa

/- Contracts: pages put into a transaction, lines relied on; what blocks. Own work. -/
namespace Go.Proofs.Ytpfojangcgffkaa
open Go.RowKit
set_option linter.unusedVariables false
set_option linter.unusedSimpArgs false
set_option maxRecDepth 100000
-- txn.copied: function 99
theorem copiedN_ok (x : Tx) (h1 : x.base.length ≤ 1000000) (h2 : x.chk.length ≤ 1000000) (h3 : x.wr.length ≤ 1000000) : Fn Try.prog 99 [IsTx x] [] (fun i : Option Addr × Nat => IsAgg [Is (.int .i64 x.cl), Is (.int .i64 x.sq), IsSl tPg x.base, Is (slV x.chk.length i), IsSl tPg x.wr]) (fun i => [buf (slV x.chk.length i) 3 tI64 x.chk]) := by
  refine Fn.enterN Try.func99 Try.ntmps99 rfl rfl ?_
  intro c hX
  refine JC_seq ?_
  refine JC_region ?_
  (refine JL_n rfl (op_box (Ev.rfl' rfl) cellsT) ?_; intro i1)
  (refine JL_n rfl (op_allocN rfl nrmT rfl) ?_; intro i2)
  refine JL_nil ?_
  refine JQ_then (JC_seq ?_)
  refine JC_dr rfl (by kernel_rfl) ?_
  refine JD_stretch 10 (by kernel_rfl) ?_
  refine JW_1 (by first | exact op_fieldPtr (k := 2) (Ev.rfl' rfl) rfl rfl rfl rfl | exact op_fieldRefN (k := 2) (Ev.rfl' rfl) rfl rfl rfl rfl nrmT) ?_
  refine JW_1 (by first | exact op_loadRef (Ev.rfl' rfl) rfl rfl rfl | exact op_loadPtr (Ev.rfl' rfl) memT (by rfl) (by rfl) (by rfl)) ?_
  refine JW_1 (by first | ((refine op_call Try.call97 (ClonePg_ok _ ?_) ⟨evS, trivial⟩); all_goals (first | assumption))) ?_
  refine JW_1 (by first | exact op_fieldPtr (k := 3) (Ev.rfl' rfl) rfl rfl rfl rfl | exact op_fieldRefN (k := 3) (Ev.rfl' rfl) rfl rfl rfl rfl nrmT) ?_
  refine JW_1 (by first | exact op_loadRef (Ev.rfl' rfl) rfl rfl rfl | exact op_loadPtr (Ev.rfl' rfl) memT (by rfl) (by rfl) (by rfl)) ?_
  refine JW_n (by first | ((refine op_callO Try.call119 (CloneIN_ok x.chk ?_) ⟨evS, trivial⟩); all_goals (first | assumption))) ?_
  refine JW_1 (by first | exact op_fieldPtr (k := 4) (Ev.rfl' rfl) rfl rfl rfl rfl | exact op_fieldRefN (k := 4) (Ev.rfl' rfl) rfl rfl rfl rfl nrmT) ?_
  refine JW_1 (by first | exact op_loadRef (Ev.rfl' rfl) rfl rfl rfl | exact op_loadPtr (Ev.rfl' rfl) memT (by rfl) (by rfl) (by rfl)) ?_
  refine JW_1 (by first | ((refine op_call Try.call97 (ClonePg_ok _ ?_) ⟨evS, trivial⟩); all_goals (first | assumption))) ?_
  refine JW_1 (by first | exact op_fieldPtr (k := 2) (Ev.rfl' rfl) rfl rfl rfl rfl | exact op_fieldRefN (k := 2) (Ev.rfl' rfl) rfl rfl rfl rfl nrmT) ?_
  refine ⟨rfl, ?_⟩
  intro i8
  refine JD_s0 (by kernel_rfl) rfl (op_storeN (Ev.rfl' rfl) (Ev.rfl' rfl) cellsT replT nrmT (by rfl) (by rfl) (by rfl)) ?_
  refine JD_stretch 1 (by kernel_rfl) ?_
  refine JW_1 (by first | exact op_fieldPtr (k := 3) (Ev.rfl' rfl) rfl rfl rfl rfl | exact op_fieldRefN (k := 3) (Ev.rfl' rfl) rfl rfl rfl rfl nrmT) ?_
  refine ⟨rfl, ?_⟩
  refine JD_s0 (by kernel_rfl) rfl (op_storeN (Ev.rfl' rfl) (Ev.rfl' rfl) cellsT replT nrmT (by rfl) (by rfl) (by rfl)) ?_
  refine JD_stretch 1 (by kernel_rfl) ?_
  refine JW_1 (by first | exact op_fieldPtr (k := 4) (Ev.rfl' rfl) rfl rfl rfl rfl | exact op_fieldRefN (k := 4) (Ev.rfl' rfl) rfl rfl rfl rfl nrmT) ?_
  refine ⟨rfl, ?_⟩
  refine JD_s0 (by kernel_rfl) rfl (op_storeN (Ev.rfl' rfl) (Ev.rfl' rfl) cellsT replT nrmT (by rfl) (by rfl) (by rfl)) ?_
  refine JD_end ?_
  refine JQ_then (JC_seq ?_)
  refine JC_region ?_
  refine JL_1 rfl (by first | exact op_loadRefsN (n := 5) (Ev.rfl' rfl) rfl rfl rfl (by rfl) nrmT | exact op_loadPtrsN (n := 5) (Ev.rfl' rfl) memT (by rfl) (by rfl) (by rfl) (by rfl) nrmT) ?_
  refine JL_s0 (op_storeN (Ev.rfl' rfl) (Ev.rfl' rfl) cellsT replT nrmT (by rfl) (by rfl) (by rfl)) ?_
  refine JL_nil ?_
  refine JQ_then (JC_ret ?_)
  exact JQ_retP (Bs := [IsAgg [Is (.int .i64 x.cl), Is (.int .i64 x.sq), IsSl tPg x.base, Is (slV x.chk.length i8), IsSl tPg x.wr]]) Try.results99 ⟨⟨_, _, _, _, rfl, memT, rfl, .inr ⟨rfl, _, rfl, rfl, subT⟩⟩, trivial⟩ i8 SubL.rfl' lessT
def Tx.nil : Tx := ⟨0, 0, [], [], []⟩
@[reducible] def txZ : List VP := [Is (.int .i64 0), Is (.int .i64 0), Is (.slice none 0 0), Is (.slice none 0 0), Is (.slice none 0 0)]
@[reducible] def IsPut (r : Tx × Int) : VP := IsTup [IsTx r.1, Is (.int .i64 r.2)]
def putV (x : Tx) (ps : List Pg) : Tx × Int :=
  if ps.any (fun p => !latB x.base p.l) = true then (Tx.nil, 16)
  else if ps.any (fun p => UV (latP x.base p.l).h != UV p.h) = true then (Tx.nil, 11)
  else if 12 < (mergeV x.wr ps).length then (Tx.nil, 18)
  else ({ x with wr := mergeV x.wr ps }, 0)
theorem anyP_take {f : Pg → Bool} {ls : List Pg} {k : Nat} {l : Pg} (h : ls[k]? = some l) : (ls.take (k + 1)).any f = ((ls.take k).any f || f l) := by
  rw [List.take_add_one, h, List.any_append]; simp
-- txn.Put: function 53
set_option maxHeartbeats 1000000 in
theorem Put_ok (x : Tx) (ps : List Pg) (hb1 : x.base.length ≤ 100000) (hb2 : x.chk.length ≤ 100000) (hb3 : x.wr.length ≤ 100000) (hb4 : ps.length ≤ 100000) : FnP Try.prog 53 [IsTx x, IsSl tPg ps] (IsPut (putV x ps)) := by
  refine FnP.enter Try.func53 Try.ntmps53 rfl rfl ?_
  intro c hX
  refine JC_seq ?_
  refine JC_region ?_
  (refine JL_n rfl (op_box (Ev.rfl' rfl) cellsT) ?_; intro i2)
  (refine JL_n rfl (op_allocN rfl nrmT rfl) ?_; intro i4)
  refine JL_1 rfl (op_assign rfl) ?_
  refine JL_nil ?_
  refine JQ_then (JC_seq (JC_seq ?_))
  refine JC_region ?_
  refine JL_1 rfl (op_move rfl) ?_
  refine JL_1 rfl (by first | exact op_len (Ev.rfl' rfl) rfl | exact op_lenLit (Ev.rfl' rfl) rfl) ?_
  refine JL_1 rfl (op_move rfl) ?_
  refine JL_nil ?_
  refine JQ_then (JC_block ?_)
  refine JC_loopP (fun k : Nat => k ≤ ps.length ∧ (ps.take k).any (fun p => !latB x.base p.l) = false) (fun k => [(1, IsSl tPg ps), (2, Is (.pointer (some ⟨i2, 0, none⟩))), (4, Is (.pointer (some ⟨i4, 0, none⟩))), (15, IsSl tPg ps), (16, Is (.int .i64 (ps.length : Nat))), (17, Is (.int .i64 (k : Nat)))]) (fun k => [blk i2 105 (txC x), blk i4 105 txZ]) (fun k => ps.length - k) 0 ⟨Nat.zero_le _, rfl⟩ esubT lessT ?_
  rintro k ⟨hk, hs⟩
  refine JC_seq ?_
  refine JC_region ?_
  refine JL_1 rfl (op_lss (Ev.rfl' rfl) (Ev.rfl' rfl)) ?_
  refine JL_nil ?_
  refine JQ_then (JC_seq ?_)
  refine JC_cond (Ev.rfl' rfl) (fun h2 => ?_) (fun h2 => ?_)
  · have hlt : k < ps.length := by have := of_decide_eq_true h2; omega
    clear h2
    obtain ⟨p, hz⟩ : ∃ z, ps[k]? = some z := ⟨ps[k], List.getElem?_eq_getElem hlt⟩
    have a1 := anyP_take (f := fun p => !latB x.base p.l) hz
    refine JC_skip (JQ_then (JC_seq (JC_block (JC_seq ?_))))
    refine JC_region ?_
    refine JL_1 rfl (by first | exact op_index (j := _) (Ev.rfl' rfl) (Ev.rfl' rfl) rfl rfl (by first | rfl | omega) hz | exact op_index (j := _) (Ev.rfl' rfl) (Ev.rfl' rfl) rfl rfl (by first | rfl | omega) (by assumption)) ?_
    refine JL_1 rfl (by first | exact op_loadRefsN (n := 9) (Ev.rfl' rfl) rfl rfl rfl (by rfl) nrmT | exact op_loadPtrsN (n := 9) (Ev.rfl' rfl) memT (by rfl) (by rfl) (by rfl) (by rfl) nrmT) ?_
    (refine JL_n rfl (op_allocN rfl nrmT rfl) ?_; intro i7)
    refine JL_s0 (op_storeN (Ev.rfl' rfl) (Ev.rfl' rfl) cellsT replT nrmT (by rfl) (by rfl) (by rfl)) ?_
    refine JL_nil ?_
    refine JQ_then (JC_seq ?_)
    refine JC_region ?_
    refine JL_1 rfl (by first | exact op_fieldPtr (k := 2) (Ev.rfl' rfl) rfl rfl rfl rfl | exact op_fieldRefN (k := 2) (Ev.rfl' rfl) rfl rfl rfl rfl nrmT) ?_
    refine JL_1 rfl (by first | exact op_loadRef (Ev.rfl' rfl) rfl rfl rfl | exact op_loadPtr (Ev.rfl' rfl) memT (by rfl) (by rfl) (by rfl)) ?_
    refine JL_1 rfl (by first | exact op_fieldPtr (k := 0) (Ev.rfl' rfl) rfl rfl rfl rfl | exact op_fieldRefN (k := 0) (Ev.rfl' rfl) rfl rfl rfl rfl nrmT) ?_
    refine JL_1 rfl (by first | exact op_loadRef (Ev.rfl' rfl) rfl rfl rfl | exact op_loadPtr (Ev.rfl' rfl) memT (by rfl) (by rfl) (by rfl)) ?_
    refine JL_1 rfl (op_call Try.call86 (LatestV_ok _ _) ⟨evS, ⟨evS, trivial⟩⟩) ?_
    refine JL_1 rfl (op_move rfl) ?_
    refine JL_1 rfl (op_extract (Ev.rfl' rfl) rfl) ?_
    refine JL_1 rfl (op_extract (Ev.rfl' rfl) rfl) ?_
    (refine JL_n rfl (op_allocN rfl nrmT rfl) ?_; intro i8)
    refine JL_s0 (op_storeN (Ev.rfl' rfl) (Ev.rfl' rfl) cellsT replT nrmT (by rfl) (by rfl) (by rfl)) ?_
    refine JL_1 rfl (op_assign rfl) ?_
    refine JL_nil ?_
    refine JQ_then (JC_seq ?_)
    refine JC_region ?_
    refine JL_1 rfl (op_move rfl) ?_
    refine JL_1 rfl (op_not (Ev.rfl' rfl)) ?_
    refine JL_nil ?_
    refine JQ_then ?_
    refine JC_cond (Ev.rfl' rfl) (fun h5 => ?_) (fun h5 => ?_)
    · have e : putV x ps = (Tx.nil, 16) := by
        unfold putV
        rw [if_pos (List.any_eq_true.2 ⟨p, List.mem_of_getElem? hz, h5⟩)]
      rw [e]
      refine JC_seq ?_
      refine JC_region ?_
      refine JL_1 rfl (op_buildN (qs := []) rfl rfl rfl rfl trivial (by rfl) nrmT) ?_
      refine JL_s0 (op_storeN (Ev.rfl' rfl) (Ev.rfl' rfl) cellsT replT nrmT (by rfl) (by rfl) (by rfl)) ?_
      refine JL_1 rfl (op_assign rfl) ?_
      refine JL_nil ?_
      refine JQ_then (JC_ret (JQ_block_ret (JQ_then_ret (JQ_then_ret (JQ_block_ret (JQ_then_ret ?_))))))
      exact JQ_ret (Bs := [IsTx Tx.nil, Is (.int .i64 16)]) Try.results53 ⟨⟨_, _, _, _, rfl, memT, rfl, .inr ⟨rfl, _, rfl, rfl, subT⟩⟩, ⟨⟨_, rfl, subT⟩, trivial⟩⟩ () SubL.rfl' (List.nil_sublist _)
    rw [hs, h5] at a1
    clear h5
    refine JC_skip (JQ_block (JQ_then ?_))
    refine JC_region ?_
    refine JL_1 rfl (op_add (Ev.rfl' rfl) (Ev.rfl' rfl) wrapT) ?_
    refine JL_1 rfl (op_move rfl) ?_
    refine JL_nil ?_
    exact JQ_roundP (k + 1) ⟨by omega, a1⟩ (by omega) esubT lessT
  have hke : k = ps.length := by have := of_decide_eq_false h2; omega
  subst hke
  clear h2
  rw [List.take_length] at hs
  have hs' : ¬ ps.any (fun p => !latB x.base p.l) = true := by rw [hs]; simp
  refine JC_exit (JQ_then_exit (JQ_then_exit (JQ_hit (JQ_then (JC_seq (JC_seq ?_))))))
  refine JC_region ?_
  refine JL_1 rfl (op_move rfl) ?_
  refine JL_1 rfl (by first | exact op_len (Ev.rfl' rfl) rfl | exact op_lenLit (Ev.rfl' rfl) rfl) ?_
  refine JL_1 rfl (op_move rfl) ?_
  refine JL_nil ?_
  refine JQ_then (JC_block ?_)
  refine JC_loopP (fun k : Nat => k ≤ ps.length ∧ (ps.take k).any (fun p => UV (latP x.base p.l).h != UV p.h) = false) (fun k => [(1, IsSl tPg ps), (2, Is (.pointer (some ⟨i2, 0, none⟩))), (4, Is (.pointer (some ⟨i4, 0, none⟩))), (33, IsSl tPg ps), (34, Is (.int .i64 (ps.length : Nat))), (35, Is (.int .i64 (k : Nat)))]) (fun k => [blk i2 105 (txC x), blk i4 105 txZ]) (fun k => ps.length - k) 0 ⟨Nat.zero_le _, rfl⟩ esubT lessT ?_
  rintro k ⟨hk, hn⟩
  refine JC_seq ?_
  refine JC_region ?_
  refine JL_1 rfl (op_lss (Ev.rfl' rfl) (Ev.rfl' rfl)) ?_
  refine JL_nil ?_
  refine JQ_then (JC_seq ?_)
  refine JC_cond (Ev.rfl' rfl) (fun h9 => ?_) (fun h9 => ?_)
  · have hlt : k < ps.length := by have := of_decide_eq_true h9; omega
    clear h9
    obtain ⟨p, hz⟩ : ∃ z, ps[k]? = some z := ⟨ps[k], List.getElem?_eq_getElem hlt⟩
    have a1 := anyP_take (f := fun p => UV (latP x.base p.l).h != UV p.h) hz
    refine JC_skip (JQ_then (JC_seq (JC_block (JC_seq ?_))))
    refine JC_region ?_
    refine JL_1 rfl (by first | exact op_index (j := _) (Ev.rfl' rfl) (Ev.rfl' rfl) rfl rfl (by first | rfl | omega) hz | exact op_index (j := _) (Ev.rfl' rfl) (Ev.rfl' rfl) rfl rfl (by first | rfl | omega) (by assumption)) ?_
    refine JL_1 rfl (by first | exact op_loadRefsN (n := 9) (Ev.rfl' rfl) rfl rfl rfl (by rfl) nrmT | exact op_loadPtrsN (n := 9) (Ev.rfl' rfl) memT (by rfl) (by rfl) (by rfl) (by rfl) nrmT) ?_
    (refine JL_n rfl (op_allocN rfl nrmT rfl) ?_; intro i11)
    refine JL_s0 (op_storeN (Ev.rfl' rfl) (Ev.rfl' rfl) cellsT replT nrmT (by rfl) (by rfl) (by rfl)) ?_
    refine JL_nil ?_
    refine JQ_then (JC_seq ?_)
    refine JC_region ?_
    refine JL_1 rfl (by first | exact op_fieldPtr (k := 2) (Ev.rfl' rfl) rfl rfl rfl rfl | exact op_fieldRefN (k := 2) (Ev.rfl' rfl) rfl rfl rfl rfl nrmT) ?_
    refine JL_1 rfl (by first | exact op_loadRef (Ev.rfl' rfl) rfl rfl rfl | exact op_loadPtr (Ev.rfl' rfl) memT (by rfl) (by rfl) (by rfl)) ?_
    refine JL_1 rfl (by first | exact op_fieldPtr (k := 0) (Ev.rfl' rfl) rfl rfl rfl rfl | exact op_fieldRefN (k := 0) (Ev.rfl' rfl) rfl rfl rfl rfl nrmT) ?_
    refine JL_1 rfl (by first | exact op_loadRef (Ev.rfl' rfl) rfl rfl rfl | exact op_loadPtr (Ev.rfl' rfl) memT (by rfl) (by rfl) (by rfl)) ?_
    refine JL_1 rfl (op_call Try.call86 (LatestV_ok _ _) ⟨evS, ⟨evS, trivial⟩⟩) ?_
    refine JL_1 rfl (op_move rfl) ?_
    refine JL_1 rfl (op_extract (Ev.rfl' rfl) rfl) ?_
    refine JL_1 rfl (op_extract (Ev.rfl' rfl) rfl) ?_
    (refine JL_n rfl (op_allocN rfl nrmT rfl) ?_; intro i12)
    refine JL_s0 (op_storeN (Ev.rfl' rfl) (Ev.rfl' rfl) cellsT replT nrmT (by rfl) (by rfl) (by rfl)) ?_
    refine JL_1 rfl (op_assign rfl) ?_
    refine JL_nil ?_
    refine JQ_then (JC_seq ?_)
    refine JC_region ?_
    refine JL_1 rfl (by first | exact op_fieldPtr (k := 1) (Ev.rfl' rfl) rfl rfl rfl rfl | exact op_fieldRefN (k := 1) (Ev.rfl' rfl) rfl rfl rfl rfl nrmT) ?_
    refine JL_1 rfl (by first | exact op_loadRef (Ev.rfl' rfl) rfl rfl rfl | exact op_loadPtr (Ev.rfl' rfl) memT (by rfl) (by rfl) (by rfl)) ?_
    refine JL_1 rfl (by first | exact op_fieldPtr (k := 1) (Ev.rfl' rfl) rfl rfl rfl rfl | exact op_fieldRefN (k := 1) (Ev.rfl' rfl) rfl rfl rfl rfl nrmT) ?_
    refine JL_1 rfl (by first | exact op_loadRef (Ev.rfl' rfl) rfl rfl rfl | exact op_loadPtr (Ev.rfl' rfl) memT (by rfl) (by rfl) (by rfl)) ?_
    refine JL_1 rfl (op_neq (Ev.rfl' rfl) (Ev.rfl' rfl)) ?_
    refine JL_nil ?_
    refine JQ_then ?_
    refine JC_cond (Ev.rfl' rfl) (fun h12 => ?_) (fun h12 => ?_)
    · have e : putV x ps = (Tx.nil, 11) := by
        unfold putV
        rw [if_neg hs', if_pos (List.any_eq_true.2 ⟨p, List.mem_of_getElem? hz, h12⟩)]
      rw [e]
      refine JC_seq ?_
      refine JC_region ?_
      refine JL_1 rfl (op_buildN (qs := []) rfl rfl rfl rfl trivial (by rfl) nrmT) ?_
      refine JL_s0 (op_storeN (Ev.rfl' rfl) (Ev.rfl' rfl) cellsT replT nrmT (by rfl) (by rfl) (by rfl)) ?_
      refine JL_1 rfl (op_assign rfl) ?_
      refine JL_nil ?_
      refine JQ_then (JC_ret (JQ_block_ret (JQ_then_ret (JQ_then_ret (JQ_block_ret (JQ_then_ret ?_))))))
      exact JQ_ret (Bs := [IsTx Tx.nil, Is (.int .i64 11)]) Try.results53 ⟨⟨_, _, _, _, rfl, memT, rfl, .inr ⟨rfl, _, rfl, rfl, subT⟩⟩, ⟨⟨_, rfl, subT⟩, trivial⟩⟩ () SubL.rfl' (List.nil_sublist _)
    rw [hn, h12] at a1
    clear h12
    refine JC_skip (JQ_block (JQ_then ?_))
    refine JC_region ?_
    refine JL_1 rfl (op_add (Ev.rfl' rfl) (Ev.rfl' rfl) wrapT) ?_
    refine JL_1 rfl (op_move rfl) ?_
    refine JL_nil ?_
    exact JQ_roundP (k + 1) ⟨by omega, a1⟩ (by omega) esubT lessT
  have hke : k = ps.length := by have := of_decide_eq_false h9; omega
  subst hke
  clear h9
  rw [List.take_length] at hn
  have hn' : ¬ ps.any (fun p => UV (latP x.base p.l).h != UV p.h) = true := by rw [hn]; simp
  have hml := merge_len x.wr ps
  refine JC_exit (JQ_then_exit (JQ_then_exit (JQ_hit (JQ_then (JC_seq ?_)))))
  refine JC_region ?_
  refine JL_1 rfl (by first | exact op_fieldPtr (k := 4) (Ev.rfl' rfl) rfl rfl rfl rfl | exact op_fieldRefN (k := 4) (Ev.rfl' rfl) rfl rfl rfl rfl nrmT) ?_
  refine JL_1 rfl (by first | exact op_loadRef (Ev.rfl' rfl) rfl rfl rfl | exact op_loadPtr (Ev.rfl' rfl) memT (by rfl) (by rfl) (by rfl)) ?_
  refine JL_1 rfl (op_move rfl) ?_
  refine JL_1 rfl (by first | ((refine op_call Try.call34 (Merge_ok _ _ ?_) ⟨evS, ⟨evS, trivial⟩⟩); all_goals (first | omega))) ?_
  refine JL_1 rfl (op_assign rfl) ?_
  refine JL_nil ?_
  refine JQ_then (JC_seq (JC_seq ?_))
  refine JC_region ?_
  refine JL_1 rfl (op_move rfl) ?_
  refine JL_1 rfl (by first | exact op_len (Ev.rfl' rfl) rfl | exact op_lenLit (Ev.rfl' rfl) rfl) ?_
  refine JL_1 rfl (op_gtr (Ev.rfl' rfl) (Ev.rfl' rfl)) ?_
  refine JL_nil ?_
  refine JQ_then ?_
  refine JC_cond (Ev.rfl' rfl) (fun h16 => ?_) (fun h16 => ?_)
  · have g : 12 < (mergeV x.wr ps).length := by have := of_decide_eq_true h16; omega
    have e : putV x ps = (Tx.nil, 18) := by unfold putV; rw [if_neg hs', if_neg hn', if_pos g]
    rw [e]
    refine JC_seq ?_
    refine JC_region ?_
    refine JL_1 rfl (op_buildN (qs := []) rfl rfl rfl rfl trivial (by rfl) nrmT) ?_
    refine JL_s0 (op_storeN (Ev.rfl' rfl) (Ev.rfl' rfl) cellsT replT nrmT (by rfl) (by rfl) (by rfl)) ?_
    refine JL_1 rfl (op_assign rfl) ?_
    refine JL_nil ?_
    refine JQ_then (JC_ret (JQ_then_ret ?_))
    exact JQ_ret (Bs := [IsTx Tx.nil, Is (.int .i64 18)]) Try.results53 ⟨⟨_, _, _, _, rfl, memT, rfl, .inr ⟨rfl, _, rfl, rfl, subT⟩⟩, ⟨⟨_, rfl, subT⟩, trivial⟩⟩ () SubL.rfl' (List.nil_sublist _)
  have g : ¬ 12 < (mergeV x.wr ps).length := by have := of_decide_eq_false h16; omega
  have e : putV x ps = ({ x with wr := mergeV x.wr ps }, 0) := by unfold putV; rw [if_neg hs', if_neg hn', if_neg g]
  rw [e]
  clear h16
  refine JC_skip (JQ_then (JC_seq ?_))
  refine JC_region ?_
  refine JL_1 rfl (by first | exact op_loadRefsN (n := 5) (Ev.rfl' rfl) rfl rfl rfl (by rfl) nrmT | exact op_loadPtrsN (n := 5) (Ev.rfl' rfl) memT (by rfl) (by rfl) (by rfl) (by rfl) nrmT) ?_
  refine JL_1 rfl (by first | ((refine op_call Try.call99 (copied_ok x ?_ ?_ ?_) ⟨evS, trivial⟩); all_goals (first | omega))) ?_
  refine JL_s0 (op_storeN (Ev.rfl' rfl) (Ev.rfl' rfl) cellsT replT nrmT (by rfl) (by rfl) (by rfl)) ?_
  refine JL_nil ?_
  refine JQ_then (JC_seq ?_)
  refine JC_region ?_
  refine JL_1 rfl (op_move rfl) ?_
  refine JL_1 rfl (by first | exact op_fieldPtr (k := 4) (Ev.rfl' rfl) rfl rfl rfl rfl | exact op_fieldRefN (k := 4) (Ev.rfl' rfl) rfl rfl rfl rfl nrmT) ?_
  refine JL_s0 (op_storeN (Ev.rfl' rfl) (Ev.rfl' rfl) cellsT replT nrmT (by rfl) (by rfl) (by rfl)) ?_
  refine JL_nil ?_
  refine JQ_then (JC_seq ?_)
  refine JC_region ?_
  refine JL_1 rfl (by first | exact op_loadRefsN (n := 5) (Ev.rfl' rfl) rfl rfl rfl (by rfl) nrmT | exact op_loadPtrsN (n := 5) (Ev.rfl' rfl) memT (by rfl) (by rfl) (by rfl) (by rfl) nrmT) ?_
  refine JL_s0 (op_storeN (Ev.rfl' rfl) (Ev.rfl' rfl) cellsT replT nrmT (by rfl) (by rfl) (by rfl)) ?_
  refine JL_1 rfl (op_assign rfl) ?_
  refine JL_nil ?_
  refine JQ_then (JC_ret ?_)
  exact JQ_ret (Bs := [IsTx { x with wr := mergeV x.wr ps }, Is (.int .i64 0)]) Try.results53 ⟨⟨_, _, _, _, rfl, memT, rfl, .inr ⟨rfl, _, rfl, rfl, subT⟩⟩, ⟨⟨_, rfl, subT⟩, trivial⟩⟩ () SubL.rfl' (List.nil_sublist _)
def relS (x : Tx) (ls : List Int) : Tx × Int :=
  if ls.any (fun l => !latB x.base l) = true then (Tx.nil, 16) else ({ x with chk := x.chk ++ ls }, 0)
-- txn.Rely: function 54
set_option maxHeartbeats 1000000 in
theorem RelyS_ok (x : Tx) (ls : List Int) (hb1 : x.base.length ≤ 100000) (hb3 : x.wr.length ≤ 100000) (hn : (x.chk ++ ls).length ≤ 1) : FnP Try.prog 54 [IsTx x, IsSl tI64 ls] (IsPut (relS x ls)) := by
  have hn2 : x.chk.length + ls.length ≤ 1 := by rw [← List.length_append]; exact hn
  refine FnP.enter Try.func54 Try.ntmps54 rfl rfl ?_
  intro c hX
  refine JC_seq ?_
  refine JC_region ?_
  (refine JL_n rfl (op_box (Ev.rfl' rfl) cellsT) ?_; intro i2)
  (refine JL_n rfl (op_allocN rfl nrmT rfl) ?_; intro i4)
  refine JL_1 rfl (op_assign rfl) ?_
  refine JL_nil ?_
  refine JQ_then (JC_seq (JC_seq ?_))
  refine JC_region ?_
  refine JL_1 rfl (op_move rfl) ?_
  refine JL_1 rfl (by first | exact op_len (Ev.rfl' rfl) rfl | exact op_lenLit (Ev.rfl' rfl) rfl) ?_
  refine JL_1 rfl (op_move rfl) ?_
  refine JL_nil ?_
  refine JQ_then (JC_block ?_)
  refine JC_loopP (fun k : Nat => k ≤ ls.length ∧ (ls.take k).any (fun l => !latB x.base l) = false) (fun k => [(1, IsSl tI64 ls), (2, Is (.pointer (some ⟨i2, 0, none⟩))), (4, Is (.pointer (some ⟨i4, 0, none⟩))), (10, IsSl tI64 ls), (11, Is (.int .i64 (ls.length : Nat))), (12, Is (.int .i64 (k : Nat)))]) (fun k => [blk i2 105 (txC x), blk i4 105 txZ]) (fun k => ls.length - k) 0 ⟨Nat.zero_le _, rfl⟩ esubT lessT ?_
  rintro k ⟨hk, hs⟩
  refine JC_seq ?_
  refine JC_region ?_
  refine JL_1 rfl (op_lss (Ev.rfl' rfl) (Ev.rfl' rfl)) ?_
  refine JL_nil ?_
  refine JQ_then (JC_seq ?_)
  refine JC_cond (Ev.rfl' rfl) (fun h2 => ?_) (fun h2 => ?_)
  · have hlt : k < ls.length := by have := of_decide_eq_true h2; omega
    clear h2
    obtain ⟨l, hz⟩ : ∃ z, ls[k]? = some z := ⟨ls[k], List.getElem?_eq_getElem hlt⟩
    have a1 := any_take (f := fun l => !latB x.base l) hz
    refine JC_skip (JQ_then (JC_seq (JC_block (JC_seq ?_))))
    refine JC_region ?_
    refine JL_1 rfl (by first | exact op_index (j := _) (Ev.rfl' rfl) (Ev.rfl' rfl) rfl rfl (by first | rfl | omega) hz | exact op_index (j := _) (Ev.rfl' rfl) (Ev.rfl' rfl) rfl rfl (by first | rfl | omega) (by assumption)) ?_
    refine JL_1 rfl (by first | exact op_loadRef (Ev.rfl' rfl) rfl rfl rfl | exact op_loadPtr (Ev.rfl' rfl) memT (by rfl) (by rfl) (by rfl)) ?_
    refine JL_1 rfl (op_assign rfl) ?_
    refine JL_nil ?_
    refine JQ_then (JC_seq ?_)
    refine JC_region ?_
    refine JL_1 rfl (by first | exact op_fieldPtr (k := 2) (Ev.rfl' rfl) rfl rfl rfl rfl | exact op_fieldRefN (k := 2) (Ev.rfl' rfl) rfl rfl rfl rfl nrmT) ?_
    refine JL_1 rfl (by first | exact op_loadRef (Ev.rfl' rfl) rfl rfl rfl | exact op_loadPtr (Ev.rfl' rfl) memT (by rfl) (by rfl) (by rfl)) ?_
    refine JL_1 rfl (op_move rfl) ?_
    refine JL_1 rfl (op_call Try.call86 (LatestV_ok _ _) ⟨evS, ⟨evS, trivial⟩⟩) ?_
    refine JL_1 rfl (op_move rfl) ?_
    refine JL_1 rfl (op_extract (Ev.rfl' rfl) rfl) ?_
    refine JL_1 rfl (op_extract (Ev.rfl' rfl) rfl) ?_
    (refine JL_n rfl (op_allocN rfl nrmT rfl) ?_; intro i8)
    refine JL_s0 (op_storeN (Ev.rfl' rfl) (Ev.rfl' rfl) cellsT replT nrmT (by rfl) (by rfl) (by rfl)) ?_
    refine JL_1 rfl (op_assign rfl) ?_
    refine JL_nil ?_
    refine JQ_then (JC_seq ?_)
    refine JC_region ?_
    refine JL_1 rfl (op_move rfl) ?_
    refine JL_1 rfl (op_not (Ev.rfl' rfl)) ?_
    refine JL_nil ?_
    refine JQ_then ?_
    refine JC_cond (Ev.rfl' rfl) (fun h5 => ?_) (fun h5 => ?_)
    · have e : relS x ls = (Tx.nil, 16) := by
        unfold relS
        rw [if_pos (List.any_eq_true.2 ⟨l, List.mem_of_getElem? hz, h5⟩)]
      rw [e]
      refine JC_seq ?_
      refine JC_region ?_
      refine JL_1 rfl (op_buildN (qs := []) rfl rfl rfl rfl trivial (by rfl) nrmT) ?_
      refine JL_s0 (op_storeN (Ev.rfl' rfl) (Ev.rfl' rfl) cellsT replT nrmT (by rfl) (by rfl) (by rfl)) ?_
      refine JL_1 rfl (op_assign rfl) ?_
      refine JL_nil ?_
      refine JQ_then (JC_ret (JQ_block_ret (JQ_then_ret (JQ_then_ret (JQ_block_ret (JQ_then_ret ?_))))))
      exact JQ_ret (Bs := [IsTx Tx.nil, Is (.int .i64 16)]) Try.results54 ⟨⟨_, _, _, _, rfl, memT, rfl, .inr ⟨rfl, _, rfl, rfl, subT⟩⟩, ⟨⟨_, rfl, subT⟩, trivial⟩⟩ () SubL.rfl' (List.nil_sublist _)
    rw [hs, h5] at a1
    clear h5
    refine JC_skip (JQ_block (JQ_then ?_))
    refine JC_region ?_
    refine JL_1 rfl (op_add (Ev.rfl' rfl) (Ev.rfl' rfl) wrapT) ?_
    refine JL_1 rfl (op_move rfl) ?_
    refine JL_nil ?_
    exact JQ_roundP (k + 1) ⟨by omega, a1⟩ (by omega) esubT lessT
  have hke : k = ls.length := by have := of_decide_eq_false h2; omega
  subst hke
  clear h2
  rw [List.take_length] at hs
  have hs' : ¬ ls.any (fun l => !latB x.base l) = true := by rw [hs]; simp
  have e : relS x ls = ({ x with chk := x.chk ++ ls }, 0) := by unfold relS; rw [if_neg hs']
  rw [e]
  refine JC_exit (JQ_then_exit (JQ_then_exit (JQ_hit (JQ_then (JC_seq ?_)))))
  refine JC_region ?_
  refine JL_1 rfl (by first | exact op_loadRefsN (n := 5) (Ev.rfl' rfl) rfl rfl rfl (by rfl) nrmT | exact op_loadPtrsN (n := 5) (Ev.rfl' rfl) memT (by rfl) (by rfl) (by rfl) (by rfl) nrmT) ?_
  (refine JL_s rfl (by first | ((refine op_callN Try.call99 (copiedN_ok x ?_ ?_ ?_) ⟨evS, trivial⟩); all_goals (first | omega))) ?_; intro i28)
  refine JL_s0 (op_storeN (Ev.rfl' rfl) (Ev.rfl' rfl) cellsT replT nrmT (by rfl) (by rfl) (by rfl)) ?_
  refine JL_nil ?_
  refine JQ_then (JC_seq ?_)
  refine JC_region ?_
  refine JL_1 rfl (by first | exact op_fieldPtr (k := 3) (Ev.rfl' rfl) rfl rfl rfl rfl | exact op_fieldRefN (k := 3) (Ev.rfl' rfl) rfl rfl rfl rfl nrmT) ?_
  refine JL_1 rfl (by first | exact op_loadRef (Ev.rfl' rfl) rfl rfl rfl | exact op_loadPtr (Ev.rfl' rfl) memT (by rfl) (by rfl) (by rfl)) ?_
  refine JL_1 rfl (op_move rfl) ?_
  (refine JL_s rfl (op_app (Ev.rfl' rfl) (fun _ => replT) evS (by exact appT rfl rfl rfl) lenT) ?_; intro i32)
  refine JL_1 rfl (by first | exact op_fieldPtr (k := 3) (Ev.rfl' rfl) rfl rfl rfl rfl | exact op_fieldRefN (k := 3) (Ev.rfl' rfl) rfl rfl rfl rfl nrmT) ?_
  refine JL_s0 (op_storeN (Ev.rfl' rfl) (Ev.rfl' rfl) cellsT replT nrmT (by rfl) (by rfl) (by rfl)) ?_
  refine JL_nil ?_
  refine JQ_then (JC_seq ?_)
  refine JC_region ?_
  refine JL_1 rfl (by first | exact op_fieldPtr (k := 3) (Ev.rfl' rfl) rfl rfl rfl rfl | exact op_fieldRefN (k := 3) (Ev.rfl' rfl) rfl rfl rfl rfl nrmT) ?_
  refine JL_1 rfl (by first | exact op_loadRef (Ev.rfl' rfl) rfl rfl rfl | exact op_loadPtr (Ev.rfl' rfl) memT (by rfl) (by rfl) (by rfl)) ?_
  refine JL_1 rfl (op_call Try.call100 (SortI_ok _ _ hn) ⟨evS, trivial⟩) ?_
  refine JL_nil ?_
  refine JQ_then (JC_seq ?_)
  refine JC_region ?_
  refine JL_1 rfl (by first | exact op_fieldPtr (k := 3) (Ev.rfl' rfl) rfl rfl rfl rfl | exact op_fieldRefN (k := 3) (Ev.rfl' rfl) rfl rfl rfl rfl nrmT) ?_
  refine JL_1 rfl (by first | exact op_loadRef (Ev.rfl' rfl) rfl rfl rfl | exact op_loadPtr (Ev.rfl' rfl) memT (by rfl) (by rfl) (by rfl)) ?_
  refine JL_1 rfl (op_call Try.call101 (CompactI_ok _ _ hn) ⟨evS, trivial⟩) ?_
  refine JL_1 rfl (by first | exact op_fieldPtr (k := 3) (Ev.rfl' rfl) rfl rfl rfl rfl | exact op_fieldRefN (k := 3) (Ev.rfl' rfl) rfl rfl rfl rfl nrmT) ?_
  refine JL_s0 (op_storeN (Ev.rfl' rfl) (Ev.rfl' rfl) cellsT replT nrmT (by rfl) (by rfl) (by rfl)) ?_
  refine JL_nil ?_
  refine JQ_then (JC_seq ?_)
  refine JC_region ?_
  refine JL_1 rfl (by first | exact op_loadRefsN (n := 5) (Ev.rfl' rfl) rfl rfl rfl (by rfl) nrmT | exact op_loadPtrsN (n := 5) (Ev.rfl' rfl) memT (by rfl) (by rfl) (by rfl) (by rfl) nrmT) ?_
  refine JL_s0 (op_storeN (Ev.rfl' rfl) (Ev.rfl' rfl) cellsT replT nrmT (by rfl) (by rfl) (by rfl)) ?_
  refine JL_1 rfl (op_assign rfl) ?_
  refine JL_nil ?_
  refine JQ_then (JC_ret ?_)
  refine JQ_freeze hX (v := slV (x.chk ++ ls).length i32) replT ?_
  exact JQ_ret (Bs := [IsTx { x with chk := x.chk ++ ls }, Is (.int .i64 0)]) Try.results54 ⟨⟨_, _, _, _, rfl, memT, rfl, .inr ⟨rfl, _, rfl, rfl, subT⟩⟩, ⟨⟨_, rfl, subT⟩, trivial⟩⟩ () SubL.rfl' (List.nil_sublist _)
def blkV (ms : List Pg) : Int × Int × Bool := match ms.find? lockB with
  | some p => (p.l, UV (p.h &&& 255#64) - 1, true)
  | none => (0, 0, false)
theorem find_some {ms : List Pg} {k : Nat} {p : Pg} (h : ms[k]? = some p) (hs : (ms.take k).any lockB = false) (hp : lockB p = true) : ms.find? lockB = some p := by
  obtain ⟨hk, rfl⟩ := List.getElem?_eq_some_iff.1 h
  rw [List.find?_eq_some_iff_getElem]
  refine ⟨hp, k, hk, rfl, fun j hj => ?_⟩
  have := List.any_eq_false.1 hs ms[j] (List.mem_of_getElem? (i := j) (by rw [List.getElem?_take_of_lt hj, List.getElem?_eq_getElem]))
  simpa using this
-- txn.Blocked: function 57
theorem Blocked_ok (xs : List Pg) (hb : xs.length ≤ 100000) : FnP Try.prog 57 [IsSl tPg xs] (IsTup [Is (.int .i64 (blkV (mergeV [] xs)).1), Is (.int .i64 (blkV (mergeV [] xs)).2.1), Is (.bool (blkV (mergeV [] xs)).2.2)]) := by
  refine FnP.enter Try.func57 Try.ntmps57 rfl rfl ?_
  intro c hX
  refine JC_seq ?_
  refine JC_region ?_
  refine JL_1 rfl (op_assign rfl) ?_
  refine JL_1 rfl (op_assign rfl) ?_
  refine JL_1 rfl (op_assign rfl) ?_
  refine JL_nil ?_
  refine JQ_then (JC_seq (JC_seq ?_))
  refine JC_region ?_
  refine JL_1 rfl (op_move rfl) ?_
  refine JL_1 rfl (by first | ((refine op_call Try.call34 (Merge_ok [] xs ?_) ⟨evS, ⟨evS, trivial⟩⟩); all_goals (first | simp; omega))) ?_
  refine JL_1 rfl (by first | exact op_len (Ev.rfl' rfl) rfl | exact op_lenLit (Ev.rfl' rfl) rfl) ?_
  refine JL_1 rfl (op_move rfl) ?_
  refine JL_nil ?_
  refine JQ_then (JC_block ?_)
  refine JC_loopP (fun k : Nat => k ≤ (mergeV [] xs).length ∧ ((mergeV [] xs).take k).any lockB = false) (fun k => [(8, IsSl tPg (mergeV [] xs)), (9, Is (.int .i64 ((mergeV [] xs).length : Nat))), (10, Is (.int .i64 (k : Nat)))]) (fun k => []) (fun k => (mergeV [] xs).length - k) 0 ⟨Nat.zero_le _, rfl⟩ esubT lessT ?_
  rintro k ⟨hk, hs⟩
  have hml := merge_len [] xs
  rw [List.length_nil] at hml
  refine JC_seq ?_
  refine JC_region ?_
  refine JL_1 rfl (op_lss (Ev.rfl' rfl) (Ev.rfl' rfl)) ?_
  refine JL_nil ?_
  refine JQ_then (JC_seq ?_)
  refine JC_cond (Ev.rfl' rfl) (fun h2 => ?_) (fun h2 => ?_)
  · have hlt : k < (mergeV [] xs).length := by have := of_decide_eq_true h2; omega
    clear h2
    obtain ⟨p, hz⟩ : ∃ z, (mergeV [] xs)[k]? = some z := ⟨(mergeV [] xs)[k], List.getElem?_eq_getElem hlt⟩
    have a1 := anyP_take (f := lockB) hz
    have hlo : 0 ≤ UV (p.h &&& BitVec.ofInt 64 255) ∧ UV (p.h &&& BitVec.ofInt 64 255) ≤ 255 := by
      rw [show UV (p.h &&& BitVec.ofInt 64 255) = (UV p.h).tmod 256 from (and255 p.h).symm, Int.tmod_eq_emod_of_nonneg (UV_nonneg _)]
      omega
    refine JC_skip (JQ_then (JC_seq (JC_block (JC_seq ?_))))
    refine JC_region ?_
    refine JL_1 rfl (by first | exact op_index (j := _) (Ev.rfl' rfl) (Ev.rfl' rfl) rfl rfl (by first | rfl | omega) hz | exact op_index (j := _) (Ev.rfl' rfl) (Ev.rfl' rfl) rfl rfl (by first | rfl | omega) (by assumption)) ?_
    refine JL_1 rfl (by first | exact op_loadRefsN (n := 9) (Ev.rfl' rfl) rfl rfl rfl (by rfl) nrmT | exact op_loadPtrsN (n := 9) (Ev.rfl' rfl) memT (by rfl) (by rfl) (by rfl) (by rfl) nrmT) ?_
    (refine JL_n rfl (op_allocN rfl nrmT rfl) ?_; intro i6)
    refine JL_s0 (op_storeN (Ev.rfl' rfl) (Ev.rfl' rfl) cellsT replT nrmT (by rfl) (by rfl) (by rfl)) ?_
    refine JL_nil ?_
    refine JQ_then (JC_seq ?_)
    refine JC_region ?_
    refine JL_1 rfl (by first | exact op_loadRefsN (n := 9) (Ev.rfl' rfl) rfl rfl rfl (by rfl) nrmT | exact op_loadPtrsN (n := 9) (Ev.rfl' rfl) memT (by rfl) (by rfl) (by rfl) (by rfl) nrmT) ?_
    refine JL_1 rfl (op_call Try.call88 (Locked_ok _) ⟨evS, trivial⟩) ?_
    refine JL_nil ?_
    refine JQ_then ?_
    refine JC_cond (Ev.rfl' rfl) (fun h4 => ?_) (fun h4 => ?_)
    · have e : blkV (mergeV [] xs) = (p.l, UV (p.h &&& 255#64) - 1, true) := by unfold blkV; rw [find_some hz hs h4]
      rw [e]
      refine JC_seq ?_
      refine JC_dr rfl (by kernel_rfl) ?_
      refine JD_stretch 10 (by kernel_rfl) ?_
      refine JW_1 (by first | exact op_fieldPtr (k := 0) (Ev.rfl' rfl) rfl rfl rfl rfl | exact op_fieldRefN (k := 0) (Ev.rfl' rfl) rfl rfl rfl rfl nrmT) ?_
      refine JW_1 (by first | exact op_loadRef (Ev.rfl' rfl) rfl rfl rfl | exact op_loadPtr (Ev.rfl' rfl) memT (by rfl) (by rfl) (by rfl)) ?_
      refine JW_1 (by first | exact op_fieldPtr (k := 1) (Ev.rfl' rfl) rfl rfl rfl rfl | exact op_fieldRefN (k := 1) (Ev.rfl' rfl) rfl rfl rfl rfl nrmT) ?_
      refine JW_1 (by first | exact op_loadRef (Ev.rfl' rfl) rfl rfl rfl | exact op_loadPtr (Ev.rfl' rfl) memT (by rfl) (by rfl) (by rfl)) ?_
      refine JW_1 (by first | exact op_bits ev64 ev64 (by simp) (and_u64 _ _) | exact op_bits (Ev.rfl' rfl) (Ev.rfl' rfl) (by simp) rfl) ?_
      refine JW_1 (op_conv (Ev.rfl' rfl) rfl rfl (wI64 (by omega))) ?_
      refine JW_1 (op_sub (Ev.rfl' rfl) (Ev.rfl' rfl) wrapT) ?_
      refine JW_1 (op_assign rfl) ?_
      refine JW_1 (op_assign rfl) ?_
      refine JW_1 (op_assign rfl) ?_
      refine ⟨rfl, ?_⟩
      refine JD_end ?_
      refine JQ_then (JC_ret (JQ_block_ret (JQ_then_ret (JQ_then_ret (JQ_block_ret (JQ_then_ret ?_))))))
      exact JQ_ret (Bs := [Is (.int .i64 p.l), Is (.int .i64 (UV (p.h &&& 255#64) - 1)), Is (.bool true)]) Try.results57 ⟨⟨_, rfl, subT⟩, ⟨⟨_, rfl, subT⟩, ⟨⟨_, rfl, subT⟩, trivial⟩⟩⟩ () SubL.rfl' (List.nil_sublist _)
    have h4' : lockB p = false := h4
    rw [hs, h4'] at a1
    clear h4
    refine JC_skip (JQ_block (JQ_then ?_))
    refine JC_region ?_
    refine JL_1 rfl (op_add (Ev.rfl' rfl) (Ev.rfl' rfl) wrapT) ?_
    refine JL_1 rfl (op_move rfl) ?_
    refine JL_nil ?_
    exact JQ_roundP (k + 1) ⟨by omega, a1⟩ (by omega) esubT lessT
  have hke : k = (mergeV [] xs).length := by have := of_decide_eq_false h2; omega
  subst hke
  clear h2
  rw [List.take_length] at hs
  have e : blkV (mergeV [] xs) = (0, 0, false) := by
    unfold blkV
    rw [List.find?_eq_none.2 fun p hp => by simpa using List.any_eq_false.1 hs p hp]
  rw [e]
  refine JC_exit (JQ_then_exit (JQ_then_exit (JQ_hit (JQ_then (JC_seq ?_)))))
  refine JC_region ?_
  refine JL_1 rfl (op_assign rfl) ?_
  refine JL_1 rfl (op_assign rfl) ?_
  refine JL_1 rfl (op_assign rfl) ?_
  refine JL_nil ?_
  refine JQ_then (JC_ret ?_)
  exact JQ_ret (Bs := [Is (.int .i64 0), Is (.int .i64 0), Is (.bool false)]) Try.results57 ⟨⟨_, rfl, subT⟩, ⟨⟨_, rfl, subT⟩, ⟨⟨_, rfl, subT⟩, trivial⟩⟩⟩ () SubL.rfl' (List.nil_sublist _)
end Go.Proofs.Ytpfojangcgffkaa

/- The example of the chapter on transactions. Own work. -/
namespace Go.Proofs.Ytpfojangcgffkaa
open Go.RowKit
set_option linter.unusedVariables false
set_option linter.unusedSimpArgs false
set_option maxRecDepth 100000
/-! ### The example of the chapter -/
def awP : Pg := ⟨110, 256#64, 0#64, 0#64, 0#64, 0#64, 0#64, 0#64, 0#64⟩
def awQ : Pg := ⟨110, 256#64, 5#64, 0#64, 0#64, 0#64, 0#64, 0#64, 0#64⟩
theorem aw_new : FnP Try.prog 49 [Is (.int .i64 0), Is (.int .i64 1)] (IsTup [IsTx ⟨0, 1, [], [], []⟩, Is (.int .i64 0)]) := TxNew_ok 0 1
theorem aw_load : FnP Try.prog 52 [IsTx ⟨0, 1, [], [], []⟩, IsSl tPg [awP]] (IsTx ⟨0, 1, [awP], [], []⟩) := TxLoad_ok ⟨0, 1, [], [], []⟩ [awP] (by decide) (by decide) (by decide) (by simp)
theorem aw_put : FnP Try.prog 53 [IsTx ⟨0, 1, [awP], [], []⟩, IsSl tPg [awQ]] (IsTup [IsTx ⟨0, 1, [awP], [], [awQ]⟩, Is (.int .i64 0)]) := Put_ok ⟨0, 1, [awP], [], []⟩ [awQ] (by simp) (by decide) (by decide) (by simp)
theorem aw_rely : FnP Try.prog 54 [IsTx ⟨0, 1, [awP], [], [awQ]⟩, IsSl tI64 [110]] (IsTup [IsTx ⟨0, 1, [awP], [110], [awQ]⟩, Is (.int .i64 0)]) := RelyS_ok ⟨0, 1, [awP], [], [awQ]⟩ [110] (by simp) (by simp) (by decide)
theorem aw_sets : FnP Try.prog 45 [IsTx ⟨0, 1, [awP], [110], [awQ]⟩] (IsTup [IsSl tSn [], IsSl tPg [awQ], Is (.int .i64 0)]) := Sets_ok ⟨0, 1, [awP], [110], [awQ]⟩ (by decide) (by simp)
-- bodegalaw28.awake: function 47
set_option maxHeartbeats 1000000 in
theorem awakeT_ok : FnP Try.prog 47 [] (Is (.bool true)) := by
  refine FnP.enter Try.func47 Try.ntmps47 rfl rfl ?_
  intro c hX
  refine JC_seq ?_
  refine JC_region ?_
  refine JL_1 rfl (op_assign rfl) ?_
  refine JL_nil ?_
  refine JQ_then (JC_seq ?_)
  refine JC_region ?_
  refine JL_1 rfl (op_call Try.call49 (aw_new) ⟨evS, ⟨evS, trivial⟩⟩) ?_
  refine JL_1 rfl (op_move rfl) ?_
  refine JL_1 rfl (op_extract (Ev.rfl' rfl) rfl) ?_
  refine JL_1 rfl (op_extract (Ev.rfl' rfl) rfl) ?_
  (refine JL_n rfl (op_allocN rfl nrmT rfl) ?_; intro i1)
  refine JL_s0 (op_storeN (Ev.rfl' rfl) (Ev.rfl' rfl) cellsT replT nrmT (by rfl) (by rfl) (by rfl)) ?_
  refine JL_1 rfl (op_assign rfl) ?_
  refine JL_nil ?_
  refine JQ_then (JC_seq ?_)
  refine JC_region ?_
  refine JL_1 rfl (op_buildN (qs := [(0, _), (1, _)]) rfl rfl rfl rfl ⟨⟨rfl, _, (Ev.rfl' rfl), cellsT⟩, ⟨⟨rfl, _, (Ev.rfl' rfl), cellsT⟩, trivial⟩⟩ (by rfl) nrmT) ?_
  (refine JL_n rfl (op_allocN rfl nrmT rfl) ?_; intro i3)
  refine JL_s0 (op_storeN (Ev.rfl' rfl) (Ev.rfl' rfl) cellsT replT nrmT (by rfl) (by rfl) (by rfl)) ?_
  refine JL_nil ?_
  refine JQ_then (JC_seq ?_)
  refine JC_region ?_
  refine JL_1 rfl (by first | exact op_loadRefsN (n := 5) (Ev.rfl' rfl) rfl rfl rfl (by rfl) nrmT | exact op_loadPtrsN (n := 5) (Ev.rfl' rfl) memT (by rfl) (by rfl) (by rfl) (by rfl) nrmT) ?_
  refine JL_1 rfl (by first | exact op_loadRefsN (n := 9) (Ev.rfl' rfl) rfl rfl rfl (by rfl) nrmT | exact op_loadPtrsN (n := 9) (Ev.rfl' rfl) memT (by rfl) (by rfl) (by rfl) (by rfl) nrmT) ?_
  refine JL_1 rfl (op_buildSlice (size := 9) (qs := [(0, _)]) rfl rfl rfl ⟨⟨rfl, _, (Ev.rfl' rfl), cellsT⟩, trivial⟩ (by rfl) (by rfl)) ?_
  refine JL_1 rfl (op_call Try.call52 (aw_load) ⟨evS, ⟨evS, trivial⟩⟩) ?_
  refine JL_s0 (op_storeN (Ev.rfl' rfl) (Ev.rfl' rfl) cellsT replT nrmT (by rfl) (by rfl) (by rfl)) ?_
  refine JL_nil ?_
  refine JQ_then (JC_seq ?_)
  refine JC_region ?_
  refine JL_1 rfl (by first | exact op_loadRefsN (n := 9) (Ev.rfl' rfl) rfl rfl rfl (by rfl) nrmT | exact op_loadPtrsN (n := 9) (Ev.rfl' rfl) memT (by rfl) (by rfl) (by rfl) (by rfl) nrmT) ?_
  (refine JL_n rfl (op_allocN rfl nrmT rfl) ?_; intro i4)
  refine JL_s0 (op_storeN (Ev.rfl' rfl) (Ev.rfl' rfl) cellsT replT nrmT (by rfl) (by rfl) (by rfl)) ?_
  refine JL_nil ?_
  refine JQ_then (JC_seq ?_)
  refine JC_region ?_
  refine JL_1 rfl (by first | exact op_fieldPtr (k := 2) (Ev.rfl' rfl) rfl rfl rfl rfl | exact op_fieldRefN (k := 2) (Ev.rfl' rfl) rfl rfl rfl rfl nrmT) ?_
  refine JL_1 rfl (op_indexArr (k := 0) (sz := 1) (Ev.rfl' rfl) (Ev.rfl' rfl) rfl rfl idxT (by first | decide | omega)) ?_
  refine JL_s0 (op_storeN (Ev.rfl' rfl) (Ev.rfl' rfl) cellsT replT nrmT (by rfl) (by rfl) (by rfl)) ?_
  refine JL_nil ?_
  refine JQ_then (JC_seq ?_)
  refine JC_region ?_
  refine JL_1 rfl (by first | exact op_loadRefsN (n := 5) (Ev.rfl' rfl) rfl rfl rfl (by rfl) nrmT | exact op_loadPtrsN (n := 5) (Ev.rfl' rfl) memT (by rfl) (by rfl) (by rfl) (by rfl) nrmT) ?_
  refine JL_1 rfl (by first | exact op_loadRefsN (n := 9) (Ev.rfl' rfl) rfl rfl rfl (by rfl) nrmT | exact op_loadPtrsN (n := 9) (Ev.rfl' rfl) memT (by rfl) (by rfl) (by rfl) (by rfl) nrmT) ?_
  refine JL_1 rfl (op_buildSlice (size := 9) (qs := [(0, _)]) rfl rfl rfl ⟨⟨rfl, _, (Ev.rfl' rfl), cellsT⟩, trivial⟩ (by rfl) (by rfl)) ?_
  refine JL_1 rfl (op_call Try.call53 (aw_put) ⟨evS, ⟨evS, trivial⟩⟩) ?_
  refine JL_1 rfl (op_move rfl) ?_
  refine JL_1 rfl (op_extract (Ev.rfl' rfl) rfl) ?_
  refine JL_1 rfl (op_extract (Ev.rfl' rfl) rfl) ?_
  refine JL_s0 (op_storeN (Ev.rfl' rfl) (Ev.rfl' rfl) cellsT replT nrmT (by rfl) (by rfl) (by rfl)) ?_
  refine JL_1 rfl (op_assign rfl) ?_
  refine JL_nil ?_
  refine JQ_then (JC_seq ?_)
  refine JC_region ?_
  refine JL_1 rfl (by first | exact op_loadRefsN (n := 5) (Ev.rfl' rfl) rfl rfl rfl (by rfl) nrmT | exact op_loadPtrsN (n := 5) (Ev.rfl' rfl) memT (by rfl) (by rfl) (by rfl) (by rfl) nrmT) ?_
  refine JL_1 rfl (op_buildSlice (size := 1) (qs := [(0, _)]) rfl rfl rfl ⟨⟨rfl, _, (Ev.rfl' rfl), cellsT⟩, trivial⟩ (by rfl) (by rfl)) ?_
  refine JL_1 rfl (op_call Try.call54 (aw_rely) ⟨evS, ⟨evS, trivial⟩⟩) ?_
  refine JL_1 rfl (op_move rfl) ?_
  refine JL_1 rfl (op_extract (Ev.rfl' rfl) rfl) ?_
  refine JL_1 rfl (op_extract (Ev.rfl' rfl) rfl) ?_
  refine JL_s0 (op_storeN (Ev.rfl' rfl) (Ev.rfl' rfl) cellsT replT nrmT (by rfl) (by rfl) (by rfl)) ?_
  refine JL_1 rfl (op_assign rfl) ?_
  refine JL_nil ?_
  refine JQ_then (JC_seq ?_)
  refine JC_region ?_
  refine JL_1 rfl (by first | exact op_loadRefsN (n := 5) (Ev.rfl' rfl) rfl rfl rfl (by rfl) nrmT | exact op_loadPtrsN (n := 5) (Ev.rfl' rfl) memT (by rfl) (by rfl) (by rfl) (by rfl) nrmT) ?_
  refine JL_1 rfl (op_call Try.call45 (aw_sets) ⟨evS, trivial⟩) ?_
  refine JL_1 rfl (op_move rfl) ?_
  refine JL_1 rfl (op_extract (Ev.rfl' rfl) rfl) ?_
  refine JL_1 rfl (op_extract (Ev.rfl' rfl) rfl) ?_
  refine JL_1 rfl (op_extract (Ev.rfl' rfl) rfl) ?_
  refine JL_1 rfl (op_assign rfl) ?_
  refine JL_1 rfl (op_assign rfl) ?_
  refine JL_1 rfl (op_assign rfl) ?_
  refine JL_nil ?_
  refine JQ_then (JC_seq ?_)
  refine JC_region ?_
  refine JL_1 rfl (op_move rfl) ?_
  refine JL_1 rfl (op_eql (Ev.rfl' rfl) (Ev.rfl' rfl)) ?_
  refine JL_1 rfl (op_move rfl) ?_
  (first | refine JL_i0 rfl rfl rfl (fun hg => (by have hg0 := hg; (try simp at hg); first | exact op_moveE (Ev.sub rfl (SubL.iteT (by first | assumption | (simp; done) | (simp; omega) | (simp_all; done)) SubL.rfl')) | exact op_moveE (Ev.rfl' rfl))) ?_ | refine JL_i rfl rfl rfl (fun hp hg => (by have hpg := Bool.and_eq_true_iff.2 ⟨hp, hg⟩; have hg0 := hg; (try simp at hg); first | exact op_moveE (Ev.sub rfl (SubL.iteT (by first | assumption | (simp; done) | (simp; omega) | (simp_all; done)) SubL.rfl')) | exact op_moveE (Ev.rfl' rfl))) ?_)
  (first | refine JL_i0 rfl rfl rfl (fun hg => (by have hg0 := hg; (try simp at hg); exact op_eql evG evG)) ?_ | refine JL_i rfl rfl rfl (fun hp hg => (by have hpg := Bool.and_eq_true_iff.2 ⟨hp, hg⟩; have hg0 := hg; (try simp at hg); exact op_eql evG evG)) ?_)
  refine JL_1 rfl (op_and (Ev.rfl' rfl) rfl (fun h => by first | exact SubL.rfl' | exact SubL.iteT (by first | (rw [h]; rfl) | (simp_all; done)) SubL.rfl')) ?_
  refine JL_1 rfl (op_move rfl) ?_
  (first | refine JL_i0 rfl rfl rfl (fun hg => (by have hg0 := hg; (try simp at hg); first | exact op_moveE (Ev.sub rfl (SubL.iteT (by first | assumption | (simp; done) | (simp; omega) | (simp_all; done)) SubL.rfl')) | exact op_moveE (Ev.rfl' rfl))) ?_ | refine JL_i rfl rfl rfl (fun hp hg => (by have hpg := Bool.and_eq_true_iff.2 ⟨hp, hg⟩; have hg0 := hg; (try simp at hg); first | exact op_moveE (Ev.sub rfl (SubL.iteT (by first | assumption | (simp; done) | (simp; omega) | (simp_all; done)) SubL.rfl')) | exact op_moveE (Ev.rfl' rfl))) ?_)
  (first | refine JL_i0 rfl rfl rfl (fun hg => (by have hg0 := hg; (try simp at hg); exact op_eql evG evG)) ?_ | refine JL_i rfl rfl rfl (fun hp hg => (by have hpg := Bool.and_eq_true_iff.2 ⟨hp, hg⟩; have hg0 := hg; (try simp at hg); exact op_eql evG evG)) ?_)
  refine JL_1 rfl (op_and (Ev.rfl' rfl) rfl (fun h => by first | exact SubL.rfl' | exact SubL.iteT (by first | (rw [h]; rfl) | (simp_all; done)) SubL.rfl')) ?_
  refine JL_1 rfl (op_move rfl) ?_
  (first | refine JL_i0 rfl rfl rfl (fun hg => (by have hg0 := hg; (try simp at hg); first | exact op_moveE (Ev.sub rfl (SubL.iteT (by first | assumption | (simp; done) | (simp; omega) | (simp_all; done)) SubL.rfl')) | exact op_moveE (Ev.rfl' rfl))) ?_ | refine JL_i rfl rfl rfl (fun hp hg => (by have hpg := Bool.and_eq_true_iff.2 ⟨hp, hg⟩; have hg0 := hg; (try simp at hg); first | exact op_moveE (Ev.sub rfl (SubL.iteT (by first | assumption | (simp; done) | (simp; omega) | (simp_all; done)) SubL.rfl')) | exact op_moveE (Ev.rfl' rfl))) ?_)
  (first | refine JL_i0 rfl rfl rfl (fun hg => (by have hg0 := hg; (try simp at hg); exact op_eql evG evG)) ?_ | refine JL_i rfl rfl rfl (fun hp hg => (by have hpg := Bool.and_eq_true_iff.2 ⟨hp, hg⟩; have hg0 := hg; (try simp at hg); exact op_eql evG evG)) ?_)
  refine JL_1 rfl (op_and (Ev.rfl' rfl) rfl (fun h => by first | exact SubL.rfl' | exact SubL.iteT (by first | (rw [h]; rfl) | (simp_all; done)) SubL.rfl')) ?_
  refine JL_1 rfl (op_move rfl) ?_
  (first | refine JL_i0 rfl rfl rfl (fun hg => (by have hg0 := hg; (try simp at hg); first | exact op_moveE (Ev.sub rfl (SubL.iteT (by first | assumption | (simp; done) | (simp; omega) | (simp_all; done)) SubL.rfl')) | exact op_moveE (Ev.rfl' rfl))) ?_ | refine JL_i rfl rfl rfl (fun hp hg => (by have hpg := Bool.and_eq_true_iff.2 ⟨hp, hg⟩; have hg0 := hg; (try simp at hg); first | exact op_moveE (Ev.sub rfl (SubL.iteT (by first | assumption | (simp; done) | (simp; omega) | (simp_all; done)) SubL.rfl')) | exact op_moveE (Ev.rfl' rfl))) ?_)
  (first | refine JL_i0 rfl rfl rfl (fun hg => (by have hg0 := hg; (try simp at hg); first | exact op_len evG rfl | exact op_lenLit evG rfl)) ?_ | refine JL_i rfl rfl rfl (fun hp hg => (by have hpg := Bool.and_eq_true_iff.2 ⟨hp, hg⟩; have hg0 := hg; (try simp at hg); first | exact op_len evG rfl | exact op_lenLit evG rfl)) ?_)
  (first | refine JL_i0 rfl rfl rfl (fun hg => (by have hg0 := hg; (try simp at hg); exact op_eql evG evG)) ?_ | refine JL_i rfl rfl rfl (fun hp hg => (by have hpg := Bool.and_eq_true_iff.2 ⟨hp, hg⟩; have hg0 := hg; (try simp at hg); exact op_eql evG evG)) ?_)
  refine JL_1 rfl (op_and (Ev.rfl' rfl) rfl (fun h => by first | exact SubL.rfl' | exact SubL.iteT (by first | (rw [h]; rfl) | (simp_all; done)) SubL.rfl')) ?_
  refine JL_1 rfl (op_move rfl) ?_
  (first | refine JL_i0 rfl rfl rfl (fun hg => (by have hg0 := hg; (try simp at hg); first | exact op_moveE (Ev.sub rfl (SubL.iteT (by first | assumption | (simp; done) | (simp; omega) | (simp_all; done)) SubL.rfl')) | exact op_moveE (Ev.rfl' rfl))) ?_ | refine JL_i rfl rfl rfl (fun hp hg => (by have hpg := Bool.and_eq_true_iff.2 ⟨hp, hg⟩; have hg0 := hg; (try simp at hg); first | exact op_moveE (Ev.sub rfl (SubL.iteT (by first | assumption | (simp; done) | (simp; omega) | (simp_all; done)) SubL.rfl')) | exact op_moveE (Ev.rfl' rfl))) ?_)
  (first | refine JL_i0 rfl rfl rfl (fun hg => (by have hg0 := hg; (try simp at hg); first | exact op_len evG rfl | exact op_lenLit evG rfl)) ?_ | refine JL_i rfl rfl rfl (fun hp hg => (by have hpg := Bool.and_eq_true_iff.2 ⟨hp, hg⟩; have hg0 := hg; (try simp at hg); first | exact op_len evG rfl | exact op_lenLit evG rfl)) ?_)
  (first | refine JL_i0 rfl rfl rfl (fun hg => (by have hg0 := hg; (try simp at hg); exact op_eql evG evG)) ?_ | refine JL_i rfl rfl rfl (fun hp hg => (by have hpg := Bool.and_eq_true_iff.2 ⟨hp, hg⟩; have hg0 := hg; (try simp at hg); exact op_eql evG evG)) ?_)
  refine JL_1 rfl (op_and (Ev.rfl' rfl) rfl (fun h => by first | exact SubL.rfl' | exact SubL.iteT (by first | (rw [h]; rfl) | (simp_all; done)) SubL.rfl')) ?_
  refine JL_1 rfl (op_assign rfl) ?_
  refine JL_nil ?_
  refine JQ_then (JC_ret ?_)
  refine JQ_ret1 Try.results47 rfl () (SubL.eq ?_) (List.nil_sublist _)
  rfl
end Go.Proofs.Ytpfojangcgffkaa

/- Plain laws of sets. Own work. -/
namespace Go.Proofs.Ytpfojangcgffkaa
open Go.RowKit
set_option linter.unusedVariables false
set_option linter.unusedSimpArgs false
set_option maxRecDepth 100000
/-! ### The plain law -/
@[reducible] def AscI (l : List Int) : Prop := l.Pairwise fun x y => x < y
theorem mem_lines {x : Int} : ∀ {l : List Int} {y : Int}, y ∈ linesV l x ↔ y = x ∨ y ∈ l
  | [], y => by simp [linesV]
  | z :: l, y => by
    unfold linesV
    split
    · rw [List.mem_cons, mem_lines, List.mem_cons]
      constructor
      · rintro (h | h | h)
        · exact .inr (.inl h)
        · exact .inl h
        · exact .inr (.inr h)
      · rintro (h | h | h)
        · exact .inr (.inl h)
        · exact .inl h
        · exact .inr (.inr h)
    · split
      · rename_i he
        subst he
        rw [List.mem_cons]
        constructor
        · exact .inr
        · rintro (h | h)
          · exact .inl h
          · exact h
      · rw [List.mem_cons]
theorem asc_lines {x : Int} : ∀ {l : List Int}, AscI l → AscI (linesV l x)
  | [], _ => List.pairwise_singleton _ _
  | z :: l, h => by
    obtain ⟨h1, h2⟩ := List.pairwise_cons.1 h
    unfold linesV
    split
    · rename_i hz
      refine List.pairwise_cons.2 ⟨fun y hy => ?_, asc_lines h2⟩
      rcases mem_lines.1 hy with rfl | h3
      · exact hz
      · exact h1 y h3
    · rename_i hz
      split
      · exact h
      · rename_i he
        refine List.pairwise_cons.2 ⟨fun y hy => ?_, h⟩
        rcases List.mem_cons.1 hy with rfl | hy
        · omega
        · have := h1 y hy; omega
theorem mem_foldL {y : Int} : ∀ {ls W : List Int}, y ∈ foldL W ls ↔ y ∈ W ∨ y ∈ ls
  | [], W => by simp [foldL]
  | x :: ls, W => by
    have e : foldL W (x :: ls) = foldL (linesV W x) ls := rfl
    rw [e, mem_foldL, mem_lines, List.mem_cons]
    constructor
    · rintro ((h | h) | h)
      · exact .inr (.inl h)
      · exact .inl h
      · exact .inr (.inr h)
    · rintro (h | h | h)
      · exact .inl (.inr h)
      · exact .inl (.inl h)
      · exact .inr h
theorem asc_foldL : ∀ {ls W : List Int}, AscI W → AscI (foldL W ls)
  | [], _, h => h
  | x :: ls, W, h => by
    have e : foldL W (x :: ls) = foldL (linesV W x) ls := rfl
    rw [e]
    exact asc_foldL (asc_lines h)
theorem ascI_ext : ∀ {xs ys : List Int}, AscI xs → AscI ys → (∀ x, x ∈ xs ↔ x ∈ ys) → xs = ys
  | [], [], _, _, _ => rfl
  | [], y :: ys, _, _, h => by have := (h y).2 (List.mem_cons_self ..); simp at this
  | x :: xs, [], _, _, h => by have := (h x).1 (List.mem_cons_self ..); simp at this
  | x :: xs, y :: ys, h1, h2, h => by
    obtain ⟨a1, a2⟩ := List.pairwise_cons.1 h1
    obtain ⟨b1, b2⟩ := List.pairwise_cons.1 h2
    have hxy : x = y := by
      rcases List.mem_cons.1 ((h x).1 (List.mem_cons_self ..)) with e | hx
      · exact e
      · rcases List.mem_cons.1 ((h y).2 (List.mem_cons_self ..)) with e | hy
        · exact e.symm
        · have := b1 x hx; have := a1 y hy; omega
    subst hxy
    refine congrArg _ (ascI_ext a2 b2 fun z => ⟨fun hz => ?_, fun hz => ?_⟩)
    · rcases List.mem_cons.1 ((h z).1 (List.mem_cons_of_mem _ hz)) with e | hz'
      · subst e; have := a1 z hz; omega
      · exact hz'
    · rcases List.mem_cons.1 ((h z).2 (List.mem_cons_of_mem _ hz)) with e | hz'
      · subst e; have := b1 z hz; omega
      · exact hz'
theorem lat_mem {ws : List Pg} {l : Int} : latB ws l = true ↔ l ∈ ws.map Pg.l := by
  unfold latB latO
  rw [Option.isSome_iff_ne_none, Ne, List.getLast?_eq_none_iff, List.mem_map]
  constructor
  · intro h
    obtain ⟨p, hp⟩ := List.exists_mem_of_ne_nil _ h
    rw [List.mem_filter] at hp
    exact ⟨p, hp.1, by simpa using hp.2⟩
  · rintro ⟨p, hp, rfl⟩ hnil
    have : p ∈ ws.filter (fun q => decide (q.l = p.l)) := List.mem_filter.2 ⟨hp, by simp⟩
    rw [hnil] at this
    cases this
theorem mem_moL {m : Mo} {l : Int} : l ∈ moL m ↔ l ∈ m.chk ++ m.wr.map Pg.l := by
  unfold moL
  rw [mem_foldL, mem_foldL, List.mem_append]
  simp
theorem any_mem {f : Int → Bool} {xs ys : List Int} (h : ∀ l, l ∈ xs ↔ l ∈ ys) : xs.any f = ys.any f := by
  rw [Bool.eq_iff_iff, List.any_eq_true, List.any_eq_true]
  exact ⟨fun ⟨l, h1, h2⟩ => ⟨l, (h l).1 h1, h2⟩, fun ⟨l, h1, h2⟩ => ⟨l, (h l).2 h1, h2⟩⟩
theorem sets_same {x : Tx} {m : Mo} (h1 : m.base = x.base) (h2 : m.wr = x.wr) (h3 : m.chk = x.chk) (ha : AscI x.chk) : setsV x (conL x) x.chk = setsV (moX m) (moL m) (moL m) := by
  obtain ⟨mb, mw, mc⟩ := m
  dsimp only at h1 h2 h3
  subst h1 h2 h3
  have hm : ∀ l, l ∈ moL ⟨x.base, x.wr, x.chk⟩ ↔ l ∈ conL x := fun l => mem_moL
  have hr : rdL (moX ⟨x.base, x.wr, x.chk⟩) (moL ⟨x.base, x.wr, x.chk⟩) = rdL x x.chk := by
    have e : (moL ⟨x.base, x.wr, x.chk⟩).filter (fun l => !latB x.wr l) = x.chk.filter fun l => !latB x.wr l := by
      refine ascI_ext (List.Pairwise.filter _ (asc_foldL (asc_foldL List.Pairwise.nil))) (List.Pairwise.filter _ ha) fun l => ?_
      rw [List.mem_filter, List.mem_filter, hm]
      unfold conL
      rw [List.mem_append]
      constructor
      · rintro ⟨h4 | h4, h5⟩
        · exact ⟨h4, h5⟩
        · rw [lat_mem.2 h4] at h5; cases h5
      · rintro ⟨h4, h5⟩
        exact ⟨.inl h4, h5⟩
    unfold rdL
    exact congrArg (fun s : List Int => s.map fun l => (⟨l, (latP x.base l).h⟩ : Sn)) e
  unfold setsV
  rw [hr, any_mem hm, any_mem hm]
  rfl
end Go.Proofs.Ytpfojangcgffkaa

/- The shelf's sort of ints, laid at this seat: printed by wip/seg/gensh.py. Own work; the contract is the kit's. -/
namespace Go.Proofs.Ytpfojangcgffkaa
open Go.RowKit
set_option linter.unusedVariables false
set_option linter.unusedSimpArgs false
def shRen : Go.Shelf.Ren := ⟨fun | 125 => 122 | 128 => 141 | 129 => 142 | 189 => 100 | 215 => 131 | 216 => 138 | 257 => 121 | 294 => 132 | 295 => 133 | 296 => 134 | 297 => 135 | 298 => 136 | 299 => 137 | 300 => 139 | 301 => 140 | 328 => 153 | 329 => 154 | 330 => 155 | 331 => 156 | 332 => 157 | 343 => 163 | n => n, fun | 0 => 0 | 3 => 3 | 4 => 4 | 5 => 5 | 9 => 9 | 28 => 81 | 46 => 38 | 51 => 26 | 53 => 22 | 131 => 166 | 182 => 213 | 183 => 214 | 218 => 225 | 222 => 229 | 228 => 236 | 229 => 237 | n => n, fun n => n⟩
theorem shLays : Lays.n189 Try.prog shRen := {
  mixed := by kernel_rfl
  f125 := Try.func122.trans (congrArg some (by kernel_rfl))
  f128 := Try.func141.trans (congrArg some (by kernel_rfl))
  f129 := Try.func142.trans (congrArg some (by kernel_rfl))
  f189 := Try.func100.trans (congrArg some (by kernel_rfl))
  f215 := Try.func131.trans (congrArg some (by kernel_rfl))
  f216 := Try.func138.trans (congrArg some (by kernel_rfl))
  f257 := Try.func121.trans (congrArg some (by kernel_rfl))
  f294 := Try.func132.trans (congrArg some (by kernel_rfl))
  f295 := Try.func133.trans (congrArg some (by kernel_rfl))
  f296 := Try.func134.trans (congrArg some (by kernel_rfl))
  f297 := Try.func135.trans (congrArg some (by kernel_rfl))
  f298 := Try.func136.trans (congrArg some (by kernel_rfl))
  f299 := Try.func137.trans (congrArg some (by kernel_rfl))
  f300 := Try.func139.trans (congrArg some (by kernel_rfl))
  f301 := Try.func140.trans (congrArg some (by kernel_rfl))
  f328 := Try.func153.trans (congrArg some (by kernel_rfl))
  f329 := Try.func154.trans (congrArg some (by kernel_rfl))
  f330 := Try.func155.trans (congrArg some (by kernel_rfl))
  f331 := Try.func156.trans (congrArg some (by kernel_rfl))
  f332 := Try.func157.trans (congrArg some (by kernel_rfl))
  f343 := Try.func163.trans (congrArg some (by kernel_rfl))
  t0 := Try.underlying0
  a0 := Try.isAgg0
  z0 := Try.sizeOf0
  v0 := Try.zeroValue0
  t3 := Try.underlying3
  a3 := Try.isAgg3
  z3 := Try.sizeOf3
  v3 := Try.zeroValue3
  t4 := Try.underlying4
  a4 := Try.isAgg4
  z4 := Try.sizeOf4
  v4 := Try.zeroValue4
  t5 := Try.underlying5
  a5 := Try.isAgg5
  z5 := Try.sizeOf5
  v5 := Try.zeroValue5
  t9 := Try.underlying9
  a9 := Try.isAgg9
  z9 := Try.sizeOf9
  v9 := Try.zeroValue9
  t28 := Try.underlying81
  a28 := Try.isAgg81
  z28 := Try.sizeOf81
  v28 := Try.zeroValue81
  t46 := Try.underlying38
  a46 := Try.isAgg38
  z46 := Try.sizeOf38
  v46 := Try.zeroValue38
  t51 := Try.underlying26
  a51 := Try.isAgg26
  z51 := Try.sizeOf26
  v51 := Try.zeroValue26
  t53 := Try.underlying22
  a53 := Try.isAgg22
  z53 := Try.sizeOf22
  v53 := Try.zeroValue22
  t131 := Try.underlying166
  a131 := Try.isAgg166
  z131 := Try.sizeOf166
  v131 := Try.zeroValue166
  t182 := Try.underlying213
  a182 := Try.isAgg213
  z182 := Try.sizeOf213
  v182 := Try.zeroValue213
  t183 := Try.underlying214
  a183 := Try.isAgg214
  z183 := Try.sizeOf214
  v183 := Try.zeroValue214
  t218 := Try.underlying225
  a218 := Try.isAgg225
  z218 := Try.sizeOf225
  v218 := Try.zeroValue225
  t222 := Try.underlying229
  a222 := Try.isAgg229
  z222 := Try.sizeOf229
  v222 := Try.zeroValue229
  t228 := Try.underlying236
  a228 := Try.isAgg236
  z228 := Try.sizeOf236
  v228 := Try.zeroValue236
  t229 := Try.underlying237
  a229 := Try.isAgg237
  z229 := Try.sizeOf237
  v229 := Try.zeroValue237
}
end Go.Proofs.Ytpfojangcgffkaa

/- Contracts: numbers sorted, and each once, in memory of one's own: the shelf's contracts in our words. Own work. -/
namespace Go.Proofs.Ytpfojangcgffkaa
open Go.RowKit
set_option linter.unusedVariables false
set_option linter.unusedSimpArgs false
set_option maxRecDepth 100000
def srtI (xs : List Int) : List Int := xs.mergeSort fun x y => decide (x ≤ y)
theorem srtI_len (xs : List Int) : (srtI xs).length = xs.length := List.length_mergeSort ..
theorem ints_flat {φ : Fz} : ∀ {xs : List Int} {flat : List Value}, Alls φ (xs.flatMap tI64.cells) flat → flat = xs.map (Value.int .i64)
  | [], [], _ => rfl
  | x :: xs, v :: flat, h => by
    have h' : (Is (.int .i64 x)).ok φ v ∧ Alls φ (xs.flatMap tI64.cells) flat := h
    rw [show v = .int .i64 x from h'.1, ints_flat h'.2]; rfl
theorem flat_ints {φ : Fz} : ∀ xs : List Int, Alls φ (xs.flatMap tI64.cells) (xs.map (Value.int .i64))
  | [] => trivial
  | x :: xs => (⟨rfl, flat_ints xs⟩ : (Is (.int .i64 x)).ok φ (.int .i64 x) ∧ Alls φ (xs.flatMap tI64.cells) (xs.map (Value.int .i64)))
theorem ones_ints (xs : List Int) : ones (xs.map (Value.int .i64)) := fun u hu => by
  obtain ⟨x, _, rfl⟩ := List.mem_map.1 hu
  rfl
theorem cells_at {w : World} {g : Nat} {cur : Array Value} {e : TypeId} (h : w.heap[g]? = some (.cells cur e (0, 0))) (j : Nat) (u : Value) (hu : cur[j]? = some u) : w.cell? ⟨g, j, none⟩ = some u ∧ w.frozen? ⟨g, j, none⟩ = false := by
  simp [World.cell?, World.frozen?, h, hu]
theorem put_at (d : Array Int) (c : Array Value) (hd : d.size ≤ c.size) : (Go.Sort.putCells (Value.int .i64) 0 d c).size = c.size ∧ (Go.Sort.putCells (Value.int .i64) 0 d c).toList.take d.size = d.toList.map (Value.int .i64) := by
  have hs : (Go.Sort.putCells (Value.int .i64) 0 d c).size = c.size := by simp [Go.Sort.putCells]
  refine ⟨hs, ?_⟩
  apply List.ext_getElem?
  intro k
  rcases Nat.lt_or_ge k d.size with hk | hk
  · rw [List.getElem?_take_of_lt hk, Array.getElem?_toList, List.getElem?_map, Array.getElem?_toList]
    simp only [Go.Sort.putCells, Array.getElem?_mapIdx]
    rw [Array.getElem?_eq_getElem (by omega), Array.getElem?_eq_getElem hk]
    simp [hk]
  · rw [List.getElem?_eq_none (by simp; omega), List.getElem?_eq_none (by simp; omega)]
theorem heap_put (w : World) (n g : Nat) (os : Array Obj) (d : Array Int) (cur : Array Value) (e : TypeId) (h : w.heap[g]? = some (.cells cur e (0, 0))) :
    Kpt [g] w (Go.Sort.grow (Go.Sort.putRow (Value.int .i64) (Go.Sort.ahead w n) g 0 d) os) ∧ (Go.Sort.grow (Go.Sort.putRow (Value.int .i64) (Go.Sort.ahead w n) g 0 d) os).heap[g]? = some (.cells (Go.Sort.putCells (Value.int .i64) 0 d cur) e (0, 0)) := by
  have hlt : g < w.heap.size := by
    rcases Nat.lt_or_ge g w.heap.size with h1 | h1
    · exact h1
    · rw [Array.getElem?_eq_none h1] at h; cases h
  have hsz : (w.heap.modify g (Go.Sort.onCells (Go.Sort.putCells (Value.int .i64) 0 d))).size = w.heap.size := by simp
  refine ⟨⟨rfl, rfl, rfl, ?_, fun k hk hx => ?_⟩, ?_⟩
  · show w.heap.size ≤ ((w.heap.modify g (Go.Sort.onCells (Go.Sort.putCells (Value.int .i64) 0 d))) ++ os).size
    simp
  · show ((w.heap.modify g (Go.Sort.onCells (Go.Sort.putCells (Value.int .i64) 0 d))) ++ os)[k]? = w.heap[k]?
    rw [Array.getElem?_append_left (by rw [hsz]; exact hk), Array.getElem?_modify, if_neg (fun e => hx (by simp [e]))]
  · show ((w.heap.modify g (Go.Sort.onCells (Go.Sort.putCells (Value.int .i64) 0 d))) ++ os)[g]? = _
    rw [Array.getElem?_append_left (by rw [hsz]; exact hlt), Array.getElem?_modify, if_pos rfl, h]
    rfl
/-- Numbers put back into a row of one's own. -/
theorem buf_put {φ : Fz} {w : World} {e : TypeId} {xs ys : List Int} {g cap n m : Nat} {cur : Array Value} (os : Array Obj) (hm : Mem φ [buf (.slice (some ⟨g, 0, none⟩) xs.length cap) e tI64 xs] w)
    (h2 : w.heap[g]? = some (.cells cur e (0, 0))) (h3 : xs.length ≤ cap) (h4 : cap ≤ maxLen) (h5 : cur.size = cap) (zs : List Int) (hz : zs.length = xs.length) (hy : ys = zs.take m) (hmz : m ≤ zs.length) :
    HP ⟨w, φ, names [buf (.slice (some ⟨g, 0, none⟩) xs.length cap) e tI64 xs], []⟩ φ [buf (.slice (some ⟨g, 0, none⟩) m cap) e tI64 ys] (Go.Sort.grow (Go.Sort.putRow (Value.int .i64) (Go.Sort.ahead w n) g 0 zs.toArray) os) := by
  obtain ⟨hk, hh⟩ := heap_put w n g os zs.toArray cur e h2
  have hit := hm.items _ (List.mem_singleton.2 rfl)
  have hb := hit.2 g rfl
  obtain ⟨p1, p2⟩ := put_at zs.toArray cur (by simp; omega)
  have hyl : ys.length = m := by rw [hy, List.length_take]; omega
  refine (HP.start hm).upd (it' := buf (.slice (some ⟨g, 0, none⟩) m cap) e tI64 ys) (Repl.head _ _ _) hk ⟨⟨ys.map (Value.int .i64), ?_, flat_ints ys, ones_ints ys, .inr ⟨g, cap, Go.Sort.putCells (Value.int .i64) 0 zs.toArray cur, by rw [hyl], ?_, by omega, h4, ?_, ?_⟩⟩, fun b hbb => ?_⟩ (fun b hb' => .inr hb')
  · simp [tI64]
  · exact hh
  · rw [p1, h5]; simp [tI64]
  · rw [hyl]
    show (Go.Sort.putCells (Value.int .i64) 0 zs.toArray cur).toList.take (m * 1) = _
    rw [Nat.mul_one, hy, List.map_take]
    have h9 : (Go.Sort.putCells (Value.int .i64) 0 zs.toArray cur).toList.take m = ((Go.Sort.putCells (Value.int .i64) 0 zs.toArray cur).toList.take zs.toArray.size).take m := by
      rw [List.take_take, Nat.min_eq_left (by simpa using hmz)]
    rw [h9, p2]
  · have e1 : some g = some b := hbb
    cases e1
    exact ⟨Nat.lt_of_lt_of_le hb.1 hk.size, hb.2⟩
theorem holds_buf {w : World} {e : TypeId} {xs : List Int} {g : Nat} {cur : Array Value} {flat : List Value} (h : w.heap[g]? = some (.cells cur e (0, 0))) (hf : flat = xs.map (Value.int .i64)) (h6 : cur.toList.take xs.length = flat) : Go.Sort.Holds (Value.int .i64) w g 0 xs.toArray := by
  intro j hj
  have hj' : j < xs.length := by simpa using hj
  have hc : cur[j]? = some (.int .i64 xs[j]) := by
    have h7 : (cur.toList.take xs.length)[j]? = some (.int .i64 xs[j]) := by
      rw [h6, hf, List.getElem?_map, List.getElem?_eq_getElem hj']; rfl
    rw [List.getElem?_take_of_lt hj', Array.getElem?_toList] at h7
    exact h7
  have := cells_at h j _ hc
  simpa [hj'] using this
theorem sortB_ok (xs : List Int) (i : Option Addr × Nat) (hn : xs.length ≤ 1048576) :
    Fn Try.prog 100 [Is (slV xs.length i)] [buf (slV xs.length i) 3 tI64 xs] (fun _ : Unit => IsTup []) (fun _ => [buf (slV xs.length i) 3 tI64 (srtI xs)]) := by
  intro φ w vs ha hm
  obtain rfl : vs = [slV xs.length i] := by
    match vs, ha with
    | [v], h => rw [show v = slV xs.length i from h.1]
  obtain ⟨⟨flat, f0, f1, f2, f3⟩, hb⟩ := hm.items _ (List.mem_singleton.2 rfl)
  rcases f3 with ⟨e1, e2⟩ | ⟨g, cap, cur, e1, e2, e3, e4, e5, e6⟩
  · have hx : xs = [] := List.eq_nil_of_length_eq_zero e2
    subst hx
    refine (SortI_ok 0 i (by omega) φ w _ ha ⟨hm.base, by simp, List.Pairwise.nil⟩).mono ?_
    rintro e w' ⟨_, v, φ', rfl, h1, h2⟩
    refine ⟨(), v, φ', rfl, h1, ?_⟩
    have e3 : srtI [] = [] := by simp [srtI]
    rw [e3, e1]
    exact h2.buf0 _ _
  · have hg : w.heap[g]? = some (.cells cur 3 (0, 0)) := by
      have h9 : (buf (slV xs.length i) 3 tI64 xs).at_ = some g := by show (slV xs.length i).ownBlock = _; rw [e1]; rfl
      rw [h9] at e2; exact e2
    rw [e1] at hm ⊢
    have e5' : cur.size = cap := by simpa [tI64] using e5
    have e6' : cur.toList.take xs.length = flat := by simpa [tI64] using e6
    have hlt := (hm.items _ (List.mem_singleton.2 rfl)).2 g rfl
    refine (Any.slices_Sort_int shLays g 0 cap xs w (holds_buf hg (ints_flat f1) e6') hlt.1 (by omega)).mono ?_
    rintro e w' ⟨rfl, n, os, rfl⟩
    refine ⟨(), .tuple #[], φ, rfl, ⟨[], rfl, trivial⟩, ?_⟩
    exact buf_put os hm hg e3 e4 e5' (srtI xs) (srtI_len xs) (by rw [← srtI_len xs, List.take_length]) (by rw [srtI_len]; exact Nat.le_refl _)
/-! ### Each once -/
def shRen2 : Go.Shelf.Ren := ⟨fun | 20 => 101 | n => n, fun | 0 => 0 | 3 => 3 | 4 => 4 | 22 => 81 | n => n, fun n => n⟩
theorem shLays2 : Lays2.n20 Try.prog shRen2 := {
  mixed := by kernel_rfl
  f20 := Try.func101.trans (congrArg some (by kernel_rfl))
  t0 := Try.underlying0
  a0 := Try.isAgg0
  z0 := Try.sizeOf0
  v0 := Try.zeroValue0
  t3 := Try.underlying3
  a3 := Try.isAgg3
  z3 := Try.sizeOf3
  v3 := Try.zeroValue3
  t4 := Try.underlying4
  a4 := Try.isAgg4
  z4 := Try.sizeOf4
  v4 := Try.zeroValue4
  t22 := Try.underlying81
  a22 := Try.isAgg81
  z22 := Try.sizeOf81
  v22 := Try.zeroValue81
  i3 := by kernel_rfl
}
def cptI (xs : List Int) : List Int := Lib.compact xs
theorem grow0 (w : World) : Go.Sort.grow w #[] = w := by simp [Go.Sort.grow]
theorem compactB_ok (xs : List Int) (i : Option Addr × Nat) (hn : xs.length ≤ 1048576) (hc : (cptI xs).length ≤ xs.length) :
    Fn Try.prog 101 [Is (slV xs.length i)] [buf (slV xs.length i) 3 tI64 xs] (fun _ : Unit => Is (slV (cptI xs).length i)) (fun _ => [buf (slV (cptI xs).length i) 3 tI64 (cptI xs)]) := by
  intro φ w vs ha hm
  obtain rfl : vs = [slV xs.length i] := by
    match vs, ha with
    | [v], h => rw [show v = slV xs.length i from h.1]
  obtain ⟨⟨flat, f0, f1, f2, f3⟩, hb⟩ := hm.items _ (List.mem_singleton.2 rfl)
  rcases f3 with ⟨e1, e2⟩ | ⟨g, cap, cur, e1, e2, e3, e4, e5, e6⟩
  · have hx : xs = [] := List.eq_nil_of_length_eq_zero e2
    subst hx
    refine (CompactI_ok 0 i (by omega) φ w _ ha ⟨hm.base, by simp, List.Pairwise.nil⟩).mono ?_
    rintro e w' ⟨_, v, φ', rfl, h1, h2⟩
    have e3 : cptI [] = [] := rfl
    refine ⟨(), v, φ', rfl, h1, ?_⟩
    rw [e3, e1]
    exact h2.buf0 _ _
  · have hg : w.heap[g]? = some (.cells cur 3 (0, 0)) := by
      have h9 : (buf (slV xs.length i) 3 tI64 xs).at_ = some g := by show (slV xs.length i).ownBlock = _; rw [e1]; rfl
      rw [h9] at e2; exact e2
    have e7 : ∀ m, slV m i = .slice (some ⟨g, 0, none⟩) m cap := fun m => by
      have h8 : (Value.slice i.1 xs.length i.2) = .slice (some ⟨g, 0, none⟩) xs.length cap := e1
      have h9 : i.1 = some ⟨g, 0, none⟩ ∧ i.2 = cap := by injection h8 with a b d; exact ⟨a, d⟩
      show Value.slice i.1 m i.2 = _
      rw [h9.1, h9.2]
    rw [e1] at hm ⊢
    rw [e7]
    have e5' : cur.size = cap := by simpa [tI64] using e5
    have e6' : cur.toList.take xs.length = flat := by simpa [tI64] using e6
    refine (Any.slices_Compact_int shLays2 g 0 cap xs w (holds_buf hg (ints_flat f1) e6') (by omega) e3).mono ?_
    rintro e w' ⟨rfl, n, rfl⟩
    refine ⟨(), _, φ, rfl, rfl, ?_⟩
    rw [← grow0 (Go.Sort.putRow _ _ _ _ _)]
    exact buf_put #[] hm hg e3 e4 e5' (Lib.compact xs ++ List.replicate (xs.length - (Lib.compact xs).length) 0) (by unfold cptI at hc; simp; omega) (by unfold cptI; rw [List.take_left]) (by unfold cptI; simp)
end Go.Proofs.Ytpfojangcgffkaa

/- Contracts: lines relied on, in general; the pages of an operation; a step of the model. Own work. -/
namespace Go.Proofs.Ytpfojangcgffkaa
open Go.RowKit
set_option linter.unusedVariables false
set_option linter.unusedSimpArgs false
set_option maxRecDepth 100000
/-! ### Sorted, each once -/
theorem cpt_inv {zs : List Int} (hs : zs.Pairwise fun x y => x ≤ y) : ∀ m : Nat, m ≤ zs.length → AscI (Lib.compactUpTo zs.toArray m) ∧ (∀ x, x ∈ Lib.compactUpTo zs.toArray m ↔ x ∈ zs.take m) := by
  intro m
  induction m with
  | zero => intro _; exact ⟨List.Pairwise.nil, fun x => by simp [Lib.compactUpTo]⟩
  | succ m ih =>
    intro hm
    obtain ⟨h1, h2⟩ := ih (by omega)
    have hlt : m < zs.length := by omega
    have hg : zs.toArray[m]! = zs[m] := by simp [hlt]
    have ht : zs.take (m + 1) = zs.take m ++ [zs[m]] := by rw [List.take_add_one, List.getElem?_eq_getElem hlt]; rfl
    have hle : ∀ x, x ∈ zs.take m → x ≤ zs[m] := fun x hx => by
      obtain ⟨j, hj, rfl⟩ := List.getElem_of_mem hx
      rw [List.length_take] at hj
      rw [List.getElem_take]
      exact (List.pairwise_iff_getElem.1 hs) j m (by omega) hlt (by omega)
    rw [Lib.compactUpTo_succ]
    cases hk : Lib.keeps zs.toArray m with
    | true =>
      simp only [if_true, hg, ht]
      refine ⟨List.pairwise_append.2 ⟨h1, List.pairwise_singleton _ _, fun x hx y hy => ?_⟩, fun x => by rw [List.mem_append, List.mem_append, h2]⟩
      rw [List.mem_singleton] at hy
      subst hy
      have hx' := (h2 x).1 hx
      have h3 := hle x hx'
      rcases Nat.eq_zero_or_pos m with h0 | h0
      · subst h0; simp at hx'
      · have hne : zs[m] ≠ zs[m - 1] := fun e => by
          have : Lib.keeps zs.toArray m = false := Lib.keeps_neg h0 (by rw [hg, e]; simp [show m - 1 < zs.length by omega])
          rw [hk] at this; cases this
        have h4 : x ≤ zs[m - 1] := by
          obtain ⟨j, hj, rfl⟩ := List.getElem_of_mem hx'
          rw [List.length_take] at hj
          rw [List.getElem_take]
          rcases Nat.lt_or_ge j (m - 1) with h5 | h5
          · exact (List.pairwise_iff_getElem.1 hs) j (m - 1) (by omega) (by omega) h5
          · have : j = m - 1 := by omega
            subst this; exact Int.le_refl _
        have h5 := (List.pairwise_iff_getElem.1 hs) (m - 1) m (by omega) hlt (by omega)
        omega
    | false =>
      simp only [Bool.false_eq_true, if_false, List.append_nil, ht]
      refine ⟨h1, fun x => ?_⟩
      rw [h2, List.mem_append, List.mem_singleton]
      refine ⟨.inl, ?_⟩
      rintro (h3 | rfl)
      · exact h3
      · rcases Nat.eq_zero_or_pos m with h0 | h0
        · subst h0
          have := Lib.keeps_lt_one zs.toArray 0 (by omega)
          rw [hk] at this; cases this
        · have he : zs[m] = zs[m - 1] := by
            rcases Decidable.em (zs[m] = zs[m - 1]) with h | h
            · exact h
            · have : Lib.keeps zs.toArray m = true := Lib.keeps_pos (by rw [hg]; simpa [show m - 1 < zs.length by omega] using h)
              rw [hk] at this; cases this
          rw [he]
          refine List.mem_of_getElem? (i := m - 1) ?_
          rw [List.getElem?_take_of_lt (by omega), List.getElem?_eq_getElem]
theorem srtI_asc (xs : List Int) : (srtI xs).Pairwise fun x y => x ≤ y := by
  have h := List.pairwise_mergeSort (le := fun x y : Int => decide (x ≤ y)) (fun a b c h1 h2 => by simp at *; omega) (fun a b => by simp; omega) xs
  unfold srtI
  simpa using h
theorem cpt_asc (xs : List Int) : AscI (cptI (srtI xs)) ∧ ∀ x, x ∈ cptI (srtI xs) ↔ x ∈ xs := by
  obtain ⟨h1, h2⟩ := cpt_inv (srtI_asc xs) (srtI xs).length (Nat.le_refl _)
  refine ⟨h1, fun x => ?_⟩
  have h3 : x ∈ cptI (srtI xs) ↔ x ∈ (srtI xs).take (srtI xs).length := h2 x
  rw [h3, List.take_length]
  exact (List.mergeSort_perm xs _).mem_iff
theorem cpt_fold {xs ls : List Int} (h : AscI xs) : cptI (srtI (xs ++ ls)) = foldL xs ls := by
  obtain ⟨h1, h2⟩ := cpt_asc (xs ++ ls)
  exact ascI_ext h1 (asc_foldL h) fun x => by rw [h2, mem_foldL, List.mem_append]
theorem cptI_le (xs : List Int) : (cptI xs).length ≤ xs.length := by
  unfold cptI Lib.compact Lib.compactUpTo
  rw [List.length_map]
  exact Nat.le_trans (List.length_filter_le _ _) (by simp)
def relV (x : Tx) (ls : List Int) : Tx × Int :=
  if ls.any (fun l => !latB x.base l) = true then (Tx.nil, 16) else ({ x with chk := foldL x.chk ls }, 0)
-- txn.Rely: function 54
set_option maxHeartbeats 1000000 in
theorem RelyB_ok (x : Tx) (ls : List Int) (hb1 : x.base.length ≤ 100000) (hb2 : x.chk.length ≤ 100000) (hb3 : x.wr.length ≤ 100000) (hb4 : ls.length ≤ 100000) (ha : AscI x.chk) : FnP Try.prog 54 [IsTx x, IsSl tI64 ls] (IsPut (relV x ls)) := by
  have hsl := srtI_len (x.chk ++ ls)
  have hal : (x.chk ++ ls).length = x.chk.length + ls.length := List.length_append
  have hcl : (cptI (srtI (x.chk ++ ls))).length ≤ (srtI (x.chk ++ ls)).length := cptI_le _
  refine FnP.enter Try.func54 Try.ntmps54 rfl rfl ?_
  intro c hX
  refine JC_seq ?_
  refine JC_region ?_
  (refine JL_n rfl (op_box (Ev.rfl' rfl) cellsT) ?_; intro i2)
  (refine JL_n rfl (op_allocN rfl nrmT rfl) ?_; intro i4)
  refine JL_1 rfl (op_assign rfl) ?_
  refine JL_nil ?_
  refine JQ_then (JC_seq (JC_seq ?_))
  refine JC_region ?_
  refine JL_1 rfl (op_move rfl) ?_
  refine JL_1 rfl (by first | exact op_len (Ev.rfl' rfl) rfl | exact op_lenLit (Ev.rfl' rfl) rfl) ?_
  refine JL_1 rfl (op_move rfl) ?_
  refine JL_nil ?_
  refine JQ_then (JC_block ?_)
  refine JC_loopP (fun k : Nat => k ≤ ls.length ∧ (ls.take k).any (fun l => !latB x.base l) = false) (fun k => [(1, IsSl tI64 ls), (2, Is (.pointer (some ⟨i2, 0, none⟩))), (4, Is (.pointer (some ⟨i4, 0, none⟩))), (10, IsSl tI64 ls), (11, Is (.int .i64 (ls.length : Nat))), (12, Is (.int .i64 (k : Nat)))]) (fun k => [blk i2 105 (txC x), blk i4 105 txZ]) (fun k => ls.length - k) 0 ⟨Nat.zero_le _, rfl⟩ esubT lessT ?_
  rintro k ⟨hk, hs⟩
  refine JC_seq ?_
  refine JC_region ?_
  refine JL_1 rfl (op_lss (Ev.rfl' rfl) (Ev.rfl' rfl)) ?_
  refine JL_nil ?_
  refine JQ_then (JC_seq ?_)
  refine JC_cond (Ev.rfl' rfl) (fun h2 => ?_) (fun h2 => ?_)
  · have hlt : k < ls.length := by have := of_decide_eq_true h2; omega
    clear h2
    obtain ⟨l, hz⟩ : ∃ z, ls[k]? = some z := ⟨ls[k], List.getElem?_eq_getElem hlt⟩
    have a1 := any_take (f := fun l => !latB x.base l) hz
    refine JC_skip (JQ_then (JC_seq (JC_block (JC_seq ?_))))
    refine JC_region ?_
    refine JL_1 rfl (by first | exact op_index (j := _) (Ev.rfl' rfl) (Ev.rfl' rfl) rfl rfl (by first | rfl | omega) hz | exact op_index (j := _) (Ev.rfl' rfl) (Ev.rfl' rfl) rfl rfl (by first | rfl | omega) (by assumption)) ?_
    refine JL_1 rfl (by first | exact op_loadRef (Ev.rfl' rfl) rfl rfl rfl | exact op_loadPtr (Ev.rfl' rfl) memT (by rfl) (by rfl) (by rfl)) ?_
    refine JL_1 rfl (op_assign rfl) ?_
    refine JL_nil ?_
    refine JQ_then (JC_seq ?_)
    refine JC_region ?_
    refine JL_1 rfl (by first | exact op_fieldPtr (k := 2) (Ev.rfl' rfl) rfl rfl rfl rfl | exact op_fieldRefN (k := 2) (Ev.rfl' rfl) rfl rfl rfl rfl nrmT) ?_
    refine JL_1 rfl (by first | exact op_loadRef (Ev.rfl' rfl) rfl rfl rfl | exact op_loadPtr (Ev.rfl' rfl) memT (by rfl) (by rfl) (by rfl)) ?_
    refine JL_1 rfl (op_move rfl) ?_
    refine JL_1 rfl (op_call Try.call86 (LatestV_ok _ _) ⟨evS, ⟨evS, trivial⟩⟩) ?_
    refine JL_1 rfl (op_move rfl) ?_
    refine JL_1 rfl (op_extract (Ev.rfl' rfl) rfl) ?_
    refine JL_1 rfl (op_extract (Ev.rfl' rfl) rfl) ?_
    (refine JL_n rfl (op_allocN rfl nrmT rfl) ?_; intro i8)
    refine JL_s0 (op_storeN (Ev.rfl' rfl) (Ev.rfl' rfl) cellsT replT nrmT (by rfl) (by rfl) (by rfl)) ?_
    refine JL_1 rfl (op_assign rfl) ?_
    refine JL_nil ?_
    refine JQ_then (JC_seq ?_)
    refine JC_region ?_
    refine JL_1 rfl (op_move rfl) ?_
    refine JL_1 rfl (op_not (Ev.rfl' rfl)) ?_
    refine JL_nil ?_
    refine JQ_then ?_
    refine JC_cond (Ev.rfl' rfl) (fun h5 => ?_) (fun h5 => ?_)
    · have e : relV x ls = (Tx.nil, 16) := by
        unfold relV
        rw [if_pos (List.any_eq_true.2 ⟨l, List.mem_of_getElem? hz, h5⟩)]
      rw [e]
      refine JC_seq ?_
      refine JC_region ?_
      refine JL_1 rfl (op_buildN (qs := []) rfl rfl rfl rfl trivial (by rfl) nrmT) ?_
      refine JL_s0 (op_storeN (Ev.rfl' rfl) (Ev.rfl' rfl) cellsT replT nrmT (by rfl) (by rfl) (by rfl)) ?_
      refine JL_1 rfl (op_assign rfl) ?_
      refine JL_nil ?_
      refine JQ_then (JC_ret (JQ_block_ret (JQ_then_ret (JQ_then_ret (JQ_block_ret (JQ_then_ret ?_))))))
      exact JQ_ret (Bs := [IsTx Tx.nil, Is (.int .i64 16)]) Try.results54 ⟨⟨_, _, _, _, rfl, memT, rfl, .inr ⟨rfl, _, rfl, rfl, subT⟩⟩, ⟨⟨_, rfl, subT⟩, trivial⟩⟩ () SubL.rfl' (List.nil_sublist _)
    rw [hs, h5] at a1
    clear h5
    refine JC_skip (JQ_block (JQ_then ?_))
    refine JC_region ?_
    refine JL_1 rfl (op_add (Ev.rfl' rfl) (Ev.rfl' rfl) wrapT) ?_
    refine JL_1 rfl (op_move rfl) ?_
    refine JL_nil ?_
    exact JQ_roundP (k + 1) ⟨by omega, a1⟩ (by omega) esubT lessT
  have hke : k = ls.length := by have := of_decide_eq_false h2; omega
  subst hke
  clear h2
  rw [List.take_length] at hs
  have hs' : ¬ ls.any (fun l => !latB x.base l) = true := by rw [hs]; simp
  have e : relV x ls = ({ x with chk := cptI (srtI (x.chk ++ ls)) }, 0) := by unfold relV; rw [if_neg hs', cpt_fold ha]
  rw [e]
  refine JC_exit (JQ_then_exit (JQ_then_exit (JQ_hit (JQ_then (JC_seq ?_)))))
  refine JC_region ?_
  refine JL_1 rfl (by first | exact op_loadRefsN (n := 5) (Ev.rfl' rfl) rfl rfl rfl (by rfl) nrmT | exact op_loadPtrsN (n := 5) (Ev.rfl' rfl) memT (by rfl) (by rfl) (by rfl) (by rfl) nrmT) ?_
  (refine JL_s rfl (by first | ((refine op_callN Try.call99 (copiedN_ok x ?_ ?_ ?_) ⟨evS, trivial⟩); all_goals (first | omega))) ?_; intro i28)
  refine JL_s0 (op_storeN (Ev.rfl' rfl) (Ev.rfl' rfl) cellsT replT nrmT (by rfl) (by rfl) (by rfl)) ?_
  refine JL_nil ?_
  refine JQ_then (JC_seq ?_)
  refine JC_region ?_
  refine JL_1 rfl (by first | exact op_fieldPtr (k := 3) (Ev.rfl' rfl) rfl rfl rfl rfl | exact op_fieldRefN (k := 3) (Ev.rfl' rfl) rfl rfl rfl rfl nrmT) ?_
  refine JL_1 rfl (by first | exact op_loadRef (Ev.rfl' rfl) rfl rfl rfl | exact op_loadPtr (Ev.rfl' rfl) memT (by rfl) (by rfl) (by rfl)) ?_
  refine JL_1 rfl (op_move rfl) ?_
  (refine JL_s rfl (op_app (Ev.rfl' rfl) (fun _ => replT) evS (by exact appT rfl rfl rfl) lenT) ?_; intro i32)
  refine JL_1 rfl (by first | exact op_fieldPtr (k := 3) (Ev.rfl' rfl) rfl rfl rfl rfl | exact op_fieldRefN (k := 3) (Ev.rfl' rfl) rfl rfl rfl rfl nrmT) ?_
  refine JL_s0 (op_storeN (Ev.rfl' rfl) (Ev.rfl' rfl) cellsT replT nrmT (by rfl) (by rfl) (by rfl)) ?_
  refine JL_nil ?_
  refine JQ_then (JC_seq ?_)
  refine JC_region ?_
  refine JL_1 rfl (by first | exact op_fieldPtr (k := 3) (Ev.rfl' rfl) rfl rfl rfl rfl | exact op_fieldRefN (k := 3) (Ev.rfl' rfl) rfl rfl rfl rfl nrmT) ?_
  refine JL_1 rfl (by first | exact op_loadRef (Ev.rfl' rfl) rfl rfl rfl | exact op_loadPtr (Ev.rfl' rfl) memT (by rfl) (by rfl) (by rfl)) ?_
  (refine JL_s rfl (by first | ((refine op_callT drop1T Try.call100 (sortB_ok (x.chk ++ ls) i32 ?_) ⟨evS, trivial⟩); all_goals (first | omega))) ?_; intro i36)
  refine JL_nil ?_
  refine JQ_then (JC_seq ?_)
  rw [← hsl]
  refine JC_region ?_
  refine JL_1 rfl (by first | exact op_fieldPtr (k := 3) (Ev.rfl' rfl) rfl rfl rfl rfl | exact op_fieldRefN (k := 3) (Ev.rfl' rfl) rfl rfl rfl rfl nrmT) ?_
  refine JL_1 rfl (by first | exact op_loadRef (Ev.rfl' rfl) rfl rfl rfl | exact op_loadPtr (Ev.rfl' rfl) memT (by rfl) (by rfl) (by rfl)) ?_
  (refine JL_s rfl (by first | ((refine op_callT drop1T Try.call101 (compactB_ok (srtI (x.chk ++ ls)) i32 ?_ hcl) ⟨evS, trivial⟩); all_goals (first | omega))) ?_; intro i39)
  refine JL_1 rfl (by first | exact op_fieldPtr (k := 3) (Ev.rfl' rfl) rfl rfl rfl rfl | exact op_fieldRefN (k := 3) (Ev.rfl' rfl) rfl rfl rfl rfl nrmT) ?_
  refine JL_s0 (op_storeN (Ev.rfl' rfl) (Ev.rfl' rfl) cellsT replT nrmT (by rfl) (by rfl) (by rfl)) ?_
  refine JL_nil ?_
  refine JQ_then (JC_seq ?_)
  refine JC_region ?_
  refine JL_1 rfl (by first | exact op_loadRefsN (n := 5) (Ev.rfl' rfl) rfl rfl rfl (by rfl) nrmT | exact op_loadPtrsN (n := 5) (Ev.rfl' rfl) memT (by rfl) (by rfl) (by rfl) (by rfl) nrmT) ?_
  refine JL_s0 (op_storeN (Ev.rfl' rfl) (Ev.rfl' rfl) cellsT replT nrmT (by rfl) (by rfl) (by rfl)) ?_
  refine JL_1 rfl (op_assign rfl) ?_
  refine JL_nil ?_
  refine JQ_then (JC_ret ?_)
  refine JQ_freeze hX (v := slV (cptI (srtI (x.chk ++ ls))).length i32) replT ?_
  exact JQ_ret (Bs := [IsTx { x with chk := cptI (srtI (x.chk ++ ls)) }, Is (.int .i64 0)]) Try.results54 ⟨⟨_, _, _, _, rfl, memT, rfl, .inr ⟨rfl, _, rfl, rfl, subT⟩⟩, ⟨⟨_, rfl, subT⟩, trivial⟩⟩ () SubL.rfl' (List.nil_sublist _)
-- txn.View: function 56
theorem TxView_ok (x : Tx) (hb1 : x.base.length ≤ 100000) (hb3 : x.wr.length ≤ 100000) : FnP Try.prog 56 [IsTx x] (IsSl tPg (mergeV x.base x.wr)) := by
  refine FnP.enter Try.func56 Try.ntmps56 rfl rfl ?_
  intro c hX
  refine JC_seq ?_
  refine JC_region ?_
  (refine JL_n rfl (op_box (Ev.rfl' rfl) cellsT) ?_; intro i1)
  refine JL_1 rfl (op_assign rfl) ?_
  refine JL_nil ?_
  refine JQ_then (JC_seq ?_)
  refine JC_region ?_
  refine JL_1 rfl (by first | exact op_fieldPtr (k := 2) (Ev.rfl' rfl) rfl rfl rfl rfl | exact op_fieldRefN (k := 2) (Ev.rfl' rfl) rfl rfl rfl rfl nrmT) ?_
  refine JL_1 rfl (by first | exact op_loadRef (Ev.rfl' rfl) rfl rfl rfl | exact op_loadPtr (Ev.rfl' rfl) memT (by rfl) (by rfl) (by rfl)) ?_
  refine JL_1 rfl (by first | exact op_fieldPtr (k := 4) (Ev.rfl' rfl) rfl rfl rfl rfl | exact op_fieldRefN (k := 4) (Ev.rfl' rfl) rfl rfl rfl rfl nrmT) ?_
  refine JL_1 rfl (by first | exact op_loadRef (Ev.rfl' rfl) rfl rfl rfl | exact op_loadPtr (Ev.rfl' rfl) memT (by rfl) (by rfl) (by rfl)) ?_
  refine JL_1 rfl (by first | ((refine op_call Try.call34 (Merge_ok _ _ ?_) ⟨evS, ⟨evS, trivial⟩⟩); all_goals (first | omega))) ?_
  refine JL_1 rfl (op_assign rfl) ?_
  refine JL_nil ?_
  refine JQ_then (JC_ret ?_)
  exact JQ_ret (Bs := [IsSl tPg (mergeV x.base x.wr)]) Try.results56 ⟨⟨_, rfl, subT⟩, trivial⟩ () SubL.rfl' (List.nil_sublist _)
end Go.Proofs.Ytpfojangcgffkaa
