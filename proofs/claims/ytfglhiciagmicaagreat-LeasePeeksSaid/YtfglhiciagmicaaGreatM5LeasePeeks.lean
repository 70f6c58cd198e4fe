/- Texts of this claim, laid together (part 5): walks of functions, what they compute, and plain laws of it. Own work. -/
import Derived.Test.YtfglhiciagmicaaGreatM4LeasePeeks
/- Contracts: changes of a prepared fabric. Own work. -/
namespace Go.Proofs.YtfglhiciagmicaaGreat
open Go.RowKit
set_option linter.unusedVariables false
set_option linter.unusedSimpArgs false
set_option maxRecDepth 100000
theorem HandViewP_ok (n : Nat) (hn : n ≤ 5) (number mask full : Int) (boots : List Int) : FnP Tryz.prog 44 [Is (.int .i64 number), Is (.int .i64 mask), Is (.int .i64 full), IsSl tI64 boots, Is (.int .i64 (n : Nat))] (IsView (number % 16) (handM n mask full boots)) := by
  intro φ w vs ha hm
  refine (HandView_ok n hn number mask full boots φ w vs ha hm).mono ?_
  rintro e w' ⟨s, v, φ', h1, h2, h3⟩
  obtain ⟨φ'', g1, g2⟩ := HP.freeze (p0 := True) ⟨rfl, trivial⟩ h3 (Repl.head _ (fact (slV (handM n mask full boots).length s) (IsSl tMb (handM n mask full boots))) _)
  exact ⟨(), v, φ'', h1, (SubL.agg (L := [fact (slV (handM n mask full boots).length s) (IsSl tMb (handM n mask full boots))]) (As := [Is (.int .i64 (number % 16)), Is (slV (handM n mask full boots).length s)]) (Bs := [Is (.int .i64 (number % 16)), IsSl tMb (handM n mask full boots)]) ⟨SubL.rfl', SubL.fact (List.Mem.head _), trivial⟩) φ'' v g2.mem.facts (VP.mono _ g1 h2), g2.less (List.nil_sublist _)⟩
theorem FnP.weak {P : Program} {f : FuncId} {As : List VP} {A B : VP} (h : FnP P f As A) (hs : ∀ φ v, A.ok φ v → B.ok φ v) : FnP P f As B := fun φ w vs ha hm =>
  (h φ w vs ha hm).mono fun e w' ⟨i, v, φ', h1, h2, h3⟩ => ⟨i, v, φ', h1, hs _ _ h2, h3⟩
theorem tup_words {φ : Fz} {v : Value} (h : (VEx fun z : BitVec 64 × Int => IsTup [Is (.int .u64 (UV z.1)), Is (.int .i64 z.2)]).ok φ v) : (IsTup [WAny, Top]).ok φ v := by
  obtain ⟨z, vs, e, k⟩ := h
  match vs, k with
  | [u, u'], ⟨k1, k2, _⟩ => exact ⟨_, e, ⟨z.1, k1⟩, trivial, trivial⟩
  | [], h => exact h.elim
  | [_], h => exact h.2.elim
  | _ :: _ :: _ :: _, h => exact h.2.2.elim
theorem ConsensusW_ok (p a v : BitVec 64) : FnP Tryz.prog 121 [Is (.int .u64 (UV p)), Is (.int .u64 (UV a)), Is (.int .u64 (UV v))] (IsTup [WAny, Top]) := (ConsensusR_ok p a v).weak fun _ _ h => tup_words h
theorem TagW_ok (n cl : Int) (hn : I64ok n) (hc : I64ok cl) : FnP Tryz.prog 102 [Is (.int .i64 n), Is (.int .i64 cl)] (IsTup [WAny, Top]) := (TagR_ok n cl hn hc).weak fun _ _ h => tup_words h
-- bodegahand.consensus: function 104
set_option maxHeartbeats 2000000 in
theorem consensus_ok (f n : Nat) (hn : n ≤ 5) (nb cb lb : WA) (nds : List FN) (k : Nat) (d : FN) (hz : nds[k]? = some d) (p : GPoke) (hp : p.wf) : Fn Tryz.prog 104 [Is (.pointer (some ⟨f, 0, none⟩)), Is (bpt nb (k * tFN.size)), IsGPoke p] [blk f 166 [Is (.int .i64 98), Is (slV n nb), Is (slV 1 cb), Is (slV 1 lb), Is (slV 0 (none, 0))], buf (slV n nb) 177 tFN nds, wb 83 784 d.w]
    (fun _ : Unit => IsTup []) (fun _ => [blk f 166 [Is (.int .i64 98), Is (slV n nb), Is (slV 1 cb), Is (slV 1 lb), Is (slV 0 (none, 0))], buf (slV n nb) 177 tFN nds, wb 83 784 d.w]) := by
  obtain ⟨p1, p2, p3, p4, p5, _⟩ := hp
  have hn0 := nds_pos hz
  have w32 := wrapok p5 32 (by omega)
  have w3 := wrapok p4 3 (by omega)
  have hml := (handM_len n hn p.b (p.b.tdiv 32) []).2
  refine Fn.enterN Tryz.func104 Tryz.ntmps104 rfl rfl ?_
  intro c hX
  refine JC_seq ?_
  refine JC_region ?_
  (refine JL_n rfl (op_box (Ev.rfl' rfl) cellsT) ?_; intro i5)
  refine JL_nil ?_
  refine JQ_then (JC_seq ?_)
  refine JC_dr rfl (by kernel_rfl) ?_
  refine JD_stretch 16 (by kernel_rfl) ?_
  refine JW_1 (by exact op_fieldPtr (k := 3) (Ev.rfl' rfl) rfl rfl rfl rfl) ?_
  refine JW_1 (by exact op_loadPtr (Ev.rfl' rfl) memT (by rfl) (by rfl) (by rfl)) ?_
  refine JW_1 (by ((refine op_call Tryz.call7 (PickH_ok _ _ ?_ ?_) ⟨evS, ⟨evS, trivial⟩⟩); all_goals (omega))) ?_
  refine JW_1 (by exact op_fieldPtr (k := 4) (Ev.rfl' rfl) rfl rfl rfl rfl) ?_
  refine JW_1 (by exact op_loadPtr (Ev.rfl' rfl) memT (by rfl) (by rfl) (by rfl)) ?_
  refine JW_1 (by exact op_fieldPtr (k := 4) (Ev.rfl' rfl) rfl rfl rfl rfl) ?_
  refine JW_1 (by exact op_loadPtr (Ev.rfl' rfl) memT (by rfl) (by rfl) (by rfl)) ?_
  refine JW_1 (op_quo (Ev.rfl' rfl) (Ev.rfl' rfl) (by omega) w32) ?_
  refine JW_1 (op_move rfl) ?_
  refine JW_1 (by exact op_nilCheck (Ev.rfl' rfl)) ?_
  refine JW_1 (by exact op_fieldPtr (k := 1) (Ev.rfl' rfl) rfl rfl rfl rfl) ?_
  refine JW_1 (by exact op_loadPtr (Ev.rfl' rfl) memT (by rfl) (by rfl) (by rfl)) ?_
  refine JW_1 (by exact op_lenLit (Ev.rfl' rfl) rfl) ?_
  refine JW_1 (op_call Tryz.call44 (HandViewP_ok _ hn _ _ _ _) ⟨evS, ⟨evS, ⟨evS, ⟨evS, ⟨evS, trivial⟩⟩⟩⟩⟩) ?_
  refine JW_n (op_allocN rfl nrmT rfl) ?_
  refine JW_write rfl rfl rfl (by kernel_rfl) (op_storeWN evS cellsT rfl rfl rfl nrmT) ?_
  refine ⟨rfl, ?_⟩
  intro i6
  refine JD_end ?_
  refine JQ_then (JC_seq ?_)
  refine JC_region ?_
  refine JL_1 rfl (by exact op_loadPtrsN (n := 2) (Ev.rfl' rfl) memT (by rfl) (by rfl) (by rfl) (by rfl) nrmT) ?_
  refine JL_1 rfl (by ((refine op_call Tryz.call120 (ValueR_ok _ _ ?_) ⟨evS, trivial⟩); all_goals (omega))) ?_
  refine JL_1 rfl (op_move rfl) ?_
  refine JL_1 rfl (op_extract (Ev.rfl' rfl) rfl) ?_
  refine JL_1 rfl (op_extract (Ev.rfl' rfl) rfl) ?_
  refine JL_1 rfl (op_assign rfl) ?_
  refine JL_1 rfl (op_assign rfl) ?_
  refine JL_nil ?_
  refine JQ_then (JC_seq ?_)
  refine JC_region ?_
  refine JL_1 rfl (by exact op_fieldPtr (k := 2) (Ev.rfl' rfl) rfl rfl rfl rfl) ?_
  refine JL_1 rfl (by exact op_loadPtr (Ev.rfl' rfl) memT (by rfl) (by rfl) (by rfl)) ?_
  refine JL_1 rfl (by ((refine op_call Tryz.call7 (PickH_ok _ _ ?_ ?_) ⟨evS, ⟨evS, trivial⟩⟩); all_goals (omega))) ?_
  refine JL_1 rfl (op_conv (Ev.rfl' rfl) rfl rfl convT) ?_
  refine JL_set 32 (Is (.int .u64 (UV (BitVec.ofInt 64 (p.client % 40))))) rfl (SubL.eq (congrArg Is (u64lit (by omega)))) ?_
  refine JL_1 rfl (op_assign rfl) ?_
  refine JL_nil ?_
  refine JQ_then ?_
  refine JC_dr rfl (by kernel_rfl) ?_
  refine JD_phase [0, 1, 1, 1, 1, 1, 1, 0, 0, 1, 1, 0, 1, 0, 0, 0, 1, 0, 0, 0, 1, 2] (by kernel_rfl) (by kernel_rfl) ?_
  refine PW_0 (op_move rfl) ?_
  refine PW_1 (by exact op_nilBuf (Ev.rfl' rfl) memT lenT) ?_
  refine PW_1 (by exact op_fieldBuf (k := 0) (Ev.rfl' rfl) memT lenT rfl rfl rfl rfl) ?_
  refine PW_1 (by exact op_loadBuf (Ev.rfl' rfl) memT hz rfl rfl (by rfl)) ?_
  refine PW_1 (by exact op_fieldPtr (k := 0) (Ev.rfl' rfl) rfl rfl rfl rfl) ?_
  refine PW_1 (by exact op_loadPtr (Ev.rfl' rfl) memT (by rfl) (by rfl) (by rfl)) ?_
  refine PW_1 (by ((refine op_call Tryz.call113 (ConsensusAt_ok _ ?_) ⟨evS, trivial⟩); all_goals (omega))) ?_
  refine PW_0 (op_move rfl) ?_
  refine PW_0 (op_move rfl) ?_
  refine PW_1 (by exact op_fieldPtr (k := 3) (Ev.rfl' rfl) rfl rfl rfl rfl) ?_
  refine PW_1 (by exact op_loadPtr (Ev.rfl' rfl) memT (by rfl) (by rfl) (by rfl)) ?_
  refine PW_0 (op_quo (Ev.rfl' rfl) (Ev.rfl' rfl) (by omega) w3) ?_
  refine PW_1 (by ((refine op_call Tryz.call7 (PickH_ok _ _ ?_ ?_) ⟨evS, ⟨evS, trivial⟩⟩); all_goals (omega))) ?_
  refine PW_0 (op_conv (Ev.rfl' rfl) rfl rfl convT) ?_
  refine PW_0 (by exact op_binU ev64 ev64 (mul_u64 _ _ _)) ?_
  refine PW_0 (op_move rfl) ?_
  refine PW_1 (op_call Tryz.call121 (ConsensusW_ok _ _ _) ⟨evS, ⟨evS, ⟨evS, trivial⟩⟩⟩) ?_
  refine PW_0 (op_move rfl) ?_
  refine PW_0 (op_extract (Ev.rfl' rfl) rfl) ?_
  refine PW_0 (op_extract (Ev.rfl' rfl) rfl) ?_
  refine PW_1 (op_indexW (k := (8 + p.a % 3 % 16).toNat) (Ev.rfl' rfl) memT (Ev.rfl' rfl) rfl rfl idxT (by omega)) ?_
  refine PW_2 (op_storeW1 (n := 0) (Ev.rfl' rfl) memT (by omega) (Ev.rfl' rfl) (by exact cells_wany) rfl) ?_
  refine PW_end ?_
  refine JD_end ?_
  refine JQ_end ?_
  exact JQ_retP (Bs := []) Tryz.results104 trivial () SubL.rfl' lessT
theorem fab_unsub {nds : List FN} {k : Nat} {d : FN} (h : nds[k]? = some d) : SubP (nds.map wbF) (wbF d :: (nds.eraseIdx k).map wbF) := by
  induction nds generalizing k with
  | nil => simp at h
  | cons x l ih =>
    cases k with
    | zero => simp at h; subst h; exact SubP.refl' _
    | succ k =>
      have h' : l[k]? = some d := by simpa using h
      exact SubP.cons (Drop1.next _ (Drop1.here _ _)) (ih h')
theorem SubP.dropI {M L L1 : List Item} {y : Item} (hd : Drop1 L y L1) (h : SubP M L1) : SubP M L := SubP.tr1 hd (SubP.skip y h)
theorem wbF_up {nds : List FN} {k : Nat} {d : FN} {b : Bool} (h : nds[k]? = some d) : (nds.set k ⟨d.w, b⟩).map wbF = nds.map wbF := by
  apply List.ext_getElem?
  intro j
  rw [List.getElem?_map, List.getElem?_map, List.getElem?_set]
  split
  · rename_i e
    subst e
    have := (List.getElem?_eq_some_iff.1 h).1
    rw [h]; simp [this, wbF]
  · rfl
-- bodegahand.poke: function 82
set_option maxHeartbeats 4000000 in
theorem poke_ok (f n : Nat) (hn1 : 1 ≤ n) (hn : n ≤ 5) (nb cb lb pb : WA) (nds : List FN) (hl : nds.length = n) (cn : Cn) (prs : List Pr) (p : GPoke) (hp : p.wf) : Fn Tryz.prog 82 [Is (.pointer (some ⟨f, 0, none⟩)), IsGPoke p, Is (.int .i64 98)] (fabL f n nb cb lb pb nds cn prs)
    (fun _ : {nds' : List FN // nds'.length = n} => IsTup []) (fun z => fabL f n nb cb lb pb z.1 cn prs) := by
  have hpk := hp
  obtain ⟨p1, p2, p3, p4, p5, _⟩ := hpk
  obtain ⟨k, hk⟩ : ∃ k : Nat, (k : Int) = p.node % (n : Nat) := ⟨(p.node % (n : Nat)).toNat, Int.toNat_of_nonneg (Int.emod_nonneg _ (by omega))⟩
  have hkn : k < nds.length := by have := Int.emod_lt_of_pos p.node (show (0 : Int) < (n : Nat) by omega); omega
  obtain ⟨d, hz⟩ : ∃ d, nds[k]? = some d := ⟨_, List.getElem?_eq_getElem hkn⟩
  have hn0 := nds_pos hz
  have hU : wbF d ∈ nds.map wbF := List.mem_map.2 ⟨d, List.mem_of_getElem? hz, rfl⟩
  have hdr : Drop1 (nds.map wbF) (wbF d) ((nds.eraseIdx k).map wbF) := drop_map hz
  have hc : 0 ≤ p.client % 6 ∧ p.client % 6 ≤ 5 := by omega
  refine Fn.enterN Tryz.func82 Tryz.ntmps82 rfl rfl ?_
  intro c hX
  refine JC_seq ?_
  refine JC_region ?_
  (refine JL_n rfl (op_box (Ev.rfl' rfl) cellsT) ?_; intro i4)
  refine JL_nil ?_
  refine JQ_then (JC_seq ?_)
  refine JC_dr rfl (by kernel_rfl) ?_
  refine JD_stretch 14 (by kernel_rfl) ?_
  refine JW_1 (op_move rfl) ?_
  refine JW_1 (by exact op_nilCheck (Ev.rfl' rfl)) ?_
  refine JW_1 (by exact op_fieldPtr (k := 1) (Ev.rfl' rfl) rfl rfl rfl rfl) ?_
  refine JW_1 (by exact op_loadPtr (Ev.rfl' rfl) memT (by rfl) (by rfl) (by rfl)) ?_
  refine JW_1 (by exact op_fieldPtr (k := 1) (Ev.rfl' rfl) rfl rfl rfl rfl) ?_
  refine JW_1 (by exact op_loadPtr (Ev.rfl' rfl) memT (by rfl) (by rfl) (by rfl)) ?_
  refine JW_1 (op_move rfl) ?_
  refine JW_1 (by exact op_nilCheck (Ev.rfl' rfl)) ?_
  refine JW_1 (by exact op_fieldPtr (k := 1) (Ev.rfl' rfl) rfl rfl rfl rfl) ?_
  refine JW_1 (by exact op_loadPtr (Ev.rfl' rfl) memT (by rfl) (by rfl) (by rfl)) ?_
  refine JW_1 (by exact op_lenLit (Ev.rfl' rfl) rfl) ?_
  refine JW_1 (by ((refine op_call Tryz.call7 (PickH_ok _ _ ?_ ?_) ⟨evS, ⟨evS, trivial⟩⟩); all_goals (omega))) ?_
  refine JW_1 (by exact op_indexBuf (k := k) (Ev.rfl' rfl) memT (Ev.rfl' rfl) rfl rfl idxT lenT) ?_
  refine JW_1 (op_assign rfl) ?_
  refine ⟨rfl, ?_⟩
  refine JD_end ?_
  refine JQ_then (JC_seq ?_)
  refine JC_region ?_
  refine JL_1 rfl (by exact op_fieldPtr (k := 2) (Ev.rfl' rfl) rfl rfl rfl rfl) ?_
  refine JL_1 rfl (by exact op_loadPtr (Ev.rfl' rfl) memT (by rfl) (by rfl) (by rfl)) ?_
  refine JL_1 rfl (by ((refine op_call Tryz.call7 (PickH_ok _ _ ?_ ?_) ⟨evS, ⟨evS, trivial⟩⟩); all_goals (omega))) ?_
  refine JL_1 rfl (op_assign rfl) ?_
  refine JL_nil ?_
  refine JQ_then (JC_seq ?_)
  refine JC_region ?_
  refine JL_1 rfl (by exact op_fieldPtr (k := 3) (Ev.rfl' rfl) rfl rfl rfl rfl) ?_
  refine JL_1 rfl (by exact op_loadPtr (Ev.rfl' rfl) memT (by rfl) (by rfl) (by rfl)) ?_
  refine JL_1 rfl (op_move rfl) ?_
  refine JL_1 rfl (by ((refine op_call Tryz.call98 (Page_ok _ _ ?_ ?_) ⟨evS, ⟨evS, trivial⟩⟩); all_goals (first | assumption | omega))) ?_
  (refine JL_n rfl (op_allocN rfl nrmT rfl) ?_; intro i8)
  refine JL_ex 29 rfl ?_; rintro ⟨pg, hpg⟩; have hg1 := hpg.lo; have hg2 := hpg.hi
  refine JL_s0 (op_storeN (Ev.rfl' rfl) (Ev.rfl' rfl) cellsT replT nrmT (by rfl) (by rfl) (by rfl)) ?_
  refine JL_nil ?_
  refine JQ_then (JC_seq ?_)
  refine JC_region ?_
  refine JL_1 rfl (by exact op_fieldPtr (k := 0) (Ev.rfl' rfl) rfl rfl rfl rfl) ?_
  refine JL_1 rfl (by exact op_loadPtr (Ev.rfl' rfl) memT (by rfl) (by rfl) (by rfl)) ?_
  refine JL_1 rfl (by ((refine op_call Tryz.call7 (PickH_ok _ _ ?_ ?_) ⟨evS, ⟨evS, trivial⟩⟩); all_goals (omega))) ?_
  refine JL_nil ?_
  refine JQ_then (JC_block (JC_seq ?_))
  refine JC_region ?_
  refine JL_1 rfl (op_eql (Ev.rfl' rfl) (Ev.rfl' rfl)) ?_
  refine JL_1 rfl (op_assign rfl) ?_
  refine JL_nil ?_
  refine JQ_then ?_
  refine JC_cond (Ev.rfl' rfl) (fun h5 => ?_) (fun h5 => ?_)
  · refine JC_dr rfl (by kernel_rfl) ?_
    refine JD_stretch 15 (by kernel_rfl) ?_
    refine JW_1 (op_move rfl) ?_
    refine JW_1 (by exact op_nilBuf (Ev.rfl' rfl) memT lenT) ?_
    refine JW_1 (by exact op_fieldBuf (k := 0) (Ev.rfl' rfl) memT lenT rfl rfl rfl rfl) ?_
    refine JW_1 (by exact op_loadBuf (Ev.rfl' rfl) memT hz rfl rfl (by rfl)) ?_
    refine JW_1 (by exact op_fieldPtr (k := 3) (Ev.rfl' rfl) rfl rfl rfl rfl) ?_
    refine JW_1 (by exact op_loadPtr (Ev.rfl' rfl) memT (by rfl) (by rfl) (by rfl)) ?_
    refine JW_1 (op_move rfl) ?_
    refine JW_1 (by exact op_nilBuf (Ev.rfl' rfl) memT lenT) ?_
    refine JW_1 (by exact op_fieldBuf (k := 0) (Ev.rfl' rfl) memT lenT rfl rfl rfl rfl) ?_
    refine JW_1 (by exact op_loadBuf (Ev.rfl' rfl) memT hz rfl rfl (by rfl)) ?_
    refine JW_1 (by exact op_lenLit (Ev.rfl' rfl) rfl) ?_
    refine JW_1 (by ((refine op_call Tryz.call7 (PickH_ok _ _ ?_ ?_) ⟨evS, ⟨evS, trivial⟩⟩); all_goals (omega))) ?_
    refine JW_1 (by exact op_fieldPtr (k := 5) (Ev.rfl' rfl) rfl rfl rfl rfl) ?_
    refine JW_1 (by exact op_loadPtr (Ev.rfl' rfl) memT (by rfl) (by rfl) (by rfl)) ?_
    refine JW_1 (op_indexW (k := (p.a % 784).toNat) (Ev.rfl' rfl) (show wb _ 784 d.w ∈ _ from memA) (Ev.rfl' rfl) rfl rfl idxT (by omega)) ?_
    refine ⟨rfl, ?_⟩
    refine JD_s0 (by kernel_rfl) rfl (op_storeW1 (n := 0) (Ev.rfl' rfl) (show wb _ 784 d.w ∈ _ from memA) (by omega) (Ev.rfl' rfl) (by exact cells_word) rfl) ?_
    refine JD_end ?_
    refine JQ_block (JQ_end ?_)
    exact JQ_retP (Bs := []) Tryz.results82 trivial ⟨nds, hl⟩ SubL.rfl' lessA
  refine JC_seq (JC_seq ?_)
  refine JC_region ?_
  refine JL_1 rfl (op_eql (Ev.rfl' rfl) (Ev.rfl' rfl)) ?_
  refine JL_1 rfl (op_assign rfl) ?_
  refine JL_nil ?_
  refine JQ_then ?_
  refine JC_cond (Ev.rfl' rfl) (fun h7 => ?_) (fun h7 => ?_)
  · refine JC_skip (JQ_then ?_)
    refine JC_cond (Ev.rfl' rfl) (fun h7 => ?_) (fun h7 => ?_)
    · refine JC_region ?_
      refine JL_1 rfl (op_move rfl) ?_
      refine JL_1 rfl (by exact op_loadPtrsN (n := 6) (Ev.rfl' rfl) memT (by rfl) (by rfl) (by rfl) (by rfl) nrmT) ?_
      refine JL_1 rfl (op_move rfl) ?_
      refine JL_1 rfl (op_move rfl) ?_
      (refine JL_s rfl (op_callM (Drops.cons drop1A (Drops.cons drop1A (Drops.nil _))) Tryz.call99 (log_ok n nb nds k d hz p hp _ hc) ⟨evS, ⟨evS, ⟨evS, ⟨evS, trivial⟩⟩⟩⟩) ?_; intro i58)
      refine JL_nil ?_
      refine JQ_block (JQ_end ?_)
      refine JQ_retP (Bs := []) Tryz.results82 trivial ⟨nds, hl⟩ SubL.rfl' ?_
      iterate 5 (refine SubP.cons (by repeat (first | exact Drop1.here _ _ | apply Drop1.next)) ?_)
      exact SubP.dropI (Drop1.next _ (Drop1.here _ _)) (SubP.dropI (Drop1.next _ (Drop1.here _ _)) (fab_unsub hz))
    refine JC_seq ?_
    refine JC_region ?_
    refine JL_1 rfl (op_eql (Ev.rfl' rfl) (Ev.rfl' rfl)) ?_
    refine JL_1 rfl (op_assign rfl) ?_
    refine JL_nil ?_
    refine JQ_then ?_
    refine JC_cond (Ev.rfl' rfl) (fun h11 => ?_) (fun h11 => ?_)
    · refine JC_dr rfl (by kernel_rfl) ?_
      refine JD_stretch 15 (by kernel_rfl) ?_
      refine JW_1 (op_move rfl) ?_
      refine JW_1 (by exact op_nilBuf (Ev.rfl' rfl) memT lenT) ?_
      refine JW_1 (by exact op_fieldBuf (k := 0) (Ev.rfl' rfl) memT lenT rfl rfl rfl rfl) ?_
      refine JW_1 (by exact op_loadBuf (Ev.rfl' rfl) memT hz rfl rfl (by rfl)) ?_
      refine JW_1 (by exact op_fieldPtr (k := 0) (Ev.rfl' rfl) rfl rfl rfl rfl) ?_
      refine JW_1 (by exact op_loadPtr (Ev.rfl' rfl) memT (by rfl) (by rfl) (by rfl)) ?_
      refine JW_1 (by ((refine op_call Tryz.call100 (PageAt_ok _ ?_) ⟨evS, trivial⟩); all_goals (omega))) ?_
      refine JW_1 (by exact op_fieldPtr (k := 1) (Ev.rfl' rfl) rfl rfl rfl rfl) ?_
      refine JW_1 (by exact op_loadPtr (Ev.rfl' rfl) memT (by rfl) (by rfl) (by rfl)) ?_
      refine JW_1 (by exact op_fieldPtr (k := 4) (Ev.rfl' rfl) rfl rfl rfl rfl) ?_
      refine JW_1 (by exact op_loadPtr (Ev.rfl' rfl) memT (by rfl) (by rfl) (by rfl)) ?_
      refine JW_1 (by ((refine op_call Tryz.call7 (PickH_ok _ _ ?_ ?_) ⟨evS, ⟨evS, trivial⟩⟩); all_goals (omega))) ?_
      refine JW_1 (op_conv (Ev.rfl' rfl) rfl rfl convT) ?_
      refine JW_1 (by exact op_bits ev64 ev64 (by simp) (or_u64 _ _)) ?_
      refine JW_1 (op_indexW (k := (pg.l * 8).toNat) (Ev.rfl' rfl) (show wb _ 784 d.w ∈ _ from memA) (Ev.rfl' rfl) rfl rfl idxT (by omega)) ?_
      refine ⟨rfl, ?_⟩
      refine JD_s0 (by kernel_rfl) rfl (op_storeW1 (n := 0) (Ev.rfl' rfl) (show wb _ 784 d.w ∈ _ from memA) (by omega) (Ev.rfl' rfl) (by exact cells_word) rfl) ?_
      refine JD_end ?_
      refine JQ_block (JQ_end ?_)
      exact JQ_retP (Bs := []) Tryz.results82 trivial ⟨nds, hl⟩ SubL.rfl' lessA
    refine JC_seq ?_
    refine JC_region ?_
    refine JL_1 rfl (op_eql (Ev.rfl' rfl) (Ev.rfl' rfl)) ?_
    refine JL_1 rfl (op_assign rfl) ?_
    refine JL_nil ?_
    refine JQ_then ?_
    refine JC_cond (Ev.rfl' rfl) (fun h13 => ?_) (fun h13 => ?_)
    · refine JC_dr rfl (by kernel_rfl) ?_
      refine JD_stretch 11 (by kernel_rfl) ?_
      refine JW_1 (op_move rfl) ?_
      refine JW_1 (by exact op_nilBuf (Ev.rfl' rfl) memT lenT) ?_
      refine JW_1 (by exact op_fieldBuf (k := 0) (Ev.rfl' rfl) memT lenT rfl rfl rfl rfl) ?_
      refine JW_1 (by exact op_loadBuf (Ev.rfl' rfl) memT hz rfl rfl (by rfl)) ?_
      refine JW_1 (op_move rfl) ?_
      refine JW_1 (by ((refine op_call Tryz.call101 (DoorN_ok _ ?_) ⟨evS, trivial⟩); all_goals (omega))) ?_
      refine JW_1 (by exact op_fieldPtr (k := 3) (Ev.rfl' rfl) rfl rfl rfl rfl) ?_
      refine JW_1 (by exact op_loadPtr (Ev.rfl' rfl) memT (by rfl) (by rfl) (by rfl)) ?_
      refine JW_1 (by ((refine op_call Tryz.call7 (PickH_ok _ _ ?_ ?_) ⟨evS, ⟨evS, trivial⟩⟩); all_goals (omega))) ?_
      refine JW_1 (op_conv (Ev.rfl' rfl) rfl rfl convT) ?_
      refine JW_1 (op_indexW (k := (24 + p.client % 6).toNat) (Ev.rfl' rfl) (show wb _ 784 d.w ∈ _ from memA) (Ev.rfl' rfl) rfl rfl idxT (by omega)) ?_
      refine ⟨rfl, ?_⟩
      refine JD_s0 (by kernel_rfl) rfl (op_storeW1 (n := 0) (Ev.rfl' rfl) (show wb _ 784 d.w ∈ _ from memA) (by omega) (Ev.rfl' rfl) (by exact cells_wordI (by omega)) rfl) ?_
      refine JD_end ?_
      refine JQ_block (JQ_end ?_)
      exact JQ_retP (Bs := []) Tryz.results82 trivial ⟨nds, hl⟩ SubL.rfl' lessA
    refine JC_seq ?_
    refine JC_region ?_
    refine JL_1 rfl (op_eql (Ev.rfl' rfl) (Ev.rfl' rfl)) ?_
    refine JL_1 rfl (op_assign rfl) ?_
    refine JL_nil ?_
    refine JQ_then ?_
    refine JC_cond (Ev.rfl' rfl) (fun h15 => ?_) (fun h15 => ?_)
    · refine JC_dr rfl (by kernel_rfl) ?_
      refine JD_phase [0, 1, 1, 1, 0, 1, 1, 1, 1, 0, 0, 1, 1, 1, 1, 0, 0, 0, 1, 2] (by kernel_rfl) (by kernel_rfl) ?_
      refine PW_0 (op_move rfl) ?_
      refine PW_1 (by exact op_nilBuf (Ev.rfl' rfl) memT lenT) ?_
      refine PW_1 (by exact op_fieldBuf (k := 0) (Ev.rfl' rfl) memT lenT rfl rfl rfl rfl) ?_
      refine PW_1 (by exact op_loadBuf (Ev.rfl' rfl) memT hz rfl rfl (by rfl)) ?_
      refine PW_0 (op_move rfl) ?_
      refine PW_1 (by ((refine op_call Tryz.call103 (TagAt_ok _ ?_) ⟨evS, trivial⟩); all_goals (omega))) ?_
      refine PW_1 (by exact op_fieldPtr (k := 3) (Ev.rfl' rfl) rfl rfl rfl rfl) ?_
      refine PW_1 (by exact op_loadPtr (Ev.rfl' rfl) memT (by rfl) (by rfl) (by rfl)) ?_
      refine PW_1 (by ((refine op_call Tryz.call7 (PickH_ok _ _ ?_ ?_) ⟨evS, ⟨evS, trivial⟩⟩); all_goals (omega))) ?_
      refine PW_0 (op_mul (Ev.rfl' rfl) (Ev.rfl' rfl) wrapT) ?_
      refine PW_0 (op_add (Ev.rfl' rfl) (Ev.rfl' rfl) wrapT) ?_
      refine PW_1 (by exact op_fieldPtr (k := 4) (Ev.rfl' rfl) rfl rfl rfl rfl) ?_
      refine PW_1 (by exact op_loadPtr (Ev.rfl' rfl) memT (by rfl) (by rfl) (by rfl)) ?_
      refine PW_1 (by ((refine op_call Tryz.call7 (PickH_ok _ _ ?_ ?_) ⟨evS, ⟨evS, trivial⟩⟩); all_goals (omega))) ?_
      refine PW_1 (by ((refine op_call Tryz.call102 (TagW_ok _ _ ?_ ?_) ⟨evS, ⟨evS, trivial⟩⟩); all_goals (unfold I64ok; omega))) ?_
      refine PW_0 (op_move rfl) ?_
      refine PW_0 (op_extract (Ev.rfl' rfl) rfl) ?_
      refine PW_0 (op_extract (Ev.rfl' rfl) rfl) ?_
      refine PW_1 (op_indexW (k := ((6 + p.client % 6 * 15) * 8 + 1).toNat) (Ev.rfl' rfl) (show wb _ 784 d.w ∈ _ from memA) (Ev.rfl' rfl) rfl rfl idxT (by omega)) ?_
      refine PW_2 (op_storeW1 (n := 0) (Ev.rfl' rfl) (show wb _ 784 d.w ∈ _ from memA) (by omega) (Ev.rfl' rfl) (by exact cells_wany) rfl) ?_
      refine PW_end ?_
      refine JD_end ?_
      refine JQ_block (JQ_end ?_)
      exact JQ_retP (Bs := []) Tryz.results82 trivial ⟨nds, hl⟩ SubL.rfl' lessA
    refine JC_seq ?_
    refine JC_region ?_
    refine JL_1 rfl (op_eql (Ev.rfl' rfl) (Ev.rfl' rfl)) ?_
    refine JL_1 rfl (op_assign rfl) ?_
    refine JL_nil ?_
    refine JQ_then ?_
    refine JC_cond (Ev.rfl' rfl) (fun h17 => ?_) (fun h17 => ?_)
    · refine JC_dr rfl (by kernel_rfl) ?_
      refine JD_stretch 11 (by kernel_rfl) ?_
      refine JW_1 (op_move rfl) ?_
      refine JW_1 (by exact op_nilBuf (Ev.rfl' rfl) memT lenT) ?_
      refine JW_1 (by exact op_fieldBuf (k := 0) (Ev.rfl' rfl) memT lenT rfl rfl rfl rfl) ?_
      refine JW_1 (by exact op_loadBuf (Ev.rfl' rfl) memT hz rfl rfl (by rfl)) ?_
      refine JW_1 (op_move rfl) ?_
      refine JW_1 (by ((refine op_call Tryz.call50 (ClockN_ok _ ?_) ⟨evS, trivial⟩); all_goals (omega))) ?_
      refine JW_1 (by exact op_fieldPtr (k := 3) (Ev.rfl' rfl) rfl rfl rfl rfl) ?_
      refine JW_1 (by exact op_loadPtr (Ev.rfl' rfl) memT (by rfl) (by rfl) (by rfl)) ?_
      refine JW_1 (by ((refine op_call Tryz.call7 (PickH_ok _ _ ?_ ?_) ⟨evS, ⟨evS, trivial⟩⟩); all_goals (omega))) ?_
      refine JW_1 (op_conv (Ev.rfl' rfl) rfl rfl convT) ?_
      refine JW_1 (op_indexW (k := (32 + p.client % 6).toNat) (Ev.rfl' rfl) (show wb _ 784 d.w ∈ _ from memA) (Ev.rfl' rfl) rfl rfl idxT (by omega)) ?_
      refine ⟨rfl, ?_⟩
      refine JD_s0 (by kernel_rfl) rfl (op_storeW1 (n := 0) (Ev.rfl' rfl) (show wb _ 784 d.w ∈ _ from memA) (by omega) (Ev.rfl' rfl) (by exact cells_wordI (by omega)) rfl) ?_
      refine JD_end ?_
      refine JQ_block (JQ_end ?_)
      exact JQ_retP (Bs := []) Tryz.results82 trivial ⟨nds, hl⟩ SubL.rfl' lessA
    refine JC_seq ?_
    refine JC_region ?_
    refine JL_1 rfl (op_eql (Ev.rfl' rfl) (Ev.rfl' rfl)) ?_
    refine JL_1 rfl (op_assign rfl) ?_
    refine JL_nil ?_
    refine JQ_then ?_
    refine JC_cond (Ev.rfl' rfl) (fun h19 => ?_) (fun h19 => ?_)
    · refine JC_dr rfl (by kernel_rfl) ?_
      refine JD_stretch 9 (by kernel_rfl) ?_
      refine JW_1 (op_move rfl) ?_
      refine JW_1 (by exact op_nilBuf (Ev.rfl' rfl) memT lenT) ?_
      refine JW_1 (by exact op_fieldBuf (k := 0) (Ev.rfl' rfl) memT lenT rfl rfl rfl rfl) ?_
      refine JW_1 (by exact op_loadBuf (Ev.rfl' rfl) memT hz rfl rfl (by rfl)) ?_
      refine JW_1 (by exact op_fieldPtr (k := 3) (Ev.rfl' rfl) rfl rfl rfl rfl) ?_
      refine JW_1 (by exact op_loadPtr (Ev.rfl' rfl) memT (by rfl) (by rfl) (by rfl)) ?_
      refine JW_1 (by ((refine op_call Tryz.call7 (PickH_ok _ _ ?_ ?_) ⟨evS, ⟨evS, trivial⟩⟩); all_goals (omega))) ?_
      refine JW_1 (op_conv (Ev.rfl' rfl) rfl rfl convT) ?_
      refine JW_1 (op_indexW (k := 0) (Ev.rfl' rfl) (show wb _ 784 d.w ∈ _ from memA) (Ev.rfl' rfl) rfl rfl idxT (by omega)) ?_
      refine ⟨rfl, ?_⟩
      refine JD_s0 (by kernel_rfl) rfl (op_storeW1 (n := 0) (Ev.rfl' rfl) (show wb _ 784 d.w ∈ _ from memA) (by omega) (Ev.rfl' rfl) (by exact cells_wordI (by omega)) rfl) ?_
      refine JD_end ?_
      refine JQ_block (JQ_end ?_)
      exact JQ_retP (Bs := []) Tryz.results82 trivial ⟨nds, hl⟩ SubL.rfl' lessA
    refine JC_seq ?_
    refine JC_region ?_
    refine JL_1 rfl (op_eql (Ev.rfl' rfl) (Ev.rfl' rfl)) ?_
    refine JL_1 rfl (op_assign rfl) ?_
    refine JL_nil ?_
    refine JQ_then ?_
    refine JC_cond (Ev.rfl' rfl) (fun h21 => ?_) (fun h21 => ?_)
    · refine JC_dr rfl (by kernel_rfl) ?_
      refine JD_stretch 10 (by kernel_rfl) ?_
      refine JW_1 (op_move rfl) ?_
      refine JW_1 (by exact op_nilBuf (Ev.rfl' rfl) memT lenT) ?_
      refine JW_1 (by exact op_fieldBuf (k := 0) (Ev.rfl' rfl) memT lenT rfl rfl rfl rfl) ?_
      refine JW_1 (by exact op_loadBuf (Ev.rfl' rfl) memT hz rfl rfl (by rfl)) ?_
      refine JW_1 (by exact op_fieldPtr (k := 3) (Ev.rfl' rfl) rfl rfl rfl rfl) ?_
      refine JW_1 (by exact op_loadPtr (Ev.rfl' rfl) memT (by rfl) (by rfl) (by rfl)) ?_
      refine JW_1 (by ((refine op_call Tryz.call7 (PickH_ok _ _ ?_ ?_) ⟨evS, ⟨evS, trivial⟩⟩); all_goals (omega))) ?_
      refine JW_1 (op_add (Ev.rfl' rfl) (Ev.rfl' rfl) wrapT) ?_
      refine JW_1 (op_conv (Ev.rfl' rfl) rfl rfl convT) ?_
      refine JW_1 (op_indexW (k := 1) (Ev.rfl' rfl) (show wb _ 784 d.w ∈ _ from memA) (Ev.rfl' rfl) rfl rfl idxT (by omega)) ?_
      refine ⟨rfl, ?_⟩
      refine JD_s0 (by kernel_rfl) rfl (op_storeW1 (n := 0) (Ev.rfl' rfl) (show wb _ 784 d.w ∈ _ from memA) (by omega) (Ev.rfl' rfl) (by exact cells_wordI (by omega)) rfl) ?_
      refine JD_end ?_
      refine JQ_block (JQ_end ?_)
      exact JQ_retP (Bs := []) Tryz.results82 trivial ⟨nds, hl⟩ SubL.rfl' lessA
    refine JC_seq ?_
    refine JC_region ?_
    refine JL_1 rfl (op_eql (Ev.rfl' rfl) (Ev.rfl' rfl)) ?_
    refine JL_1 rfl (op_assign rfl) ?_
    refine JL_nil ?_
    refine JQ_then ?_
    refine JC_cond (Ev.rfl' rfl) (fun h23 => ?_) (fun h23 => ?_)
    · refine JC_region ?_
      refine JL_1 rfl (op_move rfl) ?_
      refine JL_1 rfl (op_move rfl) ?_
      refine JL_1 rfl (by exact op_loadPtrsN (n := 6) (Ev.rfl' rfl) memT (by rfl) (by rfl) (by rfl) (by rfl) nrmT) ?_
      (refine JL_s rfl (op_callM (Drops.cons drop1A (Drops.cons drop1A (Drops.cons drop1A (Drops.nil _)))) Tryz.call104 (consensus_ok f n hn nb cb lb nds k d hz p hp) ⟨evS, ⟨evS, ⟨evS, trivial⟩⟩⟩) ?_; intro i151)
      refine JL_nil ?_
      refine JQ_block (JQ_end ?_)
      refine JQ_retP (Bs := []) Tryz.results82 trivial ⟨nds, hl⟩ SubL.rfl' ?_
      iterate 5 (refine SubP.cons (by repeat (first | exact Drop1.here _ _ | apply Drop1.next)) ?_)
      exact SubP.dropI (Drop1.next _ (Drop1.here _ _)) (SubP.dropI (Drop1.next _ (Drop1.here _ _)) (fab_unsub hz))
    refine JC_seq ?_
    refine JC_region ?_
    refine JL_1 rfl (op_eql (Ev.rfl' rfl) (Ev.rfl' rfl)) ?_
    refine JL_1 rfl (op_assign rfl) ?_
    refine JL_nil ?_
    refine JQ_then ?_
    refine JC_cond (Ev.rfl' rfl) (fun h25 => ?_) (fun h25 => ?_)
    · refine JC_region ?_
      refine JL_1 rfl (op_move rfl) ?_
      refine JL_1 rfl (by exact op_nilBuf (Ev.rfl' rfl) memT lenT) ?_
      refine JL_1 rfl (by exact op_fieldBuf (k := 1) (Ev.rfl' rfl) memT lenT rfl rfl rfl rfl) ?_
      refine JL_s0 (by exact op_storeBuf (z' := (⟨d.w, false⟩ : FN)) (Ev.rfl' rfl) (Ev.rfl' rfl) cellsT replT hz rfl (by rfl) (by rfl)) ?_
      refine JL_nil ?_
      refine JQ_block (JQ_end ?_)
      refine JQ_retP (Bs := []) Tryz.results82 trivial ⟨nds.set k ⟨d.w, false⟩, by simp [hl]⟩ SubL.rfl' ?_
      unfold fabL
      dsimp only
      rw [wbF_up hz]
      exact lessA
    refine JC_seq ?_
    refine JC_region ?_
    refine JL_1 rfl (op_eql (Ev.rfl' rfl) (Ev.rfl' rfl)) ?_
    refine JL_1 rfl (op_assign rfl) ?_
    refine JL_nil ?_
    refine JQ_then ?_
    refine JC_cond (Ev.rfl' rfl) (fun h27 => ?_) (fun h27 => ?_)
    · refine JC_seq ?_
      refine JC_region ?_
      refine JL_1 rfl (op_assign rfl) ?_
      refine JL_nil ?_
      refine JQ_then (JC_block ?_)
      refine JC_loopP (fun i : Nat => i ≤ n) (fun i => [(0, Is (.pointer (some ⟨f, 0, none⟩))), (2, Is (.int .i64 98)), (4, Is (.pointer (some ⟨i4, 0, none⟩))), (7, Is (.int .i64 (p.client % 6))), (9, Is (.int .i64 (i : Nat)))]) (fun i => blk i4 149 (tGPoke.cells p) :: fabL f n nb cb lb pb nds cn prs) (fun i => n - i) 0 (Nat.zero_le _) esubT lessA ?_
      intro i hi
      refine JC_seq (JC_seq ?_)
      refine JC_region ?_
      refine JL_1 rfl (op_move rfl) ?_
      refine JL_1 rfl (op_move rfl) ?_
      refine JL_1 rfl (by exact op_nilCheck (Ev.rfl' rfl)) ?_
      refine JL_1 rfl (by exact op_fieldPtr (k := 1) (Ev.rfl' rfl) rfl rfl rfl rfl) ?_
      refine JL_1 rfl (by exact op_loadPtr (Ev.rfl' rfl) memT (by rfl) (by rfl) (by rfl)) ?_
      refine JL_1 rfl (by exact op_lenLit (Ev.rfl' rfl) rfl) ?_
      refine JL_1 rfl (op_lss (Ev.rfl' rfl) (Ev.rfl' rfl)) ?_
      refine JL_nil ?_
      refine JQ_then ?_
      refine JC_cond (Ev.rfl' rfl) (fun h29 => ?_) (fun h29 => ?_)
      · have hlt : i < nds.length := by have := of_decide_eq_true h29; omega
        clear h29
        obtain ⟨d2, hz2⟩ : ∃ d, nds[i]? = some d := ⟨_, List.getElem?_eq_getElem hlt⟩
        have hdr2 : Drop1 (nds.map wbF) (wbF d2) ((nds.eraseIdx i).map wbF) := drop_map hz2
        clear hdr
        refine JC_skip (JQ_then (JC_seq (JC_block ?_)))
        refine JC_dr rfl (by kernel_rfl) ?_
        refine JD_stretch 9 (by kernel_rfl) ?_
        refine JW_1 (op_move rfl) ?_
        refine JW_1 (by exact op_nilCheck (Ev.rfl' rfl)) ?_
        refine JW_1 (by exact op_fieldPtr (k := 1) (Ev.rfl' rfl) rfl rfl rfl rfl) ?_
        refine JW_1 (by exact op_loadPtr (Ev.rfl' rfl) memT (by rfl) (by rfl) (by rfl)) ?_
        refine JW_1 (op_move rfl) ?_
        refine JW_1 (by exact op_indexBuf (k := i) (Ev.rfl' rfl) memT (Ev.rfl' rfl) rfl rfl idxT lenT) ?_
        refine JW_1 (by exact op_loadPtrsN (n := 6) (Ev.rfl' rfl) memT (by rfl) (by rfl) (by rfl) (by rfl) nrmT) ?_
        refine JW_1 (op_move rfl) ?_
        refine JW_1 (op_move rfl) ?_
        refine ⟨rfl, ?_⟩
        (refine JD_s (by kernel_rfl) rfl rfl (op_callM (Drops.cons drop1A (Drops.cons drop1A (Drops.nil _))) Tryz.call99 (log_ok n nb nds i d2 hz2 p hp _ hc) ⟨evS, ⟨evS, ⟨evS, ⟨evS, trivial⟩⟩⟩⟩) ?_; intro i177)
        refine JD_end ?_
        refine JQ_block (JQ_then ?_)
        refine JC_region ?_
        refine JL_1 rfl (op_move rfl) ?_
        refine JL_1 rfl (op_add (Ev.rfl' rfl) (Ev.rfl' rfl) wrapT) ?_
        refine JL_1 rfl (op_assign rfl) ?_
        refine JL_nil ?_
        refine JQ_roundP (i + 1) (by omega) (by omega) esubT ?_
        iterate 6 (refine SubP.cons (by repeat (first | exact Drop1.here _ _ | apply Drop1.next)) ?_)
        exact fab_unsub hz2
      refine JC_exit (JQ_then_exit (JQ_then_exit (JQ_hit (JQ_block (JQ_end ?_)))))
      exact JQ_retP (Bs := []) Tryz.results82 trivial ⟨nds, hl⟩ SubL.rfl' lessA
    refine JC_seq ?_
    refine JC_region ?_
    refine JL_1 rfl (op_eql (Ev.rfl' rfl) (Ev.rfl' rfl)) ?_
    refine JL_1 rfl (op_assign rfl) ?_
    refine JL_nil ?_
    refine JQ_then ?_
    refine JC_cond (Ev.rfl' rfl) (fun h32 => ?_) (fun h32 => ?_)
    · refine JC_dr rfl (by kernel_rfl) ?_
      refine JD_phase [0, 1, 1, 1, 0, 1, 1, 1, 1, 0, 0, 1, 1, 1, 1, 0, 0, 0, 1, 2] (by kernel_rfl) (by kernel_rfl) ?_
      refine PW_0 (op_move rfl) ?_
      refine PW_1 (by exact op_nilBuf (Ev.rfl' rfl) memT lenT) ?_
      refine PW_1 (by exact op_fieldBuf (k := 0) (Ev.rfl' rfl) memT lenT rfl rfl rfl rfl) ?_
      refine PW_1 (by exact op_loadBuf (Ev.rfl' rfl) memT hz rfl rfl (by rfl)) ?_
      refine PW_0 (op_move rfl) ?_
      refine PW_1 (by ((refine op_call Tryz.call36 (LeaseN_ok _ ?_) ⟨evS, trivial⟩); all_goals (omega))) ?_
      refine PW_1 (by exact op_fieldPtr (k := 3) (Ev.rfl' rfl) rfl rfl rfl rfl) ?_
      refine PW_1 (by exact op_loadPtr (Ev.rfl' rfl) memT (by rfl) (by rfl) (by rfl)) ?_
      refine PW_1 (by ((refine op_call Tryz.call7 (PickH_ok _ _ ?_ ?_) ⟨evS, ⟨evS, trivial⟩⟩); all_goals (omega))) ?_
      refine PW_0 (op_mul (Ev.rfl' rfl) (Ev.rfl' rfl) wrapT) ?_
      refine PW_0 (op_add (Ev.rfl' rfl) (Ev.rfl' rfl) wrapT) ?_
      refine PW_1 (by exact op_fieldPtr (k := 4) (Ev.rfl' rfl) rfl rfl rfl rfl) ?_
      refine PW_1 (by exact op_loadPtr (Ev.rfl' rfl) memT (by rfl) (by rfl) (by rfl)) ?_
      refine PW_1 (by ((refine op_call Tryz.call7 (PickH_ok _ _ ?_ ?_) ⟨evS, ⟨evS, trivial⟩⟩); all_goals (omega))) ?_
      refine PW_1 (op_call Tryz.call33 (LeaseR_ok _ _) ⟨evS, ⟨evS, trivial⟩⟩) ?_
      refine PW_0 (op_move rfl) ?_
      refine PW_0 (op_extract (Ev.rfl' rfl) rfl) ?_
      refine PW_0 (op_extract (Ev.rfl' rfl) rfl) ?_
      refine PW_1 (op_indexW (k := (40 + p.client % 6).toNat) (Ev.rfl' rfl) (show wb _ 784 d.w ∈ _ from memA) (Ev.rfl' rfl) rfl rfl idxT (by omega)) ?_
      refine PW_2 (op_storeW1 (n := 0) (Ev.rfl' rfl) (show wb _ 784 d.w ∈ _ from memA) (by omega) (Ev.rfl' rfl) (by exact cells_word) rfl) ?_
      refine PW_end ?_
      refine JD_end ?_
      refine JQ_block (JQ_end ?_)
      exact JQ_retP (Bs := []) Tryz.results82 trivial ⟨nds, hl⟩ SubL.rfl' lessA
    refine JC_skip (JQ_block (JQ_end ?_))
    exact JQ_retP (Bs := []) Tryz.results82 trivial ⟨nds, hl⟩ SubL.rfl' lessA
  refine JC_seq ?_
  refine JC_region ?_
  refine JL_1 rfl (op_eql (Ev.rfl' rfl) (Ev.rfl' rfl)) ?_
  refine JL_1 rfl (op_assign rfl) ?_
  refine JL_nil ?_
  refine JQ_then ?_
  refine JC_cond (Ev.rfl' rfl) (fun h8 => ?_) (fun h8 => ?_)
  · refine JC_skip (JQ_then ?_)
    refine JC_cond (Ev.rfl' rfl) (fun h8 => ?_) (fun h8 => ?_)
    · refine JC_region ?_
      refine JL_1 rfl (op_move rfl) ?_
      refine JL_1 rfl (by exact op_loadPtrsN (n := 6) (Ev.rfl' rfl) memT (by rfl) (by rfl) (by rfl) (by rfl) nrmT) ?_
      refine JL_1 rfl (op_move rfl) ?_
      refine JL_1 rfl (op_move rfl) ?_
      (refine JL_s rfl (op_callM (Drops.cons drop1A (Drops.cons drop1A (Drops.nil _))) Tryz.call99 (log_ok n nb nds k d hz p hp _ hc) ⟨evS, ⟨evS, ⟨evS, ⟨evS, trivial⟩⟩⟩⟩) ?_; intro i58)
      refine JL_nil ?_
      refine JQ_block (JQ_end ?_)
      refine JQ_retP (Bs := []) Tryz.results82 trivial ⟨nds, hl⟩ SubL.rfl' ?_
      iterate 5 (refine SubP.cons (by repeat (first | exact Drop1.here _ _ | apply Drop1.next)) ?_)
      exact SubP.dropI (Drop1.next _ (Drop1.here _ _)) (SubP.dropI (Drop1.next _ (Drop1.here _ _)) (fab_unsub hz))
    refine JC_seq ?_
    refine JC_region ?_
    refine JL_1 rfl (op_eql (Ev.rfl' rfl) (Ev.rfl' rfl)) ?_
    refine JL_1 rfl (op_assign rfl) ?_
    refine JL_nil ?_
    refine JQ_then ?_
    refine JC_cond (Ev.rfl' rfl) (fun h11 => ?_) (fun h11 => ?_)
    · refine JC_dr rfl (by kernel_rfl) ?_
      refine JD_stretch 15 (by kernel_rfl) ?_
      refine JW_1 (op_move rfl) ?_
      refine JW_1 (by exact op_nilBuf (Ev.rfl' rfl) memT lenT) ?_
      refine JW_1 (by exact op_fieldBuf (k := 0) (Ev.rfl' rfl) memT lenT rfl rfl rfl rfl) ?_
      refine JW_1 (by exact op_loadBuf (Ev.rfl' rfl) memT hz rfl rfl (by rfl)) ?_
      refine JW_1 (by exact op_fieldPtr (k := 0) (Ev.rfl' rfl) rfl rfl rfl rfl) ?_
      refine JW_1 (by exact op_loadPtr (Ev.rfl' rfl) memT (by rfl) (by rfl) (by rfl)) ?_
      refine JW_1 (by ((refine op_call Tryz.call100 (PageAt_ok _ ?_) ⟨evS, trivial⟩); all_goals (omega))) ?_
      refine JW_1 (by exact op_fieldPtr (k := 1) (Ev.rfl' rfl) rfl rfl rfl rfl) ?_
      refine JW_1 (by exact op_loadPtr (Ev.rfl' rfl) memT (by rfl) (by rfl) (by rfl)) ?_
      refine JW_1 (by exact op_fieldPtr (k := 4) (Ev.rfl' rfl) rfl rfl rfl rfl) ?_
      refine JW_1 (by exact op_loadPtr (Ev.rfl' rfl) memT (by rfl) (by rfl) (by rfl)) ?_
      refine JW_1 (by ((refine op_call Tryz.call7 (PickH_ok _ _ ?_ ?_) ⟨evS, ⟨evS, trivial⟩⟩); all_goals (omega))) ?_
      refine JW_1 (op_conv (Ev.rfl' rfl) rfl rfl convT) ?_
      refine JW_1 (by exact op_bits ev64 ev64 (by simp) (or_u64 _ _)) ?_
      refine JW_1 (op_indexW (k := (pg.l * 8).toNat) (Ev.rfl' rfl) (show wb _ 784 d.w ∈ _ from memA) (Ev.rfl' rfl) rfl rfl idxT (by omega)) ?_
      refine ⟨rfl, ?_⟩
      refine JD_s0 (by kernel_rfl) rfl (op_storeW1 (n := 0) (Ev.rfl' rfl) (show wb _ 784 d.w ∈ _ from memA) (by omega) (Ev.rfl' rfl) (by exact cells_word) rfl) ?_
      refine JD_end ?_
      refine JQ_block (JQ_end ?_)
      exact JQ_retP (Bs := []) Tryz.results82 trivial ⟨nds, hl⟩ SubL.rfl' lessA
    refine JC_seq ?_
    refine JC_region ?_
    refine JL_1 rfl (op_eql (Ev.rfl' rfl) (Ev.rfl' rfl)) ?_
    refine JL_1 rfl (op_assign rfl) ?_
    refine JL_nil ?_
    refine JQ_then ?_
    refine JC_cond (Ev.rfl' rfl) (fun h13 => ?_) (fun h13 => ?_)
    · refine JC_dr rfl (by kernel_rfl) ?_
      refine JD_stretch 11 (by kernel_rfl) ?_
      refine JW_1 (op_move rfl) ?_
      refine JW_1 (by exact op_nilBuf (Ev.rfl' rfl) memT lenT) ?_
      refine JW_1 (by exact op_fieldBuf (k := 0) (Ev.rfl' rfl) memT lenT rfl rfl rfl rfl) ?_
      refine JW_1 (by exact op_loadBuf (Ev.rfl' rfl) memT hz rfl rfl (by rfl)) ?_
      refine JW_1 (op_move rfl) ?_
      refine JW_1 (by ((refine op_call Tryz.call101 (DoorN_ok _ ?_) ⟨evS, trivial⟩); all_goals (omega))) ?_
      refine JW_1 (by exact op_fieldPtr (k := 3) (Ev.rfl' rfl) rfl rfl rfl rfl) ?_
      refine JW_1 (by exact op_loadPtr (Ev.rfl' rfl) memT (by rfl) (by rfl) (by rfl)) ?_
      refine JW_1 (by ((refine op_call Tryz.call7 (PickH_ok _ _ ?_ ?_) ⟨evS, ⟨evS, trivial⟩⟩); all_goals (omega))) ?_
      refine JW_1 (op_conv (Ev.rfl' rfl) rfl rfl convT) ?_
      refine JW_1 (op_indexW (k := (24 + p.client % 6).toNat) (Ev.rfl' rfl) (show wb _ 784 d.w ∈ _ from memA) (Ev.rfl' rfl) rfl rfl idxT (by omega)) ?_
      refine ⟨rfl, ?_⟩
      refine JD_s0 (by kernel_rfl) rfl (op_storeW1 (n := 0) (Ev.rfl' rfl) (show wb _ 784 d.w ∈ _ from memA) (by omega) (Ev.rfl' rfl) (by exact cells_wordI (by omega)) rfl) ?_
      refine JD_end ?_
      refine JQ_block (JQ_end ?_)
      exact JQ_retP (Bs := []) Tryz.results82 trivial ⟨nds, hl⟩ SubL.rfl' lessA
    refine JC_seq ?_
    refine JC_region ?_
    refine JL_1 rfl (op_eql (Ev.rfl' rfl) (Ev.rfl' rfl)) ?_
    refine JL_1 rfl (op_assign rfl) ?_
    refine JL_nil ?_
    refine JQ_then ?_
    refine JC_cond (Ev.rfl' rfl) (fun h15 => ?_) (fun h15 => ?_)
    · refine JC_dr rfl (by kernel_rfl) ?_
      refine JD_phase [0, 1, 1, 1, 0, 1, 1, 1, 1, 0, 0, 1, 1, 1, 1, 0, 0, 0, 1, 2] (by kernel_rfl) (by kernel_rfl) ?_
      refine PW_0 (op_move rfl) ?_
      refine PW_1 (by exact op_nilBuf (Ev.rfl' rfl) memT lenT) ?_
      refine PW_1 (by exact op_fieldBuf (k := 0) (Ev.rfl' rfl) memT lenT rfl rfl rfl rfl) ?_
      refine PW_1 (by exact op_loadBuf (Ev.rfl' rfl) memT hz rfl rfl (by rfl)) ?_
      refine PW_0 (op_move rfl) ?_
      refine PW_1 (by ((refine op_call Tryz.call103 (TagAt_ok _ ?_) ⟨evS, trivial⟩); all_goals (omega))) ?_
      refine PW_1 (by exact op_fieldPtr (k := 3) (Ev.rfl' rfl) rfl rfl rfl rfl) ?_
      refine PW_1 (by exact op_loadPtr (Ev.rfl' rfl) memT (by rfl) (by rfl) (by rfl)) ?_
      refine PW_1 (by ((refine op_call Tryz.call7 (PickH_ok _ _ ?_ ?_) ⟨evS, ⟨evS, trivial⟩⟩); all_goals (omega))) ?_
      refine PW_0 (op_mul (Ev.rfl' rfl) (Ev.rfl' rfl) wrapT) ?_
      refine PW_0 (op_add (Ev.rfl' rfl) (Ev.rfl' rfl) wrapT) ?_
      refine PW_1 (by exact op_fieldPtr (k := 4) (Ev.rfl' rfl) rfl rfl rfl rfl) ?_
      refine PW_1 (by exact op_loadPtr (Ev.rfl' rfl) memT (by rfl) (by rfl) (by rfl)) ?_
      refine PW_1 (by ((refine op_call Tryz.call7 (PickH_ok _ _ ?_ ?_) ⟨evS, ⟨evS, trivial⟩⟩); all_goals (omega))) ?_
      refine PW_1 (by ((refine op_call Tryz.call102 (TagW_ok _ _ ?_ ?_) ⟨evS, ⟨evS, trivial⟩⟩); all_goals (unfold I64ok; omega))) ?_
      refine PW_0 (op_move rfl) ?_
      refine PW_0 (op_extract (Ev.rfl' rfl) rfl) ?_
      refine PW_0 (op_extract (Ev.rfl' rfl) rfl) ?_
      refine PW_1 (op_indexW (k := ((6 + p.client % 6 * 15) * 8 + 1).toNat) (Ev.rfl' rfl) (show wb _ 784 d.w ∈ _ from memA) (Ev.rfl' rfl) rfl rfl idxT (by omega)) ?_
      refine PW_2 (op_storeW1 (n := 0) (Ev.rfl' rfl) (show wb _ 784 d.w ∈ _ from memA) (by omega) (Ev.rfl' rfl) (by exact cells_wany) rfl) ?_
      refine PW_end ?_
      refine JD_end ?_
      refine JQ_block (JQ_end ?_)
      exact JQ_retP (Bs := []) Tryz.results82 trivial ⟨nds, hl⟩ SubL.rfl' lessA
    refine JC_seq ?_
    refine JC_region ?_
    refine JL_1 rfl (op_eql (Ev.rfl' rfl) (Ev.rfl' rfl)) ?_
    refine JL_1 rfl (op_assign rfl) ?_
    refine JL_nil ?_
    refine JQ_then ?_
    refine JC_cond (Ev.rfl' rfl) (fun h17 => ?_) (fun h17 => ?_)
    · refine JC_dr rfl (by kernel_rfl) ?_
      refine JD_stretch 11 (by kernel_rfl) ?_
      refine JW_1 (op_move rfl) ?_
      refine JW_1 (by exact op_nilBuf (Ev.rfl' rfl) memT lenT) ?_
      refine JW_1 (by exact op_fieldBuf (k := 0) (Ev.rfl' rfl) memT lenT rfl rfl rfl rfl) ?_
      refine JW_1 (by exact op_loadBuf (Ev.rfl' rfl) memT hz rfl rfl (by rfl)) ?_
      refine JW_1 (op_move rfl) ?_
      refine JW_1 (by ((refine op_call Tryz.call50 (ClockN_ok _ ?_) ⟨evS, trivial⟩); all_goals (omega))) ?_
      refine JW_1 (by exact op_fieldPtr (k := 3) (Ev.rfl' rfl) rfl rfl rfl rfl) ?_
      refine JW_1 (by exact op_loadPtr (Ev.rfl' rfl) memT (by rfl) (by rfl) (by rfl)) ?_
      refine JW_1 (by ((refine op_call Tryz.call7 (PickH_ok _ _ ?_ ?_) ⟨evS, ⟨evS, trivial⟩⟩); all_goals (omega))) ?_
      refine JW_1 (op_conv (Ev.rfl' rfl) rfl rfl convT) ?_
      refine JW_1 (op_indexW (k := (32 + p.client % 6).toNat) (Ev.rfl' rfl) (show wb _ 784 d.w ∈ _ from memA) (Ev.rfl' rfl) rfl rfl idxT (by omega)) ?_
      refine ⟨rfl, ?_⟩
      refine JD_s0 (by kernel_rfl) rfl (op_storeW1 (n := 0) (Ev.rfl' rfl) (show wb _ 784 d.w ∈ _ from memA) (by omega) (Ev.rfl' rfl) (by exact cells_wordI (by omega)) rfl) ?_
      refine JD_end ?_
      refine JQ_block (JQ_end ?_)
      exact JQ_retP (Bs := []) Tryz.results82 trivial ⟨nds, hl⟩ SubL.rfl' lessA
    refine JC_seq ?_
    refine JC_region ?_
    refine JL_1 rfl (op_eql (Ev.rfl' rfl) (Ev.rfl' rfl)) ?_
    refine JL_1 rfl (op_assign rfl) ?_
    refine JL_nil ?_
    refine JQ_then ?_
    refine JC_cond (Ev.rfl' rfl) (fun h19 => ?_) (fun h19 => ?_)
    · refine JC_dr rfl (by kernel_rfl) ?_
      refine JD_stretch 9 (by kernel_rfl) ?_
      refine JW_1 (op_move rfl) ?_
      refine JW_1 (by exact op_nilBuf (Ev.rfl' rfl) memT lenT) ?_
      refine JW_1 (by exact op_fieldBuf (k := 0) (Ev.rfl' rfl) memT lenT rfl rfl rfl rfl) ?_
      refine JW_1 (by exact op_loadBuf (Ev.rfl' rfl) memT hz rfl rfl (by rfl)) ?_
      refine JW_1 (by exact op_fieldPtr (k := 3) (Ev.rfl' rfl) rfl rfl rfl rfl) ?_
      refine JW_1 (by exact op_loadPtr (Ev.rfl' rfl) memT (by rfl) (by rfl) (by rfl)) ?_
      refine JW_1 (by ((refine op_call Tryz.call7 (PickH_ok _ _ ?_ ?_) ⟨evS, ⟨evS, trivial⟩⟩); all_goals (omega))) ?_
      refine JW_1 (op_conv (Ev.rfl' rfl) rfl rfl convT) ?_
      refine JW_1 (op_indexW (k := 0) (Ev.rfl' rfl) (show wb _ 784 d.w ∈ _ from memA) (Ev.rfl' rfl) rfl rfl idxT (by omega)) ?_
      refine ⟨rfl, ?_⟩
      refine JD_s0 (by kernel_rfl) rfl (op_storeW1 (n := 0) (Ev.rfl' rfl) (show wb _ 784 d.w ∈ _ from memA) (by omega) (Ev.rfl' rfl) (by exact cells_wordI (by omega)) rfl) ?_
      refine JD_end ?_
      refine JQ_block (JQ_end ?_)
      exact JQ_retP (Bs := []) Tryz.results82 trivial ⟨nds, hl⟩ SubL.rfl' lessA
    refine JC_seq ?_
    refine JC_region ?_
    refine JL_1 rfl (op_eql (Ev.rfl' rfl) (Ev.rfl' rfl)) ?_
    refine JL_1 rfl (op_assign rfl) ?_
    refine JL_nil ?_
    refine JQ_then ?_
    refine JC_cond (Ev.rfl' rfl) (fun h21 => ?_) (fun h21 => ?_)
    · refine JC_dr rfl (by kernel_rfl) ?_
      refine JD_stretch 10 (by kernel_rfl) ?_
      refine JW_1 (op_move rfl) ?_
      refine JW_1 (by exact op_nilBuf (Ev.rfl' rfl) memT lenT) ?_
      refine JW_1 (by exact op_fieldBuf (k := 0) (Ev.rfl' rfl) memT lenT rfl rfl rfl rfl) ?_
      refine JW_1 (by exact op_loadBuf (Ev.rfl' rfl) memT hz rfl rfl (by rfl)) ?_
      refine JW_1 (by exact op_fieldPtr (k := 3) (Ev.rfl' rfl) rfl rfl rfl rfl) ?_
      refine JW_1 (by exact op_loadPtr (Ev.rfl' rfl) memT (by rfl) (by rfl) (by rfl)) ?_
      refine JW_1 (by ((refine op_call Tryz.call7 (PickH_ok _ _ ?_ ?_) ⟨evS, ⟨evS, trivial⟩⟩); all_goals (omega))) ?_
      refine JW_1 (op_add (Ev.rfl' rfl) (Ev.rfl' rfl) wrapT) ?_
      refine JW_1 (op_conv (Ev.rfl' rfl) rfl rfl convT) ?_
      refine JW_1 (op_indexW (k := 1) (Ev.rfl' rfl) (show wb _ 784 d.w ∈ _ from memA) (Ev.rfl' rfl) rfl rfl idxT (by omega)) ?_
      refine ⟨rfl, ?_⟩
      refine JD_s0 (by kernel_rfl) rfl (op_storeW1 (n := 0) (Ev.rfl' rfl) (show wb _ 784 d.w ∈ _ from memA) (by omega) (Ev.rfl' rfl) (by exact cells_wordI (by omega)) rfl) ?_
      refine JD_end ?_
      refine JQ_block (JQ_end ?_)
      exact JQ_retP (Bs := []) Tryz.results82 trivial ⟨nds, hl⟩ SubL.rfl' lessA
    refine JC_seq ?_
    refine JC_region ?_
    refine JL_1 rfl (op_eql (Ev.rfl' rfl) (Ev.rfl' rfl)) ?_
    refine JL_1 rfl (op_assign rfl) ?_
    refine JL_nil ?_
    refine JQ_then ?_
    refine JC_cond (Ev.rfl' rfl) (fun h23 => ?_) (fun h23 => ?_)
    · refine JC_region ?_
      refine JL_1 rfl (op_move rfl) ?_
      refine JL_1 rfl (op_move rfl) ?_
      refine JL_1 rfl (by exact op_loadPtrsN (n := 6) (Ev.rfl' rfl) memT (by rfl) (by rfl) (by rfl) (by rfl) nrmT) ?_
      (refine JL_s rfl (op_callM (Drops.cons drop1A (Drops.cons drop1A (Drops.cons drop1A (Drops.nil _)))) Tryz.call104 (consensus_ok f n hn nb cb lb nds k d hz p hp) ⟨evS, ⟨evS, ⟨evS, trivial⟩⟩⟩) ?_; intro i151)
      refine JL_nil ?_
      refine JQ_block (JQ_end ?_)
      refine JQ_retP (Bs := []) Tryz.results82 trivial ⟨nds, hl⟩ SubL.rfl' ?_
      iterate 5 (refine SubP.cons (by repeat (first | exact Drop1.here _ _ | apply Drop1.next)) ?_)
      exact SubP.dropI (Drop1.next _ (Drop1.here _ _)) (SubP.dropI (Drop1.next _ (Drop1.here _ _)) (fab_unsub hz))
    refine JC_seq ?_
    refine JC_region ?_
    refine JL_1 rfl (op_eql (Ev.rfl' rfl) (Ev.rfl' rfl)) ?_
    refine JL_1 rfl (op_assign rfl) ?_
    refine JL_nil ?_
    refine JQ_then ?_
    refine JC_cond (Ev.rfl' rfl) (fun h25 => ?_) (fun h25 => ?_)
    · refine JC_region ?_
      refine JL_1 rfl (op_move rfl) ?_
      refine JL_1 rfl (by exact op_nilBuf (Ev.rfl' rfl) memT lenT) ?_
      refine JL_1 rfl (by exact op_fieldBuf (k := 1) (Ev.rfl' rfl) memT lenT rfl rfl rfl rfl) ?_
      refine JL_s0 (by exact op_storeBuf (z' := (⟨d.w, false⟩ : FN)) (Ev.rfl' rfl) (Ev.rfl' rfl) cellsT replT hz rfl (by rfl) (by rfl)) ?_
      refine JL_nil ?_
      refine JQ_block (JQ_end ?_)
      refine JQ_retP (Bs := []) Tryz.results82 trivial ⟨nds.set k ⟨d.w, false⟩, by simp [hl]⟩ SubL.rfl' ?_
      unfold fabL
      dsimp only
      rw [wbF_up hz]
      exact lessA
    refine JC_seq ?_
    refine JC_region ?_
    refine JL_1 rfl (op_eql (Ev.rfl' rfl) (Ev.rfl' rfl)) ?_
    refine JL_1 rfl (op_assign rfl) ?_
    refine JL_nil ?_
    refine JQ_then ?_
    refine JC_cond (Ev.rfl' rfl) (fun h27 => ?_) (fun h27 => ?_)
    · refine JC_seq ?_
      refine JC_region ?_
      refine JL_1 rfl (op_assign rfl) ?_
      refine JL_nil ?_
      refine JQ_then (JC_block ?_)
      refine JC_loopP (fun i : Nat => i ≤ n) (fun i => [(0, Is (.pointer (some ⟨f, 0, none⟩))), (2, Is (.int .i64 98)), (4, Is (.pointer (some ⟨i4, 0, none⟩))), (7, Is (.int .i64 (p.client % 6))), (9, Is (.int .i64 (i : Nat)))]) (fun i => blk i4 149 (tGPoke.cells p) :: fabL f n nb cb lb pb nds cn prs) (fun i => n - i) 0 (Nat.zero_le _) esubT lessA ?_
      intro i hi
      refine JC_seq (JC_seq ?_)
      refine JC_region ?_
      refine JL_1 rfl (op_move rfl) ?_
      refine JL_1 rfl (op_move rfl) ?_
      refine JL_1 rfl (by exact op_nilCheck (Ev.rfl' rfl)) ?_
      refine JL_1 rfl (by exact op_fieldPtr (k := 1) (Ev.rfl' rfl) rfl rfl rfl rfl) ?_
      refine JL_1 rfl (by exact op_loadPtr (Ev.rfl' rfl) memT (by rfl) (by rfl) (by rfl)) ?_
      refine JL_1 rfl (by exact op_lenLit (Ev.rfl' rfl) rfl) ?_
      refine JL_1 rfl (op_lss (Ev.rfl' rfl) (Ev.rfl' rfl)) ?_
      refine JL_nil ?_
      refine JQ_then ?_
      refine JC_cond (Ev.rfl' rfl) (fun h29 => ?_) (fun h29 => ?_)
      · have hlt : i < nds.length := by have := of_decide_eq_true h29; omega
        clear h29
        obtain ⟨d2, hz2⟩ : ∃ d, nds[i]? = some d := ⟨_, List.getElem?_eq_getElem hlt⟩
        have hdr2 : Drop1 (nds.map wbF) (wbF d2) ((nds.eraseIdx i).map wbF) := drop_map hz2
        clear hdr
        refine JC_skip (JQ_then (JC_seq (JC_block ?_)))
        refine JC_dr rfl (by kernel_rfl) ?_
        refine JD_stretch 9 (by kernel_rfl) ?_
        refine JW_1 (op_move rfl) ?_
        refine JW_1 (by exact op_nilCheck (Ev.rfl' rfl)) ?_
        refine JW_1 (by exact op_fieldPtr (k := 1) (Ev.rfl' rfl) rfl rfl rfl rfl) ?_
        refine JW_1 (by exact op_loadPtr (Ev.rfl' rfl) memT (by rfl) (by rfl) (by rfl)) ?_
        refine JW_1 (op_move rfl) ?_
        refine JW_1 (by exact op_indexBuf (k := i) (Ev.rfl' rfl) memT (Ev.rfl' rfl) rfl rfl idxT lenT) ?_
        refine JW_1 (by exact op_loadPtrsN (n := 6) (Ev.rfl' rfl) memT (by rfl) (by rfl) (by rfl) (by rfl) nrmT) ?_
        refine JW_1 (op_move rfl) ?_
        refine JW_1 (op_move rfl) ?_
        refine ⟨rfl, ?_⟩
        (refine JD_s (by kernel_rfl) rfl rfl (op_callM (Drops.cons drop1A (Drops.cons drop1A (Drops.nil _))) Tryz.call99 (log_ok n nb nds i d2 hz2 p hp _ hc) ⟨evS, ⟨evS, ⟨evS, ⟨evS, trivial⟩⟩⟩⟩) ?_; intro i177)
        refine JD_end ?_
        refine JQ_block (JQ_then ?_)
        refine JC_region ?_
        refine JL_1 rfl (op_move rfl) ?_
        refine JL_1 rfl (op_add (Ev.rfl' rfl) (Ev.rfl' rfl) wrapT) ?_
        refine JL_1 rfl (op_assign rfl) ?_
        refine JL_nil ?_
        refine JQ_roundP (i + 1) (by omega) (by omega) esubT ?_
        iterate 6 (refine SubP.cons (by repeat (first | exact Drop1.here _ _ | apply Drop1.next)) ?_)
        exact fab_unsub hz2
      refine JC_exit (JQ_then_exit (JQ_then_exit (JQ_hit (JQ_block (JQ_end ?_)))))
      exact JQ_retP (Bs := []) Tryz.results82 trivial ⟨nds, hl⟩ SubL.rfl' lessA
    refine JC_seq ?_
    refine JC_region ?_
    refine JL_1 rfl (op_eql (Ev.rfl' rfl) (Ev.rfl' rfl)) ?_
    refine JL_1 rfl (op_assign rfl) ?_
    refine JL_nil ?_
    refine JQ_then ?_
    refine JC_cond (Ev.rfl' rfl) (fun h32 => ?_) (fun h32 => ?_)
    · refine JC_dr rfl (by kernel_rfl) ?_
      refine JD_phase [0, 1, 1, 1, 0, 1, 1, 1, 1, 0, 0, 1, 1, 1, 1, 0, 0, 0, 1, 2] (by kernel_rfl) (by kernel_rfl) ?_
      refine PW_0 (op_move rfl) ?_
      refine PW_1 (by exact op_nilBuf (Ev.rfl' rfl) memT lenT) ?_
      refine PW_1 (by exact op_fieldBuf (k := 0) (Ev.rfl' rfl) memT lenT rfl rfl rfl rfl) ?_
      refine PW_1 (by exact op_loadBuf (Ev.rfl' rfl) memT hz rfl rfl (by rfl)) ?_
      refine PW_0 (op_move rfl) ?_
      refine PW_1 (by ((refine op_call Tryz.call36 (LeaseN_ok _ ?_) ⟨evS, trivial⟩); all_goals (omega))) ?_
      refine PW_1 (by exact op_fieldPtr (k := 3) (Ev.rfl' rfl) rfl rfl rfl rfl) ?_
      refine PW_1 (by exact op_loadPtr (Ev.rfl' rfl) memT (by rfl) (by rfl) (by rfl)) ?_
      refine PW_1 (by ((refine op_call Tryz.call7 (PickH_ok _ _ ?_ ?_) ⟨evS, ⟨evS, trivial⟩⟩); all_goals (omega))) ?_
      refine PW_0 (op_mul (Ev.rfl' rfl) (Ev.rfl' rfl) wrapT) ?_
      refine PW_0 (op_add (Ev.rfl' rfl) (Ev.rfl' rfl) wrapT) ?_
      refine PW_1 (by exact op_fieldPtr (k := 4) (Ev.rfl' rfl) rfl rfl rfl rfl) ?_
      refine PW_1 (by exact op_loadPtr (Ev.rfl' rfl) memT (by rfl) (by rfl) (by rfl)) ?_
      refine PW_1 (by ((refine op_call Tryz.call7 (PickH_ok _ _ ?_ ?_) ⟨evS, ⟨evS, trivial⟩⟩); all_goals (omega))) ?_
      refine PW_1 (op_call Tryz.call33 (LeaseR_ok _ _) ⟨evS, ⟨evS, trivial⟩⟩) ?_
      refine PW_0 (op_move rfl) ?_
      refine PW_0 (op_extract (Ev.rfl' rfl) rfl) ?_
      refine PW_0 (op_extract (Ev.rfl' rfl) rfl) ?_
      refine PW_1 (op_indexW (k := (40 + p.client % 6).toNat) (Ev.rfl' rfl) (show wb _ 784 d.w ∈ _ from memA) (Ev.rfl' rfl) rfl rfl idxT (by omega)) ?_
      refine PW_2 (op_storeW1 (n := 0) (Ev.rfl' rfl) (show wb _ 784 d.w ∈ _ from memA) (by omega) (Ev.rfl' rfl) (by exact cells_word) rfl) ?_
      refine PW_end ?_
      refine JD_end ?_
      refine JQ_block (JQ_end ?_)
      exact JQ_retP (Bs := []) Tryz.results82 trivial ⟨nds, hl⟩ SubL.rfl' lessA
    refine JC_skip (JQ_block (JQ_end ?_))
    exact JQ_retP (Bs := []) Tryz.results82 trivial ⟨nds, hl⟩ SubL.rfl' lessA
  refine JC_region ?_
  refine JL_1 rfl (op_eql (Ev.rfl' rfl) (Ev.rfl' rfl)) ?_
  refine JL_1 rfl (op_assign rfl) ?_
  refine JL_nil ?_
  refine JQ_then ?_
  refine JC_cond (Ev.rfl' rfl) (fun h9 => ?_) (fun h9 => ?_)
  · refine JC_region ?_
    refine JL_1 rfl (op_move rfl) ?_
    refine JL_1 rfl (by exact op_loadPtrsN (n := 6) (Ev.rfl' rfl) memT (by rfl) (by rfl) (by rfl) (by rfl) nrmT) ?_
    refine JL_1 rfl (op_move rfl) ?_
    refine JL_1 rfl (op_move rfl) ?_
    (refine JL_s rfl (op_callM (Drops.cons drop1A (Drops.cons drop1A (Drops.nil _))) Tryz.call99 (log_ok n nb nds k d hz p hp _ hc) ⟨evS, ⟨evS, ⟨evS, ⟨evS, trivial⟩⟩⟩⟩) ?_; intro i58)
    refine JL_nil ?_
    refine JQ_block (JQ_end ?_)
    refine JQ_retP (Bs := []) Tryz.results82 trivial ⟨nds, hl⟩ SubL.rfl' ?_
    iterate 5 (refine SubP.cons (by repeat (first | exact Drop1.here _ _ | apply Drop1.next)) ?_)
    exact SubP.dropI (Drop1.next _ (Drop1.here _ _)) (SubP.dropI (Drop1.next _ (Drop1.here _ _)) (fab_unsub hz))
  refine JC_seq ?_
  refine JC_region ?_
  refine JL_1 rfl (op_eql (Ev.rfl' rfl) (Ev.rfl' rfl)) ?_
  refine JL_1 rfl (op_assign rfl) ?_
  refine JL_nil ?_
  refine JQ_then ?_
  refine JC_cond (Ev.rfl' rfl) (fun h11 => ?_) (fun h11 => ?_)
  · refine JC_dr rfl (by kernel_rfl) ?_
    refine JD_stretch 15 (by kernel_rfl) ?_
    refine JW_1 (op_move rfl) ?_
    refine JW_1 (by exact op_nilBuf (Ev.rfl' rfl) memT lenT) ?_
    refine JW_1 (by exact op_fieldBuf (k := 0) (Ev.rfl' rfl) memT lenT rfl rfl rfl rfl) ?_
    refine JW_1 (by exact op_loadBuf (Ev.rfl' rfl) memT hz rfl rfl (by rfl)) ?_
    refine JW_1 (by exact op_fieldPtr (k := 0) (Ev.rfl' rfl) rfl rfl rfl rfl) ?_
    refine JW_1 (by exact op_loadPtr (Ev.rfl' rfl) memT (by rfl) (by rfl) (by rfl)) ?_
    refine JW_1 (by ((refine op_call Tryz.call100 (PageAt_ok _ ?_) ⟨evS, trivial⟩); all_goals (omega))) ?_
    refine JW_1 (by exact op_fieldPtr (k := 1) (Ev.rfl' rfl) rfl rfl rfl rfl) ?_
    refine JW_1 (by exact op_loadPtr (Ev.rfl' rfl) memT (by rfl) (by rfl) (by rfl)) ?_
    refine JW_1 (by exact op_fieldPtr (k := 4) (Ev.rfl' rfl) rfl rfl rfl rfl) ?_
    refine JW_1 (by exact op_loadPtr (Ev.rfl' rfl) memT (by rfl) (by rfl) (by rfl)) ?_
    refine JW_1 (by ((refine op_call Tryz.call7 (PickH_ok _ _ ?_ ?_) ⟨evS, ⟨evS, trivial⟩⟩); all_goals (omega))) ?_
    refine JW_1 (op_conv (Ev.rfl' rfl) rfl rfl convT) ?_
    refine JW_1 (by exact op_bits ev64 ev64 (by simp) (or_u64 _ _)) ?_
    refine JW_1 (op_indexW (k := (pg.l * 8).toNat) (Ev.rfl' rfl) (show wb _ 784 d.w ∈ _ from memA) (Ev.rfl' rfl) rfl rfl idxT (by omega)) ?_
    refine ⟨rfl, ?_⟩
    refine JD_s0 (by kernel_rfl) rfl (op_storeW1 (n := 0) (Ev.rfl' rfl) (show wb _ 784 d.w ∈ _ from memA) (by omega) (Ev.rfl' rfl) (by exact cells_word) rfl) ?_
    refine JD_end ?_
    refine JQ_block (JQ_end ?_)
    exact JQ_retP (Bs := []) Tryz.results82 trivial ⟨nds, hl⟩ SubL.rfl' lessA
  refine JC_seq ?_
  refine JC_region ?_
  refine JL_1 rfl (op_eql (Ev.rfl' rfl) (Ev.rfl' rfl)) ?_
  refine JL_1 rfl (op_assign rfl) ?_
  refine JL_nil ?_
  refine JQ_then ?_
  refine JC_cond (Ev.rfl' rfl) (fun h13 => ?_) (fun h13 => ?_)
  · refine JC_dr rfl (by kernel_rfl) ?_
    refine JD_stretch 11 (by kernel_rfl) ?_
    refine JW_1 (op_move rfl) ?_
    refine JW_1 (by exact op_nilBuf (Ev.rfl' rfl) memT lenT) ?_
    refine JW_1 (by exact op_fieldBuf (k := 0) (Ev.rfl' rfl) memT lenT rfl rfl rfl rfl) ?_
    refine JW_1 (by exact op_loadBuf (Ev.rfl' rfl) memT hz rfl rfl (by rfl)) ?_
    refine JW_1 (op_move rfl) ?_
    refine JW_1 (by ((refine op_call Tryz.call101 (DoorN_ok _ ?_) ⟨evS, trivial⟩); all_goals (omega))) ?_
    refine JW_1 (by exact op_fieldPtr (k := 3) (Ev.rfl' rfl) rfl rfl rfl rfl) ?_
    refine JW_1 (by exact op_loadPtr (Ev.rfl' rfl) memT (by rfl) (by rfl) (by rfl)) ?_
    refine JW_1 (by ((refine op_call Tryz.call7 (PickH_ok _ _ ?_ ?_) ⟨evS, ⟨evS, trivial⟩⟩); all_goals (omega))) ?_
    refine JW_1 (op_conv (Ev.rfl' rfl) rfl rfl convT) ?_
    refine JW_1 (op_indexW (k := (24 + p.client % 6).toNat) (Ev.rfl' rfl) (show wb _ 784 d.w ∈ _ from memA) (Ev.rfl' rfl) rfl rfl idxT (by omega)) ?_
    refine ⟨rfl, ?_⟩
    refine JD_s0 (by kernel_rfl) rfl (op_storeW1 (n := 0) (Ev.rfl' rfl) (show wb _ 784 d.w ∈ _ from memA) (by omega) (Ev.rfl' rfl) (by exact cells_wordI (by omega)) rfl) ?_
    refine JD_end ?_
    refine JQ_block (JQ_end ?_)
    exact JQ_retP (Bs := []) Tryz.results82 trivial ⟨nds, hl⟩ SubL.rfl' lessA
  refine JC_seq ?_
  refine JC_region ?_
  refine JL_1 rfl (op_eql (Ev.rfl' rfl) (Ev.rfl' rfl)) ?_
  refine JL_1 rfl (op_assign rfl) ?_
  refine JL_nil ?_
  refine JQ_then ?_
  refine JC_cond (Ev.rfl' rfl) (fun h15 => ?_) (fun h15 => ?_)
  · refine JC_dr rfl (by kernel_rfl) ?_
    refine JD_phase [0, 1, 1, 1, 0, 1, 1, 1, 1, 0, 0, 1, 1, 1, 1, 0, 0, 0, 1, 2] (by kernel_rfl) (by kernel_rfl) ?_
    refine PW_0 (op_move rfl) ?_
    refine PW_1 (by exact op_nilBuf (Ev.rfl' rfl) memT lenT) ?_
    refine PW_1 (by exact op_fieldBuf (k := 0) (Ev.rfl' rfl) memT lenT rfl rfl rfl rfl) ?_
    refine PW_1 (by exact op_loadBuf (Ev.rfl' rfl) memT hz rfl rfl (by rfl)) ?_
    refine PW_0 (op_move rfl) ?_
    refine PW_1 (by ((refine op_call Tryz.call103 (TagAt_ok _ ?_) ⟨evS, trivial⟩); all_goals (omega))) ?_
    refine PW_1 (by exact op_fieldPtr (k := 3) (Ev.rfl' rfl) rfl rfl rfl rfl) ?_
    refine PW_1 (by exact op_loadPtr (Ev.rfl' rfl) memT (by rfl) (by rfl) (by rfl)) ?_
    refine PW_1 (by ((refine op_call Tryz.call7 (PickH_ok _ _ ?_ ?_) ⟨evS, ⟨evS, trivial⟩⟩); all_goals (omega))) ?_
    refine PW_0 (op_mul (Ev.rfl' rfl) (Ev.rfl' rfl) wrapT) ?_
    refine PW_0 (op_add (Ev.rfl' rfl) (Ev.rfl' rfl) wrapT) ?_
    refine PW_1 (by exact op_fieldPtr (k := 4) (Ev.rfl' rfl) rfl rfl rfl rfl) ?_
    refine PW_1 (by exact op_loadPtr (Ev.rfl' rfl) memT (by rfl) (by rfl) (by rfl)) ?_
    refine PW_1 (by ((refine op_call Tryz.call7 (PickH_ok _ _ ?_ ?_) ⟨evS, ⟨evS, trivial⟩⟩); all_goals (omega))) ?_
    refine PW_1 (by ((refine op_call Tryz.call102 (TagW_ok _ _ ?_ ?_) ⟨evS, ⟨evS, trivial⟩⟩); all_goals (unfold I64ok; omega))) ?_
    refine PW_0 (op_move rfl) ?_
    refine PW_0 (op_extract (Ev.rfl' rfl) rfl) ?_
    refine PW_0 (op_extract (Ev.rfl' rfl) rfl) ?_
    refine PW_1 (op_indexW (k := ((6 + p.client % 6 * 15) * 8 + 1).toNat) (Ev.rfl' rfl) (show wb _ 784 d.w ∈ _ from memA) (Ev.rfl' rfl) rfl rfl idxT (by omega)) ?_
    refine PW_2 (op_storeW1 (n := 0) (Ev.rfl' rfl) (show wb _ 784 d.w ∈ _ from memA) (by omega) (Ev.rfl' rfl) (by exact cells_wany) rfl) ?_
    refine PW_end ?_
    refine JD_end ?_
    refine JQ_block (JQ_end ?_)
    exact JQ_retP (Bs := []) Tryz.results82 trivial ⟨nds, hl⟩ SubL.rfl' lessA
  refine JC_seq ?_
  refine JC_region ?_
  refine JL_1 rfl (op_eql (Ev.rfl' rfl) (Ev.rfl' rfl)) ?_
  refine JL_1 rfl (op_assign rfl) ?_
  refine JL_nil ?_
  refine JQ_then ?_
  refine JC_cond (Ev.rfl' rfl) (fun h17 => ?_) (fun h17 => ?_)
  · refine JC_dr rfl (by kernel_rfl) ?_
    refine JD_stretch 11 (by kernel_rfl) ?_
    refine JW_1 (op_move rfl) ?_
    refine JW_1 (by exact op_nilBuf (Ev.rfl' rfl) memT lenT) ?_
    refine JW_1 (by exact op_fieldBuf (k := 0) (Ev.rfl' rfl) memT lenT rfl rfl rfl rfl) ?_
    refine JW_1 (by exact op_loadBuf (Ev.rfl' rfl) memT hz rfl rfl (by rfl)) ?_
    refine JW_1 (op_move rfl) ?_
    refine JW_1 (by ((refine op_call Tryz.call50 (ClockN_ok _ ?_) ⟨evS, trivial⟩); all_goals (omega))) ?_
    refine JW_1 (by exact op_fieldPtr (k := 3) (Ev.rfl' rfl) rfl rfl rfl rfl) ?_
    refine JW_1 (by exact op_loadPtr (Ev.rfl' rfl) memT (by rfl) (by rfl) (by rfl)) ?_
    refine JW_1 (by ((refine op_call Tryz.call7 (PickH_ok _ _ ?_ ?_) ⟨evS, ⟨evS, trivial⟩⟩); all_goals (omega))) ?_
    refine JW_1 (op_conv (Ev.rfl' rfl) rfl rfl convT) ?_
    refine JW_1 (op_indexW (k := (32 + p.client % 6).toNat) (Ev.rfl' rfl) (show wb _ 784 d.w ∈ _ from memA) (Ev.rfl' rfl) rfl rfl idxT (by omega)) ?_
    refine ⟨rfl, ?_⟩
    refine JD_s0 (by kernel_rfl) rfl (op_storeW1 (n := 0) (Ev.rfl' rfl) (show wb _ 784 d.w ∈ _ from memA) (by omega) (Ev.rfl' rfl) (by exact cells_wordI (by omega)) rfl) ?_
    refine JD_end ?_
    refine JQ_block (JQ_end ?_)
    exact JQ_retP (Bs := []) Tryz.results82 trivial ⟨nds, hl⟩ SubL.rfl' lessA
  refine JC_seq ?_
  refine JC_region ?_
  refine JL_1 rfl (op_eql (Ev.rfl' rfl) (Ev.rfl' rfl)) ?_
  refine JL_1 rfl (op_assign rfl) ?_
  refine JL_nil ?_
  refine JQ_then ?_
  refine JC_cond (Ev.rfl' rfl) (fun h19 => ?_) (fun h19 => ?_)
  · refine JC_dr rfl (by kernel_rfl) ?_
    refine JD_stretch 9 (by kernel_rfl) ?_
    refine JW_1 (op_move rfl) ?_
    refine JW_1 (by exact op_nilBuf (Ev.rfl' rfl) memT lenT) ?_
    refine JW_1 (by exact op_fieldBuf (k := 0) (Ev.rfl' rfl) memT lenT rfl rfl rfl rfl) ?_
    refine JW_1 (by exact op_loadBuf (Ev.rfl' rfl) memT hz rfl rfl (by rfl)) ?_
    refine JW_1 (by exact op_fieldPtr (k := 3) (Ev.rfl' rfl) rfl rfl rfl rfl) ?_
    refine JW_1 (by exact op_loadPtr (Ev.rfl' rfl) memT (by rfl) (by rfl) (by rfl)) ?_
    refine JW_1 (by ((refine op_call Tryz.call7 (PickH_ok _ _ ?_ ?_) ⟨evS, ⟨evS, trivial⟩⟩); all_goals (omega))) ?_
    refine JW_1 (op_conv (Ev.rfl' rfl) rfl rfl convT) ?_
    refine JW_1 (op_indexW (k := 0) (Ev.rfl' rfl) (show wb _ 784 d.w ∈ _ from memA) (Ev.rfl' rfl) rfl rfl idxT (by omega)) ?_
    refine ⟨rfl, ?_⟩
    refine JD_s0 (by kernel_rfl) rfl (op_storeW1 (n := 0) (Ev.rfl' rfl) (show wb _ 784 d.w ∈ _ from memA) (by omega) (Ev.rfl' rfl) (by exact cells_wordI (by omega)) rfl) ?_
    refine JD_end ?_
    refine JQ_block (JQ_end ?_)
    exact JQ_retP (Bs := []) Tryz.results82 trivial ⟨nds, hl⟩ SubL.rfl' lessA
  refine JC_seq ?_
  refine JC_region ?_
  refine JL_1 rfl (op_eql (Ev.rfl' rfl) (Ev.rfl' rfl)) ?_
  refine JL_1 rfl (op_assign rfl) ?_
  refine JL_nil ?_
  refine JQ_then ?_
  refine JC_cond (Ev.rfl' rfl) (fun h21 => ?_) (fun h21 => ?_)
  · refine JC_dr rfl (by kernel_rfl) ?_
    refine JD_stretch 10 (by kernel_rfl) ?_
    refine JW_1 (op_move rfl) ?_
    refine JW_1 (by exact op_nilBuf (Ev.rfl' rfl) memT lenT) ?_
    refine JW_1 (by exact op_fieldBuf (k := 0) (Ev.rfl' rfl) memT lenT rfl rfl rfl rfl) ?_
    refine JW_1 (by exact op_loadBuf (Ev.rfl' rfl) memT hz rfl rfl (by rfl)) ?_
    refine JW_1 (by exact op_fieldPtr (k := 3) (Ev.rfl' rfl) rfl rfl rfl rfl) ?_
    refine JW_1 (by exact op_loadPtr (Ev.rfl' rfl) memT (by rfl) (by rfl) (by rfl)) ?_
    refine JW_1 (by ((refine op_call Tryz.call7 (PickH_ok _ _ ?_ ?_) ⟨evS, ⟨evS, trivial⟩⟩); all_goals (omega))) ?_
    refine JW_1 (op_add (Ev.rfl' rfl) (Ev.rfl' rfl) wrapT) ?_
    refine JW_1 (op_conv (Ev.rfl' rfl) rfl rfl convT) ?_
    refine JW_1 (op_indexW (k := 1) (Ev.rfl' rfl) (show wb _ 784 d.w ∈ _ from memA) (Ev.rfl' rfl) rfl rfl idxT (by omega)) ?_
    refine ⟨rfl, ?_⟩
    refine JD_s0 (by kernel_rfl) rfl (op_storeW1 (n := 0) (Ev.rfl' rfl) (show wb _ 784 d.w ∈ _ from memA) (by omega) (Ev.rfl' rfl) (by exact cells_wordI (by omega)) rfl) ?_
    refine JD_end ?_
    refine JQ_block (JQ_end ?_)
    exact JQ_retP (Bs := []) Tryz.results82 trivial ⟨nds, hl⟩ SubL.rfl' lessA
  refine JC_seq ?_
  refine JC_region ?_
  refine JL_1 rfl (op_eql (Ev.rfl' rfl) (Ev.rfl' rfl)) ?_
  refine JL_1 rfl (op_assign rfl) ?_
  refine JL_nil ?_
  refine JQ_then ?_
  refine JC_cond (Ev.rfl' rfl) (fun h23 => ?_) (fun h23 => ?_)
  · refine JC_region ?_
    refine JL_1 rfl (op_move rfl) ?_
    refine JL_1 rfl (op_move rfl) ?_
    refine JL_1 rfl (by exact op_loadPtrsN (n := 6) (Ev.rfl' rfl) memT (by rfl) (by rfl) (by rfl) (by rfl) nrmT) ?_
    (refine JL_s rfl (op_callM (Drops.cons drop1A (Drops.cons drop1A (Drops.cons drop1A (Drops.nil _)))) Tryz.call104 (consensus_ok f n hn nb cb lb nds k d hz p hp) ⟨evS, ⟨evS, ⟨evS, trivial⟩⟩⟩) ?_; intro i151)
    refine JL_nil ?_
    refine JQ_block (JQ_end ?_)
    refine JQ_retP (Bs := []) Tryz.results82 trivial ⟨nds, hl⟩ SubL.rfl' ?_
    iterate 5 (refine SubP.cons (by repeat (first | exact Drop1.here _ _ | apply Drop1.next)) ?_)
    exact SubP.dropI (Drop1.next _ (Drop1.here _ _)) (SubP.dropI (Drop1.next _ (Drop1.here _ _)) (fab_unsub hz))
  refine JC_seq ?_
  refine JC_region ?_
  refine JL_1 rfl (op_eql (Ev.rfl' rfl) (Ev.rfl' rfl)) ?_
  refine JL_1 rfl (op_assign rfl) ?_
  refine JL_nil ?_
  refine JQ_then ?_
  refine JC_cond (Ev.rfl' rfl) (fun h25 => ?_) (fun h25 => ?_)
  · refine JC_region ?_
    refine JL_1 rfl (op_move rfl) ?_
    refine JL_1 rfl (by exact op_nilBuf (Ev.rfl' rfl) memT lenT) ?_
    refine JL_1 rfl (by exact op_fieldBuf (k := 1) (Ev.rfl' rfl) memT lenT rfl rfl rfl rfl) ?_
    refine JL_s0 (by exact op_storeBuf (z' := (⟨d.w, false⟩ : FN)) (Ev.rfl' rfl) (Ev.rfl' rfl) cellsT replT hz rfl (by rfl) (by rfl)) ?_
    refine JL_nil ?_
    refine JQ_block (JQ_end ?_)
    refine JQ_retP (Bs := []) Tryz.results82 trivial ⟨nds.set k ⟨d.w, false⟩, by simp [hl]⟩ SubL.rfl' ?_
    unfold fabL
    dsimp only
    rw [wbF_up hz]
    exact lessA
  refine JC_seq ?_
  refine JC_region ?_
  refine JL_1 rfl (op_eql (Ev.rfl' rfl) (Ev.rfl' rfl)) ?_
  refine JL_1 rfl (op_assign rfl) ?_
  refine JL_nil ?_
  refine JQ_then ?_
  refine JC_cond (Ev.rfl' rfl) (fun h27 => ?_) (fun h27 => ?_)
  · refine JC_seq ?_
    refine JC_region ?_
    refine JL_1 rfl (op_assign rfl) ?_
    refine JL_nil ?_
    refine JQ_then (JC_block ?_)
    refine JC_loopP (fun i : Nat => i ≤ n) (fun i => [(0, Is (.pointer (some ⟨f, 0, none⟩))), (2, Is (.int .i64 98)), (4, Is (.pointer (some ⟨i4, 0, none⟩))), (7, Is (.int .i64 (p.client % 6))), (9, Is (.int .i64 (i : Nat)))]) (fun i => blk i4 149 (tGPoke.cells p) :: fabL f n nb cb lb pb nds cn prs) (fun i => n - i) 0 (Nat.zero_le _) esubT lessA ?_
    intro i hi
    refine JC_seq (JC_seq ?_)
    refine JC_region ?_
    refine JL_1 rfl (op_move rfl) ?_
    refine JL_1 rfl (op_move rfl) ?_
    refine JL_1 rfl (by exact op_nilCheck (Ev.rfl' rfl)) ?_
    refine JL_1 rfl (by exact op_fieldPtr (k := 1) (Ev.rfl' rfl) rfl rfl rfl rfl) ?_
    refine JL_1 rfl (by exact op_loadPtr (Ev.rfl' rfl) memT (by rfl) (by rfl) (by rfl)) ?_
    refine JL_1 rfl (by exact op_lenLit (Ev.rfl' rfl) rfl) ?_
    refine JL_1 rfl (op_lss (Ev.rfl' rfl) (Ev.rfl' rfl)) ?_
    refine JL_nil ?_
    refine JQ_then ?_
    refine JC_cond (Ev.rfl' rfl) (fun h29 => ?_) (fun h29 => ?_)
    · have hlt : i < nds.length := by have := of_decide_eq_true h29; omega
      clear h29
      obtain ⟨d2, hz2⟩ : ∃ d, nds[i]? = some d := ⟨_, List.getElem?_eq_getElem hlt⟩
      have hdr2 : Drop1 (nds.map wbF) (wbF d2) ((nds.eraseIdx i).map wbF) := drop_map hz2
      clear hdr
      refine JC_skip (JQ_then (JC_seq (JC_block ?_)))
      refine JC_dr rfl (by kernel_rfl) ?_
      refine JD_stretch 9 (by kernel_rfl) ?_
      refine JW_1 (op_move rfl) ?_
      refine JW_1 (by exact op_nilCheck (Ev.rfl' rfl)) ?_
      refine JW_1 (by exact op_fieldPtr (k := 1) (Ev.rfl' rfl) rfl rfl rfl rfl) ?_
      refine JW_1 (by exact op_loadPtr (Ev.rfl' rfl) memT (by rfl) (by rfl) (by rfl)) ?_
      refine JW_1 (op_move rfl) ?_
      refine JW_1 (by exact op_indexBuf (k := i) (Ev.rfl' rfl) memT (Ev.rfl' rfl) rfl rfl idxT lenT) ?_
      refine JW_1 (by exact op_loadPtrsN (n := 6) (Ev.rfl' rfl) memT (by rfl) (by rfl) (by rfl) (by rfl) nrmT) ?_
      refine JW_1 (op_move rfl) ?_
      refine JW_1 (op_move rfl) ?_
      refine ⟨rfl, ?_⟩
      (refine JD_s (by kernel_rfl) rfl rfl (op_callM (Drops.cons drop1A (Drops.cons drop1A (Drops.nil _))) Tryz.call99 (log_ok n nb nds i d2 hz2 p hp _ hc) ⟨evS, ⟨evS, ⟨evS, ⟨evS, trivial⟩⟩⟩⟩) ?_; intro i177)
      refine JD_end ?_
      refine JQ_block (JQ_then ?_)
      refine JC_region ?_
      refine JL_1 rfl (op_move rfl) ?_
      refine JL_1 rfl (op_add (Ev.rfl' rfl) (Ev.rfl' rfl) wrapT) ?_
      refine JL_1 rfl (op_assign rfl) ?_
      refine JL_nil ?_
      refine JQ_roundP (i + 1) (by omega) (by omega) esubT ?_
      iterate 6 (refine SubP.cons (by repeat (first | exact Drop1.here _ _ | apply Drop1.next)) ?_)
      exact fab_unsub hz2
    refine JC_exit (JQ_then_exit (JQ_then_exit (JQ_hit (JQ_block (JQ_end ?_)))))
    exact JQ_retP (Bs := []) Tryz.results82 trivial ⟨nds, hl⟩ SubL.rfl' lessA
  refine JC_seq ?_
  refine JC_region ?_
  refine JL_1 rfl (op_eql (Ev.rfl' rfl) (Ev.rfl' rfl)) ?_
  refine JL_1 rfl (op_assign rfl) ?_
  refine JL_nil ?_
  refine JQ_then ?_
  refine JC_cond (Ev.rfl' rfl) (fun h32 => ?_) (fun h32 => ?_)
  · refine JC_dr rfl (by kernel_rfl) ?_
    refine JD_phase [0, 1, 1, 1, 0, 1, 1, 1, 1, 0, 0, 1, 1, 1, 1, 0, 0, 0, 1, 2] (by kernel_rfl) (by kernel_rfl) ?_
    refine PW_0 (op_move rfl) ?_
    refine PW_1 (by exact op_nilBuf (Ev.rfl' rfl) memT lenT) ?_
    refine PW_1 (by exact op_fieldBuf (k := 0) (Ev.rfl' rfl) memT lenT rfl rfl rfl rfl) ?_
    refine PW_1 (by exact op_loadBuf (Ev.rfl' rfl) memT hz rfl rfl (by rfl)) ?_
    refine PW_0 (op_move rfl) ?_
    refine PW_1 (by ((refine op_call Tryz.call36 (LeaseN_ok _ ?_) ⟨evS, trivial⟩); all_goals (omega))) ?_
    refine PW_1 (by exact op_fieldPtr (k := 3) (Ev.rfl' rfl) rfl rfl rfl rfl) ?_
    refine PW_1 (by exact op_loadPtr (Ev.rfl' rfl) memT (by rfl) (by rfl) (by rfl)) ?_
    refine PW_1 (by ((refine op_call Tryz.call7 (PickH_ok _ _ ?_ ?_) ⟨evS, ⟨evS, trivial⟩⟩); all_goals (omega))) ?_
    refine PW_0 (op_mul (Ev.rfl' rfl) (Ev.rfl' rfl) wrapT) ?_
    refine PW_0 (op_add (Ev.rfl' rfl) (Ev.rfl' rfl) wrapT) ?_
    refine PW_1 (by exact op_fieldPtr (k := 4) (Ev.rfl' rfl) rfl rfl rfl rfl) ?_
    refine PW_1 (by exact op_loadPtr (Ev.rfl' rfl) memT (by rfl) (by rfl) (by rfl)) ?_
    refine PW_1 (by ((refine op_call Tryz.call7 (PickH_ok _ _ ?_ ?_) ⟨evS, ⟨evS, trivial⟩⟩); all_goals (omega))) ?_
    refine PW_1 (op_call Tryz.call33 (LeaseR_ok _ _) ⟨evS, ⟨evS, trivial⟩⟩) ?_
    refine PW_0 (op_move rfl) ?_
    refine PW_0 (op_extract (Ev.rfl' rfl) rfl) ?_
    refine PW_0 (op_extract (Ev.rfl' rfl) rfl) ?_
    refine PW_1 (op_indexW (k := (40 + p.client % 6).toNat) (Ev.rfl' rfl) (show wb _ 784 d.w ∈ _ from memA) (Ev.rfl' rfl) rfl rfl idxT (by omega)) ?_
    refine PW_2 (op_storeW1 (n := 0) (Ev.rfl' rfl) (show wb _ 784 d.w ∈ _ from memA) (by omega) (Ev.rfl' rfl) (by exact cells_word) rfl) ?_
    refine PW_end ?_
    refine JD_end ?_
    refine JQ_block (JQ_end ?_)
    exact JQ_retP (Bs := []) Tryz.results82 trivial ⟨nds, hl⟩ SubL.rfl' lessA
  refine JC_skip (JQ_block (JQ_end ?_))
  exact JQ_retP (Bs := []) Tryz.results82 trivial ⟨nds, hl⟩ SubL.rfl' lessA
end Go.Proofs.YtfglhiciagmicaaGreat

/- Contracts: a prepared fabric. Own work. -/
namespace Go.Proofs.YtfglhiciagmicaaGreat
open Go.RowKit
set_option linter.unusedVariables false
set_option linter.unusedSimpArgs false
set_option maxRecDepth 100000
theorem SubP.left : ∀ M X : List Item, SubP M (M ++ X)
  | [], X => SubP.nil _
  | x :: M, X => SubP.cons (Drop1.here _ _) (SubP.left M X)
-- bodegahand.Prepare: function 43
theorem Prepare_ok (n : Nat) (hn1 : 1 ≤ n) (hn : n ≤ 5) (ps : List GPoke) (hps : ∀ p, p ∈ ps → p.wf) : Fn Tryz.prog 43 [Is (.int .i64 (n : Nat)), Is (.int .i64 1), Is (.int .i64 98), IsSl tGPoke ps] []
    (fun z : {z : FI × List FN // z.2.length = n} => Is (.pointer (some ⟨z.1.1.f, 0, none⟩))) (fun z => fabL z.1.1.f n z.1.1.nb z.1.1.cb z.1.1.lb z.1.1.pb z.1.2 cn0 (pairsV 1 n)) := by
  refine Fn.enterN Tryz.func43 Tryz.ntmps43 rfl rfl ?_
  intro c hX
  refine JC_seq ?_
  refine JC_len (t := 3) rfl (fun hlen => ?_)
  refine JC_region ?_
  refine JL_1 rfl (op_assign rfl) ?_
  refine JL_nil ?_
  refine JQ_then (JC_seq ?_)
  refine JC_region ?_
  refine JL_1 rfl (op_move rfl) ?_
  refine JL_1 rfl (op_move rfl) ?_
  refine JL_1 rfl (op_move rfl) ?_
  (refine JL_s rfl (op_callN Tryz.call80 (New_ok n hn) ⟨evS, ⟨evS, ⟨evS, trivial⟩⟩⟩) ?_; intro i14)
  refine JL_1 rfl (op_assign rfl) ?_
  refine JL_nil ?_
  refine JQ_then (JC_seq ?_)
  obtain ⟨z, rfl⟩ : ∃ z, z = i14 := ⟨_, rfl⟩
  refine JC_region ?_
  refine JL_1 rfl (op_move rfl) ?_
  (refine JL_s rfl (op_callM (Drops.cons drop1A (Drops.cons drop1A (Drops.cons drop1A (Drops.cons drop1A (Drops.cons drop1A (Drops.nil _)))))) Tryz.call81 (Format_ok _ n hn _ _ _ _ _) ⟨evS, trivial⟩) ?_; intro i16)
  refine JL_nil ?_
  refine JQ_then (JC_seq (JC_seq ?_))
  refine JC_sub (L' := fabL z.f n z.nb z.cb z.lb z.pb (upN i16.1) cn0 (pairsV 1 n)) (by exact SubP.left _ _) ?_
  refine JC_region ?_
  refine JL_1 rfl (op_assign rfl) ?_
  refine JL_nil ?_
  refine JQ_then (JC_block ?_)
  refine JC_loopP (fun u : Nat × List FN => u.1 ≤ ps.length ∧ u.2.length = n) (fun u => [(2, Is (.int .i64 98)), (3, IsSl tGPoke ps), (9, Is (.pointer (some ⟨z.f, 0, none⟩))), (10, Is (.int .i64 (u.1 : Nat)))]) (fun u => fabL z.f n z.nb z.cb z.lb z.pb u.2 cn0 (pairsV 1 n)) (fun u => ps.length - u.1) (0, upN i16.1) ⟨Nat.zero_le _, by rw [upN_len]; exact i16.2⟩ esubT lessA ?_
  rintro ⟨i, nds⟩ ⟨hi, hl⟩
  dsimp only at hi hl ⊢
  refine JC_seq (JC_seq ?_)
  refine JC_region ?_
  refine JL_1 rfl (op_move rfl) ?_
  refine JL_1 rfl (op_move rfl) ?_
  refine JL_1 rfl (by exact op_len (Ev.rfl' rfl) rfl) ?_
  refine JL_1 rfl (op_lss (Ev.rfl' rfl) (Ev.rfl' rfl)) ?_
  refine JL_nil ?_
  refine JQ_then ?_
  refine JC_cond (Ev.rfl' rfl) (fun h4 => ?_) (fun h4 => ?_)
  · have hlt : i < ps.length := by have := of_decide_eq_true h4; omega
    clear h4
    obtain ⟨p, hx⟩ : ∃ p, ps[i]? = some p := ⟨_, List.getElem?_eq_getElem hlt⟩
    refine JC_skip (JQ_then (JC_seq (JC_block ?_)))
    refine JC_region ?_
    refine JL_1 rfl (op_move rfl) ?_
    refine JL_1 rfl (op_move rfl) ?_
    refine JL_1 rfl (op_move rfl) ?_
    refine JL_1 rfl (by exact op_index (j := i) (Ev.rfl' rfl) (Ev.rfl' rfl) rfl rfl (by rfl) hx) ?_
    refine JL_1 rfl (by exact op_loadRefsN (n := 6) (Ev.rfl' rfl) rfl rfl rfl (by rfl) nrmT) ?_
    refine JL_1 rfl (op_move rfl) ?_
    (refine JL_s rfl (op_callA Tryz.call82 (poke_ok z.f n hn1 hn z.nb z.cb z.lb z.pb nds hl cn0 (pairsV 1 n) p (hps p (List.mem_of_getElem? hx))) ⟨evS, ⟨evS, ⟨evS, trivial⟩⟩⟩) ?_; intro i29)
    refine JL_nil ?_
    refine JQ_block (JQ_then ?_)
    refine JC_region ?_
    refine JL_1 rfl (op_move rfl) ?_
    refine JL_1 rfl (op_add (Ev.rfl' rfl) (Ev.rfl' rfl) wrapT) ?_
    refine JL_1 rfl (op_assign rfl) ?_
    refine JL_nil ?_
    exact JQ_roundP (i + 1, i29.1) ⟨by dsimp only; omega, i29.2⟩ (by dsimp only; omega) esubT lessA
  refine JC_exit (JQ_then_exit (JQ_then_exit (JQ_hit (JQ_then (JC_seq ?_)))))
  refine JC_region ?_
  refine JL_1 rfl (op_move rfl) ?_
  refine JL_1 rfl (op_assign rfl) ?_
  refine JL_nil ?_
  refine JQ_then (JC_ret ?_)
  exact JQ_retP (Bs := [Is (.pointer (some ⟨z.f, 0, none⟩))]) Tryz.results43 ⟨⟨_, rfl, subT⟩, trivial⟩ ⟨(z, nds), hl⟩ SubL.rfl' lessA
end Go.Proofs.YtfglhiciagmicaaGreat

/- Contracts: a word of a node; a piece is executed; a verb is posted on a pair. Own work. -/
namespace Go.Proofs.YtfglhiciagmicaaGreat
open Go.RowKit
set_option linter.unusedVariables false
set_option linter.unusedSimpArgs false
set_option maxRecDepth 100000
/-! ### Rules -/
section
variable {P : Program} {c : Ctx} {N : Nat} {E : Env} {L : List Item} {Q : Exit → Act → World → Prop}
/-- A result of which it is known that it is one of many. -/
theorem JQ_retV {fn : Func} {ι : Type} {R : ι → VP} {L' : List Item} {rs : List ResultVar} {Bs : List VP} (hr : fn.results = rs.toArray) (hE : RetE P E L rs Bs) (hB : SubL L (retVP Bs) (VEx R)) (hL : SubP L' L) (hD0 : c.ds = [] := by first | assumption | exact And.right (by assumption)) : JQ c N E L (bodyPost P fn (Post c R (fun _ => L'))) .ret := by
  intro φ a w st
  obtain ⟨vs, h1, h2⟩ := run_results (A := look E) st hE
  have hlen := h2.len
  have hrun : (results fn a.tmps).run P w = .ok (if h : vs.toArray.size = 1 then vs.toArray[0] else .tuple vs.toArray) w := by
    unfold results
    rw [hr, List.mapM_toArray]
    simp only [Sem.run_bind, Sem.run_map, Sem.run_pure]
    erw [h1]
    rfl
  have key : (retVP Bs).ok φ (if h : vs.toArray.size = 1 then vs.toArray[0] else .tuple vs.toArray) := by
    match Bs, vs, h2 with
    | [], [], _ => exact ⟨[], rfl, trivial⟩
    | [B], [v], h => exact h.1
    | B :: B' :: Bs, v :: v' :: vs, h => exact ⟨_, rfl, h⟩
  obtain ⟨i, hi⟩ := hB _ _ st.mem.mem.facts key
  exact bodyPost_ret hrun (st.defers.trans hD0) ⟨i, _, φ, rfl, hi, st.mem.lessP hL⟩
end
theorem names_nil {M : List Item} : ∀ b, b ∈ names ([] : List Item) → b ∈ names M := fun b hb => by simp [names] at hb
theorem names_cons {x : Item} {L M : List Item} (h : ∃ z, z ∈ M ∧ z.at_ = x.at_) (h2 : ∀ b, b ∈ names L → b ∈ names M) : ∀ b, b ∈ names (x :: L) → b ∈ names M := fun b hb => by
  obtain ⟨it, h3, h4⟩ := mem_names.1 hb
  rcases List.mem_cons.1 h3 with rfl | h3
  · obtain ⟨z, h5, h6⟩ := h
    exact mem_names.2 ⟨z, h5, h6.trans h4⟩
  · exact h2 b (mem_names.2 ⟨it, h3, h4⟩)
theorem namesT {X : List Nat} {L M : List Item} {p : Prop} (hX : X = names L ∧ p) (h : ∀ b, b ∈ names L → b ∈ names M := by
    (repeat (refine names_cons (by first
      | exact ⟨_, .head _, rfl⟩ | exact ⟨_, .tail _ (.head _), rfl⟩ | exact ⟨_, .tail _ (.tail _ (.head _)), rfl⟩ | exact ⟨_, .tail _ (.tail _ (.tail _ (.head _))), rfl⟩
      | exact ⟨_, .tail _ (.tail _ (.tail _ (.tail _ (.head _)))), rfl⟩ | exact ⟨_, .tail _ (.tail _ (.tail _ (.tail _ (.tail _ (.head _))))), rfl⟩ | exact ⟨_, .tail _ (.tail _ (.tail _ (.tail _ (.tail _ (.tail _ (.head _)))))), rfl⟩) ?_)); exact names_nil) : ∀ b, b ∈ X → b ∈ names M := fun b hb => h b (by rw [← hX.1]; exact hb)
section
variable {P : Program} {c : Ctx} {A : Nat → Option VP} {L : List Item} {d : Option Tmp} {ty : TypeId} {pos : String} {af : Array Edge} {g : Option (Nat × Bool)} {x y : Operand} {t u : TypeId}
theorem op_addW (hx : Ev A L x WAny) (hy : Ev A L y WAny) : OpP P c ⟨d, .binOp .add t x y u, ty, pos, af, g⟩ A L WAny :=
  opp fun φ a w hm he => by
    obtain ⟨d1, h1⟩ : WAny.ok φ (a.eval x) := he x (by simp [Op.operands]) _ hx
    obtain ⟨d2, h2⟩ : WAny.ok φ (a.eval y) := he y (by simp [Op.operands]) _ hy
    have h1' : a.eval x = .int .u64 (UV d1) := h1
    have h2' : a.eval y = .int .u64 (UV d2) := h2
    refine ⟨.int .u64 (UV (d1 + d2)), ?_, ⟨d1 + d2, rfl⟩⟩
    have h3 : (eqGuard .add t x y (.int .u64 (UV d1)) (.int .u64 (UV d2))).run P w = .ok () w := rfl
    have h4 := add_u64 (t := t) d1 d2
    simp only [execOp, h1', h2', Sem.run_bind, h3, Result.andThen_ok, h4, Sem.run_pure]
end
-- bodegaref6.at: function 109
theorem at_ok (b : Bool) (i : Int) : FnP Tryz.prog 109 [IsRef [IsSl tAU (List.replicate 784 ()), Is (.bool b)], Is (.int .i64 i)] WAny := by
  refine FnP.enter Tryz.func109 Tryz.ntmps109 rfl rfl ?_
  intro c hX
  refine JC_seq ?_
  refine JC_region ?_
  refine JL_1 rfl (op_assign rfl) ?_
  refine JL_nil ?_
  refine JQ_then (JC_seq (JC_seq ?_))
  refine JC_region ?_
  refine JL_1 rfl (op_move rfl) ?_
  refine JL_1 rfl (op_lss (Ev.rfl' rfl) (Ev.rfl' rfl)) ?_
  refine JL_1 rfl (op_move rfl) ?_
  (refine JL_i0 rfl rfl rfl (fun hg => (by have hg0 := hg; (try simp at hg); exact op_moveE (Ev.rfl' rfl))) ?_)
  (refine JL_i0 rfl rfl rfl (fun hg => (by have hg0 := hg; (try simp at hg); exact op_moveE (Ev.rfl' rfl))) ?_)
  (refine JL_i0 rfl rfl rfl (fun hg => (by have hg0 := hg; (try simp at hg); exact op_nilRef evG)) ?_)
  (refine JL_i0 rfl rfl rfl (fun hg => (by have hg0 := hg; (try simp at hg); exact op_fieldRefN (k := 0) evG rfl rfl rfl rfl nrmT)) ?_)
  (refine JL_i0 rfl rfl rfl (fun hg => (by have hg0 := hg; (try simp at hg); exact op_loadRef evG rfl rfl rfl)) ?_)
  (refine JL_i0 rfl rfl rfl (fun hg => (by have hg0 := hg; (try simp at hg); exact op_len evG rfl)) ?_)
  (refine JL_i0 rfl rfl rfl (fun hg => (by have hg0 := hg; (try simp at hg); exact op_geq evG evG)) ?_)
  refine JL_1 rfl (op_or (Ev.rfl' rfl) rfl (fun h => by exact SubL.iteT (by (rw [h]; rfl)) SubL.rfl')) ?_
  refine JL_nil ?_
  refine JQ_then ?_
  refine JC_cond (Ev.rfl' rfl) (fun h1 => ?_) (fun h1 => ?_)
  · refine JC_seq ?_
    refine JC_region ?_
    refine JL_1 rfl (op_assign rfl) ?_
    refine JL_nil ?_
    refine JQ_then (JC_ret (JQ_then_ret ?_))
    exact JQ_ret1 Tryz.results109 rfl () (fun φ v _ h => ⟨0#64, h⟩) (List.nil_sublist _)
  have hb : 0 ≤ i ∧ i < 784 := by simp at h1; omega
  have hx : (List.replicate 784 ())[i.toNat]? = some () := by rw [List.getElem?_replicate]; exact if_pos (by omega)
  refine JC_skip (JQ_then (JC_seq ?_))
  refine JC_region ?_
  refine JL_1 rfl (op_move rfl) ?_
  refine JL_1 rfl (by exact op_nilRef (Ev.rfl' rfl)) ?_
  refine JL_1 rfl (by exact op_fieldRefN (k := 0) (Ev.rfl' rfl) rfl rfl rfl rfl nrmT) ?_
  refine JL_1 rfl (by exact op_loadRef (Ev.rfl' rfl) rfl rfl rfl) ?_
  refine JL_1 rfl (op_move rfl) ?_
  refine JL_1 rfl (by exact op_index (j := i.toNat) (Ev.rfl' rfl) (Ev.rfl' rfl) rfl rfl (by omega) hx) ?_
  refine JL_1 rfl (by exact op_loadRef (Ev.rfl' rfl) rfl rfl rfl) ?_
  refine JL_1 rfl (op_assign rfl) ?_
  refine JL_nil ?_
  refine JQ_then (JC_ret ?_)
  exact JQ_ret1 Tryz.results109 rfl () SubL.rfl' (List.nil_sublist _)
theorem rep_part {m l h : Nat} (h1 : l ≤ h) (h2 : h ≤ m) : ((List.replicate m ()).take h).drop l = List.replicate (h - l) () := by
  rw [List.take_replicate, List.drop_replicate, Nat.min_eq_left h2]
-- bodegaref6.execute: function 111
set_option maxHeartbeats 2000000 in
theorem execute_ok (n : Nat) (nb : WA) (nds : List FN) (k : Nat) (d : FN) (hz : nds[k]? = some d) (v : GVerb) (pc : Pc) (h1 : 0 ≤ pc.at_ ∧ 1 ≤ pc.n ∧ pc.at_ + pc.n ≤ 784) (h2 : v.kind = 2 → v.at_ ≤ pc.at_ ∧ pc.at_ + pc.n ≤ v.at_ + (v.words.length : Nat)) (hv : 0 ≤ v.at_) :
    Fn Tryz.prog 111 [Is (bpt nb (k * tFN.size)), IsGVerb v, IsPc pc] [buf (slV n nb) 177 tFN nds, wb 83 784 d.w]
    (fun ws : {ws : List (BitVec 64) // ws.length ≤ 784} => IsSl tU64 ws.1) (fun _ => [buf (slV n nb) 177 tFN nds, wb 83 784 d.w]) := by
  have hn0 := nds_pos hz
  obtain ⟨lo, hlo⟩ : ∃ lo : Nat, (lo : Int) = pc.at_ := ⟨pc.at_.toNat, by omega⟩
  obtain ⟨m, hm⟩ : ∃ m : Nat, (m : Int) = pc.n := ⟨pc.n.toNat, by omega⟩
  have hrep := rep_part (m := 784) (l := lo) (h := lo + m) (by omega) (by omega)
  refine Fn.enterN Tryz.func111 Tryz.ntmps111 rfl rfl ?_
  intro c hX
  refine JC_seq ?_
  refine JC_region ?_
  (refine JL_n rfl (op_box (Ev.rfl' rfl) cellsT) ?_; intro i4)
  (refine JL_n rfl (op_box (Ev.rfl' rfl) cellsT) ?_; intro i5)
  refine JL_1 rfl (op_assign rfl) ?_
  refine JL_nil ?_
  refine JQ_then (JC_seq ?_)
  refine JC_dr rfl (by kernel_rfl) ?_
  refine JD_stretch 13 (by kernel_rfl) ?_
  refine JW_1 (op_move rfl) ?_
  refine JW_1 (by exact op_nilBuf (Ev.rfl' rfl) memT lenT) ?_
  refine JW_1 (by exact op_fieldBuf (k := 0) (Ev.rfl' rfl) memT lenT rfl rfl rfl rfl) ?_
  refine JW_1 (by exact op_loadBuf (Ev.rfl' rfl) memT hz rfl rfl (by rfl)) ?_
  refine JW_1 (by exact op_fieldPtr (k := 0) (Ev.rfl' rfl) rfl rfl rfl rfl) ?_
  refine JW_1 (by exact op_loadPtr (Ev.rfl' rfl) memT (by rfl) (by rfl) (by rfl)) ?_
  refine JW_1 (by exact op_fieldPtr (k := 0) (Ev.rfl' rfl) rfl rfl rfl rfl) ?_
  refine JW_1 (by exact op_loadPtr (Ev.rfl' rfl) memT (by rfl) (by rfl) (by rfl)) ?_
  refine JW_1 (by exact op_fieldPtr (k := 1) (Ev.rfl' rfl) rfl rfl rfl rfl) ?_
  refine JW_1 (by exact op_loadPtr (Ev.rfl' rfl) memT (by rfl) (by rfl) (by rfl)) ?_
  refine JW_1 (op_add (Ev.rfl' rfl) (Ev.rfl' rfl) wrapT) ?_
  refine JW_1 (op_sliceMid (l := lo) (h := (lo + m)) (T := tAU) (xs := (List.replicate 784 ())) (Ev.rfl' rfl) memT rfl rfl ⟨_, _, (Ev.rfl' rfl), (show _ = ((lo : Nat) : Int) by omega)⟩ ⟨_, _, (Ev.rfl' rfl), (show _ = (((lo + m) : Nat) : Int) by omega)⟩ (by omega) (by omega)) ?_
  refine JW_n (op_appNilPart (l := lo) (h := (lo + m)) (T := tAU) (xs := (List.replicate 784 ())) (Ev.rfl' rfl) (Ev.rfl' rfl) memT pureV_au (by exact appT rfl rfl rfl) (by omega) lenT lenT) ?_
  refine ⟨rfl, ?_⟩
  intro i21
  refine JD_1 (by kernel_rfl) rfl rfl (op_assign rfl) ?_
  refine JD_end ?_
  refine JQ_then (JC_seq (JC_seq ?_))
  rw [hrep, Nat.add_sub_cancel_left, List.length_replicate]
  refine JC_region ?_
  refine JL_1 rfl (by exact op_fieldPtr (k := 0) (Ev.rfl' rfl) rfl rfl rfl rfl) ?_
  refine JL_1 rfl (by exact op_loadPtr (Ev.rfl' rfl) memT (by rfl) (by rfl) (by rfl)) ?_
  refine JL_nil ?_
  refine JQ_then (JC_block (JC_seq ?_))
  refine JC_region ?_
  refine JL_1 rfl (op_eql (Ev.rfl' rfl) (Ev.rfl' rfl)) ?_
  refine JL_1 rfl (op_assign rfl) ?_
  refine JL_nil ?_
  refine JQ_then ?_
  refine JC_cond (Ev.rfl' rfl) (fun h3 => ?_) (fun h3 => ?_)
  · refine JC_seq ?_
    refine JC_region ?_
    refine JL_1 rfl (op_move rfl) ?_
    refine JL_1 rfl (op_assign rfl) ?_
    refine JL_nil ?_
    refine JQ_then (JC_ret (JQ_block_ret (JQ_then_ret ?_)))
    refine JQ_freezeX (T := tAU) (xs := List.replicate m ()) replT (namesT hX) ?_
    exact JQ_retV (Bs := [IsSl tAU (List.replicate m ())]) Tryz.results111 ⟨⟨_, rfl, SubL.fact memT⟩, trivial⟩ (fun φ u hf h => by obtain ⟨⟨ws, hw⟩, h3⟩ := SubL.words φ u hf h; exact ⟨⟨ws, by omega⟩, h3⟩) lessT
  refine JC_seq ?_
  refine JC_region ?_
  refine JL_1 rfl (op_eql (Ev.rfl' rfl) (Ev.rfl' rfl)) ?_
  refine JL_1 rfl (op_assign rfl) ?_
  refine JL_nil ?_
  refine JQ_then ?_
  refine JC_cond (Ev.rfl' rfl) (fun h5 => ?_) (fun h5 => ?_)
  · have hk2 : v.kind = 2 := by simpa using h5
    have h2' := h2 hk2
    refine JC_seq (JC_seq ?_)
    refine JC_region ?_
    refine JL_1 rfl (op_assign rfl) ?_
    refine JL_nil ?_
    refine JQ_then (JC_block ?_)
    refine JC_loopP (fun i : Nat => i ≤ m) (fun i => [(0, Is (bpt nb (k * tFN.size))), (4, Is (.pointer (some ⟨i4, 0, none⟩))), (5, Is (.pointer (some ⟨i5, 0, none⟩))), (8, Is (.int .i64 (i : Nat)))]) (fun i => [blk i5 197 (tPc.cells pc), blk i4 91 (tGVerb.cells v), buf (slV n nb) 177 tFN nds, wb 83 784 d.w]) (fun i => m - i) 0 (Nat.zero_le _) esubT lessT ?_
    intro i hi
    refine JC_seq (JC_seq ?_)
    refine JC_region ?_
    refine JL_1 rfl (op_move rfl) ?_
    refine JL_1 rfl (by exact op_fieldPtr (k := 1) (Ev.rfl' rfl) rfl rfl rfl rfl) ?_
    refine JL_1 rfl (by exact op_loadPtr (Ev.rfl' rfl) memT (by rfl) (by rfl) (by rfl)) ?_
    refine JL_1 rfl (op_lss (Ev.rfl' rfl) (Ev.rfl' rfl)) ?_
    refine JL_nil ?_
    refine JQ_then ?_
    refine JC_cond (Ev.rfl' rfl) (fun h7 => ?_) (fun h7 => ?_)
    · have hlt : i < m := by have := of_decide_eq_true h7; omega
      clear h7
      obtain ⟨j, hj⟩ : ∃ j : Nat, (j : Int) = pc.at_ - v.at_ + (i : Nat) := ⟨(pc.at_ - v.at_ + (i : Nat)).toNat, by omega⟩
      have hx := gs 0#64 (show j < v.words.length by omega)
      refine JC_skip (JQ_then (JC_seq (JC_block ?_)))
      refine JC_dr rfl (by kernel_rfl) ?_
      refine JD_stretch 20 (by kernel_rfl) ?_
      refine JW_1 (op_move rfl) ?_
      refine JW_1 (by exact op_nilBuf (Ev.rfl' rfl) memT lenT) ?_
      refine JW_1 (by exact op_fieldBuf (k := 0) (Ev.rfl' rfl) memT lenT rfl rfl rfl rfl) ?_
      refine JW_1 (by exact op_loadBuf (Ev.rfl' rfl) memT hz rfl rfl (by rfl)) ?_
      refine JW_1 (by exact op_fieldPtr (k := 0) (Ev.rfl' rfl) rfl rfl rfl rfl) ?_
      refine JW_1 (by exact op_loadPtr (Ev.rfl' rfl) memT (by rfl) (by rfl) (by rfl)) ?_
      refine JW_1 (op_move rfl) ?_
      refine JW_1 (op_add (Ev.rfl' rfl) (Ev.rfl' rfl) wrapT) ?_
      refine JW_1 (by exact op_fieldPtr (k := 6) (Ev.rfl' rfl) rfl rfl rfl rfl) ?_
      refine JW_1 (by exact op_loadPtr (Ev.rfl' rfl) memT (by rfl) (by rfl) (by rfl)) ?_
      refine JW_1 (by exact op_fieldPtr (k := 0) (Ev.rfl' rfl) rfl rfl rfl rfl) ?_
      refine JW_1 (by exact op_loadPtr (Ev.rfl' rfl) memT (by rfl) (by rfl) (by rfl)) ?_
      refine JW_1 (by exact op_fieldPtr (k := 2) (Ev.rfl' rfl) rfl rfl rfl rfl) ?_
      refine JW_1 (by exact op_loadPtr (Ev.rfl' rfl) memT (by rfl) (by rfl) (by rfl)) ?_
      refine JW_1 (op_sub (Ev.rfl' rfl) (Ev.rfl' rfl) wrapT) ?_
      refine JW_1 (op_move rfl) ?_
      refine JW_1 (op_add (Ev.rfl' rfl) (Ev.rfl' rfl) wrapT) ?_
      refine JW_1 (by exact op_index (j := j) (Ev.rfl' rfl) (Ev.rfl' rfl) rfl rfl (by omega) hx) ?_
      refine JW_1 (by exact op_loadRef (Ev.rfl' rfl) rfl rfl rfl) ?_
      refine JW_1 (op_indexW (k := (lo + i)) (Ev.rfl' rfl) memT (Ev.rfl' rfl) rfl rfl idxT (by omega)) ?_
      refine ⟨rfl, ?_⟩
      refine JD_s0 (by kernel_rfl) rfl (op_storeW1 (n := 0) (Ev.rfl' rfl) memT (by omega) (Ev.rfl' rfl) (by exact cells_word) rfl) ?_
      refine JD_end ?_
      refine JQ_block (JQ_then ?_)
      refine JC_region ?_
      refine JL_1 rfl (op_move rfl) ?_
      refine JL_1 rfl (op_add (Ev.rfl' rfl) (Ev.rfl' rfl) wrapT) ?_
      refine JL_1 rfl (op_assign rfl) ?_
      refine JL_nil ?_
      exact JQ_roundP (i + 1) (by omega) (by omega) esubT lessT
    refine JC_exit (JQ_then_exit (JQ_then_exit (JQ_hit (JQ_then (JC_seq ?_)))))
    refine JC_region ?_
    refine JL_1 rfl (op_assign rfl) ?_
    refine JL_nil ?_
    refine JQ_then (JC_ret (JQ_block_ret (JQ_then_ret ?_)))
    exact JQ_retP (Bs := [IsSl tU64 []]) Tryz.results111 ⟨⟨_, rfl, SubL.nil⟩, trivial⟩ ⟨[], by simp⟩ SubL.rfl' lessT
  refine JC_seq ?_
  refine JC_region ?_
  refine JL_1 rfl (op_eql (Ev.rfl' rfl) (Ev.rfl' rfl)) ?_
  refine JL_1 rfl (op_assign rfl) ?_
  refine JL_nil ?_
  refine JQ_then ?_
  refine JC_cond (Ev.rfl' rfl) (fun h11 => ?_) (fun h11 => ?_)
  · refine JC_seq ?_
    refine JC_dr rfl (by kernel_rfl) ?_
    refine JD_stretch 5 (by kernel_rfl) ?_
    refine JW_1 (op_move rfl) ?_
    refine JW_1 (by exact op_indexBuf (k := 0) (Ev.rfl' rfl) memT (Ev.rfl' rfl) rfl rfl idxT lenT) ?_
    refine JW_1 (by exact op_loadBuf0 (Ev.rfl' rfl) memT (show (List.replicate m ())[0]? = some () by rw [List.getElem?_replicate]; exact if_pos (by omega)) rfl rfl (by rfl)) ?_
    refine JW_1 (by exact op_fieldPtr (k := 4) (Ev.rfl' rfl) rfl rfl rfl rfl) ?_
    refine JW_1 (by exact op_loadPtr (Ev.rfl' rfl) memT (by rfl) (by rfl) (by rfl)) ?_
    refine ⟨rfl, ?_⟩
    refine JD_ex 59 rfl ?_; intro w59
    refine JD_1 (by kernel_rfl) rfl rfl (op_eql (Ev.rfl' rfl) (Ev.rfl' rfl)) ?_
    refine JD_end ?_
    refine JQ_then ?_
    refine JC_cond (Ev.rfl' rfl) (fun h12 => ?_) (fun h12 => ?_)
    · refine JC_dr rfl (by kernel_rfl) ?_
      refine JD_stretch 9 (by kernel_rfl) ?_
      refine JW_1 (op_move rfl) ?_
      refine JW_1 (by exact op_nilBuf (Ev.rfl' rfl) memT lenT) ?_
      refine JW_1 (by exact op_fieldBuf (k := 0) (Ev.rfl' rfl) memT lenT rfl rfl rfl rfl) ?_
      refine JW_1 (by exact op_loadBuf (Ev.rfl' rfl) memT hz rfl rfl (by rfl)) ?_
      refine JW_1 (by exact op_fieldPtr (k := 0) (Ev.rfl' rfl) rfl rfl rfl rfl) ?_
      refine JW_1 (by exact op_loadPtr (Ev.rfl' rfl) memT (by rfl) (by rfl) (by rfl)) ?_
      refine JW_1 (by exact op_fieldPtr (k := 5) (Ev.rfl' rfl) rfl rfl rfl rfl) ?_
      refine JW_1 (by exact op_loadPtr (Ev.rfl' rfl) memT (by rfl) (by rfl) (by rfl)) ?_
      refine JW_1 (op_indexW (k := lo) (Ev.rfl' rfl) memT (Ev.rfl' rfl) rfl rfl idxT (by omega)) ?_
      refine ⟨rfl, ?_⟩
      refine JD_s0 (by kernel_rfl) rfl (op_storeW1 (n := 0) (Ev.rfl' rfl) memT (by omega) (Ev.rfl' rfl) (by exact cells_word) rfl) ?_
      refine JD_end ?_
      refine JQ_block (JQ_then (JC_seq ?_))
      refine JC_region ?_
      refine JL_1 rfl (op_move rfl) ?_
      refine JL_1 rfl (op_assign rfl) ?_
      refine JL_nil ?_
      refine JQ_then (JC_ret ?_)
      refine JQ_freezeX (T := tAU) (xs := List.replicate m ()) replT (namesT hX) ?_
      exact JQ_retV (Bs := [IsSl tAU (List.replicate m ())]) Tryz.results111 ⟨⟨_, rfl, SubL.fact memT⟩, trivial⟩ (fun φ u hf h => by obtain ⟨⟨ws, hw⟩, h3⟩ := SubL.words φ u hf h; exact ⟨⟨ws, by omega⟩, h3⟩) lessT
    refine JC_skip (JQ_block (JQ_then (JC_seq ?_)))
    refine JC_region ?_
    refine JL_1 rfl (op_move rfl) ?_
    refine JL_1 rfl (op_assign rfl) ?_
    refine JL_nil ?_
    refine JQ_then (JC_ret ?_)
    refine JQ_freezeX (T := tAU) (xs := List.replicate m ()) replT (namesT hX) ?_
    exact JQ_retV (Bs := [IsSl tAU (List.replicate m ())]) Tryz.results111 ⟨⟨_, rfl, SubL.fact memT⟩, trivial⟩ (fun φ u hf h => by obtain ⟨⟨ws, hw⟩, h3⟩ := SubL.words φ u hf h; exact ⟨⟨ws, by omega⟩, h3⟩) lessT
  refine JC_seq ?_
  refine JC_region ?_
  refine JL_1 rfl (op_eql (Ev.rfl' rfl) (Ev.rfl' rfl)) ?_
  refine JL_1 rfl (op_assign rfl) ?_
  refine JL_nil ?_
  refine JQ_then ?_
  refine JC_cond (Ev.rfl' rfl) (fun h14 => ?_) (fun h14 => ?_)
  · refine JC_dr rfl (by kernel_rfl) ?_
    refine JD_stretch 13 (by kernel_rfl) ?_
    refine JW_1 (op_move rfl) ?_
    refine JW_1 (by exact op_nilBuf (Ev.rfl' rfl) memT lenT) ?_
    refine JW_1 (by exact op_fieldBuf (k := 0) (Ev.rfl' rfl) memT lenT rfl rfl rfl rfl) ?_
    refine JW_1 (by exact op_loadBuf (Ev.rfl' rfl) memT hz rfl rfl (by rfl)) ?_
    refine JW_1 (by exact op_fieldPtr (k := 0) (Ev.rfl' rfl) rfl rfl rfl rfl) ?_
    refine JW_1 (by exact op_loadPtr (Ev.rfl' rfl) memT (by rfl) (by rfl) (by rfl)) ?_
    refine JW_1 (op_move rfl) ?_
    refine JW_1 (by exact op_indexBuf (k := 0) (Ev.rfl' rfl) memT (Ev.rfl' rfl) rfl rfl idxT lenT) ?_
    refine JW_1 (by exact op_loadBuf0 (Ev.rfl' rfl) memT (show (List.replicate m ())[0]? = some () by rw [List.getElem?_replicate]; exact if_pos (by omega)) rfl rfl (by rfl)) ?_
    refine JW_1 (by exact op_fieldPtr (k := 5) (Ev.rfl' rfl) rfl rfl rfl rfl) ?_
    refine JW_1 (by exact op_loadPtr (Ev.rfl' rfl) memT (by rfl) (by rfl) (by rfl)) ?_
    refine JW_1 (op_addW (Ev.rfl' rfl) (Ev.sub rfl SubL.wany)) ?_
    refine JW_1 (op_indexW (k := lo) (Ev.rfl' rfl) memT (Ev.rfl' rfl) rfl rfl idxT (by omega)) ?_
    refine ⟨rfl, ?_⟩
    refine JD_s0 (by kernel_rfl) rfl (op_storeW1 (n := 0) (Ev.rfl' rfl) memT (by omega) (Ev.rfl' rfl) (by exact cells_wany) rfl) ?_
    refine JD_end ?_
    refine JQ_block (JQ_then (JC_seq ?_))
    refine JC_region ?_
    refine JL_1 rfl (op_move rfl) ?_
    refine JL_1 rfl (op_assign rfl) ?_
    refine JL_nil ?_
    refine JQ_then (JC_ret ?_)
    refine JQ_freezeX (T := tAU) (xs := List.replicate m ()) replT (namesT hX) ?_
    exact JQ_retV (Bs := [IsSl tAU (List.replicate m ())]) Tryz.results111 ⟨⟨_, rfl, SubL.fact memT⟩, trivial⟩ (fun φ u hf h => by obtain ⟨⟨ws, hw⟩, h3⟩ := SubL.words φ u hf h; exact ⟨⟨ws, by omega⟩, h3⟩) lessT
  refine JC_skip (JQ_block (JQ_then (JC_seq ?_)))
  refine JC_region ?_
  refine JL_1 rfl (op_move rfl) ?_
  refine JL_1 rfl (op_assign rfl) ?_
  refine JL_nil ?_
  refine JQ_then (JC_ret ?_)
  refine JQ_freezeX (T := tAU) (xs := List.replicate m ()) replT (namesT hX) ?_
  exact JQ_retV (Bs := [IsSl tAU (List.replicate m ())]) Tryz.results111 ⟨⟨_, rfl, SubL.fact memT⟩, trivial⟩ (fun φ u hf h => by obtain ⟨⟨ws, hw⟩, h3⟩ := SubL.words φ u hf h; exact ⟨⟨ws, by omega⟩, h3⟩) lessT
end Go.Proofs.YtfglhiciagmicaaGreat

/- Contracts: a verb is posted on a pair; a pair executes one piece. Own work. -/
namespace Go.Proofs.YtfglhiciagmicaaGreat
open Go.RowKit
set_option linter.unusedVariables false
set_option linter.unusedSimpArgs false
set_option maxRecDepth 100000
theorem ValidV0_ok (v : GVerb) (nodes lines : Int) (h : GoodV v nodes lines) : FnP Tryz.prog 91 [IsGVerb v, Is (.int .i64 nodes), Is (.int .i64 lines)] (Is (.int .i64 0)) := (ValidVR_ok v nodes lines).weak fun φ u ⟨⟨z, hz⟩, k⟩ => by
  have : z = 0 := hz.2 h
  subst this; exact k
def Pr.withQ (p : Pr) (q : List Pd) : Pr := ⟨p.client, p.inc, p.node, q⟩
-- (*bodegaref6.Pair).Post: function 92
set_option maxHeartbeats 2000000 in
theorem PairPost_ok (n : Nat) (pb : WA) (prs : List Pr) (j : Nat) (pr : Pr) (hz : prs[j]? = some pr) (v : GVerb) (hv : GoodV v 5 98) (hnode : v.node = pr.node) (hq : pr.q.length < 1024) (hw : v.words.length ≤ 1024) (slot : Int) :
    Fn Tryz.prog 92 [Is (bpt pb (j * tPr.size)), IsGVerb v, Is (.int .i64 98), Is (.int .i64 slot)] [buf (slV n pb) 170 tPr prs]
    (fun _ : Unit => Is (.int .i64 0)) (fun _ => [buf (slV n pb) 170 tPr (prs.set j (pr.withQ (pr.q ++ [⟨v, 0, [], slot⟩])))]) := by
  have hn0 : 0 < prs.length := by have := (List.getElem?_eq_some_iff.1 hz).1; omega
  refine Fn.enterN Tryz.func92 Tryz.ntmps92 rfl rfl ?_
  intro c hX
  refine JC_seq ?_
  refine JC_region ?_
  (refine JL_n rfl (op_box (Ev.rfl' rfl) cellsT) ?_; intro i5)
  refine JL_1 rfl (op_assign rfl) ?_
  refine JL_nil ?_
  refine JQ_then (JC_seq (JC_seq ?_))
  refine JC_region ?_
  refine JL_1 rfl (by exact op_loadPtrsN (n := 9) (Ev.rfl' rfl) memT (by rfl) (by rfl) (by rfl) (by rfl) nrmT) ?_
  refine JL_1 rfl (op_move rfl) ?_
  refine JL_1 rfl (op_call Tryz.call91 (ValidV0_ok _ _ _ hv) ⟨evS, ⟨evS, ⟨evS, trivial⟩⟩⟩) ?_
  refine JL_1 rfl (op_assign rfl) ?_
  refine JL_nil ?_
  refine JQ_then (JC_seq ?_)
  refine JC_region ?_
  refine JL_1 rfl (op_move rfl) ?_
  refine JL_1 rfl (op_neq (Ev.rfl' rfl) (Ev.rfl' rfl)) ?_
  refine JL_nil ?_
  refine JQ_then ?_
  refine JC_cond (Ev.rfl' rfl) (fun h2 => ?_) (fun h2 => ?_)
  · exact absurd h2 (by decide)
  refine JC_skip (JQ_then (JC_seq (JC_seq ?_)))
  refine JC_dr rfl (by kernel_rfl) ?_
  refine JD_stretch 7 (by kernel_rfl) ?_
  refine JW_1 (by exact op_fieldPtr (k := 1) (Ev.rfl' rfl) rfl rfl rfl rfl) ?_
  refine JW_1 (by exact op_loadPtr (Ev.rfl' rfl) memT (by rfl) (by rfl) (by rfl)) ?_
  refine JW_1 (op_move rfl) ?_
  refine JW_1 (by exact op_nilBuf (Ev.rfl' rfl) memT lenT) ?_
  refine JW_1 (by exact op_fieldBuf (k := 2) (Ev.rfl' rfl) memT lenT rfl rfl rfl rfl) ?_
  refine JW_1 (by exact op_loadBuf (Ev.rfl' rfl) memT hz rfl rfl (by rfl)) ?_
  refine JW_1 (op_neq (Ev.rfl' rfl) (Ev.rfl' rfl)) ?_
  refine ⟨rfl, ?_⟩
  refine JD_end ?_
  refine JQ_then ?_
  refine JC_cond (Ev.rfl' rfl) (fun h4 => ?_) (fun h4 => ?_)
  · exact absurd h4 (by simp [hnode])
  refine JC_skip (JQ_then (JC_seq (JC_seq ?_)))
  refine JC_region ?_
  refine JL_1 rfl (op_move rfl) ?_
  refine JL_1 rfl (by exact op_nilBuf (Ev.rfl' rfl) memT lenT) ?_
  refine JL_1 rfl (by exact op_fieldBuf (k := 3) (Ev.rfl' rfl) memT lenT rfl rfl rfl rfl) ?_
  refine JL_1 rfl (by exact op_loadBuf (Ev.rfl' rfl) memT hz rfl rfl (by rfl)) ?_
  refine JL_1 rfl (by exact op_len (Ev.rfl' rfl) rfl) ?_
  refine JL_1 rfl (op_geq (Ev.rfl' rfl) (Ev.rfl' rfl)) ?_
  refine JL_nil ?_
  refine JQ_then ?_
  refine JC_cond (Ev.rfl' rfl) (fun h6 => ?_) (fun h6 => ?_)
  · exact absurd (of_decide_eq_true h6) (by omega)
  refine JC_skip (JQ_then (JC_seq ?_))
  refine JC_region ?_
  refine JL_1 rfl (by exact op_fieldPtr (k := 6) (Ev.rfl' rfl) rfl rfl rfl rfl) ?_
  refine JL_1 rfl (by exact op_loadPtr (Ev.rfl' rfl) memT (by rfl) (by rfl) (by rfl)) ?_
  (refine JL_n rfl (op_appNil (T := tU64) (Ev.rfl' rfl) evS (by exact appT rfl rfl rfl) lenT) ?_; intro i31)
  refine JL_1 rfl (by exact op_fieldPtr (k := 6) (Ev.rfl' rfl) rfl rfl rfl rfl) ?_
  refine JL_s0 (op_storeN (Ev.rfl' rfl) (Ev.rfl' rfl) cellsT replT nrmT (by rfl) (by rfl) (by rfl)) ?_
  refine JL_nil ?_
  refine JQ_then (JC_seq ?_)
  refine JC_freezeX (T := tU64) (xs := v.words) replT (namesT hX) ?_
  refine JC_dr rfl (by kernel_rfl) ?_
  refine JD_stretch 13 (by kernel_rfl) ?_
  refine JW_1 (op_move rfl) ?_
  refine JW_1 (op_move rfl) ?_
  refine JW_1 (by exact op_nilBuf (Ev.rfl' rfl) memT lenT) ?_
  refine JW_1 (by exact op_fieldBuf (k := 3) (Ev.rfl' rfl) memT lenT rfl rfl rfl rfl) ?_
  refine JW_1 (by exact op_loadBuf (Ev.rfl' rfl) memT hz rfl rfl (by rfl)) ?_
  refine JW_n (op_appNil (T := tPd) (Ev.rfl' rfl) evS (by exact appT rfl rfl rfl) lenT) ?_
  refine JW_1 (by exact op_loadPtrsN (n := 9) (Ev.rfl' rfl) memT (by rfl) (by rfl) (by rfl) (by rfl) nrmT) ?_
  refine JW_1 (op_move rfl) ?_
  refine JW_1 (op_buildN (qs := [(0, _), (3, _)]) rfl rfl rfl rfl ⟨⟨rfl, _, (Ev.rfl' rfl), cellsT⟩, ⟨⟨rfl, _, (Ev.rfl' rfl), cellsT⟩, trivial⟩⟩ (by rfl) nrmT) ?_
  refine JW_1 (op_buildSlice (size := 12) (qs := [(0, _)]) rfl rfl rfl ⟨⟨rfl, _, (Ev.rfl' rfl), cellsT⟩, trivial⟩ (by rfl) (by rfl)) ?_
  refine JW_take rfl rfl rfl (by rfl) (by kernel_rfl) (op_appT (by exact Ev.sub rfl (by exact SubL.row (xs := [(⟨v, 0, [], slot⟩ : Pd)]) (by rfl) (by rfl) subsT)) (by exact appT rfl rfl rfl) lenT) ?_
  refine JW_1 (by exact op_nilBuf (Ev.rfl' rfl) memT lenT) ?_
  refine JW_1 (by exact op_fieldBuf (k := 3) (Ev.rfl' rfl) memT lenT rfl rfl rfl rfl) ?_
  refine ⟨rfl, ?_⟩
  intro i43
  (refine JD_freezeX (T := tPd) (xs := pr.q ++ [⟨v, 0, [], slot⟩]) replT (namesT hX) ?_; refine JD_set 43 (IsSl tPd (pr.q ++ [⟨v, 0, [], slot⟩])) rfl (SubL.fact memT) ?_)
  refine JD_s0 (by kernel_rfl) rfl (by exact op_storeBuf (z' := (pr.withQ (pr.q ++ [⟨v, 0, [], slot⟩]))) (Ev.rfl' rfl) (Ev.rfl' rfl) cellsT replT hz rfl (by rfl) (by rfl)) ?_
  refine JD_end ?_
  refine JQ_then (JC_seq ?_)
  refine JC_region ?_
  refine JL_1 rfl (op_assign rfl) ?_
  refine JL_nil ?_
  refine JQ_then (JC_ret ?_)
  exact JQ_retP (Bs := [Is (.int .i64 0)]) Tryz.results92 ⟨⟨_, rfl, subT⟩, trivial⟩ () SubL.rfl' lessT
end Go.Proofs.YtfglhiciagmicaaGreat

/- Contracts: a pair executes one piece of its first verb. Own work. -/
namespace Go.Proofs.YtfglhiciagmicaaGreat
open Go.RowKit
set_option linter.unusedVariables false
set_option linter.unusedSimpArgs false
set_option maxRecDepth 100000
/-- A verb that waits. -/
structure InQ (x : Pd) : Prop where
  v : GoodV x.v 5 98
  lo : 0 ≤ x.ex
  hi : x.ex < ((piecesV x.v).length : Nat)
  w : x.v.words.length ≤ 1024
  ws : (x.ws.length : Int) ≤ 784 * x.ex
structure StO where
  dn : Dn
  slot : Int
  fin : Bool
  q : List Pd
/-- What one step does to a queue. -/
def StepR (x : Pd) (rest : List Pd) (z : StO) : Prop := z.dn.words.length ≤ 802816 ∧ ((z.fin = true ∧ z.slot = x.slot ∧ z.q = rest) ∨ (z.fin = false ∧ ∃ ws : List (BitVec 64), z.q = ⟨x.v, x.ex + 1, ws, x.slot⟩ :: rest ∧ x.ex + 1 < ((piecesV x.v).length : Nat) ∧ (ws.length : Int) ≤ 784 * (x.ex + 1)))
theorem JC_own {P : Program} {c : Ctx} {N : Nat} {E : Env} {L : List Item} {Q : Exit → Act → World → Prop} {α : Type} {T : Ty α} {xs : List α} {i : Option Addr × Nat} {n : Nat} {e : TypeId} {x : Code} (hL : buf (slV n i) e T xs ∈ L) (h0 : 0 < xs.length) (h : ∀ gg cap, i = (some ⟨gg, 0, none⟩, cap) → JC P c N x E L Q) : JC P c N x E L Q := fun φ a w st => by
  obtain ⟨gg, cap, cur, e, _⟩ := own_buf st.mem hL h0
  exact h gg cap e φ a w st
theorem SubL.refs {L : List Item} {As Bs : List VP} (h : SubLs L As Bs) : SubL L (IsRef As) (IsRef Bs) := fun φ v f ⟨b, o, e, k⟩ => ⟨b, o, e, fun j B hB => by
  obtain ⟨D, h1, h2⟩ := subLs_get (Bs := []) h hB
  obtain ⟨u, h3, h4, h5⟩ := k _ D h1
  exact ⟨u, h3, h2 φ u f h4, h5⟩⟩
theorem sub_node {L : List Item} {n k gg cap : Nat} {nb : WA} {nds : List FN} {d : FN} (hz : nds[k]? = some d) (hnb : nb = (some ⟨gg, 0, none⟩, cap)) (h1 : fact (slV n nb) (IsSl tFN nds) ∈ L) (h2 : fact (slV 784 d.w) (IsSl tAU (List.replicate 784 ())) ∈ L) : SubL L (Is (bpt nb (k * tFN.size))) (IsRef [IsSl tAU (List.replicate 784 ()), Is (.bool d.up)]) := fun φ v hf hv => by
  have g1 : (IsSl tFN nds).ok φ (slV n nb) := hf _ h1 rfl
  have e : v = bpt nb (k * tFN.size) := hv
  obtain ⟨ad, m, cp, e1, e2, e3, e4, e5⟩ := g1
  subst hnb
  unfold slV at e1
  injection e1 with e6 e7 e8
  have hk := (List.getElem?_eq_some_iff.1 hz).1
  rcases e5 with e5 | ⟨b, o, e9, e5⟩
  · omega
  · dsimp only at e6
    rw [e9] at e6
    injection e6 with e6
    injection e6 with e6 e7
    subst e6 e7
    have hr := e5 k d hz
    rw [Nat.zero_add] at hr
    have h3 : (IsRef (tFN.cells d)).ok φ v := ⟨gg, k * tFN.size, e, hr⟩
    exact SubL.refs (L := L) (As := tFN.cells d) (Bs := [IsSl tAU (List.replicate 784 ()), Is (.bool d.up)]) ⟨SubL.fact h2, SubL.rfl', trivial⟩ φ v hf h3
theorem CheckW_ok (v : GVerb) (h1 : 0 ≤ v.at_ ∧ v.at_ ≤ 2048) (h2 : 1 ≤ cntV v ∧ cntV v ≤ 1024) (inc : Int) : FnP Tryz.prog 108 [IsGVerb v, Is (.int .i64 inc), WAny, WAny, WAny] (VEx fun z : Int => Is (.int .i64 z)) := by
  intro φ w vs ha hm
  match vs, ha with
  | [u1, u2, u3, u4, u5], ⟨a1, a2, ⟨d3, a3⟩, ⟨d4, a4⟩, ⟨d5, a5⟩, _⟩ => exact CheckR_ok v h1 h2 inc d3 d4 d5 φ w _ ⟨a1, a2, a3, a4, a5, trivial⟩ hm
-- (*bodegaref6.Pair).Step: function 93
set_option maxHeartbeats 4000000 in
theorem PairStep_ok (n m : Nat) (pb nb : WA) (prs : List Pr) (j : Nat) (pr : Pr) (hz : prs[j]? = some pr) (nds : List FN) (k : Nat) (d : FN) (hzn : nds[k]? = some d) (hcl : 0 ≤ pr.client ∧ pr.client < 6) (x : Pd) (rest : List Pd) (hq : pr.q = x :: rest) (hx : InQ x) (hql : pr.q.length ≤ 1024) :
    Fn Tryz.prog 93 [Is (bpt pb (j * tPr.size)), Is (bpt nb (k * tFN.size))] [buf (slV n pb) 170 tPr prs, buf (slV m nb) 177 tFN nds, wb 83 784 d.w]
    (fun z : {z : StO // StepR x rest z} => IsTup [IsDn z.1.dn, Is (.int .i64 z.1.slot), Is (.bool z.1.fin), Is (.bool true)]) (fun z => [buf (slV n pb) 170 tPr (prs.set j (pr.withQ z.1.q)), buf (slV m nb) 177 tFN nds, wb 83 784 d.w]) := by
  have hn0 : 0 < prs.length := by have := (List.getElem?_eq_some_iff.1 hz).1; omega
  have hn1 := nds_pos hzn
  have hq0 : pr.q[0]? = some x := by rw [hq]; rfl
  have hqlen : pr.q.length = rest.length + 1 := by rw [hq]; rfl
  have hrest : (pr.q.take pr.q.length).drop 1 = rest := by rw [List.take_length, hq]; rfl
  have hgv := hx.v
  have hg1 := hgv.at_
  have hg2 := hgv.cnt
  have ha : 0 ≤ x.v.at_ ∧ x.v.at_ ≤ 2048 := by omega
  have hb : 1 ≤ cntV x.v ∧ cntV x.v ≤ 1024 := hg2
  have hlo := hx.lo
  have hhi := hx.hi
  have hws := hx.ws
  have hpl : (piecesV x.v).length ≤ 1024 := pcs_len _ _ _
  obtain ⟨e0, he0⟩ : ∃ e0 : Nat, (e0 : Int) = x.ex := ⟨x.ex.toNat, by omega⟩
  obtain ⟨pc, hpc⟩ : ∃ pc, (piecesV x.v)[e0]? = some pc := ⟨_, List.getElem?_eq_getElem (by omega)⟩
  have hpi := pcs_in _ _ _ _ (List.mem_of_getElem? hpc)
  refine Fn.enterN Tryz.func93 Tryz.ntmps93 rfl rfl ?_
  intro c hX
  refine JC_seq ?_
  refine JC_own (T := tFN) (xs := nds) (i := nb) (n := m) memT hn1 (fun gg cap hnb => ?_)
  refine JC_region ?_
  (refine JL_n rfl (op_allocN rfl nrmT rfl) ?_; intro i4)
  refine JL_1 rfl (op_assign rfl) ?_
  refine JL_1 rfl (op_assign rfl) ?_
  refine JL_1 rfl (op_assign rfl) ?_
  refine JL_nil ?_
  refine JQ_then (JC_seq (JC_seq ?_))
  refine JC_region ?_
  refine JL_1 rfl (op_move rfl) ?_
  refine JL_1 rfl (by exact op_nilBuf (Ev.rfl' rfl) memT lenT) ?_
  refine JL_1 rfl (by exact op_fieldBuf (k := 3) (Ev.rfl' rfl) memT lenT rfl rfl rfl rfl) ?_
  refine JL_1 rfl (by exact op_loadBuf (Ev.rfl' rfl) memT hz rfl rfl (by rfl)) ?_
  refine JL_1 rfl (by exact op_len (Ev.rfl' rfl) rfl) ?_
  refine JL_1 rfl (op_eql (Ev.rfl' rfl) (Ev.rfl' rfl)) ?_
  refine JL_nil ?_
  refine JQ_then ?_
  refine JC_cond (Ev.rfl' rfl) (fun h1 => ?_) (fun h1 => ?_)
  · exact absurd (eq_of_beq h1) (by omega)
  refine JC_skip (JQ_then (JC_seq ?_))
  refine JC_region ?_
  refine JL_1 rfl (op_move rfl) ?_
  refine JL_1 rfl (by exact op_nilBuf (Ev.rfl' rfl) memT lenT) ?_
  refine JL_1 rfl (by exact op_fieldBuf (k := 3) (Ev.rfl' rfl) memT lenT rfl rfl rfl rfl) ?_
  refine JL_1 rfl (by exact op_loadBuf (Ev.rfl' rfl) memT hz rfl rfl (by rfl)) ?_
  refine JL_1 rfl (by exact op_index (j := 0) (Ev.rfl' rfl) (Ev.rfl' rfl) rfl rfl (by rfl) hq0) ?_
  refine JL_1 rfl (by exact op_loadRefsN (n := 12) (Ev.rfl' rfl) rfl rfl rfl (by rfl) nrmT) ?_
  (refine JL_n rfl (op_allocN rfl nrmT rfl) ?_; intro i8)
  refine JL_s0 (op_storeN (Ev.rfl' rfl) (Ev.rfl' rfl) cellsT replT nrmT (by rfl) (by rfl) (by rfl)) ?_
  refine JL_nil ?_
  refine JQ_then (JC_seq ?_)
  refine JC_region ?_
  refine JL_1 rfl (op_assign rfl) ?_
  refine JL_nil ?_
  refine JQ_then (JC_seq ?_)
  refine JC_cutT (fun _ : Unit => True) (fun _ => [(0, Is (bpt pb (j * tPr.size))), (1, Is (bpt nb (k * tFN.size))), (4, Is (.pointer (some ⟨i4, 0, none⟩))), (8, Is (.pointer (some ⟨i8, 0, none⟩))), (9, AnyI)]) (fun _ => [blk i8 190 (tPd.cells x), blk i4 110 [Is (.int .i64 0), Is (.slice none 0 0)], buf (slV n pb) 170 tPr prs, buf (slV m nb) 177 tFN nds, wb 83 784 d.w]) (fun _ _ => ?_) ?_
  rotate_left 1
  focus
    refine JC_block (JC_seq ?_)
    refine JC_region ?_
    refine JL_1 rfl (op_move rfl) ?_
    refine JL_1 rfl (by exact op_nilBuf (Ev.rfl' rfl) memT lenT) ?_
    refine JL_1 rfl (by exact op_fieldBuf (k := 1) (Ev.rfl' rfl) memT lenT rfl rfl rfl rfl) ?_
    refine JL_1 rfl (by exact op_loadBuf (Ev.rfl' rfl) memT hzn rfl rfl (by rfl)) ?_
    refine JL_1 rfl (op_not (Ev.rfl' rfl)) ?_
    refine JL_1 rfl (op_assign rfl) ?_
    refine JL_nil ?_
    refine JQ_then ?_
    refine JC_cond (Ev.rfl' rfl) (fun h6 => ?_) (fun h6 => ?_)
    · refine JC_region ?_
      refine JL_1 rfl (op_assign rfl) ?_
      refine JL_nil ?_
      refine JQ_block ?_
      exact JQ_meetP () trivial ⟨⟨_, rfl, subT⟩, ⟨_, rfl, subT⟩, ⟨_, rfl, subT⟩, ⟨_, rfl, subT⟩, ⟨_, rfl, (by exact fun φ v _ h => ⟨_, h⟩)⟩, trivial⟩ lessT
    refine JC_seq ?_
    refine JC_dr rfl (by kernel_rfl) ?_
    refine JD_stretch 11 (by kernel_rfl) ?_
    refine JW_1 (by exact op_fieldPtr (k := 0) (Ev.rfl' rfl) rfl rfl rfl rfl) ?_
    refine JW_1 (by exact op_loadPtrsN (n := 9) (Ev.rfl' rfl) memT (by rfl) (by rfl) (by rfl) (by rfl) nrmT) ?_
    refine JW_1 (op_move rfl) ?_
    refine JW_1 (by exact op_nilBuf (Ev.rfl' rfl) memT lenT) ?_
    refine JW_1 (by exact op_fieldBuf (k := 0) (Ev.rfl' rfl) memT lenT rfl rfl rfl rfl) ?_
    refine JW_1 (by exact op_loadBuf (Ev.rfl' rfl) memT hzn rfl rfl (by rfl)) ?_
    refine JW_1 (by exact op_lenLit (Ev.rfl' rfl) rfl) ?_
    refine JW_1 (op_quo (r := 98) (Ev.rfl' rfl) (Ev.rfl' rfl) (by omega) (by decide)) ?_
    refine JW_1 (op_call Tryz.call91 (ValidV0_ok _ _ _ hx.v) ⟨evS, ⟨evS, ⟨evS, trivial⟩⟩⟩) ?_
    refine JW_1 (op_neq (Ev.rfl' rfl) (Ev.rfl' rfl)) ?_
    refine JW_1 (op_assign rfl) ?_
    refine ⟨rfl, ?_⟩
    refine JD_end ?_
    refine JQ_then ?_
    refine JC_cond (Ev.rfl' rfl) (fun h8 => ?_) (fun h8 => ?_)
    · exact absurd h8 (by decide)
    refine JC_dr rfl (by kernel_rfl) ?_
    refine JD_stretch 19 (by kernel_rfl) ?_
    refine JW_1 (by exact op_fieldPtr (k := 0) (Ev.rfl' rfl) rfl rfl rfl rfl) ?_
    refine JW_1 (by exact op_loadPtrsN (n := 9) (Ev.rfl' rfl) memT (by rfl) (by rfl) (by rfl) (by rfl) nrmT) ?_
    refine JW_1 (op_move rfl) ?_
    refine JW_1 (by exact op_nilBuf (Ev.rfl' rfl) memT lenT) ?_
    refine JW_1 (by exact op_fieldBuf (k := 1) (Ev.rfl' rfl) memT lenT rfl rfl rfl rfl) ?_
    refine JW_1 (by exact op_loadBuf (Ev.rfl' rfl) memT hz rfl rfl (by rfl)) ?_
    refine JW_1 (op_move rfl) ?_
    refine JW_1 (op_move rfl) ?_
    refine JW_1 (by exact op_nilBuf (Ev.rfl' rfl) memT lenT) ?_
    refine JW_1 (by exact op_fieldBuf (k := 0) (Ev.rfl' rfl) memT lenT rfl rfl rfl rfl) ?_
    refine JW_1 (by exact op_loadBuf (Ev.rfl' rfl) memT hz rfl rfl (by rfl)) ?_
    refine JW_1 (op_call Tryz.call101 (DoorN_ok _ hcl) ⟨evS, trivial⟩) ?_
    refine JW_1 (op_callB (by (try simp only [List.nil_append, List.cons_append]); exact lendT) Tryz.call109 (at_ok d.up _) ⟨Ev.sub rfl (sub_node hzn hnb memT memT), ⟨evS, trivial⟩⟩ pure_wany) ?_
    refine JW_1 (op_move rfl) ?_
    refine JW_1 (op_callB (by (try simp only [List.nil_append, List.cons_append]); exact lendT) Tryz.call109 (at_ok d.up _) ⟨Ev.sub rfl (sub_node hzn hnb memT memT), ⟨evS, trivial⟩⟩ pure_wany) ?_
    refine JW_1 (op_move rfl) ?_
    refine JW_1 (op_callB (by (try simp only [List.nil_append, List.cons_append]); exact lendT) Tryz.call109 (at_ok d.up _) ⟨Ev.sub rfl (sub_node hzn hnb memT memT), ⟨evS, trivial⟩⟩ pure_wany) ?_
    refine JW_1 (op_call Tryz.call108 (CheckW_ok x.v ha hb _) ⟨evS, ⟨evS, ⟨evS, ⟨evS, ⟨evS, trivial⟩⟩⟩⟩⟩) ?_
    refine JW_1 (op_assign rfl) ?_
    refine ⟨rfl, ?_⟩
    refine JD_end ?_
    refine JQ_block ?_
    exact JQ_meetP () trivial ⟨⟨_, rfl, subT⟩, ⟨_, rfl, subT⟩, ⟨_, rfl, subT⟩, ⟨_, rfl, subT⟩, ⟨_, rfl, (by exact SubL.rfl')⟩, trivial⟩ lessT
  refine JC_ex (R := fun e : Int => Is (.int .i64 e)) 9 rfl (fun e => ?_)
  refine JC_seq (JC_seq ?_)
  refine JC_region ?_
  refine JL_1 rfl (op_move rfl) ?_
  refine JL_1 rfl (op_neq (Ev.rfl' rfl) (Ev.rfl' rfl)) ?_
  refine JL_nil ?_
  refine JQ_then ?_
  refine JC_cond (Ev.rfl' rfl) (fun h10 => ?_) (fun h10 => ?_)
  · refine JC_seq ?_
    refine JC_region ?_
    refine JL_1 rfl (op_move rfl) ?_
    refine JL_1 rfl (op_move rfl) ?_
    refine JL_1 rfl (by exact op_nilBuf (Ev.rfl' rfl) memT lenT) ?_
    refine JL_1 rfl (by exact op_fieldBuf (k := 3) (Ev.rfl' rfl) memT lenT rfl rfl rfl rfl) ?_
    refine JL_1 rfl (by exact op_loadBuf (Ev.rfl' rfl) memT hz rfl rfl (by rfl)) ?_
    refine JL_1 rfl (op_slice (Ev.rfl' rfl) rfl rfl ⟨_, _, (Ev.rfl' rfl), (show _ = ((1 : Nat) : Int) by rfl)⟩ rfl (by omega) (by omega)) ?_
    refine JL_set 67 (IsSl tPd rest) rfl (SubL.eq (congrArg (IsSl tPd) hrest)) ?_
    (refine JL_n rfl (op_appNil (T := tPd) (Ev.rfl' rfl) evS (by exact appT rfl rfl rfl) lenT) ?_; intro i68)
    refine JL_1 rfl (by exact op_nilBuf (Ev.rfl' rfl) memT lenT) ?_
    refine JL_1 rfl (by exact op_fieldBuf (k := 3) (Ev.rfl' rfl) memT lenT rfl rfl rfl rfl) ?_
    (refine JL_freezeX (T := tPd) (xs := rest) replT (namesT hX) ?_; refine JL_set 68 (IsSl tPd rest) rfl (SubL.fact memT) ?_)
    refine JL_s0 (by exact op_storeBuf (z' := (pr.withQ rest)) (Ev.rfl' rfl) (Ev.rfl' rfl) cellsT replT hz rfl (by rfl) (by rfl)) ?_
    refine JL_nil ?_
    refine JQ_then (JC_seq ?_)
    refine JC_dr rfl (by kernel_rfl) ?_
    refine JD_front (it := blk i4 _ _) (by repeat (first | exact Drop1.here _ _ | apply Drop1.next)) ?_
    refine JD_stretchG (its := [_]) 8 (by kernel_rfl) ?_
    refine JW_1 (op_move rfl) ?_
    refine JW_1 (op_buildN (qs := [(0, _)]) rfl rfl rfl rfl ⟨⟨rfl, _, (Ev.rfl' rfl), cellsT⟩, trivial⟩ (by rfl) nrmT) ?_
    refine JW_1 (by exact op_fieldPtr (k := 11) (Ev.rfl' rfl) rfl rfl rfl rfl) ?_
    refine JW_1 (by exact op_loadPtr (Ev.rfl' rfl) memT (by rfl) (by rfl) (by rfl)) ?_
    refine JW_ghost (s := 128) rfl rfl rfl (by kernel_rfl) (fun c' => by exact op_store (Ev.rfl' rfl) (Ev.rfl' rfl) cellsT replT (by rfl) (by rfl) (by rfl)) ?_
    refine JW_1 (op_assign rfl) ?_
    refine JW_1 (op_assign rfl) ?_
    refine JW_1 (op_assign rfl) ?_
    refine ⟨rfl, ?_⟩
    intro _
    refine JD_end ?_
    refine JQ_then (JC_ret (JQ_then_ret ?_))
    exact JQ_retP (Bs := [IsDn ⟨e, []⟩, Is (.int .i64 x.slot), Is (.bool true), Is (.bool true)]) Tryz.results93 ⟨⟨_, _, _, _, rfl, memT, rfl, .inr ⟨rfl, _, rfl, rfl, subT⟩⟩, ⟨⟨_, rfl, subT⟩, ⟨⟨_, rfl, subT⟩, ⟨⟨_, rfl, subT⟩, trivial⟩⟩⟩⟩ ⟨⟨⟨e, []⟩, x.slot, true, rest⟩, Nat.zero_le _, .inl ⟨rfl, rfl, rfl⟩⟩ SubL.rfl' lessT
  refine JC_skip (JQ_then (JC_seq ?_))
  refine JC_region ?_
  refine JL_1 rfl (by exact op_fieldPtr (k := 0) (Ev.rfl' rfl) rfl rfl rfl rfl) ?_
  refine JL_1 rfl (by exact op_loadPtrsN (n := 9) (Ev.rfl' rfl) memT (by rfl) (by rfl) (by rfl) (by rfl) nrmT) ?_
  refine JL_1 rfl (op_call Tryz.call110 (PiecesR_ok x.v ha hb) ⟨evS, trivial⟩) ?_
  refine JL_1 rfl (op_assign rfl) ?_
  refine JL_nil ?_
  refine JQ_then (JC_seq ?_)
  refine JC_dr rfl (by kernel_rfl) ?_
  refine JD_stretch 11 (by kernel_rfl) ?_
  refine JW_1 (by exact op_fieldPtr (k := 10) (Ev.rfl' rfl) rfl rfl rfl rfl) ?_
  refine JW_1 (by exact op_loadPtr (Ev.rfl' rfl) memT (by rfl) (by rfl) (by rfl)) ?_
  refine JW_n (op_appNil (T := tU64) (Ev.rfl' rfl) evS (by exact appT rfl rfl rfl) lenT) ?_
  refine JW_1 (op_move rfl) ?_
  refine JW_1 (by exact op_fieldPtr (k := 0) (Ev.rfl' rfl) rfl rfl rfl rfl) ?_
  refine JW_1 (by exact op_loadPtrsN (n := 9) (Ev.rfl' rfl) memT (by rfl) (by rfl) (by rfl) (by rfl) nrmT) ?_
  refine JW_1 (op_move rfl) ?_
  refine JW_1 (by exact op_fieldPtr (k := 9) (Ev.rfl' rfl) rfl rfl rfl rfl) ?_
  refine JW_1 (by exact op_loadPtr (Ev.rfl' rfl) memT (by rfl) (by rfl) (by rfl)) ?_
  refine JW_1 (by exact op_index (j := e0) (Ev.rfl' rfl) (Ev.rfl' rfl) rfl rfl (by omega) hpc) ?_
  refine JW_1 (by exact op_loadRefsN (n := 2) (Ev.rfl' rfl) rfl rfl rfl (by rfl) nrmT) ?_
  refine ⟨rfl, ?_⟩
  intro i80
  (refine JD_s (by kernel_rfl) rfl rfl (op_callM (Drops.cons drop1A (Drops.cons drop1A (Drops.nil _))) Tryz.call111 (execute_ok m nb nds k d hzn x.v pc (by omega) (fun h => by have : cntV x.v = (x.v.words.length : Nat) := by { unfold cntV; rw [if_neg (by omega), if_pos h] }; omega) ha.1) ⟨evS, ⟨evS, ⟨evS, trivial⟩⟩⟩) ?_; intro i89)
  (refine JD_s (by kernel_rfl) rfl rfl (op_app (Ev.rfl' rfl) (fun _ => replT) evS (by exact appT rfl rfl rfl) lenT) ?_; intro i90)
  refine JD_stretch 1 (by kernel_rfl) ?_
  refine JW_1 (by exact op_fieldPtr (k := 10) (Ev.rfl' rfl) rfl rfl rfl rfl) ?_
  refine ⟨rfl, ?_⟩
  (refine JD_freezeX (T := tU64) (xs := x.ws ++ i89.1) replT (namesT hX) ?_; refine JD_set 90 (IsSl tU64 (x.ws ++ i89.1)) rfl (SubL.fact memT) ?_)
  refine JD_s0 (by kernel_rfl) rfl (op_storeN (Ev.rfl' rfl) (Ev.rfl' rfl) cellsT replT nrmT (by rfl) (by rfl) (by rfl)) ?_
  refine JD_end ?_
  refine JQ_then (JC_seq ?_)
  refine JC_region ?_
  refine JL_1 rfl (by exact op_fieldPtr (k := 9) (Ev.rfl' rfl) rfl rfl rfl rfl) ?_
  refine JL_1 rfl (by exact op_loadPtr (Ev.rfl' rfl) memT (by rfl) (by rfl) (by rfl)) ?_
  refine JL_1 rfl (op_add (Ev.rfl' rfl) (Ev.rfl' rfl) wrapT) ?_
  refine JL_1 rfl (by exact op_fieldPtr (k := 9) (Ev.rfl' rfl) rfl rfl rfl rfl) ?_
  refine JL_s0 (op_storeN (Ev.rfl' rfl) (Ev.rfl' rfl) cellsT replT nrmT (by rfl) (by rfl) (by rfl)) ?_
  refine JL_nil ?_
  refine JQ_then (JC_seq (JC_seq ?_))
  refine JC_region ?_
  refine JL_1 rfl (by exact op_fieldPtr (k := 9) (Ev.rfl' rfl) rfl rfl rfl rfl) ?_
  refine JL_1 rfl (by exact op_loadPtr (Ev.rfl' rfl) memT (by rfl) (by rfl) (by rfl)) ?_
  refine JL_1 rfl (op_move rfl) ?_
  refine JL_1 rfl (by exact op_len (Ev.rfl' rfl) rfl) ?_
  refine JL_1 rfl (op_lss (Ev.rfl' rfl) (Ev.rfl' rfl)) ?_
  refine JL_nil ?_
  refine JQ_then ?_
  refine JC_cond (Ev.rfl' rfl) (fun h16 => ?_) (fun h16 => ?_)
  · refine JC_seq ?_
    refine JC_region ?_
    refine JL_1 rfl (op_move rfl) ?_
    refine JL_1 rfl (by exact op_nilBuf (Ev.rfl' rfl) memT lenT) ?_
    refine JL_1 rfl (by exact op_fieldBuf (k := 3) (Ev.rfl' rfl) memT lenT rfl rfl rfl rfl) ?_
    refine JL_1 rfl (by exact op_loadBuf (Ev.rfl' rfl) memT hz rfl rfl (by rfl)) ?_
    (refine JL_n rfl (op_appNil (T := tPd) (Ev.rfl' rfl) evS (by exact appT rfl rfl rfl) lenT) ?_; intro i105)
    refine JL_1 rfl (op_assign rfl) ?_
    refine JL_nil ?_
    refine JQ_then (JC_seq ?_)
    refine JC_region ?_
    refine JL_1 rfl (op_move rfl) ?_
    refine JL_1 rfl (by exact op_loadPtrsN (n := 12) (Ev.rfl' rfl) memT (by rfl) (by rfl) (by rfl) (by rfl) nrmT) ?_
    refine JL_1 rfl (by exact op_indexBuf (k := 0) (Ev.rfl' rfl) memT (Ev.rfl' rfl) rfl rfl idxT lenT) ?_
    refine JL_s0 (by exact op_storeBuf0 (z' := (⟨x.v, x.ex + 1, x.ws ++ i89.1, x.slot⟩ : Pd)) (Ev.rfl' rfl) (Ev.rfl' rfl) cellsT replT hq0 rfl (by rfl) (by rfl)) ?_
    refine JL_nil ?_
    refine JQ_then (JC_seq ?_)
    refine JC_region ?_
    refine JL_1 rfl (op_move rfl) ?_
    refine JL_1 rfl (op_move rfl) ?_
    refine JL_1 rfl (by exact op_nilBuf (Ev.rfl' rfl) memT lenT) ?_
    refine JL_1 rfl (by exact op_fieldBuf (k := 3) (Ev.rfl' rfl) memT lenT rfl rfl rfl rfl) ?_
    (refine JL_freezeX (T := tPd) (xs := pr.q.set 0 (⟨x.v, x.ex + 1, x.ws ++ i89.1, x.slot⟩ : Pd)) replT (namesT hX) ?_; refine JL_set 110 (IsSl tPd (pr.q.set 0 (⟨x.v, x.ex + 1, x.ws ++ i89.1, x.slot⟩ : Pd))) rfl (SubL.fact memT) ?_)
    refine JL_s0 (by exact op_storeBuf (z' := (pr.withQ (pr.q.set 0 (⟨x.v, x.ex + 1, x.ws ++ i89.1, x.slot⟩ : Pd)))) (Ev.rfl' rfl) (Ev.rfl' rfl) cellsT replT hz rfl (by rfl) (by rfl)) ?_
    refine JL_nil ?_
    refine JQ_then (JC_seq ?_)
    refine JC_region ?_
    refine JL_1 rfl (op_buildN (qs := []) rfl rfl rfl rfl trivial (by rfl) nrmT) ?_
    refine JL_s0 (op_storeN (Ev.rfl' rfl) (Ev.rfl' rfl) cellsT replT nrmT (by rfl) (by rfl) (by rfl)) ?_
    refine JL_1 rfl (op_assign rfl) ?_
    refine JL_1 rfl (op_assign rfl) ?_
    refine JL_1 rfl (op_assign rfl) ?_
    refine JL_nil ?_
    refine JQ_then (JC_ret (JQ_then_ret ?_))
    have hlen : (i89.1.length : Int) ≤ 784 := by have := i89.2; omega
    exact JQ_retP (Bs := [IsDn ⟨0, []⟩, Is (.int .i64 (-1)), Is (.bool false), Is (.bool true)]) Tryz.results93 ⟨⟨_, _, _, _, rfl, memT, rfl, .inr ⟨rfl, _, rfl, rfl, subT⟩⟩, ⟨⟨_, rfl, subT⟩, ⟨⟨_, rfl, subT⟩, ⟨⟨_, rfl, subT⟩, trivial⟩⟩⟩⟩ ⟨⟨⟨0, []⟩, -1, false, pr.q.set 0 (⟨x.v, x.ex + 1, x.ws ++ i89.1, x.slot⟩ : Pd)⟩, Nat.zero_le _, .inr ⟨rfl, x.ws ++ i89.1, by rw [hq]; rfl, of_decide_eq_true h16, by rw [List.length_append]; omega⟩⟩ SubL.rfl' lessT
  refine JC_skip (JQ_then (JC_seq ?_))
  refine JC_region ?_
  refine JL_1 rfl (op_move rfl) ?_
  refine JL_1 rfl (op_move rfl) ?_
  refine JL_1 rfl (by exact op_nilBuf (Ev.rfl' rfl) memT lenT) ?_
  refine JL_1 rfl (by exact op_fieldBuf (k := 3) (Ev.rfl' rfl) memT lenT rfl rfl rfl rfl) ?_
  refine JL_1 rfl (by exact op_loadBuf (Ev.rfl' rfl) memT hz rfl rfl (by rfl)) ?_
  refine JL_1 rfl (op_slice (Ev.rfl' rfl) rfl rfl ⟨_, _, (Ev.rfl' rfl), (show _ = ((1 : Nat) : Int) by rfl)⟩ rfl (by omega) (by omega)) ?_
  refine JL_set 119 (IsSl tPd rest) rfl (SubL.eq (congrArg (IsSl tPd) hrest)) ?_
  (refine JL_n rfl (op_appNil (T := tPd) (Ev.rfl' rfl) evS (by exact appT rfl rfl rfl) lenT) ?_; intro i120)
  refine JL_1 rfl (by exact op_nilBuf (Ev.rfl' rfl) memT lenT) ?_
  refine JL_1 rfl (by exact op_fieldBuf (k := 3) (Ev.rfl' rfl) memT lenT rfl rfl rfl rfl) ?_
  (refine JL_freezeX (T := tPd) (xs := rest) replT (namesT hX) ?_; refine JL_set 120 (IsSl tPd rest) rfl (SubL.fact memT) ?_)
  refine JL_s0 (by exact op_storeBuf (z' := (pr.withQ rest)) (Ev.rfl' rfl) (Ev.rfl' rfl) cellsT replT hz rfl (by rfl) (by rfl)) ?_
  refine JL_nil ?_
  refine JQ_then (JC_seq ?_)
  refine JC_dr rfl (by kernel_rfl) ?_
  refine JD_front (it := blk i4 _ _) (by repeat (first | exact Drop1.here _ _ | apply Drop1.next)) ?_
  refine JD_stretchG (its := [_]) 9 (by kernel_rfl) ?_
  refine JW_1 (by exact op_fieldPtr (k := 10) (Ev.rfl' rfl) rfl rfl rfl rfl) ?_
  refine JW_1 (by exact op_loadPtr (Ev.rfl' rfl) memT (by rfl) (by rfl) (by rfl)) ?_
  refine JW_1 (op_buildN (qs := [(1, _)]) rfl rfl rfl rfl ⟨⟨rfl, _, (Ev.rfl' rfl), cellsT⟩, trivial⟩ (by rfl) nrmT) ?_
  refine JW_1 (by exact op_fieldPtr (k := 11) (Ev.rfl' rfl) rfl rfl rfl rfl) ?_
  refine JW_1 (by exact op_loadPtr (Ev.rfl' rfl) memT (by rfl) (by rfl) (by rfl)) ?_
  refine JW_ghost (s := 128) rfl rfl rfl (by kernel_rfl) (fun c' => by exact op_store (Ev.rfl' rfl) (Ev.rfl' rfl) cellsT replT (by rfl) (by rfl) (by rfl)) ?_
  refine JW_1 (op_assign rfl) ?_
  refine JW_1 (op_assign rfl) ?_
  refine JW_1 (op_assign rfl) ?_
  refine ⟨rfl, ?_⟩
  intro _
  refine JD_end ?_
  refine JQ_then (JC_ret ?_)
  exact JQ_retP (Bs := [IsDn ⟨0, x.ws ++ i89.1⟩, Is (.int .i64 x.slot), Is (.bool true), Is (.bool true)]) Tryz.results93 ⟨⟨_, _, _, _, rfl, memT, rfl, .inr ⟨rfl, _, rfl, rfl, subT⟩⟩, ⟨⟨_, rfl, subT⟩, ⟨⟨_, rfl, subT⟩, ⟨⟨_, rfl, subT⟩, trivial⟩⟩⟩⟩ ⟨⟨⟨0, x.ws ++ i89.1⟩, x.slot, true, rest⟩, (by have := i89.2; dsimp only; rw [List.length_append]; omega), .inl ⟨rfl, rfl, rfl⟩⟩ SubL.rfl' lessT
end Go.Proofs.YtfglhiciagmicaaGreat

/- Contracts: a fabric's client: is it alive, what does it wait for, which choices are there. Own work. -/
namespace Go.Proofs.YtfglhiciagmicaaGreat
open Go.RowKit
set_option linter.unusedVariables false
set_option linter.unusedSimpArgs false
set_option maxRecDepth 100000
def tBl : Ty Bool := ⟨1, fun b => [Is (.bool b)], fun _ => rfl⟩
section
variable {P : Program} {c : Ctx} {A : Nat → Option VP} {L : List Item} {d : Option Tmp} {ty : TypeId} {pos : String} {af : Array Edge} {g : Option (Nat × Bool)} {x y : Operand} {t e : TypeId}
end
-- (*bodegaref6.Fabric).alive: function 90
theorem alive_ok (f n : Nat) (nb cb lb : WA) (cn : Cn) : Fn Tryz.prog 90 [Is (.pointer (some ⟨f, 0, none⟩)), Is (.int .i64 0)] [blk f 166 [Is (.int .i64 98), Is (slV n nb), Is (slV 1 cb), Is (slV 1 lb), Is (slV 0 (none, 0))], buf (slV 1 cb) 160 tCn [cn]]
    (fun _ : Unit => Is (.bool cn.alive)) (fun _ => [blk f 166 [Is (.int .i64 98), Is (slV n nb), Is (slV 1 cb), Is (slV 1 lb), Is (slV 0 (none, 0))], buf (slV 1 cb) 160 tCn [cn]]) := by
  refine Fn.enterN Tryz.func90 Tryz.ntmps90 rfl rfl ?_
  intro c hX
  refine JC_seq ?_
  refine JC_region ?_
  refine JL_1 rfl (op_assign rfl) ?_
  refine JL_nil ?_
  refine JQ_then (JC_seq ?_)
  refine JC_region ?_
  refine JL_1 rfl (op_move rfl) ?_
  refine JL_1 rfl (op_geq (Ev.rfl' rfl) (Ev.rfl' rfl)) ?_
  refine JL_1 rfl (op_move rfl) ?_
  (refine JL_i0 rfl rfl rfl (fun hg => (by have hg0 := hg; (try simp at hg); exact op_moveE (Ev.rfl' rfl))) ?_)
  (refine JL_i0 rfl rfl rfl (fun hg => (by have hg0 := hg; (try simp at hg); exact op_moveE (Ev.rfl' rfl))) ?_)
  (refine JL_i0 rfl rfl rfl (fun hg => (by have hg0 := hg; (try simp at hg); exact op_nilCheck evG)) ?_)
  (refine JL_i0 rfl rfl rfl (fun hg => (by have hg0 := hg; (try simp at hg); exact op_fieldPtr (k := 2) evG rfl rfl rfl rfl)) ?_)
  (refine JL_i0 rfl rfl rfl (fun hg => (by have hg0 := hg; (try simp at hg); exact op_loadPtr evG memT (by rfl) (by rfl) (by rfl))) ?_)
  (refine JL_i0 rfl rfl rfl (fun hg => (by have hg0 := hg; (try simp at hg); exact op_lenLit evG rfl)) ?_)
  (refine JL_i0 rfl rfl rfl (fun hg => (by have hg0 := hg; (try simp at hg); exact op_lss evG evG)) ?_)
  refine JL_1 rfl (op_and (Ev.rfl' rfl) rfl (fun h => by exact SubL.rfl')) ?_
  refine JL_1 rfl (op_move rfl) ?_
  (refine JL_i0 rfl rfl rfl (fun hg => (by have hg0 := hg; (try simp at hg); exact op_moveE (Ev.rfl' rfl))) ?_)
  (refine JL_i0 rfl rfl rfl (fun hg => (by have hg0 := hg; (try simp at hg); exact op_nilCheck evG)) ?_)
  (refine JL_i0 rfl rfl rfl (fun hg => (by have hg0 := hg; (try simp at hg); exact op_fieldPtr (k := 2) evG rfl rfl rfl rfl)) ?_)
  (refine JL_i0 rfl rfl rfl (fun hg => (by have hg0 := hg; (try simp at hg); exact op_loadPtr evG memT (by rfl) (by rfl) (by rfl))) ?_)
  (refine JL_i0 rfl rfl rfl (fun hg => (by have hg0 := hg; (try simp at hg); exact op_moveE (Ev.rfl' rfl))) ?_)
  (refine JL_i0 rfl rfl rfl (fun hg => (by have hg0 := hg; (try simp at hg); exact op_indexBuf (k := 0) evG memT evG rfl rfl idxT lenT)) ?_)
  (refine JL_i0 rfl rfl rfl (fun hg => (by have hg0 := hg; (try simp at hg); exact op_fieldBuf (k := 0) evG memT lenT rfl rfl rfl rfl)) ?_)
  (refine JL_i0 rfl rfl rfl (fun hg => (by have hg0 := hg; (try simp at hg); exact op_loadBuf evG memT (show [cn][0]? = some cn from rfl) rfl rfl (by rfl))) ?_)
  refine JL_1 rfl (op_and (Ev.rfl' rfl) rfl (fun h => by exact SubL.rfl')) ?_
  refine JL_1 rfl (op_assign rfl) ?_
  refine JL_nil ?_
  refine JQ_then (JC_ret ?_)
  exact JQ_retP (Bs := [Is (.bool cn.alive)]) Tryz.results90 ⟨⟨_, rfl, SubL.eq (by simp)⟩, trivial⟩ () SubL.rfl' lessT
/-- How many verbs have not completed. -/
def cntF (hs : List Bool) : Nat := (hs.filter fun b => !b).length
theorem cntF_succ {hs : List Bool} {i : Nat} {b : Bool} (h : hs[i]? = some b) : cntF (hs.take (i + 1)) = cntF (hs.take i) + (if b then 0 else 1) := by
  unfold cntF
  rw [take_add1 h, List.filter_append, List.length_append]
  cases b <;> simp
theorem cntF_le (hs : List Bool) (i : Nat) : cntF (hs.take i) ≤ i := by
  unfold cntF
  refine Nat.le_trans (List.length_filter_le _ _) ?_
  rw [List.length_take]; omega
/-- A client with a batch. -/
@[reducible] def cnOn (m : Nat) (da ha : WA) (tr po : Int) : Cn := ⟨true, 1, true, slV m da, slV m ha, tr, po⟩
-- (*bodegaref6.Fabric).Waiting: function 76
set_option maxHeartbeats 1000000 in
theorem Waiting_ok (f n m : Nat) (hm : m ≤ 1024) (nb cb lb da ha : WA) (tr po : Int) (hs : List Bool) (hl : hs.length = m) : Fn Tryz.prog 76 [Is (.pointer (some ⟨f, 0, none⟩)), Is (.int .i64 0)] [blk f 166 [Is (.int .i64 98), Is (slV n nb), Is (slV 1 cb), Is (slV 1 lb), Is (slV 0 (none, 0))], buf (slV 1 cb) 160 tCn [cnOn m da ha tr po], buf (slV m ha) 4 tBl hs]
    (fun _ : Unit => Is (.int .i64 (cntF hs : Nat))) (fun _ => [blk f 166 [Is (.int .i64 98), Is (slV n nb), Is (slV 1 cb), Is (slV 1 lb), Is (slV 0 (none, 0))], buf (slV 1 cb) 160 tCn [cnOn m da ha tr po], buf (slV m ha) 4 tBl hs]) := by
  refine Fn.enterN Tryz.func76 Tryz.ntmps76 rfl rfl ?_
  intro c hX
  refine JC_seq ?_
  refine JC_region ?_
  refine JL_1 rfl (op_assign rfl) ?_
  refine JL_nil ?_
  refine JQ_then (JC_seq (JC_seq ?_))
  refine JC_region ?_
  refine JL_1 rfl (op_move rfl) ?_
  refine JL_1 rfl (op_lss (Ev.rfl' rfl) (Ev.rfl' rfl)) ?_
  refine JL_1 rfl (op_move rfl) ?_
  (refine JL_i0 rfl rfl rfl (fun hg => (by have hg0 := hg; (try simp at hg); exact op_moveE (Ev.rfl' rfl))) ?_)
  (refine JL_i0 rfl rfl rfl (fun hg => (by have hg0 := hg; (try simp at hg); exact op_moveE (Ev.rfl' rfl))) ?_)
  (refine JL_i0 rfl rfl rfl (fun hg => (by have hg0 := hg; (try simp at hg); exact op_nilCheck evG)) ?_)
  (refine JL_i0 rfl rfl rfl (fun hg => (by have hg0 := hg; (try simp at hg); exact op_fieldPtr (k := 2) evG rfl rfl rfl rfl)) ?_)
  (refine JL_i0 rfl rfl rfl (fun hg => (by have hg0 := hg; (try simp at hg); exact op_loadPtr evG memT (by rfl) (by rfl) (by rfl))) ?_)
  (refine JL_i0 rfl rfl rfl (fun hg => (by have hg0 := hg; (try simp at hg); exact op_lenLit evG rfl)) ?_)
  (refine JL_i0 rfl rfl rfl (fun hg => (by have hg0 := hg; (try simp at hg); exact op_geq evG evG)) ?_)
  refine JL_1 rfl (op_or (Ev.rfl' rfl) rfl (fun h => by exact SubL.rfl')) ?_
  refine JL_1 rfl (op_move rfl) ?_
  (refine JL_i0 rfl rfl rfl (fun hg => (by have hg0 := hg; (try simp at hg); exact op_moveE (Ev.rfl' rfl))) ?_)
  (refine JL_i0 rfl rfl rfl (fun hg => (by have hg0 := hg; (try simp at hg); exact op_nilCheck evG)) ?_)
  (refine JL_i0 rfl rfl rfl (fun hg => (by have hg0 := hg; (try simp at hg); exact op_fieldPtr (k := 2) evG rfl rfl rfl rfl)) ?_)
  (refine JL_i0 rfl rfl rfl (fun hg => (by have hg0 := hg; (try simp at hg); exact op_loadPtr evG memT (by rfl) (by rfl) (by rfl))) ?_)
  (refine JL_i0 rfl rfl rfl (fun hg => (by have hg0 := hg; (try simp at hg); exact op_moveE (Ev.rfl' rfl))) ?_)
  (refine JL_i0 rfl rfl rfl (fun hg => (by have hg0 := hg; (try simp at hg); exact op_indexBuf (k := 0) evG memT evG rfl rfl idxT lenT)) ?_)
  (refine JL_i0 rfl rfl rfl (fun hg => (by have hg0 := hg; (try simp at hg); exact op_fieldBuf (k := 2) evG memT lenT rfl rfl rfl rfl)) ?_)
  (refine JL_i0 rfl rfl rfl (fun hg => (by have hg0 := hg; (try simp at hg); exact op_loadBuf evG memT (show [cnOn m da ha tr po][0]? = some (cnOn m da ha tr po) from rfl) rfl rfl (by rfl))) ?_)
  (refine JL_i0 rfl rfl rfl (fun hg => (by have hg0 := hg; (try simp at hg); exact op_not evG)) ?_)
  refine JL_1 rfl (op_or (Ev.rfl' rfl) rfl (fun h => by exact SubL.rfl')) ?_
  refine JL_nil ?_
  refine JQ_then ?_
  refine JC_cond (Ev.rfl' rfl) (fun h1 => ?_) (fun h1 => ?_)
  · exact absurd h1 (by simp)
  refine JC_skip (JQ_then (JC_seq ?_))
  refine JC_region ?_
  refine JL_1 rfl (op_assign rfl) ?_
  refine JL_nil ?_
  refine JQ_then (JC_seq (JC_seq ?_))
  refine JC_region ?_
  refine JL_1 rfl (op_assign rfl) ?_
  refine JL_nil ?_
  refine JQ_then (JC_block ?_)
  refine JC_loopP (fun i : Nat => i ≤ m) (fun i => [(0, Is (.pointer (some ⟨f, 0, none⟩))), (1, Is (.int .i64 0)), (5, Is (.int .i64 (cntF (hs.take i) : Nat))), (6, Is (.int .i64 (i : Nat)))]) (fun i => [blk f 166 [Is (.int .i64 98), Is (slV n nb), Is (slV 1 cb), Is (slV 1 lb), Is (slV 0 (none, 0))], buf (slV 1 cb) 160 tCn [cnOn m da ha tr po], buf (slV m ha) 4 tBl hs]) (fun i => m - i) 0 (Nat.zero_le _) esubT lessT ?_
  intro i hi
  have hle := cntF_le hs i
  refine JC_seq (JC_seq ?_)
  refine JC_region ?_
  refine JL_1 rfl (op_move rfl) ?_
  refine JL_1 rfl (op_move rfl) ?_
  refine JL_1 rfl (by exact op_nilCheck (Ev.rfl' rfl)) ?_
  refine JL_1 rfl (by exact op_fieldPtr (k := 2) (Ev.rfl' rfl) rfl rfl rfl rfl) ?_
  refine JL_1 rfl (by exact op_loadPtr (Ev.rfl' rfl) memT (by rfl) (by rfl) (by rfl)) ?_
  refine JL_1 rfl (op_move rfl) ?_
  refine JL_1 rfl (by exact op_indexBuf (k := 0) (Ev.rfl' rfl) memT (Ev.rfl' rfl) rfl rfl idxT lenT) ?_
  refine JL_1 rfl (by exact op_fieldBuf (k := 4) (Ev.rfl' rfl) memT lenT rfl rfl rfl rfl) ?_
  refine JL_1 rfl (by exact op_loadBuf (Ev.rfl' rfl) memT (show [cnOn m da ha tr po][0]? = some (cnOn m da ha tr po) from rfl) rfl rfl (by rfl)) ?_
  refine JL_1 rfl (by exact op_lenLit (Ev.rfl' rfl) rfl) ?_
  refine JL_1 rfl (op_lss (Ev.rfl' rfl) (Ev.rfl' rfl)) ?_
  refine JL_nil ?_
  refine JQ_then ?_
  refine JC_cond (Ev.rfl' rfl) (fun h5 => ?_) (fun h5 => ?_)
  · have hlt : i < hs.length := by have := of_decide_eq_true h5; omega
    clear h5
    obtain ⟨b, hx⟩ : ∃ b, hs[i]? = some b := ⟨_, List.getElem?_eq_getElem hlt⟩
    have hsu := cntF_succ hx
    refine JC_skip (JQ_then (JC_seq (JC_block (JC_seq ?_))))
    refine JC_region ?_
    refine JL_1 rfl (op_move rfl) ?_
    refine JL_1 rfl (by exact op_nilCheck (Ev.rfl' rfl)) ?_
    refine JL_1 rfl (by exact op_fieldPtr (k := 2) (Ev.rfl' rfl) rfl rfl rfl rfl) ?_
    refine JL_1 rfl (by exact op_loadPtr (Ev.rfl' rfl) memT (by rfl) (by rfl) (by rfl)) ?_
    refine JL_1 rfl (op_move rfl) ?_
    refine JL_1 rfl (by exact op_indexBuf (k := 0) (Ev.rfl' rfl) memT (Ev.rfl' rfl) rfl rfl idxT lenT) ?_
    refine JL_1 rfl (by exact op_fieldBuf (k := 4) (Ev.rfl' rfl) memT lenT rfl rfl rfl rfl) ?_
    refine JL_1 rfl (by exact op_loadBuf (Ev.rfl' rfl) memT (show [cnOn m da ha tr po][0]? = some (cnOn m da ha tr po) from rfl) rfl rfl (by rfl)) ?_
    refine JL_1 rfl (op_move rfl) ?_
    refine JL_1 rfl (by exact op_indexBuf (k := i) (Ev.rfl' rfl) memT (Ev.rfl' rfl) rfl rfl idxT lenT) ?_
    refine JL_1 rfl (by exact op_loadBuf0 (Ev.rfl' rfl) memT hx rfl rfl (by rfl)) ?_
    refine JL_1 rfl (op_not (Ev.rfl' rfl)) ?_
    refine JL_nil ?_
    refine JQ_then ?_
    refine JC_cond (Ev.rfl' rfl) (fun h7 => ?_) (fun h7 => ?_)
    · obtain rfl : b = false := by simpa using h7
      rw [if_neg (by decide)] at hsu
      refine JC_region ?_
      refine JL_1 rfl (op_move rfl) ?_
      refine JL_1 rfl (op_add (Ev.rfl' rfl) (Ev.rfl' rfl) wrapT) ?_
      refine JL_1 rfl (op_assign rfl) ?_
      refine JL_nil ?_
      refine JQ_block (JQ_then ?_)
      refine JC_region ?_
      refine JL_1 rfl (op_move rfl) ?_
      refine JL_1 rfl (op_add (Ev.rfl' rfl) (Ev.rfl' rfl) wrapT) ?_
      refine JL_1 rfl (op_assign rfl) ?_
      refine JL_nil ?_
      refine JQ_roundP (i + 1) (by omega) (by omega) ?_ lessT
      rw [hsu]
      exact esubT
    obtain rfl : b = true := by simpa using h7
    rw [if_pos rfl] at hsu
    refine JC_skip (JQ_block (JQ_then ?_))
    refine JC_region ?_
    refine JL_1 rfl (op_move rfl) ?_
    refine JL_1 rfl (op_add (Ev.rfl' rfl) (Ev.rfl' rfl) wrapT) ?_
    refine JL_1 rfl (op_assign rfl) ?_
    refine JL_nil ?_
    refine JQ_roundP (i + 1) (by omega) (by omega) ?_ lessT
    rw [hsu]
    exact esubT
  have hie : i = hs.length := by have := of_decide_eq_false h5; omega
  clear h5
  rw [hie, List.take_length]
  refine JC_exit (JQ_then_exit (JQ_then_exit (JQ_hit (JQ_then (JC_seq ?_)))))
  refine JC_region ?_
  refine JL_1 rfl (op_move rfl) ?_
  refine JL_1 rfl (op_assign rfl) ?_
  refine JL_nil ?_
  refine JQ_then (JC_ret ?_)
  exact JQ_retP (Bs := [Is (.int .i64 (cntF hs : Nat))]) Tryz.results76 ⟨⟨_, rfl, subT⟩, trivial⟩ () SubL.rfl' lessT
end Go.Proofs.YtfglhiciagmicaaGreat

/- Contracts: a fabric's choices; a client takes its completions. Own work. -/
namespace Go.Proofs.YtfglhiciagmicaaGreat
open Go.RowKit
set_option linter.unusedVariables false
set_option linter.unusedSimpArgs false
set_option maxRecDepth 100000
/-- The choices among the first k pairs: each names a pair with a queue, and there is one if such a pair is there. -/
structure ChP (prs : List Pr) (k : Nat) (l : List Ch) : Prop where
  all : ∀ c, c ∈ l → ∃ (j : Nat) (pr : Pr) (x : Pd) (rest : List Pd), c = ⟨-1, 0, (j : Int)⟩ ∧ prs[j]? = some pr ∧ pr.q = x :: rest
  some_ : ∀ (j : Nat) (pr : Pr), j < k → prs[j]? = some pr → pr.q ≠ [] → l ≠ []
  len : l.length ≤ k
theorem ChP.nil (prs : List Pr) : ChP prs 0 [] := ⟨fun c h => (by cases h), fun j pr h => absurd h (by omega), Nat.le_refl _⟩
theorem ChP.yes {prs : List Pr} {k : Nat} {l : List Ch} (h : ChP prs k l) {pr : Pr} (hz : prs[k]? = some pr) (hq : 0 < pr.q.length) : ChP prs (k + 1) (l ++ [⟨-1, 0, (k : Int)⟩]) := ⟨fun c hc => (by
  rcases List.mem_append.1 hc with hc | hc
  · exact h.all c hc
  · obtain rfl := List.mem_singleton.1 hc
    match hp : pr.q, hq with
    | x :: rest, _ => exact ⟨k, pr, x, rest, rfl, hz, hp⟩), fun j pr _ _ _ => by simp, by have := h.len; simp; omega⟩
theorem ChP.no {prs : List Pr} {k : Nat} {l : List Ch} (h : ChP prs k l) {pr : Pr} (hz : prs[k]? = some pr) (hq : ¬ 0 < pr.q.length) : ChP prs (k + 1) l := ⟨h.all, fun j pr' hj hz' hq' => by
  by_cases e : j = k
  · subst e
    rw [hz] at hz'
    injection hz' with hz'
    subst hz'
    exact absurd (List.length_pos_iff.2 hq') hq
  · exact h.some_ j pr' (by omega) hz' hq', Nat.le_succ_of_le h.len⟩
-- (*bodegaref6.Fabric).Choices: function 78
set_option maxHeartbeats 2000000 in
theorem Choices_ok (f n : Nat) (hn : n ≤ 5) (nb cb lb pb : WA) (prs : List Pr) (hpl : prs.length = n) : Fn Tryz.prog 78 [Is (.pointer (some ⟨f, 0, none⟩))] [blk f 166 [Is (.int .i64 98), Is (slV n nb), Is (slV 1 cb), Is (slV 1 lb), Is (slV 0 (none, 0))], buf (slV 1 lb) 164 tVal [slV n pb], buf (slV n pb) 170 tPr prs]
    (fun z : {z : List Ch × WA // ChP prs n z.1} => Is (slV z.1.1.length z.1.2)) (fun z => [blk f 166 [Is (.int .i64 98), Is (slV n nb), Is (slV 1 cb), Is (slV 1 lb), Is (slV 0 (none, 0))], buf (slV 1 lb) 164 tVal [slV n pb], buf (slV n pb) 170 tPr prs, buf (slV z.1.1.length z.1.2) 142 tCh z.1.1]) := by
  have hzl : [slV n pb][0]? = some (slV n pb) := rfl
  refine Fn.enterN Tryz.func78 Tryz.ntmps78 rfl rfl ?_
  intro c hX
  refine JC_buf0 142 tCh ?_
  refine JC_seq ?_
  refine JC_region ?_
  refine JL_1 rfl (op_assign rfl) ?_
  refine JL_nil ?_
  refine JQ_then (JC_seq ?_)
  refine JC_region ?_
  refine JL_1 rfl (op_assign rfl) ?_
  refine JL_nil ?_
  refine JQ_then (JC_seq (JC_seq ?_))
  refine JC_region ?_
  refine JL_1 rfl (op_assign rfl) ?_
  refine JL_nil ?_
  refine JQ_then (JC_block ?_)
  refine JC_loopP (fun z : Nat × (List Ch × WA) => z.1 ≤ 1 ∧ ChP prs (if z.1 = 0 then 0 else n) z.2.1) (fun z => [(0, Is (.pointer (some ⟨f, 0, none⟩))), (3, Is (slV z.2.1.length z.2.2)), (4, Is (.int .i64 (z.1 : Nat)))]) (fun z => [blk f 166 [Is (.int .i64 98), Is (slV n nb), Is (slV 1 cb), Is (slV 1 lb), Is (slV 0 (none, 0))], buf (slV 1 lb) 164 tVal [slV n pb], buf (slV n pb) 170 tPr prs, buf (slV z.2.1.length z.2.2) 142 tCh z.2.1]) (fun z => 1 - z.1) (0, [], (none, 0)) ⟨Nat.zero_le _, ChP.nil _⟩ esubT lessT ?_
  rintro ⟨c0, l0, a0⟩ ⟨hc, hch⟩
  dsimp only at hc hch ⊢
  refine JC_seq (JC_seq ?_)
  refine JC_region ?_
  refine JL_1 rfl (op_move rfl) ?_
  refine JL_1 rfl (op_move rfl) ?_
  refine JL_1 rfl (by exact op_nilCheck (Ev.rfl' rfl)) ?_
  refine JL_1 rfl (by exact op_fieldPtr (k := 3) (Ev.rfl' rfl) rfl rfl rfl rfl) ?_
  refine JL_1 rfl (by exact op_loadPtr (Ev.rfl' rfl) memT (by rfl) (by rfl) (by rfl)) ?_
  refine JL_1 rfl (by exact op_lenLit (Ev.rfl' rfl) rfl) ?_
  refine JL_1 rfl (op_lss (Ev.rfl' rfl) (Ev.rfl' rfl)) ?_
  refine JL_nil ?_
  refine JQ_then ?_
  refine JC_cond (Ev.rfl' rfl) (fun h3 => ?_) (fun h3 => ?_)
  · obtain rfl : c0 = 0 := by have := of_decide_eq_true h3; omega
    clear h3
    have hch0 : ChP prs 0 l0 := hch
    refine JC_skip (JQ_then (JC_seq (JC_block (JC_seq ?_))))
    refine JC_region ?_
    refine JL_1 rfl (op_assign rfl) ?_
    refine JL_nil ?_
    refine JQ_then (JC_block ?_)
    refine JC_loopP (fun z : Nat × (List Ch × WA) => z.1 ≤ n ∧ ChP prs z.1 z.2.1) (fun z => [(0, Is (.pointer (some ⟨f, 0, none⟩))), (3, Is (slV z.2.1.length z.2.2)), (4, Is (.int .i64 (0 : Nat))), (5, Is (.int .i64 (z.1 : Nat)))]) (fun z => [blk f 166 [Is (.int .i64 98), Is (slV n nb), Is (slV 1 cb), Is (slV 1 lb), Is (slV 0 (none, 0))], buf (slV 1 lb) 164 tVal [slV n pb], buf (slV n pb) 170 tPr prs, buf (slV z.2.1.length z.2.2) 142 tCh z.2.1]) (fun z => n - z.1) (0, l0, a0) ⟨Nat.zero_le _, hch0⟩ esubT lessT ?_
    rintro ⟨i, l, a⟩ ⟨hi, hcl⟩
    dsimp only at hi hcl ⊢
    have hll := hcl.len
    refine JC_seq (JC_seq ?_)
    refine JC_region ?_
    refine JL_1 rfl (op_move rfl) ?_
    refine JL_1 rfl (op_move rfl) ?_
    refine JL_1 rfl (by exact op_nilCheck (Ev.rfl' rfl)) ?_
    refine JL_1 rfl (by exact op_fieldPtr (k := 3) (Ev.rfl' rfl) rfl rfl rfl rfl) ?_
    refine JL_1 rfl (by exact op_loadPtr (Ev.rfl' rfl) memT (by rfl) (by rfl) (by rfl)) ?_
    refine JL_1 rfl (op_move rfl) ?_
    refine JL_1 rfl (by exact op_indexBuf (k := 0) (Ev.rfl' rfl) memT (Ev.rfl' rfl) rfl rfl idxT lenT) ?_
    refine JL_1 rfl (by exact op_loadBuf0 (Ev.rfl' rfl) memT hzl rfl rfl (by rfl)) ?_
    refine JL_1 rfl (by exact op_lenLit (Ev.rfl' rfl) rfl) ?_
    refine JL_1 rfl (op_lss (Ev.rfl' rfl) (Ev.rfl' rfl)) ?_
    refine JL_nil ?_
    refine JQ_then ?_
    refine JC_cond (Ev.rfl' rfl) (fun h6 => ?_) (fun h6 => ?_)
    · have hlt : i < prs.length := by have := of_decide_eq_true h6; omega
      clear h6
      obtain ⟨pr, hz⟩ : ∃ d, prs[i]? = some d := ⟨_, List.getElem?_eq_getElem hlt⟩
      refine JC_skip (JQ_then (JC_seq (JC_block (JC_seq ?_))))
      refine JC_region ?_
      refine JL_1 rfl (op_move rfl) ?_
      refine JL_1 rfl (by exact op_nilCheck (Ev.rfl' rfl)) ?_
      refine JL_1 rfl (by exact op_fieldPtr (k := 3) (Ev.rfl' rfl) rfl rfl rfl rfl) ?_
      refine JL_1 rfl (by exact op_loadPtr (Ev.rfl' rfl) memT (by rfl) (by rfl) (by rfl)) ?_
      refine JL_1 rfl (op_move rfl) ?_
      refine JL_1 rfl (by exact op_indexBuf (k := 0) (Ev.rfl' rfl) memT (Ev.rfl' rfl) rfl rfl idxT lenT) ?_
      refine JL_1 rfl (by exact op_loadBuf0 (Ev.rfl' rfl) memT hzl rfl rfl (by rfl)) ?_
      refine JL_1 rfl (op_move rfl) ?_
      refine JL_1 rfl (by exact op_indexBuf (k := i) (Ev.rfl' rfl) memT (Ev.rfl' rfl) rfl rfl idxT lenT) ?_
      refine JL_1 rfl (by exact op_fieldBuf (k := 3) (Ev.rfl' rfl) memT lenT rfl rfl rfl rfl) ?_
      refine JL_1 rfl (by exact op_loadBuf (Ev.rfl' rfl) memT hz rfl rfl (by rfl)) ?_
      refine JL_1 rfl (by exact op_len (Ev.rfl' rfl) rfl) ?_
      refine JL_1 rfl (op_gtr (Ev.rfl' rfl) (Ev.rfl' rfl)) ?_
      refine JL_nil ?_
      refine JQ_then ?_
      refine JC_cond (Ev.rfl' rfl) (fun h8 => ?_) (fun h8 => ?_)
      · have hq : 0 < pr.q.length := by have := of_decide_eq_true h8; omega
        clear h8
        refine JC_region ?_
        refine JL_1 rfl (op_move rfl) ?_
        refine JL_1 rfl (op_move rfl) ?_
        refine JL_1 rfl (op_move rfl) ?_
        refine JL_1 rfl (op_buildN (qs := [(0, _), (1, _), (2, _)]) rfl rfl rfl rfl ⟨⟨rfl, _, (Ev.rfl' rfl), cellsT⟩, ⟨⟨rfl, _, (Ev.rfl' rfl), cellsT⟩, ⟨⟨rfl, _, (Ev.rfl' rfl), cellsT⟩, trivial⟩⟩⟩ (by rfl) nrmT) ?_
        refine JL_1 rfl (op_buildSlice (size := 3) (qs := [(0, _)]) rfl rfl rfl ⟨⟨rfl, _, (Ev.rfl' rfl), cellsT⟩, trivial⟩ (by rfl) (by rfl)) ?_
        (refine JL_s rfl (op_app (Ev.rfl' rfl) (fun _ => replT) (by exact Ev.sub rfl (by exact SubL.row (xs := [(⟨-1, 0, (i : Nat)⟩ : Ch)]) (by rfl) (by rfl) subsT)) (by exact appT rfl rfl rfl) lenT) ?_; intro i46)
        refine JL_1 rfl (op_assign rfl) ?_
        refine JL_nil ?_
        refine JQ_block (JQ_then ?_)
        refine JC_region ?_
        refine JL_1 rfl (op_move rfl) ?_
        refine JL_1 rfl (op_add (Ev.rfl' rfl) (Ev.rfl' rfl) wrapT) ?_
        refine JL_1 rfl (op_assign rfl) ?_
        refine JL_nil ?_
        first
          | exact JQ_roundP (i + 1, l ++ [⟨-1, 0, (i : Nat)⟩], i46) ⟨by dsimp only; omega, hcl.yes hz hq⟩ (by dsimp only; omega) esubT lessT
          | exact JQ_roundP (i + 1, l, a) ⟨by dsimp only; omega, hcl.no hz (by simpa using h8)⟩ (by dsimp only; omega) esubT lessT
      refine JC_skip (JQ_block (JQ_then ?_))
      refine JC_region ?_
      refine JL_1 rfl (op_move rfl) ?_
      refine JL_1 rfl (op_add (Ev.rfl' rfl) (Ev.rfl' rfl) wrapT) ?_
      refine JL_1 rfl (op_assign rfl) ?_
      refine JL_nil ?_
      first
        | exact JQ_roundP (i + 1, l ++ [⟨-1, 0, (i : Nat)⟩], i46) ⟨by dsimp only; omega, hcl.yes hz hq⟩ (by dsimp only; omega) esubT lessT
        | exact JQ_roundP (i + 1, l, a) ⟨by dsimp only; omega, hcl.no hz (by simpa using h8)⟩ (by dsimp only; omega) esubT lessT
    have hie : i = n := by have := of_decide_eq_false h6; omega
    clear h6
    subst hie
    refine JC_exit (JQ_then_exit (JQ_then_exit (JQ_hit (JQ_block (JQ_then ?_)))))
    refine JC_region ?_
    refine JL_1 rfl (op_move rfl) ?_
    refine JL_1 rfl (op_add (Ev.rfl' rfl) (Ev.rfl' rfl) wrapT) ?_
    refine JL_1 rfl (op_assign rfl) ?_
    refine JL_nil ?_
    exact JQ_roundP (1, l, a) ⟨Nat.le_refl _, hcl⟩ (by dsimp only; omega) esubT lessT
  obtain rfl : c0 = 1 := by have := of_decide_eq_false h3; omega
  clear h3
  have hch0 : ChP prs n l0 := hch
  refine JC_exit (JQ_then_exit (JQ_then_exit (JQ_hit (JQ_then (JC_seq (JC_seq ?_))))))
  refine JC_region ?_
  refine JL_1 rfl (op_assign rfl) ?_
  refine JL_nil ?_
  refine JQ_then (JC_block ?_)
  refine JC_loopP (fun _ : Unit => True) (fun _ => [(0, Is (.pointer (some ⟨f, 0, none⟩))), (3, Is (slV l0.length a0)), (6, Is (.int .i64 0))]) (fun _ => [blk f 166 [Is (.int .i64 98), Is (slV n nb), Is (slV 1 cb), Is (slV 1 lb), Is (slV 0 (none, 0))], buf (slV 1 lb) 164 tVal [slV n pb], buf (slV n pb) 170 tPr prs, buf (slV l0.length a0) 142 tCh l0]) (fun _ => 0) () trivial esubT lessT ?_
  rintro _ _
  refine JC_seq (JC_seq ?_)
  refine JC_region ?_
  refine JL_1 rfl (op_move rfl) ?_
  refine JL_1 rfl (op_move rfl) ?_
  refine JL_1 rfl (by exact op_nilCheck (Ev.rfl' rfl)) ?_
  refine JL_1 rfl (by exact op_fieldPtr (k := 4) (Ev.rfl' rfl) rfl rfl rfl rfl) ?_
  refine JL_1 rfl (by exact op_loadPtr (Ev.rfl' rfl) memT (by rfl) (by rfl) (by rfl)) ?_
  refine JL_1 rfl (by exact op_lenLit (Ev.rfl' rfl) rfl) ?_
  refine JL_1 rfl (op_lss (Ev.rfl' rfl) (Ev.rfl' rfl)) ?_
  refine JL_nil ?_
  refine JQ_then ?_
  refine JC_cond (Ev.rfl' rfl) (fun h11 => ?_) (fun h11 => ?_)
  · exact absurd h11 (by decide)
  refine JC_exit (JQ_then_exit (JQ_then_exit (JQ_hit (JQ_then (JC_seq ?_)))))
  refine JC_region ?_
  refine JL_1 rfl (op_move rfl) ?_
  refine JL_1 rfl (op_assign rfl) ?_
  refine JL_nil ?_
  refine JQ_then (JC_ret ?_)
  exact JQ_retP (Bs := [Is (slV l0.length a0)]) Tryz.results78 ⟨⟨_, rfl, subT⟩, trivial⟩ ⟨(l0, a0), hch0⟩ SubL.rfl' lessT
/-- A client without a batch. -/
@[reducible] def cnOff (tr po : Int) : Cn := ⟨true, 1, false, .slice none 0 0, .slice none 0 0, tr, po⟩
-- (*bodegaref6.Fabric).Take: function 79
set_option maxHeartbeats 1000000 in
theorem Take_ok (f n m : Nat) (hm : m ≤ 1024) (nb cb lb da ha : WA) (tr po : Int) (hs : List Bool) (hl : hs.length = m) (h0 : cntF hs = 0) : Fn Tryz.prog 79 [Is (.pointer (some ⟨f, 0, none⟩)), Is (.int .i64 0)] [blk f 166 [Is (.int .i64 98), Is (slV n nb), Is (slV 1 cb), Is (slV 1 lb), Is (slV 0 (none, 0))], buf (slV 1 cb) 160 tCn [cnOn m da ha tr po], buf (slV m ha) 4 tBl hs]
    (fun _ : Unit => IsTup [Is (slV m da), Is (.bool true)]) (fun _ => [blk f 166 [Is (.int .i64 98), Is (slV n nb), Is (slV 1 cb), Is (slV 1 lb), Is (slV 0 (none, 0))], buf (slV 1 cb) 160 tCn [cnOff tr po], buf (slV m ha) 4 tBl hs]) := by
  refine Fn.enterN Tryz.func79 Tryz.ntmps79 rfl rfl ?_
  intro c hX
  refine JC_seq ?_
  refine JC_region ?_
  refine JL_1 rfl (op_assign rfl) ?_
  refine JL_1 rfl (op_assign rfl) ?_
  refine JL_nil ?_
  refine JQ_then (JC_seq (JC_seq ?_))
  refine JC_region ?_
  refine JL_1 rfl (op_move rfl) ?_
  refine JL_1 rfl (op_move rfl) ?_
  (refine JL_s rfl (op_callM (Drops.cons drop1A (Drops.cons drop1A (Drops.nil _))) Tryz.call90 (alive_ok f n nb cb lb (cnOn m da ha tr po)) ⟨evS, ⟨evS, trivial⟩⟩) ?_; intro i9)
  refine JL_1 rfl (op_not (Ev.rfl' rfl)) ?_
  refine JL_1 rfl (op_move rfl) ?_
  (refine JL_i0 rfl rfl rfl (fun hg => (by have hg0 := hg; (try simp at hg); exact op_moveE (Ev.rfl' rfl))) ?_)
  (refine JL_i0 rfl rfl rfl (fun hg => (by have hg0 := hg; (try simp at hg); exact op_nilCheck evG)) ?_)
  (refine JL_i0 rfl rfl rfl (fun hg => (by have hg0 := hg; (try simp at hg); exact op_fieldPtr (k := 2) evG rfl rfl rfl rfl)) ?_)
  (refine JL_i0 rfl rfl rfl (fun hg => (by have hg0 := hg; (try simp at hg); exact op_loadPtr evG memT (by rfl) (by rfl) (by rfl))) ?_)
  (refine JL_i0 rfl rfl rfl (fun hg => (by have hg0 := hg; (try simp at hg); exact op_moveE (Ev.rfl' rfl))) ?_)
  (refine JL_i0 rfl rfl rfl (fun hg => (by have hg0 := hg; (try simp at hg); exact op_indexBuf (k := 0) evG memT evG rfl rfl idxT lenT)) ?_)
  (refine JL_i0 rfl rfl rfl (fun hg => (by have hg0 := hg; (try simp at hg); exact op_fieldBuf (k := 2) evG memT lenT rfl rfl rfl rfl)) ?_)
  (refine JL_i0 rfl rfl rfl (fun hg => (by have hg0 := hg; (try simp at hg); exact op_loadBuf evG memT (show [cnOn m da ha tr po][0]? = some (cnOn m da ha tr po) from rfl) rfl rfl (by rfl))) ?_)
  (refine JL_i0 rfl rfl rfl (fun hg => (by have hg0 := hg; (try simp at hg); exact op_not evG)) ?_)
  refine JL_1 rfl (op_or (Ev.rfl' rfl) rfl (fun h => by exact SubL.rfl')) ?_
  refine JL_1 rfl (op_move rfl) ?_
  (refine JL_i0 rfl rfl rfl (fun hg => (by have hg0 := hg; (try simp at hg); exact op_moveE (Ev.rfl' rfl))) ?_)
  (refine JL_i0 rfl rfl rfl (fun hg => (by have hg0 := hg; (try simp at hg); exact op_moveE (Ev.rfl' rfl))) ?_)
  (refine JL_yes rfl rfl rfl rfl (by rfl) (op_callM (Drops.cons drop1A (Drops.cons drop1A (Drops.cons drop1A (Drops.nil _)))) Tryz.call76 (Waiting_ok f n m hm nb cb lb da ha tr po hs hl) ⟨evS, ⟨evS, trivial⟩⟩) ?_; intro i25)
  (refine JL_i0 rfl rfl rfl (fun hg => (by have hg0 := hg; (try simp at hg); exact op_gtr evG evG)) ?_)
  refine JL_1 rfl (op_or (Ev.rfl' rfl) rfl (fun h => by exact SubL.rfl')) ?_
  refine JL_nil ?_
  refine JQ_then ?_
  refine JC_cond (Ev.rfl' rfl) (fun h1 => ?_) (fun h1 => ?_)
  · exact absurd h1 (by simp [h0])
  refine JC_skip (JQ_then (JC_seq ?_))
  refine JC_region ?_
  refine JL_1 rfl (op_move rfl) ?_
  refine JL_1 rfl (by exact op_nilCheck (Ev.rfl' rfl)) ?_
  refine JL_1 rfl (by exact op_fieldPtr (k := 2) (Ev.rfl' rfl) rfl rfl rfl rfl) ?_
  refine JL_1 rfl (by exact op_loadPtr (Ev.rfl' rfl) memT (by rfl) (by rfl) (by rfl)) ?_
  refine JL_1 rfl (op_move rfl) ?_
  refine JL_1 rfl (by exact op_indexBuf (k := 0) (Ev.rfl' rfl) memT (Ev.rfl' rfl) rfl rfl idxT lenT) ?_
  refine JL_1 rfl (by exact op_fieldBuf (k := 3) (Ev.rfl' rfl) memT lenT rfl rfl rfl rfl) ?_
  refine JL_1 rfl (by exact op_loadBuf (Ev.rfl' rfl) memT (show [cnOn m da ha tr po][0]? = some (cnOn m da ha tr po) from rfl) rfl rfl (by rfl)) ?_
  refine JL_1 rfl (op_assign rfl) ?_
  refine JL_nil ?_
  refine JQ_then (JC_seq ?_)
  refine JC_dr rfl (by kernel_rfl) ?_
  refine JD_phase [0, 1, 1, 1, 0, 0, 1, 1, 1, 0, 0, 1, 1, 1, 0, 1, 1, 2, 1, 1, 2, 1, 1, 2] (by kernel_rfl) (by kernel_rfl) ?_
  refine PW_0 (op_move rfl) ?_
  refine PW_1 (by exact op_nilCheck (Ev.rfl' rfl)) ?_
  refine PW_1 (by exact op_fieldPtr (k := 2) (Ev.rfl' rfl) rfl rfl rfl rfl) ?_
  refine PW_1 (by exact op_loadPtr (Ev.rfl' rfl) memT (by rfl) (by rfl) (by rfl)) ?_
  refine PW_0 (op_move rfl) ?_
  refine PW_0 (op_move rfl) ?_
  refine PW_1 (by exact op_nilCheck (Ev.rfl' rfl)) ?_
  refine PW_1 (by exact op_fieldPtr (k := 2) (Ev.rfl' rfl) rfl rfl rfl rfl) ?_
  refine PW_1 (by exact op_loadPtr (Ev.rfl' rfl) memT (by rfl) (by rfl) (by rfl)) ?_
  refine PW_0 (op_move rfl) ?_
  refine PW_0 (op_move rfl) ?_
  refine PW_1 (by exact op_nilCheck (Ev.rfl' rfl)) ?_
  refine PW_1 (by exact op_fieldPtr (k := 2) (Ev.rfl' rfl) rfl rfl rfl rfl) ?_
  refine PW_1 (by exact op_loadPtr (Ev.rfl' rfl) memT (by rfl) (by rfl) (by rfl)) ?_
  refine PW_0 (op_move rfl) ?_
  refine PW_1 (by exact op_indexBuf (k := 0) (Ev.rfl' rfl) memT (Ev.rfl' rfl) rfl rfl idxT lenT) ?_
  refine PW_1 (by exact op_fieldBuf (k := 2) (Ev.rfl' rfl) memT lenT rfl rfl rfl rfl) ?_
  refine PW_2 (by exact op_storeBuf (z' := (⟨true, 1, false, slV m da, slV m ha, tr, po⟩ : Cn)) (Ev.rfl' rfl) (Ev.rfl' rfl) cellsT replT (show [cnOn m da ha tr po][0]? = some (cnOn m da ha tr po) from rfl) rfl (by rfl) (by rfl)) ?_
  refine PW_1 (by exact op_indexBuf (k := 0) (Ev.rfl' rfl) memT (Ev.rfl' rfl) rfl rfl idxT lenT) ?_
  refine PW_1 (by exact op_fieldBuf (k := 3) (Ev.rfl' rfl) memT lenT rfl rfl rfl rfl) ?_
  refine PW_2 (by exact op_storeBuf (z' := (⟨true, 1, false, .slice none 0 0, slV m ha, tr, po⟩ : Cn)) (Ev.rfl' rfl) (Ev.rfl' rfl) cellsT replT (show [(⟨true, 1, false, slV m da, slV m ha, tr, po⟩ : Cn)][0]? = _ from rfl) rfl (by rfl) (by rfl)) ?_
  refine PW_1 (by exact op_indexBuf (k := 0) (Ev.rfl' rfl) memT (Ev.rfl' rfl) rfl rfl idxT lenT) ?_
  refine PW_1 (by exact op_fieldBuf (k := 4) (Ev.rfl' rfl) memT lenT rfl rfl rfl rfl) ?_
  refine PW_2 (by exact op_storeBuf (z' := (⟨true, 1, false, .slice none 0 0, .slice none 0 0, tr, po⟩ : Cn)) (Ev.rfl' rfl) (Ev.rfl' rfl) cellsT replT (show [(⟨true, 1, false, .slice none 0 0, slV m ha, tr, po⟩ : Cn)][0]? = _ from rfl) rfl (by rfl) (by rfl)) ?_
  refine PW_end ?_
  refine JD_end ?_
  refine JQ_then (JC_seq ?_)
  refine JC_region ?_
  refine JL_1 rfl (op_move rfl) ?_
  refine JL_1 rfl (op_assign rfl) ?_
  refine JL_1 rfl (op_assign rfl) ?_
  refine JL_nil ?_
  refine JQ_then (JC_ret ?_)
  exact JQ_retP (Bs := [Is (slV m da), Is (.bool true)]) Tryz.results79 ⟨⟨_, rfl, subT⟩, ⟨⟨_, rfl, subT⟩, trivial⟩⟩ () SubL.rfl' lessT
end Go.Proofs.YtfglhiciagmicaaGreat

/- A drawn region in which what one operation makes is named before all others have come up: two phases. Own work. -/
namespace Go.Proofs.YtfglhiciagmicaaGreat
open Go.RowKit
set_option linter.unusedVariables false
set_option linter.unusedSimpArgs false
section
variable {P : Program} {ops : Array Oper} {c : Ctx} {N : Nat} {L : List Item}
/-- Some of a stretch must come up (sp); some have come up before (dn). -/
theorem stretchX {Q : Exit → Act → World → Prop} {nd : List Nat} (hg : Good ops nd) (hN : opsAll (fun _ o => dstB N o.dst) ops.toList 0 = true) {k n : Nat} (sp dn : Nat → Bool)
    (hS : ∀ i j, k ≤ i → i < k + n → sp i = true → k + n ≤ j → j < ops.size → (ndOf nd j).testBit i = true) (hkn : k + n ≤ ops.size)
    {m : List Ent} {A0 : Nat → Option Out} (hm : m.length = n) (hmi : ∀ i x, m[i]? = some x → x.i = k + i ∧ ops[k + i]? = some x.o)
    (hop : ∀ m1 x m2, m = m1 ++ x :: m2 → (dn x.i = false → LocOp P ops c L x.o (acc (fun _ => true) m1 A0) x.F x.kl) ∧ KillOk ops nd x.i x.o (acc (fun _ => true) m1 A0) x.kl)
    (next : ∀ φ a w listed, Cl ops nd listed → (∀ i, i < k → listed.getD i true = true) → (∀ i, k + n ≤ i → i < ops.size → listed.getD i true = false) → (∀ i, k ≤ i → i < k + n → sp i = true → listed.getD i true = true) → SS c N (acc (fun i => listed.getD i false) m A0) L φ a w → wpAny P .any ops Q (unl ops.size listed) listed a w) :
    ∀ (u : Nat) (φ : Fz) (a : Act) (w : World) (listed : Array Bool), unl ops.size listed = u → Cl ops nd listed → (∀ i, i < k → listed.getD i true = true) → (∀ i, k + n ≤ i → i < ops.size → listed.getD i true = false) → (∀ i, dn i = true → listed.getD i true = true) →
      SS c N (acc (fun i => listed.getD i false) m A0) L φ a w → wpAny P .any ops Q u listed a w := by
  intro u
  induction u with
  | zero =>
    intro φ a w listed hu hc hlo hhi hdn st
    have hall := unl_zero hu
    rw [← hu]
    exact next φ a w listed hc hlo hhi (fun i _ hi _ => hall i (by omega)) st
  | succ u ih =>
    intro φ a w listed hu hc hlo hhi hdn st
    by_cases hdone : ∃ i, k ≤ i ∧ i < k + n ∧ sp i = true ∧ listed.getD i true = false
    · obtain ⟨is, his0, his1, his2, his3⟩ := hdone
      obtain ⟨i0, hi0, hu0, hl0⟩ := exists_least_unl (listed := listed) (k + n) ⟨is, his1, his3⟩
      have hr0 := ready_least hg hc.size (by omega) hu0 hl0
      refine ⟨fun h => (by rw [h] at hr0; cases hr0), fun i hi => ?_⟩
      obtain ⟨hiu, oi, hoi, hiall⟩ := mem_ready.1 hi
      have hilt : i < ops.size := (Array.getElem?_eq_some_iff.1 hoi).1
      have hik : k ≤ i := by
        rcases Nat.lt_or_ge i k with h | h
        · have := hlo i h; rw [hiu] at this; cases this
        · exact h
      have hin : i < k + n := by
        rcases Nat.lt_or_ge i (k + n) with h | h
        · exact h
        · exfalso
          have h4 := ready_need hg hc hi (hS is i his0 his1 his2 h hilt)
          rw [getD_tf his3] at h4; cases h4
      have hdi : dn i = false := by
        cases hv : dn i with
        | false => rfl
        | true => have := hdn i hv; rw [hiu] at this; cases this
      have hp : (i - k) < m.length := by omega
      obtain ⟨x, hx⟩ : ∃ x, m[i - k]? = some x := ⟨m[i - k], by simp [hp]⟩
      obtain ⟨ex1, ex2⟩ := hmi (i - k) x hx
      rw [show k + (i - k) = i by omega] at ex1 ex2
      have hox : x.o = oi := Option.some.inj (ex2.symm.trans hoi)
      obtain ⟨m1, m2, hsplit, hm1⟩ : ∃ m1 m2, m = m1 ++ x :: m2 ∧ m1.length = i - k := by
        refine ⟨m.take (i - k), m.drop (i - k + 1), ?_, by simp; omega⟩
        have h1 : m.drop (i - k) = x :: m.drop (i - k + 1) := by
          rw [List.drop_eq_getElem_cons hp]
          congr 1
          rw [List.getElem?_eq_getElem hp] at hx
          exact Option.some.inj hx
        rw [← h1, List.take_append_drop]
      have idx1 : ∀ y, y ∈ m1 → y.i < i ∧ ops[y.i]? = some y.o := fun y hy => by
        obtain ⟨q, hq⟩ := List.mem_iff_getElem?.1 hy
        have hql : q < m1.length := (List.getElem?_eq_some_iff.1 hq).1
        have hq' : m[q]? = some y := by rw [hsplit, List.getElem?_append_left hql]; exact hq
        obtain ⟨e1, e2⟩ := hmi q y hq'
        exact ⟨by omega, by rw [e1]; exact e2⟩
      have idx2 : ∀ y, y ∈ m2 → i < y.i ∧ ops[y.i]? = some y.o := fun y hy => by
        obtain ⟨q, hq⟩ := List.mem_iff_getElem?.1 hy
        have hq' : m[m1.length + 1 + q]? = some y := by
          rw [hsplit, List.getElem?_append_right (by omega), show m1.length + 1 + q - m1.length = q + 1 by omega]
          simpa using hq
        obtain ⟨e1, e2⟩ := hmi _ y hq'
        exact ⟨by omega, by rw [e1]; exact e2⟩
      have hiL : i < listed.size := by rw [hc.size]; exact hilt
      have hkm : ∀ y, y ∈ m → ∀ s, y.kl = some s → (s ∈ y.o.looksAt ops ∨ wrB y.o = true) ∧ ∀ j x, ops[j]? = some x → s ∈ namesOf ops x ∨ (s ∉ y.o.looksAt ops ∧ wrB y.o = true ∧ wrB x = true) → j ≠ y.i → (y.i < j → (ndOf nd j).testBit y.i = true) ∧ (j < y.i → (ndOf nd y.i).testBit j = true) := fun y hy s hs => by
        obtain ⟨p1, p2, hp12⟩ := List.append_of_mem hy
        have := (hop p1 y p2 hp12).2 s hs
        exact ⟨this.1.1, this.2⟩
      have hxm : x ∈ m := by rw [hsplit]; exact List.mem_append_right _ (List.mem_cons_self ..)
      have ordd : ∀ y, y ∈ m → y.i ≠ i → ops[y.i]? = some y.o → (∃ t, y.tch t ∧ (t ∈ namesOf ops oi ∨ x.kl = some t)) → (i < y.i → (ndOf nd y.i).testBit i = true) ∧ (y.i < i → (ndOf nd i).testBit y.i = true) := fun y hym hne h2 ⟨t, ht, htn⟩ => by
        rcases htn with htn | htn
        · rcases ht with ht | ht
          · have := hg.ord y.i y.o t i oi h2 ht hoi htn (fun e => hne e)
            exact ⟨this.2, this.1⟩
          · have := (hkm y hym t ht).2 i oi hoi (.inl htn) (fun e => hne e.symm)
            exact ⟨this.2, this.1⟩
        · have hx1 := hkm x hxm t htn
          rw [hox, ex1] at hx1
          rcases ht with ht | ht
          · have := hx1.2 y.i y.o h2 (.inl (List.mem_append_right _ (by rw [ht]; simp))) hne
            exact this
          · by_cases htl : t ∈ namesOf ops y.o
            · exact hx1.2 y.i y.o h2 (.inl htl) hne
            · have hyd : wrB y.o = true := (hkm y hym t ht).1.resolve_left fun e => htl (List.mem_append_left _ e)
              by_cases htx : t ∈ namesOf ops oi
              · have := (hkm y hym t ht).2 i oi hoi (.inl htx) (fun e => hne e.symm)
                exact ⟨this.2, this.1⟩
              · have hxl : t ∉ oi.looksAt ops := fun e => htx (List.mem_append_left _ e)
                have hxd : wrB oi = true := hx1.1.resolve_left hxl
                exact hx1.2 y.i y.o h2 (.inr ⟨hxl, hxd, hyd⟩) hne
      have later : ∀ y, y ∈ m2 → (∃ t, y.tch t ∧ (t ∈ namesOf ops oi ∨ x.kl = some t)) → listed.getD y.i false = false := fun y hy ht => by
        obtain ⟨h1, h2⟩ := idx2 y hy
        have hym : y ∈ m := by rw [hsplit]; exact List.mem_append_right _ (List.mem_cons_of_mem _ hy)
        cases hv : listed.getD y.i false with
        | false => rfl
        | true =>
          have h3 := (ordd y hym (by omega) h2 ht).1 h1
          have h4 := hc.cl _ hv i h3
          rw [getD_tf hiu] at h4; cases h4
      have earlier : ∀ y, y ∈ m1 → (∃ t, y.tch t ∧ (t ∈ namesOf ops oi ∨ x.kl = some t)) → listed.getD y.i false = true := fun y hy ht => by
        obtain ⟨h1, h2⟩ := idx1 y hy
        have hym : y ∈ m := by rw [hsplit]; exact List.mem_append_left _ hy
        have h3 := (ordd y hym (by omega) h2 ht).2 h1
        exact ready_need hg hc hi h3
      have hsame : ∀ t, t ∈ oi.looksAt ops ∨ x.kl = some t → acc (fun i => listed.getD i false) m A0 t = acc (fun _ => true) m1 A0 t := fun t ht => by
        have htn : t ∈ namesOf ops oi ∨ x.kl = some t := ht.imp (List.mem_append_left _) id
        rw [hsplit, acc_append]
        have h1 : acc (fun i => listed.getD i false) (x :: m2) (acc (fun i => listed.getD i false) m1 A0) t = acc (fun i => listed.getD i false) m1 A0 t := by
          refine acc_skip fun y hy hyt => ?_
          rcases List.mem_cons.1 hy with rfl | hy
          · show listed.getD y.i false = false
            rw [ex1]; exact getD_tf hiu
          · exact later y hy ⟨t, hyt, htn⟩
        rw [h1]
        exact acc_congr rfl fun y hy hyt => earlier y hy ⟨t, hyt, htn⟩
      have hloc : LocOp P ops c L oi (acc (fun i => listed.getD i false) m A0) x.F x.kl := by
        have h0 := (hop m1 x m2 hsplit).1 (by rw [ex1]; exact hdi)
        rw [hox] at h0
        exact h0.congr hsame
      have hkok : ∀ s, x.kl = some s → (s ∈ oi.looksAt ops ∨ wrB oi = true) ∧ ∃ (ι : Type) (val : ι → Value) (I : ι → Item), acc (fun i => listed.getD i false) m A0 s = some (.own val I) := fun s hs => by
        obtain ⟨⟨h1, ι, val, I, h2⟩, _⟩ := (hop m1 x m2 hsplit).2 s hs
        rw [hox] at h1
        exact ⟨h1, ι, val, I, by rw [hsame s (.inr hs)]; exact h2⟩
      have hget : ∀ j, j ≠ i → (listed.setIfInBounds i true).getD j false = listed.getD j false := fun j hj => getD_set_ne false (Ne.symm hj)
      have hacc : ∀ t, putO (killO (acc (fun i => listed.getD i false) m A0) x.kl) (tgt oi x.kl) x.F t = acc (fun j => (listed.setIfInBounds i true).getD j false) m A0 t := fun t => by
        have hiT : (listed.setIfInBounds i true).getD i false = true := by simp [hiL]
        have happ : putO (killO (acc (fun i => listed.getD i false) m A0) x.kl) (tgt oi x.kl) x.F = x.app (acc (fun i => listed.getD i false) m A0) := by unfold Ent.app; rw [hox]
        rw [happ]
        by_cases hd : x.tch t
        · rw [hsplit, acc_append, acc_append]
          simp only [acc]
          rw [ex1, hiT]
          simp only [cond_true]
          have hnm : t ∈ namesOf ops oi ∨ x.kl = some t := by
            rcases hd with hd | hd
            · rw [hox] at hd; exact .inl (by unfold namesOf; rw [hd]; simp)
            · exact .inr hd
          have h2 : acc (fun j => (listed.setIfInBounds i true).getD j false) m2 (x.app (acc (fun j => (listed.setIfInBounds i true).getD j false) m1 A0)) t = x.app (acc (fun j => (listed.setIfInBounds i true).getD j false) m1 A0) t := by
            refine acc_skip fun y hy hyt => ?_
            obtain ⟨h1, _⟩ := idx2 y hy
            rw [hget y.i (by omega)]
            exact later y hy ⟨t, hyt, hnm⟩
          rw [h2]
          exact Ent.app_same (.inl hd)
        · rw [Ent.app_ne hd]
          refine acc_congr rfl fun y hy hyt => (hget y.i fun hyi => ?_).symm
          have hyx : y = x := by
            obtain ⟨q, hq⟩ := List.mem_iff_getElem?.1 hy
            obtain ⟨e1, e2⟩ := hmi q y hq
            have hqi : q = i - k := by omega
            rw [hqi, hx] at hq
            exact (Option.some.inj hq).symm
          rw [hyx] at hyt
          exact hd hyt
      have hunl : unl ops.size (listed.setIfInBounds i true) = u := by
        have := unl_set hiL hiu hilt; omega
      obtain ⟨M, hM1, hM2, hM3⟩ := SS.takes (ops := ops) (o := oi) (kl := x.kl) st hkok
      have hnext : ∀ φ' v w', x.F.post M φ w φ' (res oi x.kl a v) w' → wpAny P .any ops Q u (listed.setIfInBounds i true) (a.put oi.dst v) w' := fun φ' v w' hpost => by
        have h9 := (hM3 (tgt oi x.kl) x.F φ' (res oi x.kl a v) w' (fun t ht => ?_) hpost).congr hacc
        · rw [put_res] at h9
          refine ih φ' _ w' _ hunl (hc.set hg hi) (fun j hj => ?_) (fun j hj hj' => ?_) (fun j hj => ?_) h9
          · rw [getD_set_ne true (by omega)]; exact hlo j hj
          · rw [getD_set_ne true (by omega)]; exact hhi j hj hj'
          · by_cases hji : j = i
            · subst hji; rw [hdi] at hj; cases hj
            · rw [getD_set_ne true (Ne.symm hji)]; exact hdn j hj
        · cases hd : oi.dst with
          | some d =>
            rw [tgt_some hd] at ht
            injection ht with ht
            subst ht
            have := opsAll_spec hN i oi (by simpa using hoi)
            exact .inl (dstB_spec this _ hd)
          | none =>
            rw [tgt_kl hd] at ht
            rw [ht, res_kl hd]
            exact .inr rfl
      have hfin := hloc φ a w _ Q M hM1 hM2 (fun t ht B hB => by
        cases hA : acc (fun i => listed.getD i false) m A0 t with
        | none => rw [hA] at hB; cases hB
        | some D =>
          rw [hA] at hB
          cases D with
          | v D => obtain rfl : D = B := by simpa [Out.toV] using hB
                   exact st.env t D hA
          | own val I => cases hB) hnext
      unfold wpOp
      simp only [hoi]
      split
      · rename_i hw
        rw [hw] at hfin
        exact .inl (by simpa using hfin)
      · rename_i hw
        have hw' : Region.wanted oi (yielded ops a.tmps) = false := by simpa using hw
        rw [hw'] at hfin
        have hidle : x.kl = none ∧ x.F.idle φ := by simpa using hfin
        have hM0 : M = [] := by rw [hidle.1] at hM2; exact hM2
        subst hM0
        refine hnext φ undef w ?_
        rw [hidle.1, res_none]
        cases hF : x.F with
        | v F => rw [hF] at hidle; exact ⟨HP.start (L := []) ⟨st.mem.mem.base, by simp, List.Pairwise.nil⟩, hidle.2⟩
        | own val I => rw [hF] at hidle; exact hidle.2.elim
    · rw [← hu]
      refine next φ a w listed hc hlo hhi (fun i h1 h2 h3 => ?_) st
      cases hv : listed.getD i true with
      | true => rfl
      | false => exact absurd ⟨i, h1, h2, h3, hv⟩ hdone

theorem LocOp.more {o : Oper} {A : Nat → Option Out} {F : Out} {kl : Option Tmp} {it : Item} (h : LocOp P ops c L o A F kl) : LocOp P ops c (it :: L) o A F kl := fun φ a w K Q M hm ht hl hk =>
  h φ a w K Q M (hm.less (List.Sublist.append (List.Sublist.refl M) (List.sublist_cons_self it L))) ht hl hk
/-- What lies under a temporary is named. -/
theorem SS.openT {A : Nat → Option Out} {φ : Fz} {a : Act} {w : World} {t : Tmp} {ι : Type} {val : ι → Value} {I : ι → Item} (h : SS c N A L φ a w) (ht : A t = some (.own val I)) :
    ∃ i, SS c N (fun s => if s = t then some (.v (Is (val i))) else A s) (I i :: L) φ a w := by
  obtain ⟨β, hβ, hap⟩ := h.own
  obtain ⟨⟨i, h1, h2⟩, h3, h4⟩ := hβ t ι val I ht
  have key : ∀ (s : Tmp) (ι' : Type) (val' : ι' → Value) (I' : ι' → Item), (if s = t then some (Out.v (Is (val i))) else A s) = some (.own val' I') → s ≠ t ∧ A s = some (.own val' I') := fun s ι' val' I' hs => by
    by_cases e : s = t
    · rw [if_pos e] at hs; cases hs
    · rw [if_neg e] at hs; exact ⟨e, hs⟩
  refine ⟨i, h.defers, h.size, fun s B hB => ?_, ⟨⟨h.mem.mem.base, fun it hi => ?_, List.pairwise_cons.2 ⟨fun y hy b hb hyb => ?_, h.mem.mem.sep⟩⟩, h.mem.kept, fun b hb => ?_, h.mem.old⟩, β, fun s ι' val' I' hs => ?_, fun s s' ι' ι'' val' I' val'' I'' hne hs hs' => ?_⟩
  · by_cases e : s = t
    · subst e
      rw [if_pos rfl] at hB
      injection hB with hB
      injection hB with hB
      subst hB
      exact h1
    · rw [if_neg e] at hB; exact h.env s B hB
  · rcases List.mem_cons.1 hi with rfl | hi
    · rw [← h2]; exact h3
    · exact h.mem.mem.items it hi
  · exact (h4 b (by rw [h2]; exact hb)).2 (mem_names.2 ⟨y, hy, hyb⟩)
  · obtain ⟨x, hx, hxb⟩ := mem_names.1 hb
    rcases List.mem_cons.1 hx with rfl | hx
    · exact (h4 b (by rw [h2]; exact hxb)).1
    · exact h.mem.mine b (mem_names.2 ⟨x, hx, hxb⟩)
  · obtain ⟨e, hs⟩ := key s _ _ _ hs
    obtain ⟨g1, g2, g3⟩ := hβ s ι' val' I' hs
    refine ⟨g1, g2, fun b hb => ⟨(g3 b hb).1, fun hn => ?_⟩⟩
    obtain ⟨x, hx, hxb⟩ := mem_names.1 hn
    rcases List.mem_cons.1 hx with rfl | hx
    · exact hap s t _ _ val' I' val I e hs ht b hb (by rw [h2]; exact hxb)
    · exact (g3 b hb).2 (mem_names.2 ⟨x, hx, hxb⟩)
  · obtain ⟨_, hs⟩ := key s _ _ _ hs
    obtain ⟨_, hs'⟩ := key s' _ _ _ hs'
    exact hap s s' _ _ val' I' val'' I'' hne hs hs'
/-- A walk that ends in whatever is asked; of each operation it is told what it takes. -/
def JWG (P : Program) (ops : Array Oper) (c : Ctx) (nd : List Nat) (G : Option Tmp → Prop) (K : EnvO → Prop) (k : Nat) : Nat → List Oper → EnvO → List Item → Prop
  | 0, _, EO, _ => K EO
  | _ + 1, [], _, _ => False
  | n + 1, o :: rest, EO, L => ∃ F kl, G kl ∧ KillOk ops nd k o (lookO EO) kl ∧ LocOp P ops c L o (lookO EO) F kl ∧ JWG P ops c nd G K (k + 1) n rest (putEO (killE EO kl) (tgt o kl) F) L
theorem JWG.out {nd : List Nat} {G : Option Tmp → Prop} {K : EnvO → Prop} : ∀ {n k : Nat} {rest : List Oper} {EO : EnvO}, JWG P ops c nd G K k n rest EO L →
    ∃ m : List Ent, m.length = n ∧ n ≤ rest.length ∧ (∀ i x, m[i]? = some x → x.i = k + i ∧ rest[i]? = some x.o ∧ G x.kl) ∧
      (∀ m1 x m2, m = m1 ++ x :: m2 → LocOp P ops c L x.o (acc (fun _ => true) m1 (lookO EO)) x.F x.kl ∧ KillOk ops nd x.i x.o (acc (fun _ => true) m1 (lookO EO)) x.kl) ∧ ∃ E', lookO E' = acc (fun _ => true) m (lookO EO) ∧ K E'
  | 0, k, rest, EO, h => ⟨[], rfl, Nat.zero_le _, fun i x hx => by simp at hx, fun m1 x m2 hm => by simp at hm, EO, rfl, h⟩
  | n + 1, k, [], EO, h => h.elim
  | n + 1, k, o :: rest, EO, ⟨F, kl, hG, h0, h1, h2⟩ => by
    obtain ⟨m, e1, e0, e2, e3, E', e4, e5⟩ := JWG.out h2
    have hA : lookO (putEO (killE EO kl) (tgt o kl) F) = (⟨k, o, F, kl⟩ : Ent).app (lookO EO) := by rw [lookO_put, lookO_kill]; rfl
    rw [hA] at e3 e4
    refine ⟨⟨k, o, F, kl⟩ :: m, by simp [e1], by simp; omega, fun i x hx => ?_, fun m1 x m2 hm => ?_, E', e4, e5⟩
    · cases i with
      | zero => simp at hx; subst hx; exact ⟨rfl, rfl, hG⟩
      | succ i =>
        obtain ⟨h3, h4, h5⟩ := e2 i x (by simpa using hx)
        exact ⟨by omega, by simpa using h4, h5⟩
    · cases m1 with
      | nil =>
        simp only [List.nil_append, List.cons.injEq] at hm
        obtain ⟨rfl, rfl⟩ := hm
        exact ⟨h1, h0⟩
      | cons y m1 =>
        simp only [List.cons_append, List.cons.injEq] at hm
        obtain ⟨rfl, hm⟩ := hm
        exact e3 m1 x m2 hm
def floatB (ops : Array Oper) (nd : List Nat) (k n d : Nat) (t : Tmp) : Bool :=
  Nat.ble k d && Nat.blt d (k + n) && ((List.range ops.size).all fun j => Nat.blt j (k + n) || (ndOf nd j).testBit d) && opsAll (fun j x => Nat.beq j d || Nat.blt j k || !Nat.blt j (k + n) || !((namesOf ops x).any fun s => Nat.beq s t)) ops.toList 0
/-- The value is named, the walk goes on. -/
def JWX (P : Program) (ops : Array Oper) (Q : Exit → Act → World → Prop) (c : Ctx) (N : Nat) (nd : List Nat) (k n2 : Nat) (rest : List Oper) (t : Tmp) (L : List Item) (EO : EnvO) : Prop :=
  ∃ (ι : Type) (val : ι → Value) (I : ι → Item), lookO EO t = some (.own val I) ∧ ∀ i, JWG P ops c nd (fun _ => True) (fun E' => bareB E' [] = true ∧ opn E' fun E M => JD P ops Q c N nd (k + n2) (rest.drop n2) E (M ++ I i :: L)) k n2 rest ((t, .v (Is (val i))) :: killE EO (some t)) (I i :: L)
theorem acc_not {p : Nat → Bool} {s : Nat} : ∀ {m m' : List Ent} {A : Nat → Option Out}, m.length = m'.length → (∀ (j : Nat) (x x' : Ent), m[j]? = some x → m'[j]? = some x' → x'.i = x.i ∧ ∀ A B : Nat → Option Out, A s = B s → x.app A s = x'.app B s) → ∀ {B : Nat → Option Out}, A s = B s → acc p m A s = acc p m' B s
  | [], [], A, _, _, B, hA => hA
  | [], _ :: _, A, h, _, B, hA => by simp at h
  | _ :: _, [], A, h, _, B, hA => by simp at h
  | x :: m, x' :: m', A, h, hx, B, hA => by
    refine acc_not (m := m) (m' := m') (by simpa using h) (fun j y y' h1 h2 => hx (j + 1) y y' (by simpa using h1) (by simpa using h2)) ?_
    obtain ⟨e1, e2⟩ := hx 0 x x' (by simp) (by simp)
    rw [e1]
    cases p x.i
    · exact hA
    · exact e2 A B hA
theorem acc_at {p : Nat → Bool} {t d : Nat} {F : Out} (hp : p d = true) : ∀ {m : List Ent} {A : Nat → Option Out}, (∀ x, x ∈ m → (x.i = d → ∀ A, x.app A t = some F) ∧ (x.i ≠ d → ¬ x.tch t)) → (A t = some F ∨ ∃ x, x ∈ m ∧ x.i = d) → acc p m A t = some F
  | [], A, _, h => h.elim id fun ⟨x, hx, _⟩ => by cases hx
  | x :: m, A, hm, h => by
    refine acc_at hp (m := m) (fun y hy => hm y (List.mem_cons_of_mem _ hy)) ?_
    by_cases hx : x.i = d
    · refine .inl ?_
      rw [hx, hp]
      exact (hm x (List.mem_cons_self ..)).1 hx A
    · rcases h with h | ⟨y, hy, hyd⟩
      · refine .inl ?_
        cases p x.i
        · exact h
        · exact (Ent.app_ne ((hm x (List.mem_cons_self ..)).2 hx)).trans h
      · rcases List.mem_cons.1 hy with rfl | hy
        · exact absurd hyd hx
        · exact .inr ⟨y, hy, hyd⟩
theorem float_main {Q : Exit → Act → World → Prop} {nd : List Nat} (hg : Good ops nd) (hN : opsAll (fun _ o => dstB N o.dst) ops.toList 0 = true) {k n n2 d : Nat} {t : Tmp} {rest : List Oper} (hk : k + rest.length = ops.size) (hrest : ∀ i, rest[i]? = ops[k + i]?)
    (hF : floatB ops nd k n d t = true) (hS : stretchB nd ops.size k (n + n2) = true) (hd : ((ops[d]?).bind (·.dst)) = some t) {EO : EnvO}
    (h : JWG P ops c nd (fun kl => kl ≠ some t) (JWX P ops Q c N nd (k + n) n2 (rest.drop n) t L) k n rest EO L)
    {φ : Fz} {a : Act} {w : World} {listed : Array Bool} (hp : Pre ops nd k listed) (st : SS c N (lookO EO) L φ a w) : wpAny P .any ops Q (unl ops.size listed) listed a w := by
  obtain ⟨m, e1, e0, e2, e3, E', e4, ι, val, I, e5, e6⟩ := h.out
  simp only [floatB, Bool.and_eq_true] at hF
  obtain ⟨⟨⟨hF1, hF2⟩, hF3⟩, hF4⟩ := hF
  have hkd : k ≤ d := Nat.le_of_ble_eq_true hF1
  have hdn : d < k + n := by simpa using hF2
  have hneed : ∀ j, k + n ≤ j → j < ops.size → (ndOf nd j).testBit d = true := fun j h1 h2 => by
    have h3 := List.all_eq_true.1 hF3 j (List.mem_range.2 h2)
    rw [blt_ff h1, Bool.false_or] at h3; exact h3
  have hnt : ∀ j x, k ≤ j → j < k + n → j ≠ d → ops[j]? = some x → t ∉ namesOf ops x := fun j x h1 h2 h3 h4 h5 => by
    have h6 := opsAll_spec hF4 j x (by simpa using h4)
    simp only [Nat.zero_add] at h6
    have h7 : Nat.blt j (k + n) = true := by simpa using h2
    have h8 : ((namesOf ops x).any fun s => Nat.beq s t) = true := List.any_eq_true.2 ⟨t, h5, by simp⟩
    rw [beq_ff h3, blt_ff h1, h7, h8] at h6
    simp at h6
  have hmi : ∀ i x, m[i]? = some x → x.i = k + i ∧ ops[k + i]? = some x.o := fun i x hx => by
    obtain ⟨h1, h2, _⟩ := e2 i x hx
    exact ⟨h1, by rw [← hrest]; exact h2⟩
  have hto : ∀ x, x ∈ m → x.tch t → x.i = d := fun x hx ht => by
    obtain ⟨i, hi⟩ := List.mem_iff_getElem?.1 hx
    obtain ⟨h1, h2, h3⟩ := e2 i x hi
    have hil : i < m.length := (List.getElem?_eq_some_iff.1 hi).1
    rcases ht with ht | ht
    · rcases Nat.decEq x.i d with h4 | h4
      · exact absurd (List.mem_append_right _ (by rw [ht]; simp)) (hnt x.i x.o (by omega) (by omega) h4 (by rw [h1, ← hrest]; exact h2))
      · exact h4
    · exact absurd ht h3
  have hall : ∀ i, i < k → listed.getD i true = true := fun i hi => (hp.pre i (by omega)).2 hi
  have hnone : ∀ i, k ≤ i → i < ops.size → listed.getD i true = false := fun i hi hi' => by
    cases hv : listed.getD i true with
    | false => rfl
    | true => have := (hp.pre i hi').1 hv; omega
  refine stretchX (Q := Q) hg hN (fun i => Nat.beq i d) (fun _ => false) (fun i j h1 h2 h3 h4 h5 => ?_) (by omega) e1 hmi (fun m1 x m2 hm => ⟨fun _ => (e3 m1 x m2 hm).1, (e3 m1 x m2 hm).2⟩) ?_ _ φ a w listed rfl hp.cl hall (fun i hi hi' => hnone i (by omega) hi') (fun i hi => by cases hi) (st.congr fun s => ?_)
  · rw [Nat.eq_of_beq_eq_true h3]; exact hneed j h4 h5
  · intro φ1 a1 w1 l1 hc1 hlo1 hhi1 hsp1 st1
    have hld : l1.getD d true = true := hsp1 d hkd hdn (by simp)
    have hdsz : d < l1.size := by rw [hc1.size]; omega
    have hld' : l1.getD d false = true := by simp [hdsz] at hld ⊢; exact hld
    have hAt : acc (fun i => l1.getD i false) m (lookO EO) t = some (.own val I) := by
      rw [← e5, e4]
      exact acc_congr rfl fun x hx ht => by rw [hto x hx ht]; exact hld'
    obtain ⟨i, st2⟩ := st1.openT hAt
    obtain ⟨m2, f1, f0, f2, f3, E2, f4, f5, f6⟩ := (e6 i).out
    -- the entries, the one that made told by its value
    let tell : Ent → Ent := fun x => if x.i = d then ⟨x.i, x.o, .v (Is (val i)), x.kl⟩ else x
    let mm := m.map tell
    have hmm1 : mm.length = n := by simp [mm, e1]
    have hmm : ∀ (j : Nat) (y : Ent), mm[j]? = some y → ∃ x, m[j]? = some x ∧ y = tell x := fun j y hy => by
      simp only [mm, List.getElem?_map, Option.map_eq_some_iff] at hy
      obtain ⟨x, h1, h2⟩ := hy
      exact ⟨x, h1, h2.symm⟩
    have htl : ∀ x : Ent, x.i ≠ d → tell x = x := fun x hx => if_neg hx
    have htd : ∀ x : Ent, x.i = d → tell x = ⟨x.i, x.o, .v (Is (val i)), x.kl⟩ := fun x hx => if_pos hx
    have htio : ∀ x : Ent, (tell x).i = x.i ∧ (tell x).o = x.o := fun x => by
      by_cases hx : x.i = d
      · rw [htd x hx]; exact ⟨rfl, rfl⟩
      · rw [htl x hx]; exact ⟨rfl, rfl⟩
    have hxd : ∀ x, x ∈ m → x.i = d → x.o.dst = some t := fun x hx hi => by
      obtain ⟨j, hj⟩ := List.mem_iff_getElem?.1 hx
      obtain ⟨h1, h2⟩ := hmi j x hj
      rw [← h1, hi] at h2
      rw [h2] at hd; exact hd
    have htk : ∀ x : Ent, (tell x).kl = x.kl := fun x => by
      by_cases hx : x.i = d
      · rw [htd x hx]
      · rw [htl x hx]
    have hkt : ∀ x, x ∈ m → x.kl ≠ some t := fun x hx => by
      obtain ⟨j, hj⟩ := List.mem_iff_getElem?.1 hx
      exact (e2 j x hj).2.2
    have happ : ∀ x, x ∈ m → ∀ s, s ≠ t → ∀ A B : Nat → Option Out, A s = B s → x.app A s = (tell x).app B s := fun x hx s hs A B hAB => by
      by_cases hi : x.i = d
      · rw [htd x hi]
        unfold Ent.app
        dsimp only
        have h1 := tgt_some (hxd x hx hi) x.kl
        rw [h1, putO_ne (fun e => hs (Option.some.inj e).symm), putO_ne (fun e => hs (Option.some.inj e).symm)]
        unfold killO
        split
        · rfl
        · exact hAB
      · rw [htl x hi]
        by_cases ht : x.tch s
        · exact Ent.app_same (.inl ht)
        · exact Ent.app_same (.inr hAB)
    -- away from t nothing is changed
    have haway : ∀ (p : Nat → Bool) (q : Nat) (s : Tmp), s ≠ t → acc p (m.take q) (lookO EO) s = acc p (mm.take q) (lookO EO) s := fun p q s hs => by
      refine acc_not (by simp [mm]) (fun j x x' h1 h2 => ?_) rfl
      rw [List.getElem?_take] at h1 h2
      split at h1
      · rename_i hjq
        rw [if_pos hjq] at h2
        obtain ⟨y, h3, h4⟩ := hmm j x' h2
        rw [h1] at h3
        injection h3 with h3
        subst h3
        rw [h4]
        exact ⟨(htio x).1, happ x (List.mem_of_getElem? h1) s hs⟩
      · cases h1
    have hawayA : ∀ (p : Nat → Bool) (s : Tmp), s ≠ t → acc p m (lookO EO) s = acc p mm (lookO EO) s := fun p s hs => by
      have := haway p n s hs
      rwa [List.take_of_length_le (by omega), List.take_of_length_le (by omega)] at this
    have hat : ∀ p : Nat → Bool, p d = true → acc p mm (lookO EO) t = some (.v (Is (val i))) := fun p hpd => by
      refine acc_at hpd (fun x hx => ?_) (.inr ?_)
      · obtain ⟨j, hj⟩ := List.mem_iff_getElem?.1 hx
        obtain ⟨y, h1, rfl⟩ := hmm j x hj
        have hy := List.mem_of_getElem? h1
        refine ⟨fun hi A => ?_, fun hi ht => ?_⟩
        · rw [(htio y).1] at hi
          rw [htd y hi]
          unfold Ent.app
          dsimp only
          rw [tgt_some (hxd y hy hi), putO_eq]
        · rw [(htio y).1] at hi
          rw [htl y hi] at ht
          exact hi (hto y hy ht)
      · obtain ⟨x, hx⟩ : ∃ x, m[d - k]? = some x := ⟨m[d - k], by rw [List.getElem?_eq_getElem]⟩
        refine ⟨tell x, List.mem_map.2 ⟨x, List.mem_of_getElem? hx, rfl⟩, ?_⟩
        rw [(htio x).1, (hmi _ x hx).1]; omega
    have hAll : acc (fun _ => true) mm (lookO EO) = lookO ((t, .v (Is (val i))) :: killE E' (some t)) := by
      funext s
      by_cases hs : s = t
      · subst hs
        rw [hat _ rfl]
        simp [lookO]
      · rw [← hawayA _ s hs, ← e4]
        simp only [lookO, beq_ff (Ne.symm hs), cond_false]
        rw [lookO_kill, killO_ne (fun e => hs (Option.some.inj e).symm)]
    have hmmi : ∀ (j : Nat) (x : Ent), (mm ++ m2)[j]? = some x → x.i = k + j ∧ ops[k + j]? = some x.o := fun j x hx => by
      rcases Nat.lt_or_ge j n with hj | hj
      · rw [List.getElem?_append_left (by omega)] at hx
        obtain ⟨y, h1, rfl⟩ := hmm j x hx
        rw [(htio y).1, (htio y).2]; exact hmi j y h1
      · rw [List.getElem?_append_right (by omega), hmm1] at hx
        obtain ⟨h1, h2, _⟩ := f2 _ x hx
        rw [List.getElem?_drop, hrest] at h2
        refine ⟨by omega, ?_⟩
        rw [← h2]; congr 1; omega
    refine stretchX (Q := Q) (L := I i :: L) (n := n + n2) hg hN (fun _ => true) (fun j => Nat.beq j d) (fun i j h1 h2 _ h4 h5 => ?_) (by rw [List.length_drop] at f0; omega) (m := mm ++ m2) (A0 := lookO EO) (by simp [hmm1, f1]) hmmi (fun a x b hab => ?_) ?_ _ φ1 a1 w1 l1 rfl hc1 hlo1 (fun j hj hj' => hhi1 j (by omega) hj') (fun j hj => by rw [Nat.eq_of_beq_eq_true hj]; exact hld) (st2.congr fun s => ?_)
    · have h6 := List.all_eq_true.1 hS (i - k) (List.mem_range.2 (by omega))
      have h7 := List.all_eq_true.1 h6 j (List.mem_range.2 h5)
      rw [blt_ff h4, Bool.false_or, show k + (i - k) = i by omega] at h7; exact h7
    · have hq : (mm ++ m2)[a.length]? = some x := by rw [hab, List.getElem?_append_right (Nat.le_refl _)]; simp
      have ha : a = (mm ++ m2).take a.length := by rw [hab]; simp
      rcases Nat.lt_or_ge a.length n with hj | hj
      · rw [List.getElem?_append_left (by omega)] at hq
        rw [List.take_append_of_le_length (by omega)] at ha
        obtain ⟨y, h1, rfl⟩ := hmm _ x hq
        have hy := List.mem_of_getElem? h1
        have hyl : a.length < m.length := (List.getElem?_eq_some_iff.1 h1).1
        have hsp : m = m.take a.length ++ y :: m.drop (a.length + 1) := by
          have h2 : m.drop a.length = y :: m.drop (a.length + 1) := by
            rw [List.drop_eq_getElem_cons hyl]
            congr 1
            rw [List.getElem?_eq_getElem hyl] at h1
            exact Option.some.inj h1
          rw [← h2, List.take_append_drop]
        obtain ⟨g1, g2⟩ := e3 _ y _ hsp
        rw [ha]
        refine ⟨fun hdd => ?_, fun s hs => ?_⟩
        · have hne : y.i ≠ d := fun e => by rw [(htio y).1, e] at hdd; simp at hdd
          rw [htl y hne]
          refine g1.more.congr fun s hs => (haway _ _ s ?_).symm
          rintro rfl
          rcases hs with hs | hs
          · obtain ⟨h2, h3⟩ := hmi _ y h1
            exact hnt y.i y.o (by omega) (by omega) hne (by rw [h2]; exact h3) (List.mem_append_left _ hs)
          · exact hkt y hy hs
        · rw [htk y] at hs
          have hst : s ≠ t := fun e => hkt y hy (by rw [hs, e])
          obtain ⟨⟨g3, ι', val', I', g4⟩, g5⟩ := g2 s hs
          rw [(htio y).1, (htio y).2]
          exact ⟨⟨g3, ι', val', I', by rw [← haway _ _ s hst]; exact g4⟩, g5⟩
      · rw [List.getElem?_append_right (by omega), hmm1] at hq
        have hyl : a.length - n < m2.length := (List.getElem?_eq_some_iff.1 hq).1
        have hsp : m2 = m2.take (a.length - n) ++ x :: m2.drop (a.length - n + 1) := by
          have h2 : m2.drop (a.length - n) = x :: m2.drop (a.length - n + 1) := by
            rw [List.drop_eq_getElem_cons hyl]
            congr 1
            rw [List.getElem?_eq_getElem hyl] at hq
            exact Option.some.inj hq
          rw [← h2, List.take_append_drop]
        have h3 := f3 _ x _ hsp
        rw [List.take_append, List.take_of_length_le (by omega), hmm1] at ha
        rw [ha, acc_append, hAll]
        exact ⟨fun _ => h3.1, h3.2⟩
    · intro φ2 a2 w2 l2 hc2 hlo2 hhi2 hsp2 st3
      have hl2 : ∀ j, k ≤ j → j < k + (n + n2) → l2.getD j false = true := fun j h1 h2 => by
        have h3 := hsp2 j h1 h2 rfl
        have h4 : j < l2.size := by rw [hc2.size]; rw [List.length_drop] at f0; omega
        simp [h4] at h3 ⊢; exact h3
      have st4 := st3.congr (B := lookO E2) fun s => by
        rw [f4, ← hAll, ← acc_append]
        refine acc_congr rfl fun x hx _ => ?_
        obtain ⟨j, hj⟩ := List.mem_iff_getElem?.1 hx
        have hjl : j < (mm ++ m2).length := (List.getElem?_eq_some_iff.1 hj).1
        rw [List.length_append, hmm1, f1] at hjl
        rw [(hmmi j x hj).1]
        exact hl2 _ (by omega) (by omega)
      obtain ⟨E3, M, g1, g2⟩ := st4.open_ f5 f6
      rw [List.length_drop] at f0
      refine g1 hg hN (by rw [List.length_drop, List.length_drop]; omega) (fun j => ?_) φ2 a2 w2 l2 ⟨hc2, fun j hj => ⟨fun h => ?_, fun h => ?_⟩⟩ g2
      · rw [List.getElem?_drop, List.getElem?_drop, hrest]; congr 1; omega
      · rcases Nat.lt_or_ge j (k + n + n2) with h' | h'
        · exact h'
        · have := hhi2 j (by omega) hj; rw [h] at this; cases this
      · rcases Nat.lt_or_ge j k with h' | h'
        · exact hlo2 j h'
        · exact hsp2 j h' (by omega) rfl
    · rw [acc_append]
      have h1 : acc (fun i => l1.getD i false) m2 (acc (fun i => l1.getD i false) mm (lookO EO)) s = acc (fun i => l1.getD i false) mm (lookO EO) s := by
        refine acc_skip fun x hx _ => ?_
        obtain ⟨j, hj⟩ := List.mem_iff_getElem?.1 hx
        obtain ⟨h1, h2, _⟩ := f2 j x hj
        have hjl : j < m2.length := (List.getElem?_eq_some_iff.1 hj).1
        rw [h1]
        rw [List.length_drop] at f0
        exact getD_tf (hhi1 _ (by omega) (by omega))
      rw [h1]
      by_cases hs : s = t
      · subst hs
        rw [if_pos rfl, hat _ hld']
      · rw [if_neg hs]; exact hawayA _ s hs
  · refine (acc_skip fun x hx _ => ?_).symm
    obtain ⟨i, hi⟩ := List.mem_iff_getElem?.1 hx
    have hil : i < m.length := (List.getElem?_eq_some_iff.1 hi).1
    obtain ⟨h1, _⟩ := hmi i x hi
    rw [h1]
    exact getD_tf (hnone _ (by omega) (by omega))
theorem JD_float {its : List Item} {Q : Exit → Act → World → Prop} {nd : List Nat} {k : Nat} (n n2 d t : Nat) {rest : List Oper} {E : Env} (hF : floatB ops nd k n d t = true) (hS : stretchB nd ops.size k (n + n2) = true) (hd : ((ops[d]?).bind (·.dst)) = some t)
    (h : JWG P ops c nd (fun kl => kl ≠ some t) (JWX P ops Q c N nd (k + n) n2 (rest.drop n) t L) k n rest (ghosts N its ++ liftE E) L) : JD P ops Q c N nd k rest E (its ++ L) := fun hg hN hk hrest φ a w listed hp st =>
  float_main hg hN hk hrest hF hS hd h hp (SS.startG st)
theorem gT {p : Prop} (h : p := by first | exact trivial | exact nofun | (intro h; injection h with h; exact absurd h (by decide))) : p := h
section
variable {nd : List Nat} {G : Option Tmp → Prop} {K : EnvO → Prop} {k n : Nat} {rest : List Oper} {EO : EnvO} {t : Tmp} {op : Op} {ty : TypeId} {pos : String} {af : Array Edge}
theorem JG_1 {F : VP} (hG : G none) (hs : OpP P c ⟨some t, op, ty, pos, af, none⟩ (vals EO) L F) (h : JWG P ops c nd G K (k + 1) n rest ((t, .v F) :: EO) L) : JWG P ops c nd G K k (n + 1) (⟨some t, op, ty, pos, af, none⟩ :: rest) EO L :=
  ⟨.v F, none, hG, killOk_none, fun φ a w K Q M hm ht hl hk => by
    rw [if_pos (by simp [Region.wanted])]
    obtain rfl : M = [] := ht
    exact hs φ a w K Q hm (evs hm.mem.facts hl) fun φ' v w' hp hf => hk φ' v w' (by rw [res_none]; exact ⟨hp, hf⟩), h⟩
theorem JG_n {ι : Type} {val : ι → Value} {I : ι → Item} (hG : G none) (hs : OpN P c ⟨some t, op, ty, pos, af, none⟩ (vals EO) L val I) (h : JWG P ops c nd G K (k + 1) n rest ((t, .own val I) :: EO) L) : JWG P ops c nd G K k (n + 1) (⟨some t, op, ty, pos, af, none⟩ :: rest) EO L :=
  ⟨.own val I, none, hG, killOk_none, fun φ a w K Q M hm ht hl hk => by
    rw [if_pos (by simp [Region.wanted])]
    obtain rfl : M = [] := ht
    exact hs φ a w K Q hm (evs hm.mem.facts hl) fun i φ' w' hp => hk φ' _ w' ⟨i, res_none _ _ _, hp⟩, h⟩
theorem JG_g {s : Tmp} {it it' : Item} {F : Unit → VP} (hG : G (some s)) (hl : lookO EO s = some (.own (fun _ : Unit => undef) (fun _ => it))) (hB : (killB ops nd k s && storeB ops nd k ⟨none, op, ty, pos, af, none⟩ s) = true)
    (hs : ∀ c' : Ctx, OpS P c' ⟨none, op, ty, pos, af, none⟩ (vals EO) [it] F (fun _ => [it'])) (h : JWG P ops c nd G K (k + 1) n rest ((s, .own (fun _ : Unit => undef) (fun _ => it')) :: killE EO (some s)) L) : JWG P ops c nd G K k (n + 1) (⟨none, op, ty, pos, af, none⟩ :: rest) EO L := by
  simp only [Bool.and_eq_true] at hB
  refine ⟨.own (fun _ : Unit => undef) (fun _ => it'), some s, hG, fun s' hs' => ?_, fun φ a w K Q M hm ht hlk hk => ?_, h⟩
  · injection hs' with hs'
    subst hs'
    exact ⟨⟨.inr rfl, _, _, _, hl⟩, fun j x h1 h2 h3 => h2.elim (fun h2 => killB_spec hB.1 j x h1 h2 h3) (fun h2 => storeB_spec hB.2 h2.1 j x h1 h2.2.2 h3)⟩
  · rw [if_pos (by simp [Region.wanted])]
    obtain ⟨_, κ', val0, I0, i, h1, h2, rfl⟩ := ht
    rw [hl] at h1
    injection h1 with h1
    cases h1
    have he := evs (fun it hi => hm.mem.facts it (List.mem_cons_of_mem _ hi)) hlk
    have hm1 : HP ⟨w, φ, names [it], []⟩ φ [it] w := HP.start ⟨hm.mem.base, fun x hx => by rw [List.mem_singleton] at hx; subst hx; exact hm.mem.items _ (List.mem_cons_self ..), List.pairwise_singleton _ _⟩
    refine hs ⟨w, φ, names [it], []⟩ φ a w K Q hm1 (fun x hx B hB => ?_) fun _ φ' v w' _ _ hm' => hk φ' v w' ⟨(), by rw [res_kl rfl]; exact h2, hm'⟩
    obtain ⟨D, h1, h2⟩ := hB
    exact h2 _ _ hm1.mem.facts (he x hx D (.rfl' h1))
end
end
end Go.Proofs.YtfglhiciagmicaaGreat

/- Rules: make of a row of elements of several cells. Own work. -/
namespace Go.Proofs.YtfglhiciagmicaaGreat
open Go.RowKit
set_option linter.unusedVariables false
set_option linter.unusedSimpArgs false
theorem made_listN (vs : List Value) (hk : 0 < vs.length) : ∀ n : Nat, (madeCells vs.toArray (n * vs.length)).toList = (List.replicate n vs).flatten
  | 0 => by simp [madeCells]
  | n + 1 => by
    have ih := made_listN vs hk n
    simp only [madeCells, Array.toList_map, Array.toList_range] at ih ⊢
    rw [show (n + 1) * vs.length = vs.length + n * vs.length by rw [Nat.add_mul, Nat.one_mul, Nat.add_comm], List.range_add, List.map_append, List.replicate_succ, List.flatten_cons, ← ih]
    congr 1
    · apply List.ext_getElem
      · simp
      · intro i h1 h2
        simp at h1
        simp [Nat.mod_eq_of_lt h1, h1]
    · rw [List.map_map]
      refine List.map_congr_left fun i hi => ?_
      simp [Function.comp]
theorem alls_repN {φ : Fz} {Bs : List VP} {vs : List Value} (h : Alls φ Bs vs) : ∀ n, Alls φ (List.replicate n Bs).flatten (List.replicate n vs).flatten
  | 0 => trivial
  | n + 1 => by rw [List.replicate_succ, List.replicate_succ, List.flatten_cons, List.flatten_cons]; exact h.append (alls_repN h n)
section
variable {P : Program} {c : Ctx} {A : Nat → Option VP} {L : List Item} {d : Option Tmp} {ty : TypeId} {pos : String} {af : Array Edge} {g : Option (Nat × Bool)} {x y : Operand} {t e : TypeId} {α : Type}
theorem op_makeRowN (T : Ty α) (z0 : α) (vs : List Value) {z : Value} {bytes n sz : Nat} {k k' : IntKind} (hx : Ev A L x (Is (.int k (n : Int)))) (hy : Ev A L y (Is (.int k' (n : Int)))) (hT : ∀ φ, Alls φ (T.cells z0) vs) (hu : P.underlying t = some (.slice e))
    (hinfo : (P.info? e).map (fun i => (i.zero, i.size, i.bytes)) = some (some z, sz, bytes)) (hs : T.size = sz) (hz1 : z.cells = vs.toArray) (ho : (vs.all Value.oneCell') = true) (hb : Nat.ble bytes 100000 = true) (hn : n ≤ 1048576) (hp : 0 < sz) :
    OpN P c ⟨d, .makeSlice t x y, ty, pos, af, g⟩ A L (fun b : Nat => slV n (some ⟨b, 0, none⟩, n)) (fun b => buf (slV n (some ⟨b, 0, none⟩, n)) e T (List.replicate n z0)) := by
  intro φ a w K Q hm he hk
  have h1 : a.eval x = .int k (n : Int) := he x (by simp [Op.operands]) _ hx
  have h2 : a.eval y = .int k' (n : Int) := he y (by simp [Op.operands]) _ hy
  have hb' := Nat.le_of_ble_eq_true hb
  have hby := Nat.mul_le_mul hb' hn
  have hvl : vs.length = T.size := by rw [← (hT φ).len]; exact T.len z0
  obtain ⟨i, hi, hzz⟩ := Option.map_eq_some_iff.1 hinfo
  simp only [Prod.mk.injEq] at hzz
  obtain ⟨hz, hsi, hbi⟩ := hzz
  have hb'' : (i.bytes : Int) * (n : Int) ≤ 281474976710656 := by
    have h : ((i.bytes * n : Nat) : Int) ≤ 281474976710656 := by rw [hbi]; omega
    rwa [Int.natCast_mul] at h
  have hr := run_make (P := P) w t e i z hu hi hz k k' n n (by omega) (Int.le_refl _) hb'' (by omega)
  simp only [Int.toNat_natCast, hsi, hz1] at hr
  have hrun : (execOp a.eval ⟨d, .makeSlice t x y, ty, pos, af, g⟩).run P w = .ok (.value (.slice (some ⟨w.heap.size, 0, none⟩) n n)) (w.alloc (.cells (madeCells vs.toArray (n * sz)) e)) := by
    simp only [execOp, h1, h2]
    exact run_val hr
  unfold Oper.wp
  rw [hrun]
  have hflat : (List.replicate n z0).flatMap T.cells = (List.replicate n (T.cells z0)).flatten := by rw [List.flatMap_def, List.map_replicate]
  have hml := made_listN vs (by omega) n
  rw [hvl, hs] at hml
  refine hk w.heap.size φ _ (hp_new (b := 0) hm rfl ⟨(List.replicate n vs).flatten, by simp [hvl], by rw [hflat]; exact alls_repN (hT φ) n, fun u hu => ?_, .inr ⟨w.heap.size, n, madeCells vs.toArray (n * sz), by simp [slV], rfl, by simp, by unfold maxLen; omega, by simp [madeCells, hs], ?_⟩⟩)
  · obtain ⟨l, h3, h4⟩ := List.mem_flatten.1 hu
    rw [(List.mem_replicate.1 h3).2] at h4
    exact List.all_eq_true.1 ho u h4
  · rw [hml]
    refine List.take_of_length_le ?_
    rw [List.length_flatten, List.map_replicate, List.sum_replicate_nat, List.length_replicate, hvl]
    exact Nat.le_refl _
/-- Of an address it is known that it is one. -/
theorem op_nilSome {i : Option Addr × Nat} {o gg cap : Nat} (hi : i = (some ⟨gg, 0, none⟩, cap)) (hx : Ev A L x (Is (bpt i o))) : OpP P c ⟨d, .nilCheck x, ty, pos, af, g⟩ A L (Is (bpt i o)) := by
  subst hi; exact op_nilCheck hx
theorem op_fieldSome {i : Option Addr × Nat} {o gg cap : Nat} {s : TypeId} {f0 m k : Nat} {fs : Array Field} {f : Field} (hi : i = (some ⟨gg, 0, none⟩, cap)) (hx : Ev A L x (Is (bpt i o))) (hu : P.underlying s = some (.struct fs)) (hf : fs[f0]? = some f) (hn : (P.info? f.type).map (·.size) = some (m + 1)) (hk : f.offset = k) :
    OpP P c ⟨d, .fieldAddr s x f0, ty, pos, af, g⟩ A L (Is (bpt i (o + k))) := by
  subst hi; exact op_fieldPtr hx hu hf hn hk
end
end Go.Proofs.YtfglhiciagmicaaGreat

/- Contracts: a batch is posted on a fabric. Own work. -/
namespace Go.Proofs.YtfglhiciagmicaaGreat
open Go.RowKit
set_option linter.unusedVariables false
set_option linter.unusedSimpArgs false
set_option maxRecDepth 100000
/-- The queues behind i verbs. -/
structure PInv (n i : Nat) (prs : List Pr) : Prop where
  len : prs.length = n
  cl : ∀ (j : Nat) (pr : Pr), prs[j]? = some pr → pr.client = 0 ∧ pr.node = (j : Int) ∧ pr.q.length ≤ i
  inq : ∀ (j : Nat) (pr : Pr) (x : Pd), prs[j]? = some pr → x ∈ pr.q → InQ x ∧ 0 ≤ x.slot ∧ x.slot < (i : Int)
  all : ∀ s : Nat, s < i → ∃ (j : Nat) (pr : Pr) (x : Pd), prs[j]? = some pr ∧ x ∈ pr.q ∧ x.slot = (s : Int)
theorem PInv.start {n : Nat} : PInv n 0 (pairsV 1 n) := by
  have hp : ∀ (j : Nat) (pr : Pr), (pairsV 1 n)[j]? = some pr → pr = ⟨0, 1, (j : Int), []⟩ := fun j pr h => by
    unfold pairsV at h
    rw [List.getElem?_map] at h
    obtain ⟨k, h1, h2⟩ := Option.map_eq_some_iff.1 h
    have h3 := List.getElem?_eq_some_iff.1 h1
    obtain ⟨h4, h5⟩ := h3
    rw [List.getElem_range] at h5
    subst h5
    exact h2.symm
  refine ⟨by simp [pairsV], fun j pr h => ?_, fun j pr x h hx => ?_, fun s hs => absurd hs (by omega)⟩
  · rw [hp j pr h]; exact ⟨rfl, rfl, Nat.le_refl _⟩
  · rw [hp j pr h] at hx; cases hx
theorem PInv.step {n i k : Nat} {prs : List Pr} {pr : Pr} {v : GVerb} (h : PInv n i prs) (hz : prs[k]? = some pr) (hv : GoodV v 5 98) (hw : v.words.length ≤ 1024) : PInv n (i + 1) (prs.set k (pr.withQ (pr.q ++ [⟨v, 0, [], (i : Int)⟩]))) := by
  have hk := (List.getElem?_eq_some_iff.1 hz).1
  have key : ∀ (j : Nat) (p : Pr), (prs.set k (pr.withQ (pr.q ++ [⟨v, 0, [], (i : Int)⟩])))[j]? = some p → (j = k ∧ p = pr.withQ (pr.q ++ [⟨v, 0, [], (i : Int)⟩])) ∨ (j ≠ k ∧ prs[j]? = some p) := fun j p hj => by
    rw [List.getElem?_set] at hj
    split at hj
    · rename_i e
      (try rw [if_pos hk] at hj)
      injection hj with hj
      exact .inl ⟨e.symm, hj.symm⟩
    · rename_i e
      exact .inr ⟨fun e' => e e'.symm, hj⟩
  have hnew : InQ (⟨v, 0, [], (i : Int)⟩ : Pd) := ⟨hv, Int.le_refl _, by have := pcs_pos (f := 1024) (at_ := v.at_) (left := cntV v) (by omega) (by have := hv.cnt; omega); unfold piecesV; dsimp only; omega, hw, by simp⟩
  refine ⟨by simp [h.len], fun j p hj => ?_, fun j p x hj hx => ?_, fun s hs => ?_⟩
  · rcases key j p hj with ⟨e, rfl⟩ | ⟨e, hj⟩
    · subst e
      obtain ⟨h1, h2, h3⟩ := h.cl j pr hz
      exact ⟨h1, h2, by simp [Pr.withQ]; exact h3⟩
    · obtain ⟨h1, h2, h3⟩ := h.cl j p hj
      exact ⟨h1, h2, by omega⟩
  · rcases key j p hj with ⟨e, rfl⟩ | ⟨e, hj⟩
    · subst e
      have hx' : x ∈ pr.q ++ [⟨v, 0, [], (i : Int)⟩] := hx
      rcases List.mem_append.1 hx' with hx' | hx'
      · obtain ⟨h1, h2, h3⟩ := h.inq j pr x hz hx'
        exact ⟨h1, h2, by omega⟩
      · rw [List.mem_singleton] at hx'
        subst hx'
        exact ⟨hnew, by dsimp only; omega, by dsimp only; omega⟩
    · obtain ⟨h1, h2, h3⟩ := h.inq j p x hj hx
      exact ⟨h1, h2, by omega⟩
  · by_cases hsi : s = i
    · subst hsi
      exact ⟨k, _, ⟨v, 0, [], (s : Int)⟩, by rw [List.getElem?_set_self hk], by simp [Pr.withQ], rfl⟩
    · obtain ⟨j, p, x, h1, h2, h3⟩ := h.all s (by omega)
      by_cases hj : j = k
      · subst hj
        rw [hz] at h1
        injection h1 with h1
        subst h1
        exact ⟨j, _, x, by rw [List.getElem?_set_self hk], by show x ∈ pr.q ++ _; exact List.mem_append_left _ h2, h3⟩
      · exact ⟨j, p, x, by rw [List.getElem?_set_ne (Ne.symm hj)]; exact h1, h2, h3⟩
theorem lessM {M L : List Item} (h : SubP M L := by repeat (first | exact SubP.refl' _ | exact SubP.nil _ | refine SubP.cons (by repeat (first | exact Drop1.here _ _ | apply Drop1.next)) ?_ | apply SubP.skip)) : SubP M L := h
structure PoZ where
  code : Int
  da : WA
  ha : WA
  prs : List Pr
def dn0 : Dn := ⟨0, []⟩
/-- The fabric of the laws while a batch of m verbs is under way. -/
@[reducible] def fabB (f n m : Nat) (nb cb lb pb da ha : WA) (nds : List FN) (prs : List Pr) (ds : List Dn) (hs : List Bool) : List Item :=
  buf (slV m da) 110 tDn ds :: buf (slV m ha) 4 tBl hs :: fabL f n nb cb lb pb nds (cnOn m da ha 1 m) prs
-- (*bodegaref6.Fabric).Post: function 75
set_option maxHeartbeats 4000000 in
theorem Post_ok (f n : Nat) (hn1 : 1 ≤ n) (hn : n ≤ 5) (nb cb lb pb : WA) (nds : List FN) (hl : nds.length = n) (l : List GVerb) (hlw : ∀ v, v ∈ l → v.words.length ≤ 1024) :
    Fn Tryz.prog 75 [Is (.pointer (some ⟨f, 0, none⟩)), Is (.int .i64 0), IsSl tGVerb l] (fabL f n nb cb lb pb nds cn0 (pairsV 1 n))
    (fun z : {z : PoZ // z.code = 0 → PInv n l.length z.prs ∧ 1 ≤ l.length ∧ l.length ≤ 1024} => Is (.int .i64 z.1.code))
    (fun z => if z.1.code = 0 then fabB f n l.length nb cb lb pb z.1.da z.1.ha nds z.1.prs (List.replicate l.length dn0) (List.replicate l.length false) else []) := by
  have hz0 : [cn0][0]? = some cn0 := rfl
  have hzl : [slV n pb][0]? = some (slV n pb) := rfl
  refine Fn.enterN Tryz.func75 Tryz.ntmps75 rfl rfl ?_
  intro c hX
  refine JC_seq ?_
  refine JC_region ?_
  refine JL_1 rfl (op_assign rfl) ?_
  refine JL_nil ?_
  refine JQ_then (JC_seq (JC_block (JC_seq ?_)))
  refine JC_region ?_
  refine JL_1 rfl (op_move rfl) ?_
  refine JL_1 rfl (op_move rfl) ?_
  (refine JL_s rfl (op_callM (Drops.cons drop1A (Drops.cons drop1A (Drops.nil _))) Tryz.call90 (alive_ok f n nb cb lb cn0) ⟨evS, ⟨evS, trivial⟩⟩) ?_; intro i14)
  refine JL_1 rfl (op_not (Ev.rfl' rfl)) ?_
  refine JL_1 rfl (op_assign rfl) ?_
  refine JL_nil ?_
  refine JQ_then ?_
  refine JC_cond (Ev.rfl' rfl) (fun h1 => ?_) (fun h1 => ?_)
  · exact absurd h1 (by simp [cn0])
  refine JC_seq ?_
  refine JC_region ?_
  refine JL_1 rfl (op_move rfl) ?_
  refine JL_1 rfl (by exact op_nilCheck (Ev.rfl' rfl)) ?_
  refine JL_1 rfl (by exact op_fieldPtr (k := 2) (Ev.rfl' rfl) rfl rfl rfl rfl) ?_
  refine JL_1 rfl (by exact op_loadPtr (Ev.rfl' rfl) memT (by rfl) (by rfl) (by rfl)) ?_
  refine JL_1 rfl (op_move rfl) ?_
  refine JL_1 rfl (by exact op_indexBuf (k := 0) (Ev.rfl' rfl) memT (Ev.rfl' rfl) rfl rfl idxT lenT) ?_
  refine JL_1 rfl (by exact op_fieldBuf (k := 2) (Ev.rfl' rfl) memT lenT rfl rfl rfl rfl) ?_
  refine JL_1 rfl (by exact op_loadBuf (Ev.rfl' rfl) memT hz0 rfl rfl (by rfl)) ?_
  refine JL_1 rfl (op_assign rfl) ?_
  refine JL_nil ?_
  refine JQ_then ?_
  refine JC_cond (Ev.rfl' rfl) (fun h3 => ?_) (fun h3 => ?_)
  · exact absurd h3 (by simp [cn0])
  refine JC_seq ?_
  refine JC_region ?_
  refine JL_1 rfl (op_move rfl) ?_
  refine JL_1 rfl (by exact op_len (Ev.rfl' rfl) rfl) ?_
  refine JL_1 rfl (op_eql (Ev.rfl' rfl) (Ev.rfl' rfl)) ?_
  refine JL_1 rfl (op_assign rfl) ?_
  refine JL_nil ?_
  refine JQ_then ?_
  refine JC_cond (Ev.rfl' rfl) (fun h5 => ?_) (fun h5 => ?_)
  · refine JC_seq ?_
    refine JC_region ?_
    refine JL_1 rfl (op_assign rfl) ?_
    refine JL_nil ?_
    refine JQ_then (JC_ret (JQ_block_ret (JQ_then_ret ?_)))
    exact JQ_retP (Bs := [Is (.int .i64 1)]) Tryz.results75 ⟨⟨_, rfl, subT⟩, trivial⟩ ⟨⟨1, (none, 0), (none, 0), []⟩, fun h => absurd h (by decide)⟩ SubL.rfl' (by rw [if_neg (by dsimp only; decide)]; exact SubP.nil _)
  have hl0 : 1 ≤ l.length := by simp at h5; rcases l with _ | _ <;> simp at h5 ⊢
  clear h5
  refine JC_seq ?_
  refine JC_region ?_
  refine JL_1 rfl (op_move rfl) ?_
  refine JL_1 rfl (by exact op_len (Ev.rfl' rfl) rfl) ?_
  refine JL_1 rfl (op_gtr (Ev.rfl' rfl) (Ev.rfl' rfl)) ?_
  refine JL_1 rfl (op_assign rfl) ?_
  refine JL_nil ?_
  refine JQ_then ?_
  refine JC_cond (Ev.rfl' rfl) (fun h7 => ?_) (fun h7 => ?_)
  · refine JC_seq ?_
    refine JC_region ?_
    refine JL_1 rfl (op_assign rfl) ?_
    refine JL_nil ?_
    refine JQ_then (JC_ret (JQ_block_ret (JQ_then_ret ?_)))
    exact JQ_retP (Bs := [Is (.int .i64 18)]) Tryz.results75 ⟨⟨_, rfl, subT⟩, trivial⟩ ⟨⟨18, (none, 0), (none, 0), []⟩, fun h => absurd h (by decide)⟩ SubL.rfl' (by rw [if_neg (by dsimp only; decide)]; exact SubP.nil _)
  have hl1 : l.length ≤ 1024 := by simp at h7; omega
  clear h7
  refine JC_skip (JQ_block (JQ_then (JC_seq (JC_seq ?_))))
  refine JC_region ?_
  refine JL_1 rfl (op_assign rfl) ?_
  refine JL_nil ?_
  refine JQ_then (JC_block ?_)
  refine JC_loopP (fun i : Nat => i ≤ l.length ∧ ∀ v, v ∈ l.take i → GoodV v n 98) (fun i => [(0, Is (.pointer (some ⟨f, 0, none⟩))), (1, Is (.int .i64 0)), (2, IsSl tGVerb l), (7, Is (.int .i64 (i : Nat)))]) (fun _ => fabL f n nb cb lb pb nds cn0 (pairsV 1 n)) (fun i => l.length - i) 0 ⟨Nat.zero_le _, fun v hv => by simp at hv⟩ esubT lessM ?_
  rintro i ⟨hi, hgv⟩
  refine JC_seq (JC_seq ?_)
  refine JC_region ?_
  refine JL_1 rfl (op_move rfl) ?_
  refine JL_1 rfl (op_move rfl) ?_
  refine JL_1 rfl (by exact op_len (Ev.rfl' rfl) rfl) ?_
  refine JL_1 rfl (op_lss (Ev.rfl' rfl) (Ev.rfl' rfl)) ?_
  refine JL_nil ?_
  refine JQ_then ?_
  refine JC_cond (Ev.rfl' rfl) (fun h10 => ?_) (fun h10 => ?_)
  · have hlt : i < l.length := by have := of_decide_eq_true h10; omega
    clear h10
    obtain ⟨v, hx⟩ : ∃ v, l[i]? = some v := ⟨_, List.getElem?_eq_getElem hlt⟩
    refine JC_skip (JQ_then (JC_seq (JC_block (JC_seq ?_))))
    refine JC_dr rfl (by kernel_rfl) ?_
    refine JD_stretch 15 (by kernel_rfl) ?_
    refine JW_1 (op_move rfl) ?_
    refine JW_1 (op_move rfl) ?_
    refine JW_1 (by exact op_index (j := i) (Ev.rfl' rfl) (Ev.rfl' rfl) rfl rfl (by rfl) hx) ?_
    refine JW_1 (by exact op_loadRefsN (n := 9) (Ev.rfl' rfl) rfl rfl rfl (by rfl) nrmT) ?_
    refine JW_1 (op_move rfl) ?_
    refine JW_1 (by exact op_nilCheck (Ev.rfl' rfl)) ?_
    refine JW_1 (by exact op_fieldPtr (k := 1) (Ev.rfl' rfl) rfl rfl rfl rfl) ?_
    refine JW_1 (by exact op_loadPtr (Ev.rfl' rfl) memT (by rfl) (by rfl) (by rfl)) ?_
    refine JW_1 (by exact op_lenLit (Ev.rfl' rfl) rfl) ?_
    refine JW_1 (op_move rfl) ?_
    refine JW_1 (by exact op_nilCheck (Ev.rfl' rfl)) ?_
    refine JW_1 (by exact op_fieldPtr (k := 0) (Ev.rfl' rfl) rfl rfl rfl rfl) ?_
    refine JW_1 (by exact op_loadPtr (Ev.rfl' rfl) memT (by rfl) (by rfl) (by rfl)) ?_
    refine JW_1 (op_call Tryz.call91 (ValidVR_ok _ _ _) ⟨evS, ⟨evS, ⟨evS, trivial⟩⟩⟩) ?_
    refine JW_1 (op_assign rfl) ?_
    refine ⟨rfl, ?_⟩
    refine JD_end ?_
    refine JQ_then (JC_seq ?_)
    refine JC_ex (R := fun z : {z : Int // z = 0 ↔ GoodV v n 98} => Is (.int .i64 z.1)) 8 rfl (fun z => ?_)
    obtain ⟨z, hz⟩ := z
    refine JC_region ?_
    refine JL_1 rfl (op_move rfl) ?_
    refine JL_1 rfl (op_neq (Ev.rfl' rfl) (Ev.rfl' rfl)) ?_
    refine JL_nil ?_
    refine JQ_then ?_
    refine JC_cond (Ev.rfl' rfl) (fun h13 => ?_) (fun h13 => ?_)
    · have hz0' : z ≠ 0 := by simpa using h13
      refine JC_seq ?_
      refine JC_region ?_
      refine JL_1 rfl (op_move rfl) ?_
      refine JL_1 rfl (op_assign rfl) ?_
      refine JL_nil ?_
      refine JQ_then (JC_ret (JQ_block_ret (JQ_then_ret (JQ_then_ret (JQ_block_ret (JQ_then_ret ?_))))))
      exact JQ_retP (Bs := [Is (.int .i64 z)]) Tryz.results75 ⟨⟨_, rfl, subT⟩, trivial⟩ ⟨⟨z, (none, 0), (none, 0), []⟩, fun h => absurd h hz0'⟩ SubL.rfl' (by rw [if_neg hz0']; exact SubP.nil _)
    have hgz : GoodV v n 98 := hz.1 (by simpa using h13)
    refine JC_skip (JQ_block (JQ_then ?_))
    refine JC_region ?_
    refine JL_1 rfl (op_move rfl) ?_
    refine JL_1 rfl (op_add (Ev.rfl' rfl) (Ev.rfl' rfl) wrapT) ?_
    refine JL_1 rfl (op_assign rfl) ?_
    refine JL_nil ?_
    exact JQ_roundP (i + 1) ⟨by omega, fun u hu => by rw [take_add1 hx] at hu; rcases List.mem_append.1 hu with hu | hu; exact hgv u hu; rw [List.mem_singleton] at hu; rw [hu]; exact hgz⟩ (by omega) esubT lessM
  have hie : i = l.length := by have := of_decide_eq_false h10; omega
  clear h10
  rw [hie, List.take_length] at hgv
  refine JC_exit (JQ_then_exit (JQ_then_exit (JQ_hit (JQ_then (JC_seq (JC_seq ?_))))))
  refine JC_region ?_
  refine JL_1 rfl (op_assign rfl) ?_
  refine JL_nil ?_
  refine JQ_then (JC_block ?_)
  refine JC_loopP (fun u : Nat × List Pr => u.1 ≤ l.length ∧ PInv n u.1 u.2) (fun u => [(0, Is (.pointer (some ⟨f, 0, none⟩))), (1, Is (.int .i64 0)), (2, IsSl tGVerb l), (9, Is (.int .i64 (u.1 : Nat)))]) (fun u => fabL f n nb cb lb pb nds cn0 u.2) (fun u => l.length - u.1) (0, pairsV 1 n) ⟨Nat.zero_le _, PInv.start⟩ esubT lessM ?_
  rintro ⟨i2, prs⟩ ⟨hi2, hpi⟩
  dsimp only at hi2 hpi ⊢
  refine JC_seq (JC_seq ?_)
  refine JC_region ?_
  refine JL_1 rfl (op_move rfl) ?_
  refine JL_1 rfl (op_move rfl) ?_
  refine JL_1 rfl (by exact op_len (Ev.rfl' rfl) rfl) ?_
  refine JL_1 rfl (op_lss (Ev.rfl' rfl) (Ev.rfl' rfl)) ?_
  refine JL_nil ?_
  refine JQ_then ?_
  refine JC_cond (Ev.rfl' rfl) (fun h16 => ?_) (fun h16 => ?_)
  · have hlt : i2 < l.length := by have := of_decide_eq_true h16; omega
    clear h16
    obtain ⟨v, hx⟩ : ∃ v, l[i2]? = some v := ⟨_, List.getElem?_eq_getElem hlt⟩
    have hvl := List.mem_of_getElem? hx
    have hgz := hgv v hvl
    have hnd := hgz.nd
    obtain ⟨k, hk⟩ : ∃ k : Nat, (k : Int) = v.node := ⟨v.node.toNat, by omega⟩
    have hplen := hpi.len
    obtain ⟨pr, hz⟩ : ∃ pr, prs[k]? = some pr := ⟨_, List.getElem?_eq_getElem (by omega)⟩
    obtain ⟨hc1, hc2, hc3⟩ := hpi.cl k pr hz
    have hpp := PairPost_ok n pb prs k pr hz v (hgz.more ⟨by omega, by omega⟩) (by omega) (by omega) (hlw v hvl) (i2 : Nat)
    refine JC_skip (JQ_then (JC_seq (JC_block ?_)))
    refine JC_dr rfl (by kernel_rfl) ?_
    refine JD_stretch 22 (by kernel_rfl) ?_
    refine JW_1 (op_move rfl) ?_
    refine JW_1 (by exact op_nilCheck (Ev.rfl' rfl)) ?_
    refine JW_1 (by exact op_fieldPtr (k := 3) (Ev.rfl' rfl) rfl rfl rfl rfl) ?_
    refine JW_1 (by exact op_loadPtr (Ev.rfl' rfl) memT (by rfl) (by rfl) (by rfl)) ?_
    refine JW_1 (op_move rfl) ?_
    refine JW_1 (by exact op_indexBuf (k := 0) (Ev.rfl' rfl) memT (Ev.rfl' rfl) rfl rfl idxT lenT) ?_
    refine JW_1 (by exact op_loadBuf0 (Ev.rfl' rfl) memT hzl rfl rfl (by rfl)) ?_
    refine JW_1 (op_move rfl) ?_
    refine JW_1 (op_move rfl) ?_
    refine JW_1 (by exact op_index (j := i2) (Ev.rfl' rfl) (Ev.rfl' rfl) rfl rfl (by rfl) hx) ?_
    refine JW_1 (by exact op_fieldRefN (k := 1) (Ev.rfl' rfl) rfl rfl rfl rfl nrmT) ?_
    refine JW_1 (by exact op_loadRef (Ev.rfl' rfl) rfl rfl rfl) ?_
    refine JW_1 (by exact op_indexBuf (k := k) (Ev.rfl' rfl) memT (Ev.rfl' rfl) rfl rfl idxT lenT) ?_
    refine JW_1 (op_move rfl) ?_
    refine JW_1 (op_move rfl) ?_
    refine JW_1 (by exact op_index (j := i2) (Ev.rfl' rfl) (Ev.rfl' rfl) rfl rfl (by rfl) hx) ?_
    refine JW_1 (by exact op_loadRefsN (n := 9) (Ev.rfl' rfl) rfl rfl rfl (by rfl) nrmT) ?_
    refine JW_1 (op_move rfl) ?_
    refine JW_1 (by exact op_nilCheck (Ev.rfl' rfl)) ?_
    refine JW_1 (by exact op_fieldPtr (k := 0) (Ev.rfl' rfl) rfl rfl rfl rfl) ?_
    refine JW_1 (by exact op_loadPtr (Ev.rfl' rfl) memT (by rfl) (by rfl) (by rfl)) ?_
    refine JW_1 (op_move rfl) ?_
    refine ⟨rfl, ?_⟩
    (refine JD_s (by kernel_rfl) rfl rfl (op_callM (Drops.cons drop1A (Drops.nil _)) Tryz.call92 (hpp) ⟨evS, ⟨evS, ⟨evS, ⟨evS, trivial⟩⟩⟩⟩) ?_; intro i84)
    refine JD_end ?_
    refine JQ_block (JQ_then ?_)
    refine JC_region ?_
    refine JL_1 rfl (op_move rfl) ?_
    refine JL_1 rfl (op_add (Ev.rfl' rfl) (Ev.rfl' rfl) wrapT) ?_
    refine JL_1 rfl (op_assign rfl) ?_
    refine JL_nil ?_
    exact JQ_roundP (i2 + 1, prs.set k (pr.withQ (pr.q ++ [⟨v, 0, [], (i2 : Nat)⟩]))) ⟨by dsimp only; omega, hpi.step hz (hgz.more ⟨by omega, by omega⟩) (hlw v hvl)⟩ (by dsimp only; omega) esubT lessM
  have hie : i2 = l.length := by have := of_decide_eq_false h16; omega
  clear h16
  subst hie
  refine JC_exit (JQ_then_exit (JQ_then_exit (JQ_hit (JQ_then (JC_seq ?_)))))
  refine JC_region ?_
  refine JL_1 rfl (op_move rfl) ?_
  refine JL_1 rfl (by exact op_nilCheck (Ev.rfl' rfl)) ?_
  refine JL_1 rfl (by exact op_fieldPtr (k := 2) (Ev.rfl' rfl) rfl rfl rfl rfl) ?_
  refine JL_1 rfl (by exact op_loadPtr (Ev.rfl' rfl) memT (by rfl) (by rfl) (by rfl)) ?_
  refine JL_1 rfl (op_move rfl) ?_
  refine JL_1 rfl (by exact op_indexBuf (k := 0) (Ev.rfl' rfl) memT (Ev.rfl' rfl) rfl rfl idxT lenT) ?_
  refine JL_1 rfl (op_assign rfl) ?_
  refine JL_nil ?_
  refine JQ_then (JC_seq ?_)
  refine JC_own (T := tCn) (xs := [cn0]) (i := cb) (n := 1) memT (by decide) (fun gg cap hcb => ?_)
  refine JC_dr rfl (by kernel_rfl) ?_
  refine JD_front (it := buf _ _ tCn _) (by repeat (first | exact Drop1.here _ _ | apply Drop1.next)) ?_
  refine JD_float (its := [_]) 14 1 5 96 (by kernel_rfl) (by kernel_rfl) rfl ?_
  refine JG_1 gT (op_move rfl) ?_
  refine JG_1 gT (op_move rfl) ?_
  refine JG_1 gT (op_move rfl) ?_
  refine JG_1 gT (op_move rfl) ?_
  refine JG_1 gT (by exact op_len (Ev.rfl' rfl) rfl) ?_
  refine JG_n gT (op_makeRowN tDn dn0 [.int .i64 0, .slice none 0 0] (n := l.length) (Ev.rfl' rfl) (Ev.rfl' rfl) (fun φ => ⟨rfl, ⟨none, 0, 0, rfl, rfl, Nat.le_refl _, Nat.zero_le _, .inl rfl⟩, trivial⟩) rfl (by rfl) rfl rfl rfl (by rfl) (by omega) (by decide)) ?_
  refine JG_1 gT (op_move rfl) ?_
  refine JG_1 gT (by exact op_len (Ev.rfl' rfl) rfl) ?_
  refine JG_n gT (op_makeRow tBl false (n := l.length) (Ev.rfl' rfl) (Ev.rfl' rfl) rfl rfl rfl rfl rfl (by rfl) (by omega)) ?_
  refine JG_1 gT (op_nilSome hcb (Ev.rfl' rfl)) ?_
  refine JG_1 gT (op_fieldSome (k := 2) hcb (Ev.rfl' rfl) rfl rfl rfl rfl) ?_
  refine JG_g (s := 124) gT rfl (by kernel_rfl) (fun c' => by exact op_storeBuf (z' := (⟨true, 1, true, .slice none 0 0, .slice none 0 0, 0, 0⟩ : Cn)) (Ev.rfl' rfl) (Ev.rfl' rfl) cellsT replT (show [cn0][0]? = some _ from rfl) rfl (by rfl) (by rfl)) ?_
  refine JG_1 gT (op_nilSome hcb (Ev.rfl' rfl)) ?_
  refine JG_1 gT (op_fieldSome (k := 3) hcb (Ev.rfl' rfl) rfl rfl rfl rfl) ?_
  refine ⟨_, _, _, rfl, fun i96 => ?_⟩
  refine JG_g (s := 124) gT rfl (by kernel_rfl) (fun c' => by exact op_storeBuf (z' := (⟨true, 1, true, (slV l.length (some ⟨i96, 0, none⟩, l.length)), .slice none 0 0, 0, 0⟩ : Cn)) (Ev.rfl' rfl) (Ev.rfl' rfl) cellsT replT (show [(⟨true, 1, true, .slice none 0 0, .slice none 0 0, 0, 0⟩ : Cn)][0]? = some _ from rfl) rfl (by rfl) (by rfl)) ?_
  refine ⟨rfl, ?_⟩
  intro _ i99
  refine JD_stretch 2 (by kernel_rfl) ?_
  refine JW_1 (by exact op_nilBuf (Ev.rfl' rfl) memT lenT) ?_
  refine JW_1 (by exact op_fieldBuf (k := 4) (Ev.rfl' rfl) memT lenT rfl rfl rfl rfl) ?_
  refine ⟨rfl, ?_⟩
  refine JD_s0 (by kernel_rfl) rfl (by exact op_storeBuf (z' := (⟨true, 1, true, (slV l.length (some ⟨i96, 0, none⟩, l.length)), (slV l.length (some ⟨i99, 0, none⟩, l.length)), 0, 0⟩ : Cn)) (Ev.rfl' rfl) (Ev.rfl' rfl) cellsT replT (show [(⟨true, 1, true, (slV l.length (some ⟨i96, 0, none⟩, l.length)), .slice none 0 0, 0, 0⟩ : Cn)][0]? = some _ from rfl) rfl (by rfl) (by rfl)) ?_
  refine JD_end ?_
  refine JQ_then (JC_seq ?_)
  refine JC_dr rfl (by kernel_rfl) ?_
  refine JD_phase [0, 0, 0, 1, 1, 1, 0, 0, 1, 1, 1, 0, 0, 0, 1, 1, 2, 1, 1, 2] (by kernel_rfl) (by kernel_rfl) ?_
  refine PW_0 (op_move rfl) ?_
  refine PW_0 (op_move rfl) ?_
  refine PW_0 (op_move rfl) ?_
  refine PW_1 (by exact op_nilBuf (Ev.rfl' rfl) memT lenT) ?_
  refine PW_1 (by exact op_fieldBuf (k := 5) (Ev.rfl' rfl) memT lenT rfl rfl rfl rfl) ?_
  refine PW_1 (by exact op_loadBuf (Ev.rfl' rfl) memT (show [(⟨true, 1, true, (slV l.length (some ⟨i96, 0, none⟩, l.length)), (slV l.length (some ⟨i99, 0, none⟩, l.length)), 0, 0⟩ : Cn)][0]? = some _ from rfl) rfl rfl (by rfl)) ?_
  refine PW_0 (op_add (Ev.rfl' rfl) (Ev.rfl' rfl) wrapT) ?_
  refine PW_0 (op_move rfl) ?_
  refine PW_1 (by exact op_nilBuf (Ev.rfl' rfl) memT lenT) ?_
  refine PW_1 (by exact op_fieldBuf (k := 6) (Ev.rfl' rfl) memT lenT rfl rfl rfl rfl) ?_
  refine PW_1 (by exact op_loadBuf (Ev.rfl' rfl) memT (show [(⟨true, 1, true, (slV l.length (some ⟨i96, 0, none⟩, l.length)), (slV l.length (some ⟨i99, 0, none⟩, l.length)), 0, 0⟩ : Cn)][0]? = some _ from rfl) rfl rfl (by rfl)) ?_
  refine PW_0 (op_move rfl) ?_
  refine PW_0 (by exact op_len (Ev.rfl' rfl) rfl) ?_
  refine PW_0 (op_add (Ev.rfl' rfl) (Ev.rfl' rfl) ((wI64 (n := (0 : Int) + (l.length : Nat)) (by omega)).trans (Int.zero_add _))) ?_
  refine PW_1 (by exact op_nilBuf (Ev.rfl' rfl) memT lenT) ?_
  refine PW_1 (by exact op_fieldBuf (k := 5) (Ev.rfl' rfl) memT lenT rfl rfl rfl rfl) ?_
  refine PW_2 (by exact op_storeBuf (z' := (⟨true, 1, true, (slV l.length (some ⟨i96, 0, none⟩, l.length)), (slV l.length (some ⟨i99, 0, none⟩, l.length)), 1, 0⟩ : Cn)) (Ev.rfl' rfl) (Ev.rfl' rfl) cellsT replT (show [(⟨true, 1, true, (slV l.length (some ⟨i96, 0, none⟩, l.length)), (slV l.length (some ⟨i99, 0, none⟩, l.length)), 0, 0⟩ : Cn)][0]? = some _ from rfl) rfl (by rfl) (by rfl)) ?_
  refine PW_1 (by exact op_nilBuf (Ev.rfl' rfl) memT lenT) ?_
  refine PW_1 (by exact op_fieldBuf (k := 6) (Ev.rfl' rfl) memT lenT rfl rfl rfl rfl) ?_
  refine PW_2 (by exact op_storeBuf (z' := (⟨true, 1, true, (slV l.length (some ⟨i96, 0, none⟩, l.length)), (slV l.length (some ⟨i99, 0, none⟩, l.length)), 1, (l.length : Nat)⟩ : Cn)) (Ev.rfl' rfl) (Ev.rfl' rfl) cellsT replT (show [(⟨true, 1, true, (slV l.length (some ⟨i96, 0, none⟩, l.length)), (slV l.length (some ⟨i99, 0, none⟩, l.length)), 1, 0⟩ : Cn)][0]? = some _ from rfl) rfl (by rfl) (by rfl)) ?_
  refine PW_end ?_
  refine JD_end ?_
  refine JQ_then (JC_seq ?_)
  refine JC_region ?_
  refine JL_1 rfl (op_assign rfl) ?_
  refine JL_nil ?_
  refine JQ_then (JC_ret ?_)
  exact JQ_retP (Bs := [Is (.int .i64 0)]) Tryz.results75 ⟨⟨_, rfl, subT⟩, trivial⟩ ⟨⟨0, (some ⟨i96, 0, none⟩, l.length), (some ⟨i99, 0, none⟩, l.length), prs⟩, fun _ => ⟨hpi, hl0, hl1⟩⟩ SubL.rfl' (by rw [if_pos rfl]; exact lessM)
end Go.Proofs.YtfglhiciagmicaaGreat
