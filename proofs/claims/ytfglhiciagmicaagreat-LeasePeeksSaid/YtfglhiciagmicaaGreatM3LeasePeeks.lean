/- Texts of this claim, laid together (part 3): walks of functions, what they compute, and plain laws of it. Own work. -/
import Derived.Lib.AppendZerosOnto
import Derived.Test.YtfglhiciagmicaaGreatM2LeasePeeks
/- Contracts: a conversation of one batch. Own work. -/
namespace Go.Proofs.YtfglhiciagmicaaGreat
open Go.RowKit
set_option linter.unusedVariables false
set_option linter.unusedSimpArgs false
set_option maxRecDepth 100000
abbrev Tk := List GVerb × List Dn × Int × Bool
def tkV (vs : List GVerb) : List (List Dn) → Tk
  | [] => (vs, [], 0, false)
  | d :: rest => if fitL vs d = true ∧ rest.length = 0 then ([], d, firV d, true) else ([], [], 6, true)
@[reducible] def IsTk (r : Tk) : VP := IsTup [IsSl tGVerb r.1, IsSl tDn r.2.1, Is (.int .i64 r.2.2.1), Is (.bool r.2.2.2)]
-- lease.talkOnce: function 31
theorem TalkOnce0_ok (vs : List GVerb) (hv : 0 < vs.length) : FnP Tryz.prog 31 [IsSl tGVerb vs, IsSl tDs []] (IsTk (tkV vs [])) := by
  refine FnP.enter Tryz.func31 Tryz.ntmps31 rfl rfl ?_
  intro c hX
  refine JC_seq ?_
  refine JC_region ?_
  refine JL_1 rfl (op_assign rfl) ?_
  refine JL_1 rfl (op_assign rfl) ?_
  refine JL_1 rfl (op_assign rfl) ?_
  refine JL_1 rfl (op_assign rfl) ?_
  refine JL_nil ?_
  refine JQ_then (JC_seq ?_)
  refine JC_region ?_
  refine JL_1 rfl (op_move rfl) ?_
  (refine JL_s rfl (op_callN Tryz.call64 (TalkNew_ok []) ⟨evS, trivial⟩) ?_; intro i13)
  refine JL_1 rfl (op_assign rfl) ?_
  refine JL_nil ?_
  refine JQ_then (JC_seq ?_)
  refine JC_region ?_
  refine JL_1 rfl (op_move rfl) ?_
  refine JL_1 rfl (op_move rfl) ?_
  (refine JL_s rfl (op_callT drop1T Tryz.call65 (Batch0_ok i13 vs hv) ⟨evS, ⟨evS, trivial⟩⟩) ?_; intro i17)
  refine JL_1 rfl (op_move rfl) ?_
  refine JL_1 rfl (op_extract (Ev.rfl' rfl) rfl) ?_
  refine JL_1 rfl (op_extract (Ev.rfl' rfl) rfl) ?_
  refine JL_1 rfl (op_assign rfl) ?_
  refine JL_1 rfl (op_assign rfl) ?_
  refine JL_nil ?_
  refine JQ_then (JC_seq (JC_seq ?_))
  refine JC_region ?_
  refine JL_1 rfl (op_move rfl) ?_
  (refine JL_s rfl (op_callT drop1T Tryz.call66 (Asking_ok i13 [] vs false) ⟨evS, trivial⟩) ?_; intro i22)
  refine JL_1 rfl (op_move rfl) ?_
  refine JL_1 rfl (op_extract (Ev.rfl' rfl) rfl) ?_
  refine JL_1 rfl (op_extract (Ev.rfl' rfl) rfl) ?_
  refine JL_1 rfl (op_assign rfl) ?_
  refine JL_1 rfl (op_assign rfl) ?_
  refine JL_nil ?_
  refine JQ_then (JC_seq ?_)
  refine JC_region ?_
  refine JL_1 rfl (op_move rfl) ?_
  refine JL_nil ?_
  refine JQ_then ?_
  refine JC_cond (Ev.rfl' rfl) (fun h4 => ?_) (fun h4 => ?_)
  · refine JC_seq ?_
    refine JC_region ?_
    refine JL_1 rfl (op_move rfl) ?_
    refine JL_1 rfl (op_assign rfl) ?_
    refine JL_1 rfl (op_assign rfl) ?_
    refine JL_1 rfl (op_assign rfl) ?_
    refine JL_1 rfl (op_assign rfl) ?_
    refine JL_nil ?_
    refine JQ_then (JC_ret (JQ_then_ret ?_))
    exact JQ_retP (Bs := [IsSl tGVerb vs, IsSl tDn [], Is (.int .i64 0), Is (.bool false)]) Tryz.results31 ⟨⟨_, rfl, subT⟩, ⟨⟨_, rfl, subT⟩, ⟨⟨_, rfl, subT⟩, ⟨⟨_, rfl, subT⟩, trivial⟩⟩⟩⟩ () SubL.rfl' lessT
  exact absurd h4 (by rw [decide_eq_true hv]; simp)
-- lease.talkOnce: function 31
theorem TalkOnce1_ok (vs : List GVerb) (d : List Dn) (rest : List (List Dn)) (hv : 0 < vs.length) (hk : RW vs) : FnP Tryz.prog 31 [IsSl tGVerb vs, IsSl tDs (d :: rest)] (IsTk (tkV vs (d :: rest))) := by
  refine FnP.enter Tryz.func31 Tryz.ntmps31 rfl rfl ?_
  intro c hX
  refine JC_seq ?_
  refine JC_region ?_
  refine JL_1 rfl (op_assign rfl) ?_
  refine JL_1 rfl (op_assign rfl) ?_
  refine JL_1 rfl (op_assign rfl) ?_
  refine JL_1 rfl (op_assign rfl) ?_
  refine JL_nil ?_
  refine JQ_then (JC_seq ?_)
  refine JC_region ?_
  refine JL_1 rfl (op_move rfl) ?_
  (refine JL_s rfl (op_callN Tryz.call64 (TalkNew_ok (d :: rest)) ⟨evS, trivial⟩) ?_; intro i13)
  refine JL_1 rfl (op_assign rfl) ?_
  refine JL_nil ?_
  refine JQ_then (JC_seq ?_)
  refine JC_region ?_
  refine JL_1 rfl (op_move rfl) ?_
  refine JL_1 rfl (op_move rfl) ?_
  (refine JL_s rfl (op_callT drop1T Tryz.call65 (Batch1_ok i13 vs d rest hv hk) ⟨evS, ⟨evS, trivial⟩⟩) ?_; intro i17)
  refine JL_1 rfl (op_move rfl) ?_
  refine JL_1 rfl (op_extract (Ev.rfl' rfl) rfl) ?_
  refine JL_1 rfl (op_extract (Ev.rfl' rfl) rfl) ?_
  refine JL_1 rfl (op_assign rfl) ?_
  refine JL_1 rfl (op_assign rfl) ?_
  refine JL_nil ?_
  refine JQ_then (JC_seq (JC_seq ?_))
  refine JC_region ?_
  refine JL_1 rfl (op_move rfl) ?_
  (refine JL_s rfl (op_callT drop1T Tryz.call66 (Asking_ok i13 (batG vs d rest) [] (!fitL vs d)) ⟨evS, trivial⟩) ?_; intro i22)
  refine JL_1 rfl (op_move rfl) ?_
  refine JL_1 rfl (op_extract (Ev.rfl' rfl) rfl) ?_
  refine JL_1 rfl (op_extract (Ev.rfl' rfl) rfl) ?_
  refine JL_1 rfl (op_assign rfl) ?_
  refine JL_1 rfl (op_assign rfl) ?_
  refine JL_nil ?_
  refine JQ_then (JC_seq ?_)
  refine JC_region ?_
  refine JL_1 rfl (op_move rfl) ?_
  refine JL_nil ?_
  refine JQ_then ?_
  refine JC_cond (Ev.rfl' rfl) (fun h4 => ?_) (fun h4 => ?_)
  · exact absurd h4 (by simp)
  clear h4
  refine JC_freezeB hX (b := i13) replT ?_
  refine JC_set 8 (IsRef (tkC (batG vs d rest) [] (!fitL vs d))) rfl (SubL.fact memT) ?_
  refine JC_skip (JQ_then (JC_seq (JC_seq ?_)))
  refine JC_region ?_
  refine JL_1 rfl (op_move rfl) ?_
  refine JL_1 rfl (op_not (Ev.rfl' rfl)) ?_
  refine JL_1 rfl (op_move rfl) ?_
  (refine JL_i0 rfl rfl rfl (fun hg => (by have hg0 := hg; (try simp at hg); exact op_moveE (Ev.rfl' rfl))) ?_)
  (refine JL_i0 rfl rfl rfl (fun hg => (by have hg0 := hg; (try simp at hg); exact op_call Tryz.call67 (MismatchP_ok _ _ _) ⟨evS, trivial⟩)) ?_)
  refine JL_1 rfl (op_or (Ev.rfl' rfl) rfl (fun h => by exact SubL.iteT (by (rw [h]; rfl)) SubL.rfl')) ?_
  refine JL_nil ?_
  refine JQ_then ?_
  refine JC_cond (Ev.rfl' rfl) (fun h6 => ?_) (fun h6 => ?_)
  · have g : ¬ (fitL vs d = true ∧ rest.length = 0) := by
      rintro ⟨a1, a2⟩
      unfold batG at h6
      rw [if_pos a1, a1] at h6
      simp [a2] at h6
    have e : tkV vs (d :: rest) = ([], [], 6, true) := by
      show (if fitL vs d = true ∧ rest.length = 0 then (([], d, firV d, true) : Tk) else ([], [], 6, true)) = _
      rw [if_neg g]
    rw [e]
    refine JC_seq ?_
    refine JC_region ?_
    refine JL_1 rfl (op_assign rfl) ?_
    refine JL_1 rfl (op_assign rfl) ?_
    refine JL_1 rfl (op_assign rfl) ?_
    refine JL_1 rfl (op_assign rfl) ?_
    refine JL_nil ?_
    refine JQ_then (JC_ret (JQ_then_ret ?_))
    exact JQ_retP (Bs := [IsSl tGVerb [], IsSl tDn [], Is (.int .i64 6), Is (.bool true)]) Tryz.results31 ⟨⟨_, rfl, subT⟩, ⟨⟨_, rfl, subT⟩, ⟨⟨_, rfl, subT⟩, ⟨⟨_, rfl, subT⟩, trivial⟩⟩⟩⟩ () SubL.rfl' lessT
  have g : fitL vs d = true ∧ rest.length = 0 := by
    unfold batG at h6
    cases hf : fitL vs d with
    | false => rw [hf] at h6; simp at h6
    | true =>
      rw [hf, if_pos rfl] at h6
      refine ⟨rfl, ?_⟩
      simp at h6
      simp [h6]
  have e : tkV vs (d :: rest) = ([], d, firV d, true) := by
    show (if fitL vs d = true ∧ rest.length = 0 then (([], d, firV d, true) : Tk) else ([], [], 6, true)) = _
    rw [if_pos g]
  have e2 : batD vs d = d := by unfold batD; rw [if_pos g.1]
  rw [e, e2]
  clear h6
  refine JC_skip (JQ_then (JC_seq ?_))
  refine JC_region ?_
  refine JL_1 rfl (op_move rfl) ?_
  refine JL_1 rfl (op_move rfl) ?_
  refine JL_1 rfl (op_call Tryz.call68 (First_ok _) ⟨evS, trivial⟩) ?_
  refine JL_1 rfl (op_assign rfl) ?_
  refine JL_1 rfl (op_assign rfl) ?_
  refine JL_1 rfl (op_assign rfl) ?_
  refine JL_1 rfl (op_assign rfl) ?_
  refine JL_nil ?_
  refine JQ_then (JC_ret ?_)
  exact JQ_retP (Bs := [IsSl tGVerb [], IsSl tDn d, Is (.int .i64 (firV d)), Is (.bool true)]) Tryz.results31 ⟨⟨_, rfl, subT⟩, ⟨⟨_, rfl, subT⟩, ⟨⟨_, rfl, subT⟩, ⟨⟨_, rfl, subT⟩, trivial⟩⟩⟩⟩ () SubL.rfl' lessT
theorem TalkOnce_ok (vs : List GVerb) (got : List (List Dn)) (hv : 0 < vs.length) (hk : RW vs) : FnP Tryz.prog 31 [IsSl tGVerb vs, IsSl tDs got] (IsTk (tkV vs got)) := by
  match got with
  | [] => exact TalkOnce0_ok vs hv
  | d :: rest => exact TalkOnce1_ok vs d rest hv hk
end Go.Proofs.YtfglhiciagmicaaGreat

/- Contracts: a conversation of one batch, by the reference. Own work. -/
namespace Go.Proofs.YtfglhiciagmicaaGreat
open Go.RowKit
set_option linter.unusedVariables false
set_option linter.unusedSimpArgs false
set_option maxRecDepth 100000
@[reducible] def tkR (got : List (List Dn)) (used : Int) (ask : List GVerb) (bad : Bool) : List VP := [IsSl tDs got, Is (.int .i64 used), IsSl tGVerb ask, Is (.bool bad)]
-- (*bodegaref9.talk).trip: function 72
theorem Trip0_ok (b : Nat) (vs : List GVerb) (hv : 0 < vs.length) : Fn Tryz.prog 72 [Is (.pointer (some ⟨b, 0, none⟩)), IsSl tGVerb vs] [blk b 132 (tkR [] 0 [] false)] (fun _ : Unit => IsTup [IsSl tDn [], Is (.bool false)]) (fun _ => [blk b 132 (tkR [] 0 vs false)]) := by
  refine Fn.enterN Tryz.func72 Tryz.ntmps72 rfl rfl ?_
  intro c hX
  refine JC_seq ?_
  refine JC_region ?_
  refine JL_1 rfl (op_assign rfl) ?_
  refine JL_1 rfl (op_assign rfl) ?_
  refine JL_nil ?_
  refine JQ_then (JC_seq (JC_seq ?_))
  refine JC_region ?_
  refine JL_1 rfl (op_move rfl) ?_
  refine JL_1 rfl (by exact op_len (Ev.rfl' rfl) rfl) ?_
  refine JL_1 rfl (op_eql (Ev.rfl' rfl) (Ev.rfl' rfl)) ?_
  refine JL_nil ?_
  refine JQ_then ?_
  refine JC_cond (Ev.rfl' rfl) (fun h1 => ?_) (fun h1 => ?_)
  · exact absurd h1 (by simp; intro e; rw [e] at hv; simp at hv)
  refine JC_skip (JQ_then (JC_seq (JC_seq ?_)))
  refine JC_dr rfl (by kernel_rfl) ?_
  refine JD_stretch 10 (by kernel_rfl) ?_
  refine JW_1 (op_move rfl) ?_
  refine JW_1 (by exact op_nilCheck (Ev.rfl' rfl)) ?_
  refine JW_1 (by exact op_fieldPtr (k := 1) (Ev.rfl' rfl) rfl rfl rfl rfl) ?_
  refine JW_1 (by exact op_loadPtr (Ev.rfl' rfl) memT (by rfl) (by rfl) (by rfl)) ?_
  refine JW_1 (op_move rfl) ?_
  refine JW_1 (by exact op_nilCheck (Ev.rfl' rfl)) ?_
  refine JW_1 (by exact op_fieldPtr (k := 0) (Ev.rfl' rfl) rfl rfl rfl rfl) ?_
  refine JW_1 (by exact op_loadPtr (Ev.rfl' rfl) memT (by rfl) (by rfl) (by rfl)) ?_
  refine JW_1 (by exact op_len (Ev.rfl' rfl) rfl) ?_
  refine JW_1 (op_eql (Ev.rfl' rfl) (Ev.rfl' rfl)) ?_
  refine ⟨rfl, ?_⟩
  refine JD_end ?_
  refine JQ_then ?_
  refine JC_cond (Ev.rfl' rfl) (fun h3 => ?_) (fun h3 => ?_)
  · refine JC_seq ?_
    refine JC_region ?_
    refine JL_1 rfl (op_move rfl) ?_
    refine JL_1 rfl (op_move rfl) ?_
    refine JL_1 rfl (by exact op_nilCheck (Ev.rfl' rfl)) ?_
    refine JL_1 rfl (by exact op_fieldPtr (k := 2) (Ev.rfl' rfl) rfl rfl rfl rfl) ?_
    refine JL_s0 (op_storeN (Ev.rfl' rfl) (Ev.rfl' rfl) cellsT replT nrmT (by rfl) (by rfl) (by rfl)) ?_
    refine JL_nil ?_
    refine JQ_then (JC_seq ?_)
    refine JC_region ?_
    refine JL_1 rfl (op_assign rfl) ?_
    refine JL_1 rfl (op_assign rfl) ?_
    refine JL_nil ?_
    refine JQ_then (JC_ret (JQ_then_ret ?_))
    exact JQ_retP (Bs := [IsSl tDn [], Is (.bool false)]) Tryz.results72 ⟨⟨_, rfl, subT⟩, ⟨⟨_, rfl, subT⟩, trivial⟩⟩ () SubL.rfl' lessT
  exact absurd h3 (by simp)
-- (*bodegaref9.talk).trip: function 72
theorem Trip1_ok (b : Nat) (vs : List GVerb) (d : List Dn) (rest : List (List Dn)) (hv : 0 < vs.length) (hk : RW vs) : Fn Tryz.prog 72 [Is (.pointer (some ⟨b, 0, none⟩)), IsSl tGVerb vs] [blk b 132 (tkR (d :: rest) 0 [] false)] (fun _ : Unit => IsTup [IsSl tDn (batD vs d), Is (.bool (fitL vs d))]) (fun _ => [blk b 132 (tkR (d :: rest) 1 [] (!fitL vs d))]) := by
  have hz : (d :: rest)[0]? = some d := rfl
  have hln : (d :: rest).length = rest.length + 1 := rfl
  refine Fn.enterN Tryz.func72 Tryz.ntmps72 rfl rfl ?_
  intro c hX
  refine JC_seq ?_
  refine JC_region ?_
  refine JL_1 rfl (op_assign rfl) ?_
  refine JL_1 rfl (op_assign rfl) ?_
  refine JL_nil ?_
  refine JQ_then (JC_seq (JC_seq ?_))
  refine JC_region ?_
  refine JL_1 rfl (op_move rfl) ?_
  refine JL_1 rfl (by exact op_len (Ev.rfl' rfl) rfl) ?_
  refine JL_1 rfl (op_eql (Ev.rfl' rfl) (Ev.rfl' rfl)) ?_
  refine JL_nil ?_
  refine JQ_then ?_
  refine JC_cond (Ev.rfl' rfl) (fun h1 => ?_) (fun h1 => ?_)
  · exact absurd h1 (by simp; intro e; rw [e] at hv; simp at hv)
  refine JC_skip (JQ_then (JC_seq (JC_seq ?_)))
  refine JC_dr rfl (by kernel_rfl) ?_
  refine JD_stretch 10 (by kernel_rfl) ?_
  refine JW_1 (op_move rfl) ?_
  refine JW_1 (by exact op_nilCheck (Ev.rfl' rfl)) ?_
  refine JW_1 (by exact op_fieldPtr (k := 1) (Ev.rfl' rfl) rfl rfl rfl rfl) ?_
  refine JW_1 (by exact op_loadPtr (Ev.rfl' rfl) memT (by rfl) (by rfl) (by rfl)) ?_
  refine JW_1 (op_move rfl) ?_
  refine JW_1 (by exact op_nilCheck (Ev.rfl' rfl)) ?_
  refine JW_1 (by exact op_fieldPtr (k := 0) (Ev.rfl' rfl) rfl rfl rfl rfl) ?_
  refine JW_1 (by exact op_loadPtr (Ev.rfl' rfl) memT (by rfl) (by rfl) (by rfl)) ?_
  refine JW_1 (by exact op_len (Ev.rfl' rfl) rfl) ?_
  refine JW_1 (op_eql (Ev.rfl' rfl) (Ev.rfl' rfl)) ?_
  refine ⟨rfl, ?_⟩
  refine JD_end ?_
  refine JQ_then ?_
  refine JC_cond (Ev.rfl' rfl) (fun h3 => ?_) (fun h3 => ?_)
  · exact absurd h3 (by simp; omega)
  refine JC_skip (JQ_then (JC_seq ?_))
  refine JC_dr rfl (by kernel_rfl) ?_
  refine JD_stretch 11 (by kernel_rfl) ?_
  refine JW_1 (op_move rfl) ?_
  refine JW_1 (by exact op_nilCheck (Ev.rfl' rfl)) ?_
  refine JW_1 (by exact op_fieldPtr (k := 0) (Ev.rfl' rfl) rfl rfl rfl rfl) ?_
  refine JW_1 (by exact op_loadPtr (Ev.rfl' rfl) memT (by rfl) (by rfl) (by rfl)) ?_
  refine JW_1 (op_move rfl) ?_
  refine JW_1 (by exact op_nilCheck (Ev.rfl' rfl)) ?_
  refine JW_1 (by exact op_fieldPtr (k := 1) (Ev.rfl' rfl) rfl rfl rfl rfl) ?_
  refine JW_1 (by exact op_loadPtr (Ev.rfl' rfl) memT (by rfl) (by rfl) (by rfl)) ?_
  refine JW_1 (by exact op_index (j := _) (Ev.rfl' rfl) (Ev.rfl' rfl) rfl rfl (by rfl) hz) ?_
  refine JW_1 (by exact op_loadRef (Ev.rfl' rfl) rfl rfl rfl) ?_
  refine JW_1 (op_assign rfl) ?_
  refine ⟨rfl, ?_⟩
  refine JD_end ?_
  refine JQ_then (JC_seq ?_)
  refine JC_region ?_
  refine JL_1 rfl (op_move rfl) ?_
  refine JL_1 rfl (by exact op_nilCheck (Ev.rfl' rfl)) ?_
  refine JL_1 rfl (by exact op_fieldPtr (k := 1) (Ev.rfl' rfl) rfl rfl rfl rfl) ?_
  refine JL_1 rfl (by exact op_loadPtr (Ev.rfl' rfl) memT (by rfl) (by rfl) (by rfl)) ?_
  refine JL_1 rfl (op_add (Ev.rfl' rfl) (Ev.rfl' rfl) wrapT) ?_
  refine JL_1 rfl (by exact op_nilCheck (Ev.rfl' rfl)) ?_
  refine JL_1 rfl (by exact op_fieldPtr (k := 1) (Ev.rfl' rfl) rfl rfl rfl rfl) ?_
  refine JL_s0 (op_storeN (Ev.rfl' rfl) (Ev.rfl' rfl) cellsT replT nrmT (by rfl) (by rfl) (by rfl)) ?_
  refine JL_nil ?_
  refine JQ_then (JC_seq (JC_seq ?_))
  refine JC_region ?_
  refine JL_1 rfl (op_move rfl) ?_
  refine JL_1 rfl (op_move rfl) ?_
  refine JL_1 rfl (op_call Tryz.call89 (FitR_ok vs d hk) ⟨evS, ⟨evS, trivial⟩⟩) ?_
  refine JL_1 rfl (op_not (Ev.rfl' rfl)) ?_
  refine JL_nil ?_
  refine JQ_then ?_
  refine JC_cond (Ev.rfl' rfl) (fun h8 => ?_) (fun h8 => ?_)
  · have g : fitL vs d = false := by simpa using h8
    unfold batD
    rw [if_neg (by rw [g]; simp), g]
    refine JC_seq ?_
    refine JC_region ?_
    refine JL_1 rfl (op_move rfl) ?_
    refine JL_1 rfl (by exact op_nilCheck (Ev.rfl' rfl)) ?_
    refine JL_1 rfl (by exact op_fieldPtr (k := 3) (Ev.rfl' rfl) rfl rfl rfl rfl) ?_
    refine JL_s0 (op_storeN (Ev.rfl' rfl) (Ev.rfl' rfl) cellsT replT nrmT (by rfl) (by rfl) (by rfl)) ?_
    refine JL_nil ?_
    refine JQ_then (JC_seq ?_)
    refine JC_region ?_
    refine JL_1 rfl (op_assign rfl) ?_
    refine JL_1 rfl (op_assign rfl) ?_
    refine JL_nil ?_
    refine JQ_then (JC_ret (JQ_then_ret ?_))
    exact JQ_retP (Bs := [IsSl tDn [], Is (.bool false)]) Tryz.results72 ⟨⟨_, rfl, subT⟩, ⟨⟨_, rfl, subT⟩, trivial⟩⟩ () SubL.rfl' lessT
  have g : fitL vs d = true := by simpa using h8
  unfold batD
  rw [if_pos g, g]
  clear h8
  refine JC_skip (JQ_then (JC_seq ?_))
  refine JC_region ?_
  refine JL_1 rfl (op_move rfl) ?_
  refine JL_1 rfl (op_assign rfl) ?_
  refine JL_1 rfl (op_assign rfl) ?_
  refine JL_nil ?_
  refine JQ_then (JC_ret ?_)
  exact JQ_retP (Bs := [IsSl tDn d, Is (.bool true)]) Tryz.results72 ⟨⟨_, rfl, subT⟩, ⟨⟨_, rfl, subT⟩, trivial⟩⟩ () SubL.rfl' lessT
-- (*bodegaref9.talk).state: function 73
theorem State_ok (b : Nat) (ok : Bool) (got : List (List Dn)) (used : Int) (ask : List GVerb) (bad : Bool) : Fn Tryz.prog 73 [Is (.pointer (some ⟨b, 0, none⟩)), Is (.bool ok)] [blk b 132 (tkR got used ask bad)] (fun _ : Unit => IsTup [Is (.bool (!ok && !bad)), Is (.bool ((!ok && !bad) || (!bad && used == got.length)))]) (fun _ => [blk b 132 (tkR got used ask bad)]) := by
  refine Fn.enterN Tryz.func73 Tryz.ntmps73 rfl rfl ?_
  intro c hX
  refine JC_seq ?_
  refine JC_region ?_
  refine JL_1 rfl (op_assign rfl) ?_
  refine JL_1 rfl (op_assign rfl) ?_
  refine JL_nil ?_
  refine JQ_then (JC_seq (JC_seq ?_))
  refine JC_region ?_
  refine JL_1 rfl (op_move rfl) ?_
  refine JL_1 rfl (op_not (Ev.rfl' rfl)) ?_
  refine JL_1 rfl (op_move rfl) ?_
  (refine JL_i0 rfl rfl rfl (fun hg => (by have hg0 := hg; (try simp at hg); exact op_moveE (Ev.rfl' rfl))) ?_)
  (refine JL_i0 rfl rfl rfl (fun hg => (by have hg0 := hg; (try simp at hg); exact op_nilCheck evG)) ?_)
  (refine JL_i0 rfl rfl rfl (fun hg => (by have hg0 := hg; (try simp at hg); exact op_fieldPtr (k := 3) evG rfl rfl rfl rfl)) ?_)
  (refine JL_i0 rfl rfl rfl (fun hg => (by have hg0 := hg; (try simp at hg); exact op_loadPtr evG memT (by rfl) (by rfl) (by rfl))) ?_)
  (refine JL_i0 rfl rfl rfl (fun hg => (by have hg0 := hg; (try simp at hg); exact op_not evG)) ?_)
  refine JL_1 rfl (op_and (Ev.rfl' rfl) rfl (fun h => by exact SubL.iteT (by (rw [h]; rfl)) SubL.rfl')) ?_
  refine JL_nil ?_
  refine JQ_then ?_
  refine JC_cond (Ev.rfl' rfl) (fun h1 => ?_) (fun h1 => ?_)
  · have g : (!ok && !bad) = true := h1
    rw [g]
    refine JC_seq ?_
    refine JC_region ?_
    refine JL_1 rfl (op_assign rfl) ?_
    refine JL_1 rfl (op_assign rfl) ?_
    refine JL_nil ?_
    refine JQ_then (JC_ret (JQ_then_ret ?_))
    exact JQ_retP (Bs := [Is (.bool true), Is (.bool true)]) Tryz.results73 ⟨⟨_, rfl, subT⟩, ⟨⟨_, rfl, subT⟩, trivial⟩⟩ () SubL.rfl' lessT
  have g : (!ok && !bad) = false := h1
  rw [g]
  refine JC_skip (JQ_then (JC_seq ?_))
  refine JC_dr rfl (by kernel_rfl) ?_
  refine JD_stretch 19 (by kernel_rfl) ?_
  refine JW_1 (op_move rfl) ?_
  refine JW_1 (by exact op_nilCheck (Ev.rfl' rfl)) ?_
  refine JW_1 (by exact op_fieldPtr (k := 3) (Ev.rfl' rfl) rfl rfl rfl rfl) ?_
  refine JW_1 (by exact op_loadPtr (Ev.rfl' rfl) memT (by rfl) (by rfl) (by rfl)) ?_
  refine JW_1 (op_not (Ev.rfl' rfl)) ?_
  refine JW_1 (op_move rfl) ?_
  (refine JW_i0 rfl rfl (fun hg => (by have hg0 := hg; (try simp at hg); exact op_moveE (Ev.rfl' rfl))) ?_)
  (refine JW_i0 rfl rfl (fun hg => (by have hg0 := hg; (try simp at hg); exact op_nilCheck evG)) ?_)
  (refine JW_i0 rfl rfl (fun hg => (by have hg0 := hg; (try simp at hg); exact op_fieldPtr (k := 1) evG rfl rfl rfl rfl)) ?_)
  (refine JW_i0 rfl rfl (fun hg => (by have hg0 := hg; (try simp at hg); exact op_loadPtr evG memT (by rfl) (by rfl) (by rfl))) ?_)
  (refine JW_i0 rfl rfl (fun hg => (by have hg0 := hg; (try simp at hg); exact op_moveE (Ev.rfl' rfl))) ?_)
  (refine JW_i0 rfl rfl (fun hg => (by have hg0 := hg; (try simp at hg); exact op_nilCheck evG)) ?_)
  (refine JW_i0 rfl rfl (fun hg => (by have hg0 := hg; (try simp at hg); exact op_fieldPtr (k := 0) evG rfl rfl rfl rfl)) ?_)
  (refine JW_i0 rfl rfl (fun hg => (by have hg0 := hg; (try simp at hg); exact op_loadPtr evG memT (by rfl) (by rfl) (by rfl))) ?_)
  (refine JW_i0 rfl rfl (fun hg => (by have hg0 := hg; (try simp at hg); exact op_len evG rfl)) ?_)
  (refine JW_i0 rfl rfl (fun hg => (by have hg0 := hg; (try simp at hg); exact op_eql evG evG)) ?_)
  refine JW_1 (op_and (Ev.rfl' rfl) rfl (fun h => by exact SubL.iteT (by (rw [h]; rfl)) SubL.rfl')) ?_
  refine JW_1 (op_assign rfl) ?_
  refine JW_1 (op_assign rfl) ?_
  refine ⟨rfl, ?_⟩
  refine JD_end ?_
  refine JQ_then (JC_ret ?_)
  exact JQ_retP (Bs := [Is (.bool false), Is (.bool (!bad && used == got.length))]) Tryz.results73 ⟨⟨_, rfl, subT⟩, ⟨⟨_, rfl, subT⟩, trivial⟩⟩ () SubL.rfl' lessT
abbrev Sg := List Dn × Bool × Bool
def sgV (vs : List GVerb) : List (List Dn) → Sg
  | [] => ([], true, true)
  | d :: rest => if fitL vs d = true then (d, false, decide (rest.length = 0)) else ([], false, false)
-- bodegaref9.single: function 37
theorem Single0_ok (vs : List GVerb) (hv : 0 < vs.length) : FnP Tryz.prog 37 [IsSl tGVerb vs, IsSl tDs []] (IsTup [IsSl tDn (sgV vs []).1, Is (.bool (sgV vs []).2.1), Is (.bool (sgV vs []).2.2)]) := by
  refine FnP.enter Tryz.func37 Tryz.ntmps37 rfl rfl ?_
  intro c hX
  refine JC_seq ?_
  refine JC_region ?_
  refine JL_1 rfl (op_assign rfl) ?_
  refine JL_1 rfl (op_assign rfl) ?_
  refine JL_1 rfl (op_assign rfl) ?_
  refine JL_nil ?_
  refine JQ_then (JC_seq ?_)
  refine JC_region ?_
  refine JL_1 rfl (op_move rfl) ?_
  refine JL_1 rfl (op_buildN (qs := [(0, _)]) rfl rfl rfl rfl ⟨⟨rfl, _, (Ev.rfl' rfl), cellsT⟩, trivial⟩ (by rfl) nrmT) ?_
  (refine JL_n rfl (op_box (Ev.rfl' rfl) cellsT) ?_; intro i11)
  refine JL_1 rfl (op_assign rfl) ?_
  refine JL_nil ?_
  refine JQ_then (JC_seq ?_)
  refine JC_blkSub (As' := tkR [] 0 [] false) replT subsT ?_
  refine JC_region ?_
  refine JL_1 rfl (op_move rfl) ?_
  refine JL_1 rfl (op_move rfl) ?_
  (refine JL_s rfl (op_callT drop1T Tryz.call72 (Trip0_ok i11 vs hv) ⟨evS, ⟨evS, trivial⟩⟩) ?_; intro i15)
  refine JL_1 rfl (op_move rfl) ?_
  refine JL_1 rfl (op_extract (Ev.rfl' rfl) rfl) ?_
  refine JL_1 rfl (op_extract (Ev.rfl' rfl) rfl) ?_
  refine JL_1 rfl (op_assign rfl) ?_
  refine JL_1 rfl (op_assign rfl) ?_
  refine JL_nil ?_
  refine JQ_then (JC_seq ?_)
  refine JC_region ?_
  refine JL_1 rfl (op_move rfl) ?_
  refine JL_1 rfl (op_move rfl) ?_
  (refine JL_s rfl (op_callT drop1T Tryz.call73 (State_ok i11 false [] 0 vs false) ⟨evS, ⟨evS, trivial⟩⟩) ?_; intro i21)
  refine JL_1 rfl (op_move rfl) ?_
  refine JL_1 rfl (op_extract (Ev.rfl' rfl) rfl) ?_
  refine JL_1 rfl (op_extract (Ev.rfl' rfl) rfl) ?_
  refine JL_1 rfl (op_assign rfl) ?_
  refine JL_1 rfl (op_assign rfl) ?_
  refine JL_nil ?_
  refine JQ_then (JC_seq ?_)
  refine JC_region ?_
  refine JL_1 rfl (op_move rfl) ?_
  refine JL_1 rfl (op_move rfl) ?_
  refine JL_1 rfl (op_move rfl) ?_
  refine JL_1 rfl (op_assign rfl) ?_
  refine JL_1 rfl (op_assign rfl) ?_
  refine JL_1 rfl (op_assign rfl) ?_
  refine JL_nil ?_
  refine JQ_then (JC_ret ?_)
  exact JQ_retP (Bs := [IsSl tDn [], Is (.bool true), Is (.bool true)]) Tryz.results37 ⟨⟨_, rfl, subT⟩, ⟨⟨_, rfl, subT⟩, ⟨⟨_, rfl, subT⟩, trivial⟩⟩⟩ () SubL.rfl' lessT
-- bodegaref9.single: function 37
theorem Single1_ok (vs : List GVerb) (d : List Dn) (rest : List (List Dn)) (hv : 0 < vs.length) (hk : RW vs) : FnP Tryz.prog 37 [IsSl tGVerb vs, IsSl tDs (d :: rest)] (IsTup [IsSl tDn (sgV vs (d :: rest)).1, Is (.bool (sgV vs (d :: rest)).2.1), Is (.bool (sgV vs (d :: rest)).2.2)]) := by
  have e : sgV vs (d :: rest) = (batD vs d, (!fitL vs d && !!fitL vs d), ((!fitL vs d && !!fitL vs d) || (!!fitL vs d && (1 : Int) == ((d :: rest).length : Nat)))) := by
    show (if fitL vs d = true then ((d, false, decide (rest.length = 0)) : Sg) else ([], false, false)) = _
    unfold batD
    cases hf : fitL vs d with
    | false => simp
    | true =>
      simp only [if_true]
      refine congrArg (fun b => ((d, false, b) : Sg)) ?_
      cases rest with
      | nil => rfl
      | cons x r =>
        have e0 : ((1 : Int) == (((d :: x :: r).length : Nat) : Int)) = false := by
          rw [beq_eq_false_iff_ne]
          simp only [List.length_cons]
          omega
        rw [e0]
        simp
  rw [e]
  refine FnP.enter Tryz.func37 Tryz.ntmps37 rfl rfl ?_
  intro c hX
  refine JC_seq ?_
  refine JC_region ?_
  refine JL_1 rfl (op_assign rfl) ?_
  refine JL_1 rfl (op_assign rfl) ?_
  refine JL_1 rfl (op_assign rfl) ?_
  refine JL_nil ?_
  refine JQ_then (JC_seq ?_)
  refine JC_region ?_
  refine JL_1 rfl (op_move rfl) ?_
  refine JL_1 rfl (op_buildN (qs := [(0, _)]) rfl rfl rfl rfl ⟨⟨rfl, _, (Ev.rfl' rfl), cellsT⟩, trivial⟩ (by rfl) nrmT) ?_
  (refine JL_n rfl (op_box (Ev.rfl' rfl) cellsT) ?_; intro i11)
  refine JL_1 rfl (op_assign rfl) ?_
  refine JL_nil ?_
  refine JQ_then (JC_seq ?_)
  refine JC_blkSub (As' := tkR (d :: rest) 0 [] false) replT subsT ?_
  refine JC_region ?_
  refine JL_1 rfl (op_move rfl) ?_
  refine JL_1 rfl (op_move rfl) ?_
  (refine JL_s rfl (op_callT drop1T Tryz.call72 (Trip1_ok i11 vs d rest hv hk) ⟨evS, ⟨evS, trivial⟩⟩) ?_; intro i15)
  refine JL_1 rfl (op_move rfl) ?_
  refine JL_1 rfl (op_extract (Ev.rfl' rfl) rfl) ?_
  refine JL_1 rfl (op_extract (Ev.rfl' rfl) rfl) ?_
  refine JL_1 rfl (op_assign rfl) ?_
  refine JL_1 rfl (op_assign rfl) ?_
  refine JL_nil ?_
  refine JQ_then (JC_seq ?_)
  refine JC_region ?_
  refine JL_1 rfl (op_move rfl) ?_
  refine JL_1 rfl (op_move rfl) ?_
  (refine JL_s rfl (op_callT drop1T Tryz.call73 (State_ok i11 (fitL vs d) (d :: rest) 1 [] (!fitL vs d)) ⟨evS, ⟨evS, trivial⟩⟩) ?_; intro i21)
  refine JL_1 rfl (op_move rfl) ?_
  refine JL_1 rfl (op_extract (Ev.rfl' rfl) rfl) ?_
  refine JL_1 rfl (op_extract (Ev.rfl' rfl) rfl) ?_
  refine JL_1 rfl (op_assign rfl) ?_
  refine JL_1 rfl (op_assign rfl) ?_
  refine JL_nil ?_
  refine JQ_then (JC_seq ?_)
  refine JC_region ?_
  refine JL_1 rfl (op_move rfl) ?_
  refine JL_1 rfl (op_move rfl) ?_
  refine JL_1 rfl (op_move rfl) ?_
  refine JL_1 rfl (op_assign rfl) ?_
  refine JL_1 rfl (op_assign rfl) ?_
  refine JL_1 rfl (op_assign rfl) ?_
  refine JL_nil ?_
  refine JQ_then (JC_ret ?_)
  exact JQ_retP (Bs := [IsSl tDn (batD vs d), Is (.bool (!fitL vs d && !!fitL vs d)), Is (.bool ((!fitL vs d && !!fitL vs d) || (!!fitL vs d && (1 : Int) == ((d :: rest).length : Nat))))]) Tryz.results37 ⟨⟨_, rfl, subT⟩, ⟨⟨_, rfl, subT⟩, ⟨⟨_, rfl, subT⟩, trivial⟩⟩⟩ () SubL.rfl' lessT
theorem Single_ok (vs : List GVerb) (got : List (List Dn)) (hv : 0 < vs.length) (hk : RW vs) : FnP Tryz.prog 37 [IsSl tGVerb vs, IsSl tDs got] (IsTup [IsSl tDn (sgV vs got).1, Is (.bool (sgV vs got).2.1), Is (.bool (sgV vs got).2.2)]) := by
  match got with
  | [] => exact Single0_ok vs hv
  | d :: rest => exact Single1_ok vs d rest hv hk
end Go.Proofs.YtfglhiciagmicaaGreat

/- Contracts: isNodes, isFull. Own work. -/
namespace Go.Proofs.YtfglhiciagmicaaGreat
open Go.RowKit
set_option linter.unusedVariables false
set_option linter.unusedSimpArgs false
set_option maxRecDepth 100000
-- view.isNodes: function 59
theorem isNodes_ok (n : Int) : FnP Tryz.prog 59 [Is (.int .i64 n)] (Is (.bool (decide (n ≥ 1) && decide (n ≤ 5)))) := by
  refine FnP.enter Tryz.func59 Tryz.ntmps59 rfl rfl ?_
  intro c hX
  (refine JC_seq ?_)
  refine JC_region ?_
  refine JL_1 rfl (op_assign rfl) ?_
  refine JL_nil ?_
  (repeat with_reducible first | refine JC_seq ?_ | refine JQ_then ?_)
  (skip)
  refine JC_region ?_
  refine JL_1 rfl (op_move rfl) ?_
  refine JL_1 rfl (op_geq (Ev.rfl' rfl) (Ev.rfl' rfl)) ?_
  refine JL_1 rfl (op_move rfl) ?_
  (refine JL_i0 rfl rfl rfl (fun hg => (by have hg0 := hg; (try simp at hg); exact op_moveE (Ev.rfl' rfl))) ?_)
  (refine JL_i0 rfl rfl rfl (fun hg => (by have hg0 := hg; (try simp at hg); exact op_leq evG evG)) ?_)
  refine JL_1 rfl (op_and (Ev.rfl' rfl) rfl (fun h => by exact SubL.iteT (by (rw [h]; rfl)) SubL.rfl')) ?_
  refine JL_1 rfl (op_assign rfl) ?_
  refine JL_nil ?_
  (repeat with_reducible first | refine JQ_then ?_ | refine JC_ret ?_)
  exact JQ_ret1 Tryz.results59 rfl () SubL.rfl' (List.nil_sublist _)
-- view.isFull: function 61
theorem isFull_ok (m : Mb) : FnP Tryz.prog 61 [IsMb m] (Is (.bool m.f)) := by
  refine FnP.enter Tryz.func61 Tryz.ntmps61 rfl rfl ?_
  intro c hX
  (refine JC_seq ?_)
  refine JC_region ?_
  (refine JL_n rfl (op_box (Ev.rfl' rfl) cellsT) ?_; intro i1)
  refine JL_1 rfl (op_assign rfl) ?_
  refine JL_nil ?_
  (repeat with_reducible first | refine JC_seq ?_ | refine JQ_then ?_)
  (skip)
  refine JC_region ?_
  refine JL_1 rfl (by exact op_fieldPtr (k := 2) (Ev.rfl' rfl) rfl rfl rfl rfl) ?_
  refine JL_1 rfl (by exact op_loadPtr (Ev.rfl' rfl) memT (by rfl) (by rfl) (by rfl)) ?_
  refine JL_1 rfl (op_assign rfl) ?_
  refine JL_nil ?_
  (repeat with_reducible first | refine JQ_then ?_ | refine JC_ret ?_)
  exact JQ_ret1 Tryz.results61 rfl () SubL.rfl' (List.nil_sublist _)
end Go.Proofs.YtfglhiciagmicaaGreat

/- Contracts: IndexFunc, ContainsFunc at isFull. Own work. -/
namespace Go.Proofs.YtfglhiciagmicaaGreat
open Go.RowKit
set_option linter.unusedVariables false
set_option linter.unusedSimpArgs false
set_option maxRecDepth 100000
/-- The place of the first full member, -1 if there is none. -/
def fullAt : List Mb → Nat → Int
  | [], _ => -1
  | m :: ms, k => if m.f then (k : Int) else fullAt ms (k + 1)
theorem fullAt_drop {ms : List Mb} {k : Nat} {m : Mb} (h : ms[k]? = some m) : fullAt (ms.drop k) k = if m.f then (k : Int) else fullAt (ms.drop (k + 1)) (k + 1) := by
  have hl : k < ms.length := (List.getElem?_eq_some_iff.1 h).1
  rw [List.drop_eq_getElem_cons hl]
  have : ms[k] = m := by rw [List.getElem?_eq_getElem hl] at h; exact Option.some.inj h
  rw [this]; rfl
theorem fullAt_any : ∀ (ms : List Mb) (k : Nat), decide (fullAt ms k ≥ 0) = ms.any Mb.f
  | [], _ => rfl
  | m :: ms, k => by
    unfold fullAt
    cases h : m.f
    · simp [h]; exact fullAt_any ms (k + 1)
    · simp [h]
abbrev fullFn : Value := .func (.func 61) #[] #[]
set_option maxHeartbeats 1000000 in
-- slices.IndexFunc[[]bodega/api.Member,bodega/api.Member]: function 85
theorem IndexFull_ok (ms : List Mb) : FnP Tryz.prog 85 [IsSl tMb ms, Is fullFn] (Is (.int .i64 (fullAt ms 0))) := by
  refine FnP.enter Tryz.func85 Tryz.ntmps85 rfl rfl ?_
  intro c hX
  refine JC_len (t := 0) rfl (fun hlen => ?_)
  (refine JC_seq ?_)
  refine JC_region ?_
  refine JL_1 rfl (op_assign rfl) ?_
  refine JL_nil ?_
  (repeat with_reducible first | refine JC_seq ?_ | refine JQ_then ?_)
  (skip)
  refine JC_region ?_
  refine JL_1 rfl (op_move rfl) ?_
  refine JL_1 rfl (by exact op_len (Ev.rfl' rfl) rfl) ?_
  refine JL_1 rfl (op_move rfl) ?_
  refine JL_nil ?_
  (repeat with_reducible first | refine JQ_then ?_ | refine JC_block ?_)
  refine JC_loop (fun k : Nat => k ≤ ms.length ∧ fullAt ms 0 = fullAt (ms.drop k) k) (fun i => [(0, IsSl tMb ms), (1, Is fullFn), (7, Is (.int .i64 ms.length)), (8, Is (.int .i64 (i : Nat)))]) (fun _ => []) (fun i => ms.length - i) 0 ⟨Nat.zero_le _, rfl⟩ esubT (List.Sublist.refl _) ?_
  rintro k ⟨hk, hs⟩
  (refine JC_seq ?_)
  refine JC_region ?_
  refine JL_1 rfl (op_lss (Ev.rfl' rfl) (Ev.rfl' rfl)) ?_
  refine JL_nil ?_
  (repeat with_reducible first | refine JC_seq ?_ | refine JQ_then ?_)
  refine JC_cond (Ev.rfl' rfl) (fun h => ?_) (fun h => ?_)
  ·
    have h' : (k : Int) < ms.length := of_decide_eq_true h
    have hz := Mb.at_get ms k (by omega)
    rw [fullAt_drop hz] at hs
    generalize Mb.at ms k = m at *
    clear h
    (repeat with_reducible first | refine JC_seq ?_ | refine JQ_then ?_ | refine JC_block ?_ | refine JC_skip ?_)
    refine JC_region ?_
    refine JL_1 rfl (op_move rfl) ?_
    refine JL_1 rfl (op_assign rfl) ?_
    refine JL_nil ?_
    (repeat with_reducible first | refine JC_seq ?_ | refine JQ_then ?_)
    (skip)
    refine JC_region ?_
    refine JL_1 rfl (op_move rfl) ?_
    refine JL_1 rfl (op_move rfl) ?_
    refine JL_1 rfl (op_move rfl) ?_
    refine JL_1 rfl (by exact op_index (j := _) (Ev.rfl' rfl) (Ev.rfl' rfl) rfl rfl (by rfl) (by assumption)) ?_
    refine JL_1 rfl (by exact op_loadRefsN (n := 3) (Ev.rfl' rfl) rfl rfl rfl (by rfl) nrmT) ?_
    refine JL_1 rfl (op_callV0 (Ev.rfl' rfl) Tryz.call61 (isFull_ok m) ⟨evS, trivial⟩) ?_
    refine JL_nil ?_
    (refine JQ_then ?_)
    refine JC_cond (Ev.rfl' rfl) (fun h => ?_) (fun h => ?_)
    · (refine JC_seq ?_)
      refine JC_region ?_
      refine JL_1 rfl (op_move rfl) ?_
      refine JL_1 rfl (op_assign rfl) ?_
      refine JL_nil ?_
      (repeat with_reducible first | refine JQ_then ?_ | refine JQ_then_ret ?_ | refine JQ_block_ret ?_ | refine JC_ret ?_)
      rw [h, if_pos rfl] at hs
      exact JQ_ret1 Tryz.results85 rfl () (SubL.eq (by rw [hs])) (List.nil_sublist _)
    ·
      rw [h] at hs
      (repeat with_reducible first | refine JQ_then ?_ | refine JC_skip ?_ | refine JQ_block ?_)
      refine JC_region ?_
      refine JL_1 rfl (op_add (Ev.rfl' rfl) (Ev.rfl' rfl) wrapT) ?_
      refine JL_1 rfl (op_move rfl) ?_
      refine JL_nil ?_
      (skip)
      exact JQ_round (k + 1) ⟨by omega, by simpa using hs⟩ (by omega) esubT (List.Sublist.refl _)
  ·
    have h' : ¬ (k : Int) < ms.length := of_decide_eq_false h
    have hkl : k = ms.length := by omega
    subst hkl
    rw [List.drop_length] at hs
    (repeat with_reducible first | refine JC_seq ?_ | refine JQ_then ?_ | refine JC_exit ?_ | refine JQ_then_exit ?_ | refine JQ_hit ?_)
    refine JC_region ?_
    refine JL_1 rfl (op_assign rfl) ?_
    refine JL_nil ?_
    (repeat with_reducible first | refine JQ_then ?_ | refine JC_ret ?_)
    exact JQ_ret1 Tryz.results85 rfl () (SubL.eq (by rw [hs]; rfl)) (List.nil_sublist _)
-- slices.ContainsFunc[[]bodega/api.Member,bodega/api.Member]: function 60
theorem ContainsFull_ok (ms : List Mb) : FnP Tryz.prog 60 [IsSl tMb ms, Is fullFn] (Is (.bool (ms.any Mb.f))) := by
  refine FnP.enter Tryz.func60 Tryz.ntmps60 rfl rfl ?_
  intro c hX
  (refine JC_seq ?_)
  refine JC_region ?_
  refine JL_1 rfl (op_assign rfl) ?_
  refine JL_nil ?_
  (repeat with_reducible first | refine JC_seq ?_ | refine JQ_then ?_)
  (skip)
  refine JC_region ?_
  refine JL_1 rfl (op_move rfl) ?_
  refine JL_1 rfl (op_move rfl) ?_
  refine JL_1 rfl (op_call Tryz.call85 (IndexFull_ok _) ⟨evS, ⟨evS, trivial⟩⟩) ?_
  refine JL_1 rfl (op_geq (Ev.rfl' rfl) (Ev.rfl' rfl)) ?_
  refine JL_1 rfl (op_assign rfl) ?_
  refine JL_nil ?_
  (repeat with_reducible first | refine JQ_then ?_ | refine JC_ret ?_)
  exact JQ_ret1 Tryz.results60 rfl () (SubL.eq (by rw [fullAt_any])) (List.nil_sublist _)
end Go.Proofs.YtfglhiciagmicaaGreat

/- What a view is, in plain words: validity. Own work. -/
namespace Go.Proofs.YtfglhiciagmicaaGreat
set_option linter.unusedVariables false
set_option linter.unusedSimpArgs false
/-- The members' nodes are below nodes and ascend. -/
def AscM (nodes : Int) (ms : List Mb) (k : Nat) : Prop := 0 ≤ (Mb.at ms k).n ∧ (Mb.at ms k).n < nodes ∧ (0 < k → (Mb.at ms (k - 1)).n < (Mb.at ms k).n)
instance (nodes : Int) (ms : List Mb) (k : Nat) : Decidable (AscM nodes ms k) := by unfold AscM; infer_instance
def BootM (ms : List Mb) (k : Nat) : Prop := 1 ≤ (Mb.at ms k).b ∧ (Mb.at ms k).b ≤ 31
instance (ms : List Mb) (k : Nat) : Decidable (BootM ms k) := by unfold BootM; infer_instance
/-- Why a view is not one of so many nodes (0: it is one). -/
def validV (num : Int) (ms : List Mb) (nodes : Int) : Int :=
  if ¬ (1 ≤ nodes ∧ nodes ≤ 5) then 1 else if ¬ (0 ≤ num ∧ num < 16) then 2 else if ms.length = 0 then 1 else if ¬ ∀ k, k < ms.length → AscM nodes ms k then 1 else if ¬ ∀ k, k < ms.length → BootM ms k then 2
  else if ¬ ms.any Mb.f then 13 else 0
theorem validV_nodes {num nodes : Int} {ms : List Mb} (h : ¬ (1 ≤ nodes ∧ nodes ≤ 5)) : validV num ms nodes = 1 := by unfold validV; rw [if_pos h]
theorem validV_num {num nodes : Int} {ms : List Mb} (h : 1 ≤ nodes ∧ nodes ≤ 5) (h2 : ¬ (0 ≤ num ∧ num < 16)) : validV num ms nodes = 2 := by unfold validV; rw [if_neg (not_not_intro h), if_pos h2]
theorem validV_nil {num nodes : Int} {ms : List Mb} (h : 1 ≤ nodes ∧ nodes ≤ 5) (h2 : 0 ≤ num ∧ num < 16) (h3 : ms.length = 0) : validV num ms nodes = 1 := by unfold validV; rw [if_neg (not_not_intro h), if_neg (not_not_intro h2), if_pos h3]
theorem validV_asc {num nodes : Int} {ms : List Mb} (h : 1 ≤ nodes ∧ nodes ≤ 5) (h2 : 0 ≤ num ∧ num < 16) (h3 : ms.length ≠ 0) (h4 : ¬ ∀ k, k < ms.length → AscM nodes ms k) : validV num ms nodes = 1 := by
  unfold validV; rw [if_neg (not_not_intro h), if_neg (not_not_intro h2), if_neg h3, if_pos h4]
theorem validV_boot {num nodes : Int} {ms : List Mb} (h : 1 ≤ nodes ∧ nodes ≤ 5) (h2 : 0 ≤ num ∧ num < 16) (h3 : ms.length ≠ 0) (h4 : ∀ k, k < ms.length → AscM nodes ms k) (h5 : ¬ ∀ k, k < ms.length → BootM ms k) : validV num ms nodes = 2 := by
  unfold validV; rw [if_neg (not_not_intro h), if_neg (not_not_intro h2), if_neg h3, if_neg (not_not_intro h4), if_pos h5]
theorem validV_full {num nodes : Int} {ms : List Mb} (h : 1 ≤ nodes ∧ nodes ≤ 5) (h2 : 0 ≤ num ∧ num < 16) (h3 : ms.length ≠ 0) (h4 : ∀ k, k < ms.length → AscM nodes ms k) (h5 : ∀ k, k < ms.length → BootM ms k) (h6 : ms.any Mb.f = false) : validV num ms nodes = 13 := by
  unfold validV; rw [if_neg (not_not_intro h), if_neg (not_not_intro h2), if_neg h3, if_neg (not_not_intro h4), if_neg (not_not_intro h5), if_pos (by simp [h6])]
theorem validV_ok {num nodes : Int} {ms : List Mb} (h : 1 ≤ nodes ∧ nodes ≤ 5) (h2 : 0 ≤ num ∧ num < 16) (h3 : ms.length ≠ 0) (h4 : ∀ k, k < ms.length → AscM nodes ms k) (h5 : ∀ k, k < ms.length → BootM ms k) (h6 : ms.any Mb.f = true) : validV num ms nodes = 0 := by
  unfold validV; rw [if_neg (not_not_intro h), if_neg (not_not_intro h2), if_neg h3, if_neg (not_not_intro h4), if_neg (not_not_intro h5), if_neg (by simp [h6])]
end Go.Proofs.YtfglhiciagmicaaGreat

/- Contract of view.Valid. Own work. -/
namespace Go.Proofs.YtfglhiciagmicaaGreat
open Go.RowKit
set_option linter.unusedVariables false
set_option linter.unusedSimpArgs false
set_option maxRecDepth 100000
set_option maxHeartbeats 2000000 in
-- view.Valid: function 28
theorem Valid_ok (num nodes : Int) (ms : List Mb) : FnP Tryz.prog 28 [IsView num ms, Is (.int .i64 nodes)] (Is (.int .i64 (validV num ms nodes))) := by
  refine FnP.enter Tryz.func28 Tryz.ntmps28 rfl rfl ?_
  intro c hX
  refine JC_lenV (t := 0) 1 rfl rfl (fun hlen => ?_)
  (refine JC_seq ?_)
  refine JC_region ?_
  (refine JL_n rfl (op_box (Ev.rfl' rfl) cellsT) ?_; intro i2)
  refine JL_1 rfl (op_assign rfl) ?_
  refine JL_nil ?_
  (repeat with_reducible first | refine JC_seq ?_ | refine JQ_then ?_ | refine JC_block ?_)
  (skip)
  refine JC_region ?_
  refine JL_1 rfl (op_move rfl) ?_
  refine JL_1 rfl (op_call Tryz.call59 (isNodes_ok _) ⟨evS, trivial⟩) ?_
  refine JL_1 rfl (op_not (Ev.rfl' rfl)) ?_
  refine JL_1 rfl (op_assign rfl) ?_
  refine JL_nil ?_
  (refine JQ_then ?_)
  refine JC_cond (Ev.rfl' rfl) (fun h => ?_) (fun h => ?_)
  · (refine JC_seq ?_)
    refine JC_region ?_
    refine JL_1 rfl (op_assign rfl) ?_
    refine JL_nil ?_
    (repeat with_reducible first | refine JQ_then ?_ | refine JQ_then_ret ?_ | refine JQ_block_ret ?_ | refine JC_ret ?_)
    have e : validV num ms nodes = 1 := validV_nodes (by simp at h; omega)
    exact JQ_ret1 Tryz.results28 rfl () (SubL.eq (by rw [e])) (List.nil_sublist _)
  have g1 : 1 ≤ nodes ∧ nodes ≤ 5 := by simp at h; omega
  clear h
  (refine JC_seq ?_)
  refine JC_region ?_
  refine JL_1 rfl (by exact op_fieldPtr (k := 0) (Ev.rfl' rfl) rfl rfl rfl rfl) ?_
  refine JL_1 rfl (by exact op_loadPtr (Ev.rfl' rfl) memT (by rfl) (by rfl) (by rfl)) ?_
  refine JL_1 rfl (op_lss (Ev.rfl' rfl) (Ev.rfl' rfl)) ?_
  refine JL_1 rfl (op_move rfl) ?_
  (refine JL_i0 rfl rfl rfl (fun hg => (by have hg0 := hg; (try simp at hg); exact op_fieldPtr (k := 0) evG rfl rfl rfl rfl)) ?_)
  (refine JL_i0 rfl rfl rfl (fun hg => (by have hg0 := hg; (try simp at hg); exact op_loadPtr evG memT (by rfl) (by rfl) (by rfl))) ?_)
  (refine JL_i0 rfl rfl rfl (fun hg => (by have hg0 := hg; (try simp at hg); exact op_geq evG evG)) ?_)
  refine JL_1 rfl (op_or (Ev.rfl' rfl) rfl (fun h => by exact SubL.iteT (by (rw [h]; rfl)) SubL.rfl')) ?_
  refine JL_1 rfl (op_assign rfl) ?_
  refine JL_nil ?_
  (refine JQ_then ?_)
  refine JC_cond (Ev.rfl' rfl) (fun h => ?_) (fun h => ?_)
  · (refine JC_seq ?_)
    refine JC_region ?_
    refine JL_1 rfl (op_assign rfl) ?_
    refine JL_nil ?_
    (repeat with_reducible first | refine JQ_then ?_ | refine JQ_then_ret ?_ | refine JQ_block_ret ?_ | refine JC_ret ?_)
    have e : validV num ms nodes = 2 := validV_num g1 (by simp at h; omega)
    exact JQ_ret1 Tryz.results28 rfl () (SubL.eq (by rw [e])) (List.nil_sublist _)
  have g2 : 0 ≤ num ∧ num < 16 := by simp at h; omega
  clear h
  (refine JC_seq ?_)
  refine JC_region ?_
  refine JL_1 rfl (by exact op_fieldPtr (k := 1) (Ev.rfl' rfl) rfl rfl rfl rfl) ?_
  refine JL_1 rfl (by exact op_loadPtr (Ev.rfl' rfl) memT (by rfl) (by rfl) (by rfl)) ?_
  refine JL_1 rfl (by exact op_len (Ev.rfl' rfl) rfl) ?_
  refine JL_1 rfl (op_eql (Ev.rfl' rfl) (Ev.rfl' rfl)) ?_
  refine JL_1 rfl (op_assign rfl) ?_
  refine JL_nil ?_
  (refine JQ_then ?_)
  refine JC_cond (Ev.rfl' rfl) (fun h => ?_) (fun h => ?_)
  · (refine JC_seq ?_)
    refine JC_region ?_
    refine JL_1 rfl (op_assign rfl) ?_
    refine JL_nil ?_
    (repeat with_reducible first | refine JQ_then ?_ | refine JQ_then_ret ?_ | refine JQ_block_ret ?_ | refine JC_ret ?_)
    have e : validV num ms nodes = 1 := validV_nil g1 g2 (by simp at h; simp [h])
    exact JQ_ret1 Tryz.results28 rfl () (SubL.eq (by rw [e])) (List.nil_sublist _)
  have g3 : ms.length ≠ 0 := by simp at h; simp [h]
  clear h
  (repeat with_reducible first | refine JC_seq ?_ | refine JQ_then ?_ | refine JC_skip ?_ | refine JQ_block ?_)
  refine JC_region ?_
  refine JL_1 rfl (by exact op_fieldPtr (k := 1) (Ev.rfl' rfl) rfl rfl rfl rfl) ?_
  refine JL_1 rfl (by exact op_loadPtr (Ev.rfl' rfl) memT (by rfl) (by rfl) (by rfl)) ?_
  refine JL_1 rfl (by exact op_len (Ev.rfl' rfl) rfl) ?_
  refine JL_1 rfl (op_move rfl) ?_
  refine JL_nil ?_
  (repeat with_reducible first | refine JQ_then ?_ | refine JC_block ?_)
  refine JC_loop (fun k : Nat => k ≤ ms.length ∧ ∀ j, j < k → AscM nodes ms j) (fun k => [(1, Is (.int .i64 nodes)), (2, Is (.pointer (some ⟨i2, 0, none⟩))), (28, IsSl tMb ms), (29, Is (.int .i64 ms.length)), (30, Is (.int .i64 (k : Nat)))])
    (fun _ => [blk i2 29 [Is (.int .i64 num), IsSl tMb ms]]) (fun k => ms.length - k) 0 ⟨Nat.zero_le _, fun j hj => absurd hj (Nat.not_lt_zero _)⟩ esubT (List.Sublist.refl _) ?_
  rintro k ⟨hk, hs⟩
  (refine JC_seq ?_)
  refine JC_region ?_
  refine JL_1 rfl (op_lss (Ev.rfl' rfl) (Ev.rfl' rfl)) ?_
  refine JL_nil ?_
  (repeat with_reducible first | refine JC_seq ?_ | refine JQ_then ?_)
  refine JC_cond (Ev.rfl' rfl) (fun h => ?_) (fun h => ?_)
  · have h' : (k : Int) < ms.length := of_decide_eq_true h
    clear h
    have hz := Mb.at_get ms k (by omega)
    have hz1 : 0 < k → ms[k - 1]? = some (Mb.at ms (k - 1)) := fun h => Mb.at_get ms (k - 1) (by omega)
    (repeat with_reducible first | refine JC_seq ?_ | refine JQ_then ?_ | refine JC_block ?_ | refine JC_skip ?_)
    refine JC_region ?_
    refine JL_1 rfl (op_move rfl) ?_
    refine JL_1 rfl (by exact op_index (j := _) (Ev.rfl' rfl) (Ev.rfl' rfl) rfl rfl (by rfl) hz) ?_
    refine JL_1 rfl (by exact op_loadRefsN (n := 3) (Ev.rfl' rfl) rfl rfl rfl (by rfl) nrmT) ?_
    (refine JL_n rfl (op_allocN rfl nrmT rfl) ?_; intro i6)
    refine JL_1 rfl (op_assign rfl) ?_
    refine JL_s0 (op_storeN (Ev.rfl' rfl) (Ev.rfl' rfl) cellsT replT nrmT (by rfl) (by rfl) (by rfl)) ?_
    refine JL_nil ?_
    (repeat with_reducible first | refine JC_seq ?_ | refine JQ_then ?_)
    (skip)
    refine JC_dr rfl (by kernel_rfl) ?_
    refine JD_stretch 25 (by kernel_rfl) ?_
    refine JW_1 (by exact op_fieldPtr (k := 0) (Ev.rfl' rfl) rfl rfl rfl rfl) ?_
    refine JW_1 (by exact op_loadPtr (Ev.rfl' rfl) memT (by rfl) (by rfl) (by rfl)) ?_
    refine JW_1 (op_lss (Ev.rfl' rfl) (Ev.rfl' rfl)) ?_
    refine JW_1 (op_move rfl) ?_
    (refine JW_i0 rfl rfl (fun hg => (by have hg0 := hg; (try simp at hg); exact op_fieldPtr (k := 0) evG rfl rfl rfl rfl)) ?_)
    (refine JW_i0 rfl rfl (fun hg => (by have hg0 := hg; (try simp at hg); exact op_loadPtr evG memT (by rfl) (by rfl) (by rfl))) ?_)
    (refine JW_i0 rfl rfl (fun hg => (by have hg0 := hg; (try simp at hg); exact op_moveE (Ev.rfl' rfl))) ?_)
    (refine JW_i0 rfl rfl (fun hg => (by have hg0 := hg; (try simp at hg); exact op_geq evG evG)) ?_)
    refine JW_1 (op_or (Ev.rfl' rfl) rfl (fun h => by exact SubL.iteT (by (rw [h]; rfl)) SubL.rfl')) ?_
    refine JW_1 (op_move rfl) ?_
    (refine JW_i0 rfl rfl (fun hg => (by have hg0 := hg; (try simp at hg); exact op_moveE (Ev.rfl' rfl))) ?_)
    (refine JW_i0 rfl rfl (fun hg => (by have hg0 := hg; (try simp at hg); exact op_gtr evG evG)) ?_)
    (refine JW_i0 rfl rfl (fun hg => (by have hg0 := hg; (try simp at hg); exact op_moveE (Ev.sub rfl (SubL.iteT (by assumption) SubL.rfl')))) ?_)
    (refine JW_i rfl rfl (fun hp hg => (by have hpg := Bool.and_eq_true_iff.2 ⟨hp, hg⟩; have hg0 := hg; (try simp at hg); exact op_fieldPtr (k := 0) evG rfl rfl rfl rfl)) ?_)
    (refine JW_i rfl rfl (fun hp hg => (by have hpg := Bool.and_eq_true_iff.2 ⟨hp, hg⟩; have hg0 := hg; (try simp at hg); exact op_loadPtr evG memT (by rfl) (by rfl) (by rfl))) ?_)
    (refine JW_i rfl rfl (fun hp hg => (by have hpg := Bool.and_eq_true_iff.2 ⟨hp, hg⟩; have hg0 := hg; (try simp at hg); exact op_fieldPtr (k := 1) evG rfl rfl rfl rfl)) ?_)
    (refine JW_i rfl rfl (fun hp hg => (by have hpg := Bool.and_eq_true_iff.2 ⟨hp, hg⟩; have hg0 := hg; (try simp at hg); exact op_loadPtr evG memT (by rfl) (by rfl) (by rfl))) ?_)
    (refine JW_i rfl rfl (fun hp hg => (by have hpg := Bool.and_eq_true_iff.2 ⟨hp, hg⟩; have hg0 := hg; (try simp at hg); exact op_moveE (Ev.rfl' rfl))) ?_)
    (refine JW_i rfl rfl (fun hp hg => (by have hpg := Bool.and_eq_true_iff.2 ⟨hp, hg⟩; have hg0 := hg; (try simp at hg); exact op_sub evG evG wrapT)) ?_)
    (refine JW_i rfl rfl (fun hp hg => (by have hpg := Bool.and_eq_true_iff.2 ⟨hp, hg⟩; have hg0 := hg; (try simp at hg); exact op_index (j := _) evG evG rfl rfl (by omega) (hz1 (by omega)))) ?_)
    (refine JW_i rfl rfl (fun hp hg => (by have hpg := Bool.and_eq_true_iff.2 ⟨hp, hg⟩; have hg0 := hg; (try simp at hg); exact op_fieldRefN (k := 0) evG rfl rfl rfl rfl nrmT)) ?_)
    (refine JW_i rfl rfl (fun hp hg => (by have hpg := Bool.and_eq_true_iff.2 ⟨hp, hg⟩; have hg0 := hg; (try simp at hg); exact op_loadRef evG rfl rfl rfl)) ?_)
    (refine JW_i rfl rfl (fun hp hg => (by have hpg := Bool.and_eq_true_iff.2 ⟨hp, hg⟩; have hg0 := hg; (try simp at hg); exact op_leq evG evG)) ?_)
    (refine JW_i0 rfl rfl (fun hg => (by have hg0 := hg; (try simp at hg); exact op_and evG rfl (fun h => by exact SubL.iteT (by (simp_all; done)) SubL.rfl'))) ?_)
    refine JW_1 (op_or (Ev.rfl' rfl) rfl (fun h => by exact SubL.iteT (by (rw [h]; rfl)) SubL.rfl')) ?_
    refine ⟨rfl, ?_⟩
    refine JD_end ?_
    (refine JQ_then ?_)
    refine JC_cond (Ev.rfl' rfl) (fun h => ?_) (fun h => ?_)
    · (refine JC_seq ?_)
      refine JC_region ?_
      refine JL_1 rfl (op_assign rfl) ?_
      refine JL_nil ?_
      (repeat with_reducible first | refine JQ_then ?_ | refine JQ_then_ret ?_ | refine JQ_block_ret ?_ | refine JC_ret ?_)
      have e : validV num ms nodes = 1 := validV_asc g1 g2 g3 (fun ha => by
        have h3 := ha k (by omega)
        unfold AscM at h3
        simp at h
        omega)
      exact JQ_ret1 Tryz.results28 rfl () (SubL.eq (by rw [e])) (List.nil_sublist _)
    have ha : AscM nodes ms k := by
      unfold AscM
      simp at h
      refine ⟨by omega, by omega, fun h0 => ?_⟩
      have := h.2 (by omega)
      omega
    clear h
    (repeat with_reducible first | refine JQ_then ?_ | refine JC_skip ?_ | refine JQ_block ?_)
    refine JC_region ?_
    refine JL_1 rfl (op_add (Ev.rfl' rfl) (Ev.rfl' rfl) wrapT) ?_
    refine JL_1 rfl (op_move rfl) ?_
    refine JL_nil ?_
    (skip)
    exact JQ_round (k + 1) ⟨by omega, fun j hj => by
      rcases (show j < k ∨ j = k by omega) with h | h
      · exact hs j h
      · rw [h]; exact ha⟩ (by omega) esubT (by simp)
  have g4 : ∀ j, j < ms.length → AscM nodes ms j := fun j hj => hs j (by have : ¬ (k : Int) < ms.length := of_decide_eq_false h; omega)
  clear hs h hk
  (repeat with_reducible first | refine JC_seq ?_ | refine JQ_then ?_ | refine JC_exit ?_ | refine JQ_then_exit ?_ | refine JQ_hit ?_)
  refine JC_region ?_
  refine JL_1 rfl (by exact op_fieldPtr (k := 1) (Ev.rfl' rfl) rfl rfl rfl rfl) ?_
  refine JL_1 rfl (by exact op_loadPtr (Ev.rfl' rfl) memT (by rfl) (by rfl) (by rfl)) ?_
  refine JL_1 rfl (by exact op_len (Ev.rfl' rfl) rfl) ?_
  refine JL_1 rfl (op_move rfl) ?_
  refine JL_nil ?_
  (repeat with_reducible first | refine JQ_then ?_ | refine JC_block ?_)
  refine JC_loop (fun k : Nat => k ≤ ms.length ∧ ∀ j, j < k → BootM ms j) (fun k => [(2, Is (.pointer (some ⟨i2, 0, none⟩))), (62, IsSl tMb ms), (63, Is (.int .i64 ms.length)), (64, Is (.int .i64 (k : Nat)))])
    (fun _ => [blk i2 29 [Is (.int .i64 num), IsSl tMb ms]]) (fun k => ms.length - k) 0 ⟨Nat.zero_le _, fun j hj => absurd hj (Nat.not_lt_zero _)⟩ esubT (List.Sublist.refl _) ?_
  rintro k ⟨hk, hs⟩
  (refine JC_seq ?_)
  refine JC_region ?_
  refine JL_1 rfl (op_lss (Ev.rfl' rfl) (Ev.rfl' rfl)) ?_
  refine JL_nil ?_
  (repeat with_reducible first | refine JC_seq ?_ | refine JQ_then ?_)
  refine JC_cond (Ev.rfl' rfl) (fun h => ?_) (fun h => ?_)
  · have h' : (k : Int) < ms.length := of_decide_eq_true h
    clear h
    have hz := Mb.at_get ms k (by omega)
    (repeat with_reducible first | refine JC_seq ?_ | refine JQ_then ?_ | refine JC_block ?_ | refine JC_skip ?_)
    refine JC_region ?_
    refine JL_1 rfl (by exact op_index (j := _) (Ev.rfl' rfl) (Ev.rfl' rfl) rfl rfl (by rfl) hz) ?_
    refine JL_1 rfl (by exact op_loadRefsN (n := 3) (Ev.rfl' rfl) rfl rfl rfl (by rfl) nrmT) ?_
    (refine JL_n rfl (op_allocN rfl nrmT rfl) ?_; intro i8)
    refine JL_s0 (op_storeN (Ev.rfl' rfl) (Ev.rfl' rfl) cellsT replT nrmT (by rfl) (by rfl) (by rfl)) ?_
    refine JL_nil ?_
    (repeat with_reducible first | refine JC_seq ?_ | refine JQ_then ?_)
    (skip)
    refine JC_region ?_
    refine JL_1 rfl (by exact op_fieldPtr (k := 1) (Ev.rfl' rfl) rfl rfl rfl rfl) ?_
    refine JL_1 rfl (by exact op_loadPtr (Ev.rfl' rfl) memT (by rfl) (by rfl) (by rfl)) ?_
    refine JL_1 rfl (op_lss (Ev.rfl' rfl) (Ev.rfl' rfl)) ?_
    refine JL_1 rfl (op_move rfl) ?_
    (refine JL_i0 rfl rfl rfl (fun hg => (by have hg0 := hg; (try simp at hg); exact op_fieldPtr (k := 1) evG rfl rfl rfl rfl)) ?_)
    (refine JL_i0 rfl rfl rfl (fun hg => (by have hg0 := hg; (try simp at hg); exact op_loadPtr evG memT (by rfl) (by rfl) (by rfl))) ?_)
    (refine JL_i0 rfl rfl rfl (fun hg => (by have hg0 := hg; (try simp at hg); exact op_gtr evG evG)) ?_)
    refine JL_1 rfl (op_or (Ev.rfl' rfl) rfl (fun h => by exact SubL.iteT (by (rw [h]; rfl)) SubL.rfl')) ?_
    refine JL_nil ?_
    (refine JQ_then ?_)
    refine JC_cond (Ev.rfl' rfl) (fun h => ?_) (fun h => ?_)
    · (refine JC_seq ?_)
      refine JC_region ?_
      refine JL_1 rfl (op_assign rfl) ?_
      refine JL_nil ?_
      (repeat with_reducible first | refine JQ_then ?_ | refine JQ_then_ret ?_ | refine JQ_block_ret ?_ | refine JC_ret ?_)
      have e : validV num ms nodes = 2 := validV_boot g1 g2 g3 g4 (fun ha => by
        have h3 := ha k (by omega)
        unfold BootM at h3
        simp at h
        omega)
      exact JQ_ret1 Tryz.results28 rfl () (SubL.eq (by rw [e])) (List.nil_sublist _)
    have ha : BootM ms k := by
      unfold BootM
      simp at h
      omega
    clear h
    (repeat with_reducible first | refine JQ_then ?_ | refine JC_skip ?_ | refine JQ_block ?_)
    refine JC_region ?_
    refine JL_1 rfl (op_add (Ev.rfl' rfl) (Ev.rfl' rfl) wrapT) ?_
    refine JL_1 rfl (op_move rfl) ?_
    refine JL_nil ?_
    (skip)
    exact JQ_round (k + 1) ⟨by omega, fun j hj => by
      rcases (show j < k ∨ j = k by omega) with h | h
      · exact hs j h
      · rw [h]; exact ha⟩ (by omega) esubT (by simp)
  have g5 : ∀ j, j < ms.length → BootM ms j := fun j hj => hs j (by have : ¬ (k : Int) < ms.length := of_decide_eq_false h; omega)
  clear hs h hk
  (repeat with_reducible first | refine JC_seq ?_ | refine JQ_then ?_ | refine JC_exit ?_ | refine JQ_then_exit ?_ | refine JQ_hit ?_)
  refine JC_region ?_
  refine JL_1 rfl (by exact op_fieldPtr (k := 1) (Ev.rfl' rfl) rfl rfl rfl rfl) ?_
  refine JL_1 rfl (by exact op_loadPtr (Ev.rfl' rfl) memT (by rfl) (by rfl) (by rfl)) ?_
  refine JL_1 rfl (op_call Tryz.call60 (ContainsFull_ok _) ⟨evS, ⟨evS, trivial⟩⟩) ?_
  refine JL_1 rfl (op_not (Ev.rfl' rfl)) ?_
  refine JL_nil ?_
  (refine JQ_then ?_)
  refine JC_cond (Ev.rfl' rfl) (fun h => ?_) (fun h => ?_)
  · (refine JC_seq ?_)
    refine JC_region ?_
    refine JL_1 rfl (op_assign rfl) ?_
    refine JL_nil ?_
    (repeat with_reducible first | refine JQ_then ?_ | refine JQ_then_ret ?_ | refine JC_ret ?_)
    have e : validV num ms nodes = 13 := validV_full g1 g2 g3 g4 g5 (by simpa using h)
    exact JQ_ret1 Tryz.results28 rfl () (SubL.eq (by rw [e])) (List.nil_sublist _)
  · (repeat with_reducible first | refine JC_seq ?_ | refine JQ_then ?_ | refine JC_skip ?_)
    refine JC_region ?_
    refine JL_1 rfl (op_assign rfl) ?_
    refine JL_nil ?_
    (repeat with_reducible first | refine JQ_then ?_ | refine JC_ret ?_)
    have e : validV num ms nodes = 0 := validV_ok g1 g2 g3 g4 g5 (by simpa using h)
    exact JQ_ret1 Tryz.results28 rfl () (SubL.eq (by rw [e])) (List.nil_sublist _)
end Go.Proofs.YtfglhiciagmicaaGreat

/- Members compared. Own work. -/
namespace Go.Proofs.YtfglhiciagmicaaGreat
open Go.RowKit
set_option linter.unusedVariables false
set_option linter.unusedSimpArgs false
end Go.Proofs.YtfglhiciagmicaaGreat

/- Contracts: views compared; the full members. Own work. -/
namespace Go.Proofs.YtfglhiciagmicaaGreat
open Go.RowKit
set_option linter.unusedVariables false
set_option linter.unusedSimpArgs false
set_option maxRecDepth 100000
-- bodegaref9.Full: function 70
theorem FullR_ok (n : Int) (xs : List Mb) (hl : xs.length ≤ 1000000) : FnP Tryz.prog 70 [IsView n xs] (IsSl tMb (xs.filter Mb.f)) := by
  refine FnP.enter Tryz.func70 Tryz.ntmps70 rfl rfl ?_
  intro c hX
  refine JC_buf0 88 tMb ?_
  (refine JC_seq ?_)
  refine JC_region ?_
  (refine JL_n rfl (op_box (Ev.rfl' rfl) cellsT) ?_; intro i1)
  refine JL_1 rfl (op_assign rfl) ?_
  refine JL_nil ?_
  (repeat with_reducible first | refine JC_seq ?_ | refine JQ_then ?_)
  (skip)
  refine JC_region ?_
  refine JL_1 rfl (op_assign rfl) ?_
  refine JL_nil ?_
  (repeat with_reducible first | refine JC_seq ?_ | refine JQ_then ?_)
  (skip)
  refine JC_region ?_
  refine JL_1 rfl (op_assign rfl) ?_
  refine JL_nil ?_
  (repeat with_reducible first | refine JQ_then ?_ | refine JC_block ?_)
  refine JC_loop (fun i : Nat × (Option Addr × Nat) => i.1 ≤ xs.length) (fun i => [(1, Is (.pointer (some ⟨i1, 0, none⟩))), (3, Is (slV ((xs.take i.1).filter Mb.f).length i.2)), (4, Is (.int .i64 (i.1 : Nat)))])
    (fun i => [blk i1 29 [Is (.int .i64 n), IsSl tMb xs], buf (slV ((xs.take i.1).filter Mb.f).length i.2) 88 tMb ((xs.take i.1).filter Mb.f)]) (fun i => xs.length - i.1) (0, (none, 0)) (Nat.zero_le _) esubT (List.Sublist.refl _) ?_
  rintro ⟨k, i⟩ hk
  dsimp only at hk ⊢
  (refine JC_seq ?_; refine JC_seq ?_)
  refine JC_region ?_
  refine JL_1 rfl (op_move rfl) ?_
  refine JL_1 rfl (by exact op_fieldPtr (k := 1) (Ev.rfl' rfl) rfl rfl rfl rfl) ?_
  refine JL_1 rfl (by exact op_loadPtr (Ev.rfl' rfl) memT (by rfl) (by rfl) (by rfl)) ?_
  refine JL_1 rfl (by exact op_len (Ev.rfl' rfl) rfl) ?_
  refine JL_1 rfl (op_lss (Ev.rfl' rfl) (Ev.rfl' rfl)) ?_
  refine JL_nil ?_
  (refine JQ_then ?_)
  refine JC_cond (Ev.rfl' rfl) (fun h => ?_) (fun h => ?_)
  · have h' : (k : Int) < xs.length := of_decide_eq_true h
    clear h
    have hx := Mb.at_get xs k (by omega)
    generalize Mb.at xs k = mx at *
    have hF : (xs.take (k + 1)).filter Mb.f = (xs.take k).filter Mb.f ++ if mx.f then [mx] else [] := by
      rw [List.take_add_one, hx, List.filter_append]
      cases hf : mx.f <;> simp [hf]
    have hFl : ((xs.take k).filter Mb.f).length ≤ k := Nat.le_trans (List.length_filter_le _ _) (List.length_take_le _ _)
    (repeat with_reducible first | refine JC_seq ?_ | refine JQ_then ?_ | refine JC_block ?_ | refine JC_skip ?_)
    refine JC_region ?_
    refine JL_1 rfl (by exact op_fieldPtr (k := 1) (Ev.rfl' rfl) rfl rfl rfl rfl) ?_
    refine JL_1 rfl (by exact op_loadPtr (Ev.rfl' rfl) memT (by rfl) (by rfl) (by rfl)) ?_
    refine JL_1 rfl (op_move rfl) ?_
    refine JL_1 rfl (by exact op_index (j := _) (Ev.rfl' rfl) (Ev.rfl' rfl) rfl rfl (by rfl) hx) ?_
    refine JL_1 rfl (by exact op_fieldRefN (k := 2) (Ev.rfl' rfl) rfl rfl rfl rfl nrmT) ?_
    refine JL_1 rfl (by exact op_loadRef (Ev.rfl' rfl) rfl rfl rfl) ?_
    refine JL_nil ?_
    (refine JQ_then ?_)
    refine JC_cond (Ev.rfl' rfl) (fun h => ?_) (fun h => ?_)
    · rw [h, if_pos rfl] at hF
      (skip)
      refine JC_region ?_
      refine JL_1 rfl (op_move rfl) ?_
      refine JL_1 rfl (by exact op_fieldPtr (k := 1) (Ev.rfl' rfl) rfl rfl rfl rfl) ?_
      refine JL_1 rfl (by exact op_loadPtr (Ev.rfl' rfl) memT (by rfl) (by rfl) (by rfl)) ?_
      refine JL_1 rfl (op_move rfl) ?_
      refine JL_1 rfl (by exact op_index (j := _) (Ev.rfl' rfl) (Ev.rfl' rfl) rfl rfl (by rfl) hx) ?_
      refine JL_1 rfl (by exact op_loadRefsN (n := 3) (Ev.rfl' rfl) rfl rfl rfl (by rfl) nrmT) ?_
      refine JL_1 rfl (op_buildSlice (size := 3) (qs := [(0, _)]) rfl rfl rfl ⟨⟨rfl, _, (Ev.rfl' rfl), cellsT⟩, trivial⟩ (by rfl) (by rfl)) ?_
      (refine JL_s rfl (op_app (Ev.rfl' rfl) (fun _ => replT) (by exact Ev.sub rfl (by exact SubL.row (xs := [mx]) (by rfl) (by rfl) subsT)) (by exact appT rfl rfl rfl) lenT) ?_; intro i25)
      refine JL_1 rfl (op_assign rfl) ?_
      refine JL_nil ?_
      (repeat with_reducible first | refine JQ_then ?_ | refine JQ_block ?_)
      rw [← hF]
      (skip)
      refine JC_region ?_
      refine JL_1 rfl (op_move rfl) ?_
      refine JL_1 rfl (op_add (Ev.rfl' rfl) (Ev.rfl' rfl) wrapT) ?_
      refine JL_1 rfl (op_assign rfl) ?_
      refine JL_nil ?_
      (skip)
      exact JQ_round (k + 1, i25) (by omega) (by dsimp only; omega) esubT (List.Sublist.refl _)
    · rw [h] at hF
      simp only [Bool.false_eq_true, if_false, List.append_nil] at hF
      rw [← hF]
      (repeat with_reducible first | refine JQ_then ?_ | refine JC_skip ?_ | refine JQ_block ?_)
      refine JC_region ?_
      refine JL_1 rfl (op_move rfl) ?_
      refine JL_1 rfl (op_add (Ev.rfl' rfl) (Ev.rfl' rfl) wrapT) ?_
      refine JL_1 rfl (op_assign rfl) ?_
      refine JL_nil ?_
      (skip)
      exact JQ_round (k + 1, i) (by omega) (by dsimp only; omega) esubT (List.Sublist.refl _)
  have hkl : k = xs.length := by have := of_decide_eq_false h; omega
  subst hkl
  rw [List.take_length]
  clear h
  (repeat with_reducible first | refine JC_seq ?_ | refine JQ_then ?_ | refine JC_exit ?_ | refine JQ_then_exit ?_ | refine JQ_hit ?_)
  refine JC_region ?_
  refine JL_1 rfl (op_move rfl) ?_
  refine JL_1 rfl (op_assign rfl) ?_
  refine JL_nil ?_
  (repeat with_reducible first | refine JQ_then ?_ | refine JC_ret ?_)
  refine JQ_freeze hX replT ?_
  exact JQ_ret1 Tryz.results70 rfl () (SubL.fact memT) (List.nil_sublist _)
end Go.Proofs.YtfglhiciagmicaaGreat

/- Contract of bodegaref9.ValidView. Own work. -/
namespace Go.Proofs.YtfglhiciagmicaaGreat
open Go.RowKit
set_option linter.unusedVariables false
set_option linter.unusedSimpArgs false
set_option maxRecDepth 100000
set_option maxHeartbeats 2000000 in
-- bodegaref9.ValidView: function 34
theorem ValidR_ok (num nodes : Int) (ms : List Mb) (hsm : ms.length ≤ 1000000) : FnP Tryz.prog 34 [IsView num ms, Is (.int .i64 nodes)] (Is (.int .i64 (validV num ms nodes))) := by
  refine FnP.enter Tryz.func34 Tryz.ntmps34 rfl rfl ?_
  intro c hX
  (refine JC_seq ?_)
  refine JC_region ?_
  (refine JL_n rfl (op_box (Ev.rfl' rfl) cellsT) ?_; intro i2)
  refine JL_1 rfl (op_assign rfl) ?_
  refine JL_nil ?_
  (repeat with_reducible first | refine JC_seq ?_ | refine JQ_then ?_)
  (skip)
  refine JC_region ?_
  refine JL_1 rfl (op_move rfl) ?_
  refine JL_1 rfl (op_lss (Ev.rfl' rfl) (Ev.rfl' rfl)) ?_
  refine JL_1 rfl (op_move rfl) ?_
  (refine JL_i0 rfl rfl rfl (fun hg => (by have hg0 := hg; (try simp at hg); exact op_moveE (Ev.rfl' rfl))) ?_)
  (refine JL_i0 rfl rfl rfl (fun hg => (by have hg0 := hg; (try simp at hg); exact op_gtr evG evG)) ?_)
  refine JL_1 rfl (op_or (Ev.rfl' rfl) rfl (fun h => by exact SubL.iteT (by (rw [h]; rfl)) SubL.rfl')) ?_
  refine JL_nil ?_
  (refine JQ_then ?_)
  refine JC_cond (Ev.rfl' rfl) (fun h => ?_) (fun h => ?_)
  · (refine JC_seq ?_)
    refine JC_region ?_
    refine JL_1 rfl (op_assign rfl) ?_
    refine JL_nil ?_
    (repeat with_reducible first | refine JQ_then ?_ | refine JQ_then_ret ?_ | refine JC_ret ?_)
    have e : validV num ms nodes = 1 := validV_nodes (by simp at h; omega)
    exact JQ_ret1 Tryz.results34 rfl () (SubL.eq (by rw [e])) (List.nil_sublist _)
  have g1 : 1 ≤ nodes ∧ nodes ≤ 5 := by simp at h; omega
  clear h
  (repeat with_reducible first | refine JC_seq ?_ | refine JQ_then ?_ | refine JC_skip ?_)
  refine JC_region ?_
  refine JL_1 rfl (by exact op_fieldPtr (k := 0) (Ev.rfl' rfl) rfl rfl rfl rfl) ?_
  refine JL_1 rfl (by exact op_loadPtr (Ev.rfl' rfl) memT (by rfl) (by rfl) (by rfl)) ?_
  refine JL_1 rfl (op_lss (Ev.rfl' rfl) (Ev.rfl' rfl)) ?_
  refine JL_1 rfl (op_move rfl) ?_
  (refine JL_i0 rfl rfl rfl (fun hg => (by have hg0 := hg; (try simp at hg); exact op_fieldPtr (k := 0) evG rfl rfl rfl rfl)) ?_)
  (refine JL_i0 rfl rfl rfl (fun hg => (by have hg0 := hg; (try simp at hg); exact op_loadPtr evG memT (by rfl) (by rfl) (by rfl))) ?_)
  (refine JL_i0 rfl rfl rfl (fun hg => (by have hg0 := hg; (try simp at hg); exact op_geq evG evG)) ?_)
  refine JL_1 rfl (op_or (Ev.rfl' rfl) rfl (fun h => by exact SubL.iteT (by (rw [h]; rfl)) SubL.rfl')) ?_
  refine JL_nil ?_
  (refine JQ_then ?_)
  refine JC_cond (Ev.rfl' rfl) (fun h => ?_) (fun h => ?_)
  · (refine JC_seq ?_)
    refine JC_region ?_
    refine JL_1 rfl (op_assign rfl) ?_
    refine JL_nil ?_
    (repeat with_reducible first | refine JQ_then ?_ | refine JQ_then_ret ?_ | refine JC_ret ?_)
    have e : validV num ms nodes = 2 := validV_num g1 (by simp at h; omega)
    exact JQ_ret1 Tryz.results34 rfl () (SubL.eq (by rw [e])) (List.nil_sublist _)
  have g2 : 0 ≤ num ∧ num < 16 := by simp at h; omega
  clear h
  (repeat with_reducible first | refine JC_seq ?_ | refine JQ_then ?_ | refine JC_skip ?_)
  refine JC_region ?_
  refine JL_1 rfl (op_assign rfl) ?_
  refine JL_nil ?_
  (repeat with_reducible first | refine JQ_then ?_ | refine JC_block ?_)
  refine JC_loop (fun k : Nat => k ≤ ms.length ∧ ∀ j, j < k → AscM nodes ms j) (fun k => [(1, Is (.int .i64 nodes)), (2, Is (.pointer (some ⟨i2, 0, none⟩))), (5, Is (.int .i64 (k : Nat)))])
    (fun _ => [blk i2 29 [Is (.int .i64 num), IsSl tMb ms]]) (fun k => ms.length - k) 0 ⟨Nat.zero_le _, fun j hj => absurd hj (Nat.not_lt_zero _)⟩ esubT (List.Sublist.refl _) ?_
  rintro k ⟨hk, hs⟩
  (refine JC_seq ?_; refine JC_seq ?_)
  refine JC_region ?_
  refine JL_1 rfl (op_move rfl) ?_
  refine JL_1 rfl (by exact op_fieldPtr (k := 1) (Ev.rfl' rfl) rfl rfl rfl rfl) ?_
  refine JL_1 rfl (by exact op_loadPtr (Ev.rfl' rfl) memT (by rfl) (by rfl) (by rfl)) ?_
  refine JL_1 rfl (by exact op_len (Ev.rfl' rfl) rfl) ?_
  refine JL_1 rfl (op_lss (Ev.rfl' rfl) (Ev.rfl' rfl)) ?_
  refine JL_nil ?_
  (refine JQ_then ?_)
  refine JC_cond (Ev.rfl' rfl) (fun h => ?_) (fun h => ?_)
  · have h' : (k : Int) < ms.length := of_decide_eq_true h
    clear h
    have hz := Mb.at_get ms k (by omega)
    have hz1 : 0 < k → ms[k - 1]? = some (Mb.at ms (k - 1)) := fun h => Mb.at_get ms (k - 1) (by omega)
    have g3 : ms.length ≠ 0 := by omega
    (repeat with_reducible first | refine JC_seq ?_ | refine JQ_then ?_ | refine JC_block ?_ | refine JC_skip ?_)
    refine JC_region ?_
    refine JL_1 rfl (by exact op_fieldPtr (k := 1) (Ev.rfl' rfl) rfl rfl rfl rfl) ?_
    refine JL_1 rfl (by exact op_loadPtr (Ev.rfl' rfl) memT (by rfl) (by rfl) (by rfl)) ?_
    refine JL_1 rfl (op_move rfl) ?_
    refine JL_1 rfl (by exact op_index (j := _) (Ev.rfl' rfl) (Ev.rfl' rfl) rfl rfl (by rfl) hz) ?_
    refine JL_1 rfl (by exact op_fieldRefN (k := 0) (Ev.rfl' rfl) rfl rfl rfl rfl nrmT) ?_
    refine JL_1 rfl (by exact op_loadRef (Ev.rfl' rfl) rfl rfl rfl) ?_
    refine JL_1 rfl (op_assign rfl) ?_
    refine JL_nil ?_
    (repeat with_reducible first | refine JC_seq ?_ | refine JQ_then ?_)
    (skip)
    refine JC_region ?_
    refine JL_1 rfl (op_move rfl) ?_
    refine JL_1 rfl (op_lss (Ev.rfl' rfl) (Ev.rfl' rfl)) ?_
    refine JL_1 rfl (op_move rfl) ?_
    (refine JL_i0 rfl rfl rfl (fun hg => (by have hg0 := hg; (try simp at hg); exact op_moveE (Ev.rfl' rfl))) ?_)
    (refine JL_i0 rfl rfl rfl (fun hg => (by have hg0 := hg; (try simp at hg); exact op_moveE (Ev.rfl' rfl))) ?_)
    (refine JL_i0 rfl rfl rfl (fun hg => (by have hg0 := hg; (try simp at hg); exact op_geq evG evG)) ?_)
    refine JL_1 rfl (op_or (Ev.rfl' rfl) rfl (fun h => by exact SubL.iteT (by (rw [h]; rfl)) SubL.rfl')) ?_
    refine JL_1 rfl (op_move rfl) ?_
    (refine JL_i0 rfl rfl rfl (fun hg => (by have hg0 := hg; (try simp at hg); exact op_moveE (Ev.rfl' rfl))) ?_)
    (refine JL_i0 rfl rfl rfl (fun hg => (by have hg0 := hg; (try simp at hg); exact op_gtr evG evG)) ?_)
    (refine JL_i0 rfl rfl rfl (fun hg => (by have hg0 := hg; (try simp at hg); exact op_moveE (Ev.sub rfl (SubL.iteT (by assumption) SubL.rfl')))) ?_)
    (refine JL_i rfl rfl rfl (fun hp hg => (by have hpg := Bool.and_eq_true_iff.2 ⟨hp, hg⟩; have hg0 := hg; (try simp at hg); exact op_fieldPtr (k := 1) evG rfl rfl rfl rfl)) ?_)
    (refine JL_i rfl rfl rfl (fun hp hg => (by have hpg := Bool.and_eq_true_iff.2 ⟨hp, hg⟩; have hg0 := hg; (try simp at hg); exact op_loadPtr evG memT (by rfl) (by rfl) (by rfl))) ?_)
    (refine JL_i rfl rfl rfl (fun hp hg => (by have hpg := Bool.and_eq_true_iff.2 ⟨hp, hg⟩; have hg0 := hg; (try simp at hg); exact op_moveE (Ev.rfl' rfl))) ?_)
    (refine JL_i rfl rfl rfl (fun hp hg => (by have hpg := Bool.and_eq_true_iff.2 ⟨hp, hg⟩; have hg0 := hg; (try simp at hg); exact op_sub evG evG wrapT)) ?_)
    (refine JL_i rfl rfl rfl (fun hp hg => (by have hpg := Bool.and_eq_true_iff.2 ⟨hp, hg⟩; have hg0 := hg; (try simp at hg); exact op_index (j := _) evG evG rfl rfl (by omega) (hz1 (by omega)))) ?_)
    (refine JL_i rfl rfl rfl (fun hp hg => (by have hpg := Bool.and_eq_true_iff.2 ⟨hp, hg⟩; have hg0 := hg; (try simp at hg); exact op_fieldRefN (k := 0) evG rfl rfl rfl rfl nrmT)) ?_)
    (refine JL_i rfl rfl rfl (fun hp hg => (by have hpg := Bool.and_eq_true_iff.2 ⟨hp, hg⟩; have hg0 := hg; (try simp at hg); exact op_loadRef evG rfl rfl rfl)) ?_)
    (refine JL_i rfl rfl rfl (fun hp hg => (by have hpg := Bool.and_eq_true_iff.2 ⟨hp, hg⟩; have hg0 := hg; (try simp at hg); exact op_moveE (Ev.rfl' rfl))) ?_)
    (refine JL_i rfl rfl rfl (fun hp hg => (by have hpg := Bool.and_eq_true_iff.2 ⟨hp, hg⟩; have hg0 := hg; (try simp at hg); exact op_geq evG evG)) ?_)
    (refine JL_i0 rfl rfl rfl (fun hg => (by have hg0 := hg; (try simp at hg); exact op_and evG rfl (fun h => by exact SubL.iteT (by (simp_all; done)) SubL.rfl'))) ?_)
    refine JL_1 rfl (op_or (Ev.rfl' rfl) rfl (fun h => by exact SubL.iteT (by (rw [h]; rfl)) SubL.rfl')) ?_
    refine JL_nil ?_
    (refine JQ_then ?_)
    refine JC_cond (Ev.rfl' rfl) (fun h => ?_) (fun h => ?_)
    · (refine JC_seq ?_)
      refine JC_region ?_
      refine JL_1 rfl (op_assign rfl) ?_
      refine JL_nil ?_
      (repeat with_reducible first | refine JQ_then ?_ | refine JQ_then_ret ?_ | refine JQ_block_ret ?_ | refine JC_ret ?_)
      have e : validV num ms nodes = 1 := validV_asc g1 g2 g3 (fun ha => by
        have h3 := ha k (by omega)
        unfold AscM at h3
        simp at h
        omega)
      exact JQ_ret1 Tryz.results34 rfl () (SubL.eq (by rw [e])) (List.nil_sublist _)
    have ha : AscM nodes ms k := by
      unfold AscM
      simp at h
      refine ⟨by omega, by omega, fun h0 => ?_⟩
      have := h.2 (by omega)
      omega
    clear h
    (repeat with_reducible first | refine JQ_then ?_ | refine JC_skip ?_ | refine JQ_block ?_)
    refine JC_region ?_
    refine JL_1 rfl (op_move rfl) ?_
    refine JL_1 rfl (op_add (Ev.rfl' rfl) (Ev.rfl' rfl) wrapT) ?_
    refine JL_1 rfl (op_assign rfl) ?_
    refine JL_nil ?_
    (skip)
    exact JQ_round (k + 1) ⟨by omega, fun j hj => by
      rcases (show j < k ∨ j = k by omega) with h | h
      · exact hs j h
      · rw [h]; exact ha⟩ (by omega) esubT (by simp)
  have g4 : ∀ j, j < ms.length → AscM nodes ms j := fun j hj => hs j (by have : ¬ (k : Int) < ms.length := of_decide_eq_false h; omega)
  clear hs h hk
  (repeat with_reducible first | refine JC_seq ?_ | refine JQ_then ?_ | refine JC_exit ?_ | refine JQ_then_exit ?_ | refine JQ_hit ?_)
  refine JC_region ?_
  refine JL_1 rfl (by exact op_fieldPtr (k := 1) (Ev.rfl' rfl) rfl rfl rfl rfl) ?_
  refine JL_1 rfl (by exact op_loadPtr (Ev.rfl' rfl) memT (by rfl) (by rfl) (by rfl)) ?_
  refine JL_1 rfl (by exact op_len (Ev.rfl' rfl) rfl) ?_
  refine JL_1 rfl (op_eql (Ev.rfl' rfl) (Ev.rfl' rfl)) ?_
  refine JL_nil ?_
  (refine JQ_then ?_)
  refine JC_cond (Ev.rfl' rfl) (fun h => ?_) (fun h => ?_)
  · (refine JC_seq ?_)
    refine JC_region ?_
    refine JL_1 rfl (op_assign rfl) ?_
    refine JL_nil ?_
    (repeat with_reducible first | refine JQ_then ?_ | refine JQ_then_ret ?_ | refine JC_ret ?_)
    have e : validV num ms nodes = 1 := validV_nil g1 g2 (by simp at h; simp [h])
    exact JQ_ret1 Tryz.results34 rfl () (SubL.eq (by rw [e])) (List.nil_sublist _)
  have g3 : ms.length ≠ 0 := by simp at h; simp [h]
  clear h
  (repeat with_reducible first | refine JC_seq ?_ | refine JQ_then ?_ | refine JC_skip ?_)
  refine JC_region ?_
  refine JL_1 rfl (op_assign rfl) ?_
  refine JL_nil ?_
  (repeat with_reducible first | refine JQ_then ?_ | refine JC_block ?_)
  refine JC_loop (fun k : Nat => k ≤ ms.length ∧ ∀ j, j < k → BootM ms j) (fun k => [(2, Is (.pointer (some ⟨i2, 0, none⟩))), (7, Is (.int .i64 (k : Nat)))])
    (fun _ => [blk i2 29 [Is (.int .i64 num), IsSl tMb ms]]) (fun k => ms.length - k) 0 ⟨Nat.zero_le _, fun j hj => absurd hj (Nat.not_lt_zero _)⟩ esubT (List.Sublist.refl _) ?_
  rintro k ⟨hk, hs⟩
  (refine JC_seq ?_; refine JC_seq ?_)
  refine JC_region ?_
  refine JL_1 rfl (op_move rfl) ?_
  refine JL_1 rfl (by exact op_fieldPtr (k := 1) (Ev.rfl' rfl) rfl rfl rfl rfl) ?_
  refine JL_1 rfl (by exact op_loadPtr (Ev.rfl' rfl) memT (by rfl) (by rfl) (by rfl)) ?_
  refine JL_1 rfl (by exact op_len (Ev.rfl' rfl) rfl) ?_
  refine JL_1 rfl (op_lss (Ev.rfl' rfl) (Ev.rfl' rfl)) ?_
  refine JL_nil ?_
  (refine JQ_then ?_)
  refine JC_cond (Ev.rfl' rfl) (fun h => ?_) (fun h => ?_)
  · have h' : (k : Int) < ms.length := of_decide_eq_true h
    clear h
    have hz := Mb.at_get ms k (by omega)
    (repeat with_reducible first | refine JC_seq ?_ | refine JQ_then ?_ | refine JC_block ?_ | refine JC_skip ?_)
    refine JC_region ?_
    refine JL_1 rfl (by exact op_fieldPtr (k := 1) (Ev.rfl' rfl) rfl rfl rfl rfl) ?_
    refine JL_1 rfl (by exact op_loadPtr (Ev.rfl' rfl) memT (by rfl) (by rfl) (by rfl)) ?_
    refine JL_1 rfl (op_move rfl) ?_
    refine JL_1 rfl (by exact op_index (j := _) (Ev.rfl' rfl) (Ev.rfl' rfl) rfl rfl (by rfl) hz) ?_
    refine JL_1 rfl (by exact op_fieldRefN (k := 1) (Ev.rfl' rfl) rfl rfl rfl rfl nrmT) ?_
    refine JL_1 rfl (by exact op_loadRef (Ev.rfl' rfl) rfl rfl rfl) ?_
    refine JL_1 rfl (op_assign rfl) ?_
    refine JL_nil ?_
    (repeat with_reducible first | refine JC_seq ?_ | refine JQ_then ?_)
    (skip)
    refine JC_region ?_
    refine JL_1 rfl (op_move rfl) ?_
    refine JL_1 rfl (op_lss (Ev.rfl' rfl) (Ev.rfl' rfl)) ?_
    refine JL_1 rfl (op_move rfl) ?_
    (refine JL_i0 rfl rfl rfl (fun hg => (by have hg0 := hg; (try simp at hg); exact op_moveE (Ev.rfl' rfl))) ?_)
    (refine JL_i0 rfl rfl rfl (fun hg => (by have hg0 := hg; (try simp at hg); exact op_gtr evG evG)) ?_)
    refine JL_1 rfl (op_or (Ev.rfl' rfl) rfl (fun h => by exact SubL.iteT (by (rw [h]; rfl)) SubL.rfl')) ?_
    refine JL_nil ?_
    (refine JQ_then ?_)
    refine JC_cond (Ev.rfl' rfl) (fun h => ?_) (fun h => ?_)
    · (refine JC_seq ?_)
      refine JC_region ?_
      refine JL_1 rfl (op_assign rfl) ?_
      refine JL_nil ?_
      (repeat with_reducible first | refine JQ_then ?_ | refine JQ_then_ret ?_ | refine JQ_block_ret ?_ | refine JC_ret ?_)
      have e : validV num ms nodes = 2 := validV_boot g1 g2 g3 g4 (fun ha => by
        have h3 := ha k (by omega)
        unfold BootM at h3
        simp at h
        omega)
      exact JQ_ret1 Tryz.results34 rfl () (SubL.eq (by rw [e])) (List.nil_sublist _)
    have ha : BootM ms k := by
      unfold BootM
      simp at h
      omega
    clear h
    (repeat with_reducible first | refine JQ_then ?_ | refine JC_skip ?_ | refine JQ_block ?_)
    refine JC_region ?_
    refine JL_1 rfl (op_move rfl) ?_
    refine JL_1 rfl (op_add (Ev.rfl' rfl) (Ev.rfl' rfl) wrapT) ?_
    refine JL_1 rfl (op_assign rfl) ?_
    refine JL_nil ?_
    (skip)
    exact JQ_round (k + 1) ⟨by omega, fun j hj => by
      rcases (show j < k ∨ j = k by omega) with h | h
      · exact hs j h
      · rw [h]; exact ha⟩ (by omega) esubT (by simp)
  have g5 : ∀ j, j < ms.length → BootM ms j := fun j hj => hs j (by have : ¬ (k : Int) < ms.length := of_decide_eq_false h; omega)
  clear hs h hk
  (repeat with_reducible first | refine JC_seq ?_ | refine JQ_then ?_ | refine JC_exit ?_ | refine JQ_then_exit ?_ | refine JQ_hit ?_)
  refine JC_region ?_
  refine JL_1 rfl (by exact op_loadPtrsN (n := 2) (Ev.rfl' rfl) memT (by rfl) (by rfl) (by rfl) (by rfl) nrmT) ?_
  refine JL_1 rfl (by ((refine op_call Tryz.call70 (FullR_ok _ _ ?_) ⟨evS, trivial⟩); all_goals (omega))) ?_
  refine JL_1 rfl (by exact op_len (Ev.rfl' rfl) rfl) ?_
  refine JL_1 rfl (op_eql (Ev.rfl' rfl) (Ev.rfl' rfl)) ?_
  refine JL_nil ?_
  (refine JQ_then ?_)
  have hfl : ((((ms.filter Mb.f).length : Nat) : Int) == 0) = !ms.any Mb.f := by
    cases hh : ms.any Mb.f
    · simp at hh ⊢
      exact hh
    · simp at hh ⊢
      exact hh
  rw [hfl]
  refine JC_cond (Ev.rfl' rfl) (fun h => ?_) (fun h => ?_)
  · (refine JC_seq ?_)
    refine JC_region ?_
    refine JL_1 rfl (op_assign rfl) ?_
    refine JL_nil ?_
    (repeat with_reducible first | refine JQ_then ?_ | refine JQ_then_ret ?_ | refine JC_ret ?_)
    have e : validV num ms nodes = 13 := validV_full g1 g2 g3 g4 g5 (by simpa using h)
    exact JQ_ret1 Tryz.results34 rfl () (SubL.eq (by rw [e])) (List.nil_sublist _)
  · (repeat with_reducible first | refine JC_seq ?_ | refine JQ_then ?_ | refine JC_skip ?_)
    refine JC_region ?_
    refine JL_1 rfl (op_assign rfl) ?_
    refine JL_nil ?_
    (repeat with_reducible first | refine JQ_then ?_ | refine JC_ret ?_)
    have e : validV num ms nodes = 0 := validV_ok g1 g2 g3 g4 g5 (by simpa using h)
    exact JQ_ret1 Tryz.results34 rfl () (SubL.eq (by rw [e])) (List.nil_sublist _)
end Go.Proofs.YtfglhiciagmicaaGreat

/- Contracts: a lease renewed. Own work. -/
namespace Go.Proofs.YtfglhiciagmicaaGreat
open Go.RowKit
set_option linter.unusedVariables false
set_option linter.unusedSimpArgs false
set_option maxRecDepth 100000
abbrev Rn := List GVerb × Int × Bool
def rnV (vs : List GVerb) (got : List (List Dn)) : Rn := ((tkV vs got).1, (tkV vs got).2.2.1, (tkV vs got).2.2.2)
@[reducible] def IsRn (r : Rn) : VP := IsTup [IsSl tGVerb r.1, IsAgg [Is (.int .i64 r.2.1)], Is (.bool r.2.2)]
def renB (num : Int) (ms : List Mb) (cl : Int) (w : BitVec 64) : List GVerb := ms.map fun m => putV num m (addrN 40 cl) [w]
def renV (cl inc u num : Int) (ms : List Mb) (got : List (List Dn)) : Rn :=
  if 0 ≤ cl ∧ cl < 6 then (if (leaseV inc u).2 ≠ 0 then ([], (leaseV inc u).2, true) else if validV num ms 5 ≠ 0 then ([], validV num ms 5, true) else rnV (renB num ms cl (leaseV inc u).1) got) else ([], 1, true)
theorem ren_rw (num : Int) (ms : List Mb) (cl : Int) (w : BitVec 64) : RW (renB num ms cl w) := fun v hv => by
  obtain ⟨m, _, rfl⟩ := List.mem_map.1 hv
  exact .inr rfl
theorem valid_ne {num : Int} {ms : List Mb} (h : validV num ms 5 = 0) : 0 < ms.length := by
  refine Nat.pos_of_ne_zero fun h0 => ?_
  by_cases hn : 0 ≤ num ∧ num < 16
  · rw [validV_nil (by omega) hn h0] at h; cases h
  · rw [validV_num (by omega) hn] at h; cases h
theorem ren_take {num : Int} {ms : List Mb} {cl : Int} {w : BitVec 64} {k : Nat} {m : Mb} (h : ms[k]? = some m) : renB num (ms.take (k + 1)) cl w = renB num (ms.take k) cl w ++ [putV num m (addrN 40 cl) [w]] := by
  unfold renB
  rw [List.take_add_one, h]
  simp
-- lease.Renew: function 9
set_option maxHeartbeats 1000000 in
theorem Renew_ok (cl inc u num : Int) (ms : List Mb) (got : List (List Dn)) (hms : ms.length ≤ 1000) : FnP Tryz.prog 9 [IsAgg [Is (.int .i64 cl), Is (.int .i64 inc), Is (.int .i64 u), Is (.int .i64 num), IsSl tMb ms], IsSl tDs got] (IsRn (renV cl inc u num ms got)) := by
  refine FnP.enter Tryz.func9 Tryz.ntmps9 rfl rfl ?_
  intro c hX
  refine JC_seq ?_
  refine JC_region ?_
  (refine JL_n rfl (op_box (Ev.rfl' rfl) cellsT) ?_; intro i2)
  refine JL_1 rfl (op_assign rfl) ?_
  (refine JL_n rfl (op_allocN rfl nrmT rfl) ?_; intro i5)
  refine JL_1 rfl (op_assign rfl) ?_
  refine JL_nil ?_
  refine JQ_then (JC_seq (JC_seq ?_))
  refine JC_freezeB hX (b := i2) replT ?_
  refine JC_set 2 (IsRef [Is (.int .i64 cl), Is (.int .i64 inc), Is (.int .i64 u), Is (.int .i64 num), IsSl tMb ms]) rfl (SubL.fact memT) ?_
  refine JC_region ?_
  refine JL_1 rfl (by exact op_fieldRefN (k := 0) (Ev.rfl' rfl) rfl rfl rfl rfl nrmT) ?_
  refine JL_1 rfl (by exact op_loadRef (Ev.rfl' rfl) rfl rfl rfl) ?_
  refine JL_1 rfl (op_call Tryz.call26 (isClient_ok _) ⟨evS, trivial⟩) ?_
  refine JL_1 rfl (op_not (Ev.rfl' rfl)) ?_
  refine JL_nil ?_
  refine JQ_then ?_
  refine JC_cond (Ev.rfl' rfl) (fun h1 => ?_) (fun h1 => ?_)
  · have g : ¬ (0 ≤ cl ∧ cl < 6) := by simp at h1; omega
    have e : renV cl inc u num ms got = ([], 1, true) := by unfold renV; rw [if_neg g]
    rw [e]
    refine JC_seq ?_
    refine JC_region ?_
    refine JL_1 rfl (op_buildN (qs := [(0, _)]) rfl rfl rfl rfl ⟨⟨rfl, _, (Ev.rfl' rfl), cellsT⟩, trivial⟩ (by rfl) nrmT) ?_
    refine JL_1 rfl (op_assign rfl) ?_
    refine JL_s0 (op_storeN (Ev.rfl' rfl) (Ev.rfl' rfl) cellsT replT nrmT (by rfl) (by rfl) (by rfl)) ?_
    refine JL_1 rfl (op_assign rfl) ?_
    refine JL_nil ?_
    refine JQ_then (JC_ret (JQ_then_ret ?_))
    exact JQ_retP (Bs := [IsSl tGVerb [], IsAgg [Is (.int .i64 1)], Is (.bool true)]) Tryz.results9 ⟨⟨_, rfl, subT⟩, ⟨⟨_, _, _, _, rfl, memT, rfl, .inr ⟨rfl, _, rfl, rfl, subT⟩⟩, ⟨⟨_, rfl, subT⟩, trivial⟩⟩⟩ () SubL.rfl' lessT
  have g : 0 ≤ cl ∧ cl < 6 := by simp at h1; omega
  clear h1
  refine JC_skip (JQ_then (JC_seq ?_))
  refine JC_region ?_
  refine JL_1 rfl (by exact op_fieldRefN (k := 1) (Ev.rfl' rfl) rfl rfl rfl rfl nrmT) ?_
  refine JL_1 rfl (by exact op_loadRef (Ev.rfl' rfl) rfl rfl rfl) ?_
  refine JL_1 rfl (by exact op_fieldRefN (k := 2) (Ev.rfl' rfl) rfl rfl rfl rfl nrmT) ?_
  refine JL_1 rfl (by exact op_loadRef (Ev.rfl' rfl) rfl rfl rfl) ?_
  refine JL_1 rfl (op_call Tryz.call27 (Lease_ok _ _) ⟨evS, ⟨evS, trivial⟩⟩) ?_
  refine JL_1 rfl (op_move rfl) ?_
  refine JL_1 rfl (op_extract (Ev.rfl' rfl) rfl) ?_
  refine JL_1 rfl (op_extract (Ev.rfl' rfl) rfl) ?_
  refine JL_1 rfl (op_assign rfl) ?_
  refine JL_1 rfl (op_assign rfl) ?_
  refine JL_nil ?_
  refine JQ_then (JC_seq (JC_seq ?_))
  refine JC_region ?_
  refine JL_1 rfl (op_move rfl) ?_
  refine JL_1 rfl (op_eql (Ev.rfl' rfl) (Ev.rfl' rfl)) ?_
  refine JL_nil ?_
  refine JQ_then ?_
  refine JC_cutT (fun e : Int => e = if (leaseV inc u).2 ≠ 0 then (leaseV inc u).2 else validV num ms 5) (fun e => [(1, IsSl tDs got), (2, IsRef [Is (.int .i64 cl), Is (.int .i64 inc), Is (.int .i64 u), Is (.int .i64 num), IsSl tMb ms]), (5, Is (.pointer (some ⟨i5, 0, none⟩))), (7, Is (.int .u64 (UV (leaseV inc u).1))), (8, Is (.int .i64 e))]) (fun _ => [blk i5 36 [Is (.int .i64 0)]]) ?_ ?_
  rotate_left
  focus
    refine JC_cond (Ev.rfl' rfl) (fun h4 => ?_) (fun h4 => ?_)
    · have g2 : ¬ (leaseV inc u).2 ≠ 0 := by simpa using h4
      clear h4
      refine JC_region ?_
      refine JL_1 rfl (by exact op_fieldRefN (k := 3) (Ev.rfl' rfl) rfl rfl rfl rfl nrmT) ?_
      refine JL_1 rfl (by exact op_loadRefsN (n := 2) (Ev.rfl' rfl) rfl rfl rfl (by rfl) nrmT) ?_
      refine JL_1 rfl (op_call Tryz.call28 (Valid_ok _ _ _) ⟨evS, ⟨evS, trivial⟩⟩) ?_
      refine JL_1 rfl (op_assign rfl) ?_
      refine JL_nil ?_
      exact JQ_meetP (validV num ms 5) (by rw [if_neg g2]) esubT lessT
    have g2 : (leaseV inc u).2 ≠ 0 := by simpa using h4
    clear h4
    refine JC_skip ?_
    exact JQ_meetP (leaseV inc u).2 (by rw [if_pos g2]) esubT lessT
  rintro er her
  refine JC_seq (JC_seq ?_)
  refine JC_region ?_
  refine JL_1 rfl (op_move rfl) ?_
  refine JL_1 rfl (op_neq (Ev.rfl' rfl) (Ev.rfl' rfl)) ?_
  refine JL_nil ?_
  refine JQ_then ?_
  refine JC_cond (Ev.rfl' rfl) (fun h6 => ?_) (fun h6 => ?_)
  · have g3 : er ≠ 0 := by simpa using h6
    have e : renV cl inc u num ms got = ([], er, true) := by
      unfold renV
      rw [if_pos g]
      by_cases g2 : (leaseV inc u).2 ≠ 0
      · rw [if_pos g2] at her ⊢; rw [her]
      · rw [if_neg g2] at her ⊢; rw [her] at g3; rw [if_pos g3, her]
    rw [e]
    refine JC_seq ?_
    refine JC_region ?_
    refine JL_1 rfl (op_move rfl) ?_
    refine JL_1 rfl (op_buildN (qs := [(0, _)]) rfl rfl rfl rfl ⟨⟨rfl, _, (Ev.rfl' rfl), cellsT⟩, trivial⟩ (by rfl) nrmT) ?_
    refine JL_1 rfl (op_assign rfl) ?_
    refine JL_s0 (op_storeN (Ev.rfl' rfl) (Ev.rfl' rfl) cellsT replT nrmT (by rfl) (by rfl) (by rfl)) ?_
    refine JL_1 rfl (op_assign rfl) ?_
    refine JL_nil ?_
    refine JQ_then (JC_ret (JQ_then_ret ?_))
    exact JQ_retP (Bs := [IsSl tGVerb [], IsAgg [Is (.int .i64 er)], Is (.bool true)]) Tryz.results9 ⟨⟨_, rfl, subT⟩, ⟨⟨_, _, _, _, rfl, memT, rfl, .inr ⟨rfl, _, rfl, rfl, subT⟩⟩, ⟨⟨_, rfl, subT⟩, trivial⟩⟩⟩ () SubL.rfl' lessT
  have g3 : ¬ er ≠ 0 := by simpa using h6
  have g2 : ¬ (leaseV inc u).2 ≠ 0 := fun h => by rw [if_pos h] at her; exact g3 (by rw [her]; exact h)
  rw [if_neg g2] at her
  have g4 : ¬ validV num ms 5 ≠ 0 := by rw [← her]; exact g3
  have hpos := valid_ne (by simpa using g4)
  have e : renV cl inc u num ms got = rnV (renB num ms cl (leaseV inc u).1) got := by unfold renV; rw [if_pos g, if_neg g2, if_neg g4]
  rw [e]
  unfold rnV
  clear h6
  refine JC_skip (JQ_then (JC_seq ?_))
  refine JC_region ?_
  refine JL_1 rfl (op_assign rfl) ?_
  refine JL_nil ?_
  refine JQ_then (JC_seq (JC_seq ?_))
  refine JC_buf0 91 tGVerb ?_
  refine JC_region ?_
  refine JL_1 rfl (by exact op_fieldRefN (k := 3) (Ev.rfl' rfl) rfl rfl rfl rfl nrmT) ?_
  refine JL_1 rfl (by exact op_fieldRefN (k := 1) (Ev.rfl' rfl) rfl rfl rfl rfl nrmT) ?_
  refine JL_1 rfl (by exact op_loadRef (Ev.rfl' rfl) rfl rfl rfl) ?_
  refine JL_1 rfl (by exact op_len (Ev.rfl' rfl) rfl) ?_
  refine JL_1 rfl (op_move rfl) ?_
  refine JL_nil ?_
  refine JQ_then (JC_block ?_)
  refine JC_loopP (fun z : Nat × (Option Addr × Nat) => z.1 ≤ ms.length) (fun z => [(1, IsSl tDs got), (2, IsRef [Is (.int .i64 cl), Is (.int .i64 inc), Is (.int .i64 u), Is (.int .i64 num), IsSl tMb ms]), (5, Is (.pointer (some ⟨i5, 0, none⟩))), (7, Is (.int .u64 (UV (leaseV inc u).1))), (9, Is (slV (renB num (ms.take z.1) cl (leaseV inc u).1).length z.2)), (37, IsSl tMb ms), (38, Is (.int .i64 (ms.length : Nat))), (39, Is (.int .i64 (z.1 : Nat)))]) (fun z => [blk i5 36 [Is (.int .i64 0)], buf (slV (renB num (ms.take z.1) cl (leaseV inc u).1).length z.2) 91 tGVerb (renB num (ms.take z.1) cl (leaseV inc u).1)]) (fun z => ms.length - z.1) (0, (none, 0)) (Nat.zero_le _) esubT lessT ?_
  rintro ⟨k, s⟩ hk
  dsimp only at hk ⊢
  refine JC_seq ?_
  refine JC_region ?_
  refine JL_1 rfl (op_lss (Ev.rfl' rfl) (Ev.rfl' rfl)) ?_
  refine JL_nil ?_
  refine JQ_then (JC_seq ?_)
  refine JC_cond (Ev.rfl' rfl) (fun h10 => ?_) (fun h10 => ?_)
  · have hlt : k < ms.length := by have := of_decide_eq_true h10; omega
    clear h10
    obtain ⟨z, hz⟩ : ∃ z, ms[k]? = some z := ⟨ms[k], List.getElem?_eq_getElem hlt⟩
    have hmt := ren_take (num := num) (cl := cl) (w := (leaseV inc u).1) hz
    have hml : (renB num (ms.take k) cl (leaseV inc u).1).length ≤ 1000 := by unfold renB; rw [List.length_map, List.length_take]; omega
    refine JC_skip (JQ_then (JC_seq (JC_block (JC_seq ?_))))
    refine JC_region ?_
    refine JL_1 rfl (by exact op_index (j := _) (Ev.rfl' rfl) (Ev.rfl' rfl) rfl rfl (by rfl) hz) ?_
    refine JL_1 rfl (by exact op_loadRefsN (n := 3) (Ev.rfl' rfl) rfl rfl rfl (by rfl) nrmT) ?_
    (refine JL_n rfl (op_allocN rfl nrmT rfl) ?_; intro i11)
    refine JL_s0 (op_storeN (Ev.rfl' rfl) (Ev.rfl' rfl) cellsT replT nrmT (by rfl) (by rfl) (by rfl)) ?_
    refine JL_nil ?_
    refine JQ_then (JC_seq ?_)
    refine JC_region ?_
    refine JL_1 rfl (by exact op_fieldRefN (k := 0) (Ev.rfl' rfl) rfl rfl rfl rfl nrmT) ?_
    refine JL_1 rfl (by exact op_loadRef (Ev.rfl' rfl) rfl rfl rfl) ?_
    refine JL_1 rfl (op_call Tryz.call29 (LeaseAt_ok _) ⟨evS, trivial⟩) ?_
    refine JL_1 rfl (op_move rfl) ?_
    refine JL_1 rfl (op_buildSlice (size := 1) (qs := [(0, _)]) rfl rfl rfl ⟨⟨rfl, _, (Ev.rfl' rfl), cellsT⟩, trivial⟩ (by rfl) (by rfl)) ?_
    refine JL_set 47 (IsSl tU64 [(leaseV inc u).1]) rfl subT ?_
    refine JL_1 rfl (op_buildN (qs := [(0, _), (2, _), (6, _)]) rfl rfl rfl rfl ⟨⟨rfl, _, (Ev.rfl' rfl), cellsT⟩, ⟨⟨rfl, _, (Ev.rfl' rfl), cellsT⟩, ⟨⟨rfl, _, (Ev.rfl' rfl), cellsT⟩, trivial⟩⟩⟩ (by rfl) nrmT) ?_
    (refine JL_n rfl (op_allocN rfl nrmT rfl) ?_; intro i12)
    refine JL_s0 (op_storeN (Ev.rfl' rfl) (Ev.rfl' rfl) cellsT replT nrmT (by rfl) (by rfl) (by rfl)) ?_
    refine JL_nil ?_
    refine JQ_then ?_
    refine JC_region ?_
    refine JL_1 rfl (op_move rfl) ?_
    refine JL_1 rfl (by exact op_fieldRefN (k := 3) (Ev.rfl' rfl) rfl rfl rfl rfl nrmT) ?_
    refine JL_1 rfl (by exact op_loadRefsN (n := 2) (Ev.rfl' rfl) rfl rfl rfl (by rfl) nrmT) ?_
    refine JL_1 rfl (by exact op_loadPtrsN (n := 3) (Ev.rfl' rfl) memT (by rfl) (by rfl) (by rfl) (by rfl) nrmT) ?_
    refine JL_1 rfl (by exact op_loadPtrsN (n := 9) (Ev.rfl' rfl) memT (by rfl) (by rfl) (by rfl) (by rfl) nrmT) ?_
    refine JL_1 rfl (by ((refine op_call Tryz.call30 (Address_ok num ms z true ⟨2, 0, addrN 40 cl, 0, 0#64, 0#64, [(leaseV inc u).1], 0#64, 0⟩ ?_) ⟨evS, ⟨evS, ⟨evS, ⟨evS, trivial⟩⟩⟩⟩); all_goals (simp))) ?_
    refine JL_1 rfl (op_buildSlice (size := 9) (qs := [(0, _)]) rfl rfl rfl ⟨⟨rfl, _, (Ev.rfl' rfl), cellsT⟩, trivial⟩ (by rfl) (by rfl)) ?_
    (refine JL_s rfl (op_app (Ev.rfl' rfl) (fun _ => replT) (by exact Ev.sub rfl (by exact SubL.row (xs := [putV num z (addrN 40 cl) [(leaseV inc u).1]]) (by rfl) (by rfl) subsT)) (by exact appT rfl rfl rfl) lenT) ?_; intro i56)
    refine JL_1 rfl (op_assign rfl) ?_
    refine JL_nil ?_
    refine JQ_block (JQ_then ?_)
    refine JC_region ?_
    refine JL_1 rfl (op_add (Ev.rfl' rfl) (Ev.rfl' rfl) wrapT) ?_
    refine JL_1 rfl (op_move rfl) ?_
    refine JL_nil ?_
    rw [← hmt]
    exact JQ_roundP (k + 1, i56) (by dsimp only; omega) (by dsimp only; omega) esubT lessT
  have hke : k = ms.length := by have := of_decide_eq_false h10; omega
  subst hke
  clear h10
  rw [List.take_length]
  refine JC_freeze hX (v := slV (renB num ms cl (leaseV inc u).1).length s) replT ?_
  refine JC_set 9 (IsSl tGVerb (renB num ms cl (leaseV inc u).1)) rfl (SubL.fact memT) ?_
  have hpos2 : 0 < (renB num ms cl (leaseV inc u).1).length := by unfold renB; rw [List.length_map]; exact hpos
  refine JC_exit (JQ_then_exit (JQ_then_exit (JQ_hit (JQ_then (JC_seq ?_)))))
  refine JC_region ?_
  refine JL_1 rfl (op_move rfl) ?_
  refine JL_1 rfl (op_move rfl) ?_
  refine JL_1 rfl (op_call Tryz.call31 (TalkOnce_ok _ _ hpos2 (ren_rw _ _ _ _)) ⟨evS, ⟨evS, trivial⟩⟩) ?_
  refine JL_1 rfl (op_move rfl) ?_
  refine JL_1 rfl (op_extract (Ev.rfl' rfl) rfl) ?_
  refine JL_1 rfl (op_extract (Ev.rfl' rfl) rfl) ?_
  refine JL_1 rfl (op_extract (Ev.rfl' rfl) rfl) ?_
  refine JL_1 rfl (op_extract (Ev.rfl' rfl) rfl) ?_
  refine JL_1 rfl (op_assign rfl) ?_
  refine JL_1 rfl (op_assign rfl) ?_
  refine JL_1 rfl (op_assign rfl) ?_
  refine JL_nil ?_
  refine JQ_then (JC_seq ?_)
  refine JC_region ?_
  refine JL_1 rfl (op_move rfl) ?_
  refine JL_1 rfl (op_move rfl) ?_
  refine JL_1 rfl (op_buildN (qs := [(0, _)]) rfl rfl rfl rfl ⟨⟨rfl, _, (Ev.rfl' rfl), cellsT⟩, trivial⟩ (by rfl) nrmT) ?_
  refine JL_1 rfl (op_move rfl) ?_
  refine JL_1 rfl (op_assign rfl) ?_
  refine JL_s0 (op_storeN (Ev.rfl' rfl) (Ev.rfl' rfl) cellsT replT nrmT (by rfl) (by rfl) (by rfl)) ?_
  refine JL_1 rfl (op_assign rfl) ?_
  refine JL_nil ?_
  refine JQ_then (JC_ret ?_)
  exact JQ_retP (Bs := [IsSl tGVerb (tkV (renB num ms cl (leaseV inc u).1) got).1, IsAgg [Is (.int .i64 (tkV (renB num ms cl (leaseV inc u).1) got).2.2.1)], Is (.bool (tkV (renB num ms cl (leaseV inc u).1) got).2.2.2)]) Tryz.results9 ⟨⟨_, rfl, subT⟩, ⟨⟨_, _, _, _, rfl, memT, rfl, .inr ⟨rfl, _, rfl, rfl, subT⟩⟩, ⟨⟨_, rfl, subT⟩, trivial⟩⟩⟩ () SubL.rfl' lessT
end Go.Proofs.YtfglhiciagmicaaGreat

/- Contracts: a lease renewed, by the reference. Own work. -/
namespace Go.Proofs.YtfglhiciagmicaaGreat
open Go.RowKit
set_option linter.unusedVariables false
set_option linter.unusedSimpArgs false
set_option maxRecDepth 100000
-- bodegaref9.Renew: function 10
end Go.Proofs.YtfglhiciagmicaaGreat

/- Contracts: words read at the primary. Own work. -/
namespace Go.Proofs.YtfglhiciagmicaaGreat
open Go.RowKit
set_option linter.unusedVariables false
set_option linter.unusedSimpArgs false
set_option maxRecDepth 100000
def wrdsOf : List Dn → List (BitVec 64)
  | [] => []
  | d :: _ => d.words
def outR {β : Type} (z : β) (f : Int → List (BitVec 64) → β) (r : Tk) : β := if r.2.2.2 = false then z else if r.2.2.1 ≠ 0 then f r.2.2.1 [] else f 0 (wrdsOf r.2.1)
theorem rd_rw (num : Int) (m : Mb) (a n : Int) : RW [getV num m a n] := fun v hv => by
  rw [List.mem_singleton.1 hv]
  exact .inl rfl
theorem tk_cons (vs : List GVerb) (d : List Dn) (rest : List (List Dn)) : tkV vs (d :: rest) = if fitL vs d = true ∧ rest.length = 0 then ([], d, firV d, true) else ([], [], 6, true) := rfl
theorem rd_done {num : Int} {m : Mb} {a n : Int} {got : List (List Dn)} (h1 : (tkV [getV num m a n] got).2.2.2 = true) (h2 : (tkV [getV num m a n] got).2.2.1 = 0) : ∃ y : Dn, (tkV [getV num m a n] got).2.1 = [y] ∧ y.code = 0 ∧ (y.words.length : Int) = n := by
  match got with
  | [] => cases h1
  | d :: rest =>
    rw [tk_cons] at h2 ⊢
    by_cases g : fitL [getV num m a n] d = true ∧ rest.length = 0
    · rw [if_pos g] at h2 ⊢
      have g1 := g.1
      match d with
      | [] => cases g1
      | y :: z :: ys => exact absurd g1 (by unfold fitL; simp [fitL])
      | [y] =>
        have hc : y.code = 0 := by
          have h3 : firV [y] = 0 := h2
          unfold firV at h3
          by_cases e : y.code ≠ 0
          · rw [if_pos e] at h3; exact h3
          · simpa using e
        refine ⟨y, rfl, hc, ?_⟩
        have g2 : fitsB (getV num m a n) y = true := by simpa [fitL] using g1
        unfold fitsB at g2
        rw [if_pos hc] at g2
        exact of_decide_eq_true g2
    · rw [if_neg g] at h2
      cases h2
def hgOf (w : BitVec 64) : Hg := ⟨(splitV w).1, (splitV w).2.1⟩
def pkO (e : Int) (ws : List (BitVec 64)) : Int × List Hg := (e, ws.map hgOf)
theorem hg_take {ws : List (BitVec 64)} {k : Nat} {w : BitVec 64} (h : ws[k]? = some w) : (ws.take (k + 1)).map hgOf = (ws.take k).map hgOf ++ [hgOf w] := by
  rw [List.take_add_one, h]
  simp
@[reducible] def IsPkO (r : Int × List Hg) : VP := IsAgg [Is (.int .i64 r.1), IsSl tHg r.2]
-- lease.Peek$1: function 54
theorem PeekC_ok (e : Int) (ws : List (BitVec 64)) (hw : ws.length ≤ 1000) : FnP Tryz.prog 54 [Is (.int .i64 e), IsSl tU64 ws] (IsPkO (pkO e ws)) := by
  refine FnP.enter Tryz.func54 Tryz.ntmps54 rfl rfl ?_
  intro c hX
  refine JC_seq ?_
  refine JC_region ?_
  (refine JL_n rfl (op_allocN rfl nrmT rfl) ?_; intro i4)
  refine JL_nil ?_
  refine JQ_then (JC_seq ?_)
  refine JC_region ?_
  refine JL_1 rfl (op_move rfl) ?_
  refine JL_1 rfl (op_buildN (qs := [(0, _)]) rfl rfl rfl rfl ⟨⟨rfl, _, (Ev.rfl' rfl), cellsT⟩, trivial⟩ (by rfl) nrmT) ?_
  (refine JL_n rfl (op_allocN rfl nrmT rfl) ?_; intro i5)
  refine JL_s0 (op_storeN (Ev.rfl' rfl) (Ev.rfl' rfl) cellsT replT nrmT (by rfl) (by rfl) (by rfl)) ?_
  refine JL_nil ?_
  refine JQ_then (JC_seq (JC_seq ?_))
  refine JC_buf0 79 tHg ?_
  refine JC_region ?_
  refine JL_1 rfl (op_move rfl) ?_
  refine JL_1 rfl (by exact op_len (Ev.rfl' rfl) rfl) ?_
  refine JL_1 rfl (op_move rfl) ?_
  refine JL_nil ?_
  refine JQ_then (JC_block ?_)
  refine JC_loopP (fun z : Nat × (Option Addr × Nat) => z.1 ≤ ws.length) (fun z => [(4, Is (.pointer (some ⟨i4, 0, none⟩))), (5, Is (.pointer (some ⟨i5, 0, none⟩))), (13, IsSl tU64 ws), (14, Is (.int .i64 (ws.length : Nat))), (15, Is (.int .i64 (z.1 : Nat)))]) (fun z => [blk i4 69 [Is (.int .i64 0), Is (.slice none 0 0)], blk i5 69 [Is (.int .i64 e), Is (slV ((ws.take z.1).map hgOf).length z.2)], buf (slV ((ws.take z.1).map hgOf).length z.2) 79 tHg ((ws.take z.1).map hgOf)]) (fun z => ws.length - z.1) (0, (none, 0)) (Nat.zero_le _) esubT lessT ?_
  rintro ⟨k, s⟩ hk
  dsimp only at hk ⊢
  refine JC_seq ?_
  refine JC_region ?_
  refine JL_1 rfl (op_lss (Ev.rfl' rfl) (Ev.rfl' rfl)) ?_
  refine JL_nil ?_
  refine JQ_then (JC_seq ?_)
  refine JC_cond (Ev.rfl' rfl) (fun h3 => ?_) (fun h3 => ?_)
  · have hlt : k < ws.length := by have := of_decide_eq_true h3; omega
    clear h3
    obtain ⟨w, hz⟩ : ∃ z, ws[k]? = some z := ⟨ws[k], List.getElem?_eq_getElem hlt⟩
    have hmt := hg_take hz
    have hml : ((ws.take k).map hgOf).length ≤ 1000 := by rw [List.length_map, List.length_take]; omega
    refine JC_skip (JQ_then (JC_seq (JC_block (JC_seq ?_))))
    refine JC_region ?_
    refine JL_1 rfl (by exact op_index (j := _) (Ev.rfl' rfl) (Ev.rfl' rfl) rfl rfl (by rfl) hz) ?_
    refine JL_1 rfl (by exact op_loadRef (Ev.rfl' rfl) rfl rfl rfl) ?_
    refine JL_1 rfl (op_assign rfl) ?_
    refine JL_nil ?_
    refine JQ_then (JC_seq ?_)
    refine JC_region ?_
    refine JL_1 rfl (op_move rfl) ?_
    refine JL_1 rfl (op_call Tryz.call55 (SplitLease_ok _) ⟨evS, trivial⟩) ?_
    refine JL_1 rfl (op_move rfl) ?_
    refine JL_1 rfl (op_extract (Ev.rfl' rfl) rfl) ?_
    refine JL_1 rfl (op_extract (Ev.rfl' rfl) rfl) ?_
    refine JL_1 rfl (op_extract (Ev.rfl' rfl) rfl) ?_
    refine JL_1 rfl (op_assign rfl) ?_
    refine JL_1 rfl (op_assign rfl) ?_
    refine JL_1 rfl (op_assign rfl) ?_
    refine JL_nil ?_
    refine JQ_then ?_
    refine JC_region ?_
    refine JL_1 rfl (by exact op_fieldPtr (k := 1) (Ev.rfl' rfl) rfl rfl rfl rfl) ?_
    refine JL_1 rfl (by exact op_loadPtr (Ev.rfl' rfl) memT (by rfl) (by rfl) (by rfl)) ?_
    refine JL_1 rfl (op_move rfl) ?_
    refine JL_1 rfl (op_move rfl) ?_
    refine JL_1 rfl (op_buildN (qs := [(0, _), (1, _)]) rfl rfl rfl rfl ⟨⟨rfl, _, (Ev.rfl' rfl), cellsT⟩, ⟨⟨rfl, _, (Ev.rfl' rfl), cellsT⟩, trivial⟩⟩ (by rfl) nrmT) ?_
    refine JL_1 rfl (op_buildSlice (size := 2) (qs := [(0, _)]) rfl rfl rfl ⟨⟨rfl, _, (Ev.rfl' rfl), cellsT⟩, trivial⟩ (by rfl) (by rfl)) ?_
    (refine JL_s rfl (op_app (Ev.rfl' rfl) (fun _ => replT) (by exact Ev.sub rfl (by exact SubL.row (xs := [hgOf w]) (by rfl) (by rfl) subsT)) (by exact appT rfl rfl rfl) lenT) ?_; intro i31)
    refine JL_1 rfl (by exact op_fieldPtr (k := 1) (Ev.rfl' rfl) rfl rfl rfl rfl) ?_
    refine JL_s0 (op_storeN (Ev.rfl' rfl) (Ev.rfl' rfl) cellsT replT nrmT (by rfl) (by rfl) (by rfl)) ?_
    refine JL_nil ?_
    refine JQ_block (JQ_then ?_)
    refine JC_region ?_
    refine JL_1 rfl (op_add (Ev.rfl' rfl) (Ev.rfl' rfl) wrapT) ?_
    refine JL_1 rfl (op_move rfl) ?_
    refine JL_nil ?_
    rw [← hmt]
    exact JQ_roundP (k + 1, i31) (by dsimp only; omega) (by dsimp only; omega) esubT lessT
  have hke : k = ws.length := by have := of_decide_eq_false h3; omega
  subst hke
  clear h3
  rw [List.take_length]
  refine JC_freeze hX (v := slV (ws.map hgOf).length s) replT ?_
  refine JC_blkSub (b := i5) (As' := [Is (.int .i64 e), IsSl tHg (ws.map hgOf)]) replT subsT ?_
  refine JC_exit (JQ_then_exit (JQ_then_exit (JQ_hit (JQ_then (JC_seq ?_)))))
  refine JC_region ?_
  refine JL_1 rfl (by exact op_loadPtrsN (n := 2) (Ev.rfl' rfl) memT (by rfl) (by rfl) (by rfl) (by rfl) nrmT) ?_
  refine JL_s0 (op_storeN (Ev.rfl' rfl) (Ev.rfl' rfl) cellsT replT nrmT (by rfl) (by rfl) (by rfl)) ?_
  refine JL_nil ?_
  refine JQ_then (JC_ret ?_)
  exact JQ_retP (Bs := [IsPkO (pkO e ws)]) Tryz.results54 ⟨⟨_, _, _, _, rfl, memT, rfl, .inr ⟨rfl, _, rfl, rfl, subT⟩⟩, trivial⟩ () SubL.rfl' lessT
-- lease.Clocks$1: function 47
-- lease.Resolve$1: function 52
theorem tk_over {vs : List GVerb} {got : List (List Dn)} (h : (tkV vs got).2.2.2 = true) : (tkV vs got).1 = [] := by
  match got with
  | [] => cases h
  | d :: rest =>
    rw [tk_cons]
    split <;> rfl
-- lease.readOnce[lease.PeekOutcome]: function 53
theorem ReadP_ok (num : Int) (ms : List Mb) (a n : Int) (got : List (List Dn)) (hn : n ≤ 1000) : FnP Tryz.prog 53 [IsView num ms, Is (.int .i64 a), Is (.int .i64 n), IsSl tDs got, Is (.func (.func 54) #[] #[])] (IsTup [IsSl tGVerb (tkV [getV num (Mb.at ms 0) a n] got).1, IsPkO (outR (0, []) pkO (tkV [getV num (Mb.at ms 0) a n] got)), Is (.bool (tkV [getV num (Mb.at ms 0) a n] got).2.2.2)]) := by
  refine FnP.enter Tryz.func53 Tryz.ntmps53 rfl rfl ?_
  intro c hX
  obtain ⟨r, hr⟩ : ∃ r, tkV [getV num (Mb.at ms 0) a n] got = r := ⟨_, rfl⟩
  have htk := TalkOnce_ok [getV num (Mb.at ms 0) a n] got (by simp) (rd_rw _ _ _ _)
  have hdn := fun h1 h2 => rd_done (num := num) (m := Mb.at ms 0) (a := a) (n := n) (got := got) h1 h2
  rw [hr] at htk hdn ⊢
  refine JC_seq ?_
  refine JC_region ?_
  (refine JL_n rfl (op_box (Ev.rfl' rfl) cellsT) ?_; intro i5)
  refine JL_1 rfl (op_assign rfl) ?_
  (refine JL_n rfl (op_allocN rfl nrmT rfl) ?_; intro i11)
  refine JL_1 rfl (op_assign rfl) ?_
  refine JL_nil ?_
  refine JQ_then (JC_seq ?_)
  refine JC_region ?_
  refine JL_1 rfl (by exact op_loadPtrsN (n := 2) (Ev.rfl' rfl) memT (by rfl) (by rfl) (by rfl) (by rfl) nrmT) ?_
  refine JL_1 rfl (op_call Tryz.call83 (Primary_ok _ _) ⟨evS, trivial⟩) ?_
  refine JL_1 rfl (op_move rfl) ?_
  refine JL_1 rfl (op_extract (Ev.rfl' rfl) rfl) ?_
  refine JL_1 rfl (op_extract (Ev.rfl' rfl) rfl) ?_
  (refine JL_n rfl (op_allocN rfl nrmT rfl) ?_; intro i13)
  refine JL_s0 (op_storeN (Ev.rfl' rfl) (Ev.rfl' rfl) cellsT replT nrmT (by rfl) (by rfl) (by rfl)) ?_
  refine JL_1 rfl (op_assign rfl) ?_
  refine JL_nil ?_
  refine JQ_then (JC_seq ?_)
  refine JC_region ?_
  refine JL_1 rfl (by exact op_loadPtrsN (n := 2) (Ev.rfl' rfl) memT (by rfl) (by rfl) (by rfl) (by rfl) nrmT) ?_
  refine JL_1 rfl (by exact op_loadPtrsN (n := 3) (Ev.rfl' rfl) memT (by rfl) (by rfl) (by rfl) (by rfl) nrmT) ?_
  refine JL_1 rfl (op_move rfl) ?_
  refine JL_1 rfl (op_move rfl) ?_
  refine JL_1 rfl (op_buildN (qs := [(0, _), (2, _), (3, _)]) rfl rfl rfl rfl ⟨⟨rfl, _, (Ev.rfl' rfl), cellsT⟩, ⟨⟨rfl, _, (Ev.rfl' rfl), cellsT⟩, ⟨⟨rfl, _, (Ev.rfl' rfl), cellsT⟩, trivial⟩⟩⟩ (by rfl) nrmT) ?_
  refine JL_1 rfl (by ((refine op_call Tryz.call30 (Address_ok num ms (Mb.at ms 0) true ⟨1, 0, a, n, 0#64, 0#64, [], 0#64, 0⟩ ?_) ⟨evS, ⟨evS, ⟨evS, ⟨evS, trivial⟩⟩⟩⟩); all_goals (simp))) ?_
  (refine JL_n rfl (op_allocN rfl nrmT rfl) ?_; intro i15)
  refine JL_s0 (op_storeN (Ev.rfl' rfl) (Ev.rfl' rfl) cellsT replT nrmT (by rfl) (by rfl) (by rfl)) ?_
  refine JL_nil ?_
  refine JQ_then (JC_seq ?_)
  refine JC_region ?_
  refine JL_1 rfl (by exact op_loadPtrsN (n := 9) (Ev.rfl' rfl) memT (by rfl) (by rfl) (by rfl) (by rfl) nrmT) ?_
  refine JL_1 rfl (op_buildSlice (size := 9) (qs := [(0, _)]) rfl rfl rfl ⟨⟨rfl, _, (Ev.rfl' rfl), cellsT⟩, trivial⟩ (by rfl) (by rfl)) ?_
  refine JL_1 rfl (op_move rfl) ?_
  refine JL_1 rfl (op_call Tryz.call31 (htk) ⟨evS, ⟨evS, trivial⟩⟩) ?_
  refine JL_1 rfl (op_move rfl) ?_
  refine JL_1 rfl (op_extract (Ev.rfl' rfl) rfl) ?_
  refine JL_1 rfl (op_extract (Ev.rfl' rfl) rfl) ?_
  refine JL_1 rfl (op_extract (Ev.rfl' rfl) rfl) ?_
  refine JL_1 rfl (op_extract (Ev.rfl' rfl) rfl) ?_
  refine JL_1 rfl (op_assign rfl) ?_
  refine JL_1 rfl (op_assign rfl) ?_
  refine JL_1 rfl (op_assign rfl) ?_
  refine JL_1 rfl (op_assign rfl) ?_
  refine JL_nil ?_
  refine JQ_then (JC_seq (JC_block (JC_seq ?_)))
  refine JC_region ?_
  refine JL_1 rfl (op_move rfl) ?_
  refine JL_1 rfl (op_not (Ev.rfl' rfl)) ?_
  refine JL_1 rfl (op_assign rfl) ?_
  refine JL_nil ?_
  refine JQ_then ?_
  refine JC_cond (Ev.rfl' rfl) (fun h4 => ?_) (fun h4 => ?_)
  · have g : r.2.2.2 = false := by simpa using h4
    have e : outR (0, []) pkO r = (0, []) := by unfold outR; rw [if_pos g]
    rw [e, g]
    refine JC_seq ?_
    refine JC_dr rfl (by kernel_rfl) ?_
    refine JD_phase [0, 1, 0, 1, 0] (by kernel_rfl) (by kernel_rfl) ?_
    refine PW_0 (op_move rfl) ?_
    refine PW_1 (by exact op_loadPtrsN (n := 2) (Ev.rfl' rfl) memT (by rfl) (by rfl) (by rfl) (by rfl) nrmT) ?_
    refine PW_0 (op_assign rfl) ?_
    refine PW_3 (op_storeN (Ev.rfl' rfl) (Ev.rfl' rfl) cellsT replT nrmT (by rfl) (by rfl) (by rfl)) ?_
    refine PW_0 (op_assign rfl) ?_
    refine PW_end ?_
    refine JD_end ?_
    refine JQ_then (JC_ret (JQ_block_ret (JQ_then_ret ?_)))
    exact JQ_retP (Bs := [IsSl tGVerb r.1, IsPkO (0, []), Is (.bool false)]) Tryz.results53 ⟨⟨_, rfl, subT⟩, ⟨⟨_, _, _, _, rfl, memT, rfl, .inr ⟨rfl, _, rfl, rfl, subT⟩⟩, ⟨⟨_, rfl, subT⟩, trivial⟩⟩⟩ () SubL.rfl' lessT
  have g : r.2.2.2 = true := by simpa using h4
  have ga : r.1 = [] := by rw [← hr]; exact tk_over (by rw [hr]; exact g)
  clear h4
  refine JC_seq ?_
  refine JC_region ?_
  refine JL_1 rfl (op_move rfl) ?_
  refine JL_1 rfl (op_neq (Ev.rfl' rfl) (Ev.rfl' rfl)) ?_
  refine JL_1 rfl (op_assign rfl) ?_
  refine JL_nil ?_
  refine JQ_then ?_
  refine JC_cond (Ev.rfl' rfl) (fun h6 => ?_) (fun h6 => ?_)
  · have g2 : r.2.2.1 ≠ 0 := by simpa using h6
    have e : outR (0, []) pkO r = pkO r.2.2.1 [] := by unfold outR; rw [if_neg (by rw [g]; simp), if_pos g2]
    rw [e, g, ga]
    refine JC_seq ?_
    refine JC_region ?_
    refine JL_1 rfl (op_move rfl) ?_
    refine JL_1 rfl (op_move rfl) ?_
    refine JL_1 rfl (op_callV0 (Ev.rfl' rfl) Tryz.call54 (PeekC_ok r.2.2.1 [] (by simp)) ⟨evS, ⟨evS, trivial⟩⟩) ?_
    refine JL_1 rfl (op_assign rfl) ?_
    refine JL_s0 (op_storeN (Ev.rfl' rfl) (Ev.rfl' rfl) cellsT replT nrmT (by rfl) (by rfl) (by rfl)) ?_
    refine JL_1 rfl (op_assign rfl) ?_
    refine JL_nil ?_
    refine JQ_then (JC_ret (JQ_block_ret (JQ_then_ret ?_)))
    exact JQ_retP (Bs := [IsSl tGVerb [], IsPkO (pkO r.2.2.1 []), Is (.bool true)]) Tryz.results53 ⟨⟨_, rfl, subT⟩, ⟨⟨_, _, _, _, rfl, memT, rfl, .inr ⟨rfl, _, rfl, rfl, subT⟩⟩, ⟨⟨_, rfl, subT⟩, trivial⟩⟩⟩ () SubL.rfl' lessT
  have g2 : ¬ r.2.2.1 ≠ 0 := by simpa using h6
  obtain ⟨y, hy1, hyc, hyl⟩ := hdn g (by simpa using g2)
  have hy : r.2.1[0]? = some y := by rw [hy1]; rfl
  have e : outR (0, []) pkO r = pkO 0 y.words := by unfold outR; rw [if_neg (by rw [g]; simp), if_neg g2, hy1]; rfl
  rw [e, g, ga]
  clear h6
  refine JC_skip (JQ_block (JQ_then (JC_seq ?_)))
  refine JC_region ?_
  refine JL_1 rfl (op_move rfl) ?_
  refine JL_1 rfl (op_move rfl) ?_
  refine JL_1 rfl (by exact op_index (j := 0) (Ev.rfl' rfl) (Ev.rfl' rfl) rfl rfl (by rfl) hy) ?_
  refine JL_1 rfl (by exact op_fieldRefN (k := 1) (Ev.rfl' rfl) rfl rfl rfl rfl nrmT) ?_
  refine JL_1 rfl (by exact op_loadRef (Ev.rfl' rfl) rfl rfl rfl) ?_
  refine JL_1 rfl (op_callV0 (Ev.rfl' rfl) Tryz.call54 (PeekC_ok 0 y.words (by omega)) ⟨evS, ⟨evS, trivial⟩⟩) ?_
  refine JL_1 rfl (op_assign rfl) ?_
  refine JL_s0 (op_storeN (Ev.rfl' rfl) (Ev.rfl' rfl) cellsT replT nrmT (by rfl) (by rfl) (by rfl)) ?_
  refine JL_1 rfl (op_assign rfl) ?_
  refine JL_nil ?_
  refine JQ_then (JC_ret ?_)
  exact JQ_retP (Bs := [IsSl tGVerb [], IsPkO (pkO 0 y.words), Is (.bool true)]) Tryz.results53 ⟨⟨_, rfl, subT⟩, ⟨⟨_, _, _, _, rfl, memT, rfl, .inr ⟨rfl, _, rfl, rfl, subT⟩⟩, ⟨⟨_, rfl, subT⟩, trivial⟩⟩⟩ () SubL.rfl' lessT
-- lease.readOnce[lease.ClocksOutcome]: function 45
-- lease.readOnce[lease.ResolveOutcome]: function 51
end Go.Proofs.YtfglhiciagmicaaGreat

/- Contracts: leases, a clock, all clocks read. Own work. -/
namespace Go.Proofs.YtfglhiciagmicaaGreat
open Go.RowKit
set_option linter.unusedVariables false
set_option linter.unusedSimpArgs false
set_option maxRecDepth 100000
def pkT (num : Int) (ms : List Mb) (got : List (List Dn)) : Tk := tkV [getV num (Mb.at ms 0) (addrN 40 0) 6] got
def pkV (num : Int) (ms : List Mb) (got : List (List Dn)) : List GVerb × (Int × List Hg) × Bool :=
  if validV num ms 5 ≠ 0 then ([], (validV num ms 5, []), true) else ((pkT num ms got).1, outR (0, []) pkO (pkT num ms got), (pkT num ms got).2.2.2)
-- lease.Peek: function 21
theorem Peek_ok (num : Int) (ms : List Mb) (got : List (List Dn)) : FnP Tryz.prog 21 [IsAgg [Is (.int .i64 num), IsSl tMb ms], IsSl tDs got] (IsTup [IsSl tGVerb (pkV num ms got).1, IsPkO (pkV num ms got).2.1, Is (.bool (pkV num ms got).2.2)]) := by
  refine FnP.enter Tryz.func21 Tryz.ntmps21 rfl rfl ?_
  intro c hX
  refine JC_seq ?_
  refine JC_region ?_
  (refine JL_n rfl (op_box (Ev.rfl' rfl) cellsT) ?_; intro i2)
  refine JL_1 rfl (op_assign rfl) ?_
  (refine JL_n rfl (op_allocN rfl nrmT rfl) ?_; intro i5)
  refine JL_1 rfl (op_assign rfl) ?_
  refine JL_nil ?_
  refine JQ_then (JC_seq (JC_seq ?_))
  refine JC_freezeB hX (b := i2) replT ?_
  refine JC_set 2 (IsRef [Is (.int .i64 num), IsSl tMb ms]) rfl (SubL.fact memT) ?_
  refine JC_region ?_
  refine JL_1 rfl (by exact op_fieldRefN (k := 0) (Ev.rfl' rfl) rfl rfl rfl rfl nrmT) ?_
  refine JL_1 rfl (by exact op_loadRefsN (n := 2) (Ev.rfl' rfl) rfl rfl rfl (by rfl) nrmT) ?_
  refine JL_1 rfl (op_call Tryz.call28 (Valid_ok _ _ _) ⟨evS, ⟨evS, trivial⟩⟩) ?_
  refine JL_1 rfl (op_assign rfl) ?_
  refine JL_nil ?_
  refine JQ_then (JC_seq ?_)
  refine JC_region ?_
  refine JL_1 rfl (op_move rfl) ?_
  refine JL_1 rfl (op_neq (Ev.rfl' rfl) (Ev.rfl' rfl)) ?_
  refine JL_nil ?_
  refine JQ_then ?_
  refine JC_cond (Ev.rfl' rfl) (fun h2 => ?_) (fun h2 => ?_)
  · have g : validV num ms 5 ≠ 0 := by simpa using h2
    have e : pkV num ms got = ([], (validV num ms 5, []), true) := by unfold pkV; rw [if_pos g]
    rw [e]
    refine JC_seq ?_
    refine JC_region ?_
    refine JL_1 rfl (op_move rfl) ?_
    refine JL_1 rfl (op_buildN (qs := [(0, _)]) rfl rfl rfl rfl ⟨⟨rfl, _, (Ev.rfl' rfl), cellsT⟩, trivial⟩ (by rfl) nrmT) ?_
    refine JL_1 rfl (op_assign rfl) ?_
    refine JL_s0 (op_storeN (Ev.rfl' rfl) (Ev.rfl' rfl) cellsT replT nrmT (by rfl) (by rfl) (by rfl)) ?_
    refine JL_1 rfl (op_assign rfl) ?_
    refine JL_nil ?_
    refine JQ_then (JC_ret (JQ_then_ret ?_))
    exact JQ_retP (Bs := [IsSl tGVerb [], IsPkO (validV num ms 5, []), Is (.bool true)]) Tryz.results21 ⟨⟨_, rfl, subT⟩, ⟨⟨_, _, _, _, rfl, memT, rfl, .inr ⟨rfl, _, rfl, rfl, subT⟩⟩, ⟨⟨_, rfl, subT⟩, trivial⟩⟩⟩ () SubL.rfl' lessT
  have g : ¬ validV num ms 5 ≠ 0 := by simpa using h2
  have e : pkV num ms got = ((pkT num ms got).1, outR (0, []) pkO (pkT num ms got), (pkT num ms got).2.2.2) := by unfold pkV; rw [if_neg g]
  rw [e]
  clear h2
  refine JC_skip (JQ_then (JC_seq ?_))
  refine JC_dr rfl (by kernel_rfl) ?_
  refine JD_front (it := blk i5 _ _) (by repeat (exact Drop1.here _ _)) ?_
  refine JD_stretchG (its := [_]) 11 (by kernel_rfl) ?_
  refine JW_1 (by exact op_fieldRefN (k := 0) (Ev.rfl' rfl) rfl rfl rfl rfl nrmT) ?_
  refine JW_1 (by exact op_loadRefsN (n := 2) (Ev.rfl' rfl) rfl rfl rfl (by rfl) nrmT) ?_
  refine JW_1 (op_call Tryz.call29 (LeaseAt_ok _) ⟨evS, trivial⟩) ?_
  refine JW_1 (op_move rfl) ?_
  refine JW_1 (by ((refine op_call Tryz.call53 (ReadP_ok num ms (addrN 40 0) 6 got ?_) ⟨evS, ⟨evS, ⟨evS, ⟨evS, ⟨evS, trivial⟩⟩⟩⟩⟩); all_goals (decide))) ?_
  refine JW_1 (op_extract (Ev.rfl' rfl) rfl) ?_
  refine JW_1 (op_extract (Ev.rfl' rfl) rfl) ?_
  refine JW_1 (op_extract (Ev.rfl' rfl) rfl) ?_
  refine JW_1 (op_assign rfl) ?_
  refine JW_ghost (s := 23) rfl rfl rfl (by kernel_rfl) (fun c' => by exact op_store (Ev.rfl' rfl) (Ev.rfl' rfl) cellsT replT (by rfl) (by rfl) (by rfl)) ?_
  refine JW_1 (op_assign rfl) ?_
  refine ⟨rfl, ?_⟩
  intro _
  refine JD_end ?_
  refine JQ_then (JC_ret ?_)
  exact JQ_retP (Bs := [IsSl tGVerb (pkT num ms got).1, IsPkO (outR (0, []) pkO (pkT num ms got)), Is (.bool (pkT num ms got).2.2.2)]) Tryz.results21 ⟨⟨_, rfl, subT⟩, ⟨⟨_, _, _, _, rfl, memT, rfl, .inr ⟨rfl, _, rfl, rfl, subT⟩⟩, ⟨⟨_, rfl, subT⟩, trivial⟩⟩⟩ () SubL.rfl' lessT
-- lease.Clocks: function 15
-- lease.Resolve: function 19
end Go.Proofs.YtfglhiciagmicaaGreat

/- Contracts: leases, all clocks, a clock read, by the reference. Own work. -/
namespace Go.Proofs.YtfglhiciagmicaaGreat
open Go.RowKit
set_option linter.unusedVariables false
set_option linter.unusedSimpArgs false
set_option maxRecDepth 100000
theorem sg_wait {vs : List GVerb} {got : List (List Dn)} (h : (sgV vs got).2.1 = true) : tkV vs got = (vs, [], 0, false) := by
  match got with
  | [] => rfl
  | d :: rest =>
    unfold sgV at h
    dsimp only at h
    split at h <;> cases h
theorem sg_bad {vs : List GVerb} {got : List (List Dn)} (h : ¬ (sgV vs got).2.1 = true) (h2 : ¬ (sgV vs got).2.2 = true) : tkV vs got = ([], [], 6, true) := by
  match got with
  | [] => exact absurd rfl h
  | d :: rest =>
    rw [tk_cons]
    have e : sgV vs (d :: rest) = if fitL vs d = true then (d, false, decide (rest.length = 0)) else ([], false, false) := rfl
    rw [e] at h2
    by_cases g : fitL vs d = true
    · rw [if_pos g] at h2
      rw [if_neg]
      rintro ⟨_, g2⟩
      exact h2 (decide_eq_true g2)
    · rw [if_neg (fun h => g h.1)]
theorem sg_fits {vs : List GVerb} {got : List (List Dn)} (h : ¬ (sgV vs got).2.1 = true) (h2 : (sgV vs got).2.2 = true) : tkV vs got = ([], (sgV vs got).1, firV (sgV vs got).1, true) := by
  match got with
  | [] => exact absurd rfl h
  | d :: rest =>
    rw [tk_cons]
    have e : sgV vs (d :: rest) = if fitL vs d = true then (d, false, decide (rest.length = 0)) else ([], false, false) := rfl
    rw [e] at h2 ⊢
    by_cases g : fitL vs d = true
    · rw [if_pos g] at h2 ⊢
      rw [if_pos ⟨g, of_decide_eq_true h2⟩]
    · rw [if_neg g] at h2; cases h2
theorem all_take {ws : List (BitVec 64)} {n : Nat} (h : ws.length = n) : ws.take n = ws := by rw [← h, List.take_length]
-- bodegaref9.Peek: function 22
set_option maxHeartbeats 1000000 in
theorem PeekR_ok (num : Int) (ms : List Mb) (got : List (List Dn)) (hms : ms.length ≤ 1000) : FnP Tryz.prog 22 [IsView num ms, IsSl tDs got] (IsTup [IsSl tGVerb (pkV num ms got).1, Is (.int .i64 (pkV num ms got).2.1.1), IsSl tHg (pkV num ms got).2.1.2, Is (.bool (pkV num ms got).2.2)]) := by
  refine FnP.enter Tryz.func22 Tryz.ntmps22 rfl rfl ?_
  intro c hX
  refine JC_seq ?_
  refine JC_region ?_
  (refine JL_n rfl (op_box (Ev.rfl' rfl) cellsT) ?_; intro i2)
  refine JL_1 rfl (op_assign rfl) ?_
  refine JL_1 rfl (op_assign rfl) ?_
  refine JL_1 rfl (op_assign rfl) ?_
  refine JL_1 rfl (op_assign rfl) ?_
  refine JL_nil ?_
  refine JQ_then (JC_seq (JC_seq ?_))
  refine JC_freezeB hX (b := i2) replT ?_
  refine JC_set 2 (IsRef [Is (.int .i64 num), IsSl tMb ms]) rfl (SubL.fact memT) ?_
  refine JC_region ?_
  refine JL_1 rfl (by exact op_loadRefsN (n := 2) (Ev.rfl' rfl) rfl rfl rfl (by rfl) nrmT) ?_
  refine JL_1 rfl (by ((refine op_call Tryz.call34 (ValidR_ok _ _ _ ?_) ⟨evS, ⟨evS, trivial⟩⟩); all_goals (omega))) ?_
  refine JL_1 rfl (op_assign rfl) ?_
  refine JL_nil ?_
  refine JQ_then (JC_seq ?_)
  refine JC_region ?_
  refine JL_1 rfl (op_move rfl) ?_
  refine JL_1 rfl (op_neq (Ev.rfl' rfl) (Ev.rfl' rfl)) ?_
  refine JL_nil ?_
  refine JQ_then ?_
  refine JC_cond (Ev.rfl' rfl) (fun h2 => ?_) (fun h2 => ?_)
  · have g : validV num ms 5 ≠ 0 := by simpa using h2
    have e : pkV num ms got = ([], (validV num ms 5, []), true) := by unfold pkV; rw [if_pos g]
    rw [e]
    refine JC_seq ?_
    refine JC_region ?_
    refine JL_1 rfl (op_move rfl) ?_
    refine JL_1 rfl (op_assign rfl) ?_
    refine JL_1 rfl (op_assign rfl) ?_
    refine JL_1 rfl (op_assign rfl) ?_
    refine JL_1 rfl (op_assign rfl) ?_
    refine JL_nil ?_
    refine JQ_then (JC_ret (JQ_then_ret ?_))
    exact JQ_retP (Bs := [IsSl tGVerb [], Is (.int .i64 (validV num ms 5)), IsSl tHg [], Is (.bool true)]) Tryz.results22 ⟨⟨_, rfl, subT⟩, ⟨⟨_, rfl, subT⟩, ⟨⟨_, rfl, subT⟩, ⟨⟨_, rfl, subT⟩, trivial⟩⟩⟩⟩ () SubL.rfl' lessT
  have g : ¬ validV num ms 5 ≠ 0 := by simpa using h2
  have hpos := valid_ne (by simpa using g)
  have hz := Mb.at_get ms 0 hpos
  have e : pkV num ms got = ((pkT num ms got).1, outR (0, []) pkO (pkT num ms got), (pkT num ms got).2.2.2) := by unfold pkV; rw [if_neg g]
  rw [e]
  have hdn := fun h1 h2 => rd_done (num := num) (m := Mb.at ms 0) (a := addrN 40 0) (n := 6) (got := got) h1 h2
  have hT : pkT num ms got = tkV [getV num (Mb.at ms 0) (addrN 40 0) 6] got := rfl
  rw [hT]
  clear h2 e hT
  refine JC_skip (JQ_then (JC_seq ?_))
  refine JC_dr rfl (by kernel_rfl) ?_
  refine JD_stretch 9 (by kernel_rfl) ?_
  refine JW_1 (by exact op_loadRefsN (n := 2) (Ev.rfl' rfl) rfl rfl rfl (by rfl) nrmT) ?_
  refine JW_1 (by exact op_fieldRefN (k := 1) (Ev.rfl' rfl) rfl rfl rfl rfl nrmT) ?_
  refine JW_1 (by exact op_loadRef (Ev.rfl' rfl) rfl rfl rfl) ?_
  refine JW_1 (by exact op_index (j := 0) (Ev.rfl' rfl) (Ev.rfl' rfl) rfl rfl (by rfl) hz) ?_
  refine JW_1 (by exact op_loadRefsN (n := 3) (Ev.rfl' rfl) rfl rfl rfl (by rfl) nrmT) ?_
  refine JW_1 (op_call Tryz.call36 (LeaseAtR_ok _) ⟨evS, trivial⟩) ?_
  refine JW_1 (op_call Tryz.call49 (get_ok num ms (Mb.at ms 0) (addrN 40 0) 6) ⟨evS, ⟨evS, ⟨evS, ⟨evS, trivial⟩⟩⟩⟩) ?_
  refine JW_1 (op_buildSlice (size := 9) (qs := [(0, _)]) rfl rfl rfl ⟨⟨rfl, _, (Ev.rfl' rfl), cellsT⟩, trivial⟩ (by rfl) (by rfl)) ?_
  refine JW_1 (op_assign rfl) ?_
  refine ⟨rfl, ?_⟩
  refine JD_end ?_
  refine JQ_then (JC_seq ?_)
  refine JC_region ?_
  refine JL_1 rfl (op_move rfl) ?_
  refine JL_1 rfl (op_move rfl) ?_
  refine JL_1 rfl (by ((refine op_call Tryz.call37 (Single_ok [getV num (Mb.at ms 0) (addrN 40 0) 6] got ?_ (rd_rw _ _ _ _)) ⟨evS, ⟨evS, trivial⟩⟩); all_goals (simp))) ?_
  refine JL_1 rfl (op_move rfl) ?_
  refine JL_1 rfl (op_extract (Ev.rfl' rfl) rfl) ?_
  refine JL_1 rfl (op_extract (Ev.rfl' rfl) rfl) ?_
  refine JL_1 rfl (op_extract (Ev.rfl' rfl) rfl) ?_
  refine JL_1 rfl (op_assign rfl) ?_
  refine JL_1 rfl (op_assign rfl) ?_
  refine JL_1 rfl (op_assign rfl) ?_
  refine JL_nil ?_
  refine JQ_then (JC_seq (JC_block (JC_seq ?_)))
  refine JC_region ?_
  refine JL_1 rfl (op_move rfl) ?_
  refine JL_1 rfl (op_assign rfl) ?_
  refine JL_nil ?_
  refine JQ_then ?_
  refine JC_cond (Ev.rfl' rfl) (fun h6 => ?_) (fun h6 => ?_)
  · rw [sg_wait h6]
    refine JC_seq ?_
    refine JC_region ?_
    refine JL_1 rfl (op_move rfl) ?_
    refine JL_1 rfl (op_assign rfl) ?_
    refine JL_1 rfl (op_assign rfl) ?_
    refine JL_1 rfl (op_assign rfl) ?_
    refine JL_1 rfl (op_assign rfl) ?_
    refine JL_nil ?_
    refine JQ_then (JC_ret (JQ_block_ret (JQ_then_ret ?_)))
    exact JQ_retP (Bs := [IsSl tGVerb [getV num (Mb.at ms 0) (addrN 40 0) 6], Is (.int .i64 0), IsSl tHg [], Is (.bool false)]) Tryz.results22 ⟨⟨_, rfl, subT⟩, ⟨⟨_, rfl, subT⟩, ⟨⟨_, rfl, subT⟩, ⟨⟨_, rfl, subT⟩, trivial⟩⟩⟩⟩ () SubL.rfl' lessT
  have g6 : ¬ (sgV [getV num (Mb.at ms 0) (addrN 40 0) 6] got).2.1 = true := by rw [h6]; simp
  refine JC_seq ?_
  refine JC_region ?_
  refine JL_1 rfl (op_move rfl) ?_
  refine JL_1 rfl (op_not (Ev.rfl' rfl)) ?_
  refine JL_1 rfl (op_assign rfl) ?_
  refine JL_nil ?_
  refine JQ_then ?_
  refine JC_cond (Ev.rfl' rfl) (fun h8 => ?_) (fun h8 => ?_)
  · have g8 : ¬ (sgV [getV num (Mb.at ms 0) (addrN 40 0) 6] got).2.2 = true := by simpa using h8
    rw [sg_bad g6 g8]
    refine JC_seq ?_
    refine JC_region ?_
    refine JL_1 rfl (op_assign rfl) ?_
    refine JL_1 rfl (op_assign rfl) ?_
    refine JL_1 rfl (op_assign rfl) ?_
    refine JL_1 rfl (op_assign rfl) ?_
    refine JL_nil ?_
    refine JQ_then (JC_ret (JQ_block_ret (JQ_then_ret ?_)))
    exact JQ_retP (Bs := [IsSl tGVerb [], Is (.int .i64 6), IsSl tHg [], Is (.bool true)]) Tryz.results22 ⟨⟨_, rfl, subT⟩, ⟨⟨_, rfl, subT⟩, ⟨⟨_, rfl, subT⟩, ⟨⟨_, rfl, subT⟩, trivial⟩⟩⟩⟩ () SubL.rfl' lessT
  have g8 : (sgV [getV num (Mb.at ms 0) (addrN 40 0) 6] got).2.2 = true := by simpa using h8
  have ef := sg_fits g6 g8
  obtain ⟨ds, hds⟩ : ∃ ds, (sgV [getV num (Mb.at ms 0) (addrN 40 0) 6] got).1 = ds := ⟨_, rfl⟩
  rw [hds] at ef ⊢
  rw [ef] at hdn ⊢
  clear h6 h8
  refine JC_skip (JQ_block (JQ_then (JC_seq (JC_seq ?_))))
  refine JC_region ?_
  refine JL_1 rfl (op_move rfl) ?_
  refine JL_1 rfl (op_call Tryz.call38 (FirstR_ok _) ⟨evS, trivial⟩) ?_
  refine JL_1 rfl (op_assign rfl) ?_
  refine JL_nil ?_
  refine JQ_then (JC_seq ?_)
  refine JC_region ?_
  refine JL_1 rfl (op_move rfl) ?_
  refine JL_1 rfl (op_neq (Ev.rfl' rfl) (Ev.rfl' rfl)) ?_
  refine JL_nil ?_
  refine JQ_then ?_
  refine JC_cond (Ev.rfl' rfl) (fun h11 => ?_) (fun h11 => ?_)
  · have g11 : firV ds ≠ 0 := by simpa using h11
    have e : outR ((0, []) : Int × List Hg) pkO (([], ds, firV ds, true) : Tk) = pkO (firV ds) [] := by unfold outR; rw [if_neg (by simp), if_pos g11]
    rw [e]
    refine JC_seq ?_
    refine JC_region ?_
    refine JL_1 rfl (op_move rfl) ?_
    refine JL_1 rfl (op_assign rfl) ?_
    refine JL_1 rfl (op_assign rfl) ?_
    refine JL_1 rfl (op_assign rfl) ?_
    refine JL_1 rfl (op_assign rfl) ?_
    refine JL_nil ?_
    refine JQ_then (JC_ret (JQ_then_ret ?_))
    exact JQ_retP (Bs := [IsSl tGVerb [], Is (.int .i64 (firV ds)), IsSl tHg [], Is (.bool true)]) Tryz.results22 ⟨⟨_, rfl, subT⟩, ⟨⟨_, rfl, subT⟩, ⟨⟨_, rfl, subT⟩, ⟨⟨_, rfl, subT⟩, trivial⟩⟩⟩⟩ () SubL.rfl' lessT
  have g11 : ¬ firV ds ≠ 0 := by simpa using h11
  obtain ⟨y, hy1, hyc, hyl⟩ := hdn rfl (by simpa using g11)
  have hy1' : ds = [y] := hy1
  subst hy1'
  have hy : ([y] : List Dn)[0]? = some y := rfl
  have e : outR ((0, []) : Int × List Hg) pkO (([], [y], firV [y], true) : Tk) = pkO 0 y.words := by unfold outR; rw [if_neg (by simp), if_neg g11]; rfl
  rw [e]
  clear h11
  refine JC_skip (JQ_then (JC_seq ?_))
  refine JC_region ?_
  refine JL_1 rfl (op_assign rfl) ?_
  refine JL_nil ?_
  refine JQ_then (JC_seq (JC_seq ?_))
  refine JC_region ?_
  refine JL_1 rfl (op_assign rfl) ?_
  refine JL_nil ?_
  refine JQ_then (JC_block ?_)
  refine JC_buf0 77 tHg ?_
  refine JC_loopP (fun z : Nat × (Option Addr × Nat) => z.1 ≤ 6) (fun z => [(10, IsSl tDn [y]), (14, Is (slV ((y.words.take z.1).map hgOf).length z.2)), (15, Is (.int .i64 (z.1 : Nat)))]) (fun z => [buf (slV ((y.words.take z.1).map hgOf).length z.2) 77 tHg ((y.words.take z.1).map hgOf)]) (fun z => 6 - z.1) (0, (none, 0)) (Nat.zero_le _) esubT lessT ?_
  rintro ⟨k, s⟩ hk
  dsimp only at hk ⊢
  refine JC_seq (JC_seq ?_)
  refine JC_region ?_
  refine JL_1 rfl (op_move rfl) ?_
  refine JL_1 rfl (op_lss (Ev.rfl' rfl) (Ev.rfl' rfl)) ?_
  refine JL_nil ?_
  refine JQ_then ?_
  refine JC_cond (Ev.rfl' rfl) (fun h15 => ?_) (fun h15 => ?_)
  · have hlt : k < 6 := by have := of_decide_eq_true h15; omega
    clear h15
    obtain ⟨w, hw⟩ : ∃ z, y.words[k]? = some z := ⟨y.words[k]'(by omega), List.getElem?_eq_getElem _⟩
    have hmt := hg_take hw
    have hml : ((y.words.take k).map hgOf).length ≤ 1000 := by rw [List.length_map, List.length_take]; omega
    refine JC_skip (JQ_then (JC_seq (JC_block (JC_seq ?_))))
    refine JC_region ?_
    refine JL_1 rfl (op_move rfl) ?_
    refine JL_1 rfl (by exact op_index (j := 0) (Ev.rfl' rfl) (Ev.rfl' rfl) rfl rfl (by rfl) hy) ?_
    refine JL_1 rfl (by exact op_fieldRefN (k := 1) (Ev.rfl' rfl) rfl rfl rfl rfl nrmT) ?_
    refine JL_1 rfl (by exact op_loadRef (Ev.rfl' rfl) rfl rfl rfl) ?_
    refine JL_1 rfl (op_move rfl) ?_
    refine JL_1 rfl (by exact op_index (j := _) (Ev.rfl' rfl) (Ev.rfl' rfl) rfl rfl (by rfl) hw) ?_
    refine JL_1 rfl (by exact op_loadRef (Ev.rfl' rfl) rfl rfl rfl) ?_
    refine JL_1 rfl (op_call Tryz.call56 (SplitLeaseR_ok _) ⟨evS, trivial⟩) ?_
    refine JL_1 rfl (op_move rfl) ?_
    refine JL_1 rfl (op_extract (Ev.rfl' rfl) rfl) ?_
    refine JL_1 rfl (op_extract (Ev.rfl' rfl) rfl) ?_
    refine JL_1 rfl (op_extract (Ev.rfl' rfl) rfl) ?_
    refine JL_1 rfl (op_assign rfl) ?_
    refine JL_1 rfl (op_assign rfl) ?_
    refine JL_1 rfl (op_assign rfl) ?_
    refine JL_nil ?_
    refine JQ_then ?_
    refine JC_region ?_
    refine JL_1 rfl (op_move rfl) ?_
    refine JL_1 rfl (op_move rfl) ?_
    refine JL_1 rfl (op_move rfl) ?_
    refine JL_1 rfl (op_buildN (qs := [(0, _), (1, _)]) rfl rfl rfl rfl ⟨⟨rfl, _, (Ev.rfl' rfl), cellsT⟩, ⟨⟨rfl, _, (Ev.rfl' rfl), cellsT⟩, trivial⟩⟩ (by rfl) nrmT) ?_
    refine JL_1 rfl (op_buildSlice (size := 2) (qs := [(0, _)]) rfl rfl rfl ⟨⟨rfl, _, (Ev.rfl' rfl), cellsT⟩, trivial⟩ (by rfl) (by rfl)) ?_
    (refine JL_s rfl (op_app (Ev.rfl' rfl) (fun _ => replT) (by exact Ev.sub rfl (by exact SubL.row (xs := [hgOf w]) (by rfl) (by rfl) subsT)) (by exact appT rfl rfl rfl) lenT) ?_; intro i71)
    refine JL_1 rfl (op_assign rfl) ?_
    refine JL_nil ?_
    refine JQ_block (JQ_then ?_)
    refine JC_region ?_
    refine JL_1 rfl (op_move rfl) ?_
    refine JL_1 rfl (op_add (Ev.rfl' rfl) (Ev.rfl' rfl) wrapT) ?_
    refine JL_1 rfl (op_assign rfl) ?_
    refine JL_nil ?_
    rw [← hmt]
    exact JQ_roundP (k + 1, i71) (by dsimp only; omega) (by dsimp only; omega) esubT lessT
  have hke : k = 6 := by have := of_decide_eq_false h15; omega
  subst hke
  clear h15
  rw [all_take (by omega : y.words.length = 6)]
  refine JC_freeze hX (v := slV (y.words.map hgOf).length s) replT ?_
  refine JC_exit (JQ_then_exit (JQ_then_exit (JQ_hit (JQ_then (JC_seq ?_)))))
  refine JC_region ?_
  refine JL_1 rfl (op_move rfl) ?_
  refine JL_1 rfl (op_assign rfl) ?_
  refine JL_1 rfl (op_assign rfl) ?_
  refine JL_1 rfl (op_assign rfl) ?_
  refine JL_1 rfl (op_assign rfl) ?_
  refine JL_nil ?_
  refine JQ_then (JC_ret ?_)
  exact JQ_retP (Bs := [IsSl tGVerb [], Is (.int .i64 0), IsSl tHg (y.words.map hgOf), Is (.bool true)]) Tryz.results22 ⟨⟨_, rfl, subT⟩, ⟨⟨_, rfl, subT⟩, ⟨⟨_, rfl, subT⟩, ⟨⟨_, rfl, subT⟩, trivial⟩⟩⟩⟩ () SubL.rfl' lessT
-- bodegaref9.Clocks: function 16
-- bodegaref9.Resolve: function 20
end Go.Proofs.YtfglhiciagmicaaGreat

/- The data of pages, compared. Own work. -/
namespace Go.Proofs.YtfglhiciagmicaaGreat
open Go.RowKit
set_option linter.unusedVariables false
set_option linter.unusedSimpArgs false
theorem take_eq_succ {α : Type} {xs ys : List α} {k : Nat} {x y : α} (hx : xs[k]? = some x) (hy : ys[k]? = some y) (h : xs.take k = ys.take k) : (xs.take (k + 1) = ys.take (k + 1)) ↔ x = y := by
  rw [List.take_add_one, List.take_add_one, hx, hy, h]
  simp
end Go.Proofs.YtfglhiciagmicaaGreat

/- Contracts: verbs, words, leases compared with themselves; the first view. Own work. -/
namespace Go.Proofs.YtfglhiciagmicaaGreat
open Go.RowKit
set_option linter.unusedVariables false
set_option linter.unusedSimpArgs false
set_option maxRecDepth 100000
-- bodegaref1.SameWords: function 17
theorem SameWords_ok (xs ys : List (BitVec 64)) : FnP Tryz.prog 17 [IsSl tU64 xs, IsSl tU64 ys] (Is (.bool (decide (xs = ys)))) := by
  refine FnP.enter Tryz.func17 Tryz.ntmps17 rfl rfl ?_
  intro c hX
  refine JC_len (t := 0) rfl (fun hlen => ?_)
  (refine JC_seq ?_)
  refine JC_region ?_
  refine JL_1 rfl (op_assign rfl) ?_
  refine JL_nil ?_
  (repeat with_reducible first | refine JC_seq ?_ | refine JQ_then ?_)
  (skip)
  refine JC_region ?_
  refine JL_1 rfl (op_move rfl) ?_
  refine JL_1 rfl (by exact op_len (Ev.rfl' rfl) rfl) ?_
  refine JL_1 rfl (op_move rfl) ?_
  refine JL_1 rfl (by exact op_len (Ev.rfl' rfl) rfl) ?_
  refine JL_1 rfl (op_neq (Ev.rfl' rfl) (Ev.rfl' rfl)) ?_
  refine JL_nil ?_
  (refine JQ_then ?_)
  refine JC_cond (Ev.rfl' rfl) (fun h => ?_) (fun h => ?_)
  · (refine JC_seq ?_)
    refine JC_region ?_
    refine JL_1 rfl (op_assign rfl) ?_
    refine JL_nil ?_
    (repeat with_reducible first | refine JQ_then ?_ | refine JQ_then_ret ?_ | refine JC_ret ?_)
    have e : xs ≠ ys := by rintro rfl; simp at h
    exact JQ_ret1 Tryz.results17 rfl () (SubL.eq (by rw [decide_eq_false e])) (List.nil_sublist _)
  have hl : xs.length = ys.length := by simp at h; omega
  clear h
  (repeat with_reducible first | refine JC_seq ?_ | refine JQ_then ?_ | refine JC_skip ?_)
  refine JC_region ?_
  refine JL_1 rfl (op_assign rfl) ?_
  refine JL_nil ?_
  (repeat with_reducible first | refine JQ_then ?_ | refine JC_block ?_)
  refine JC_loopP (fun k : Nat => k ≤ xs.length ∧ xs.take k = ys.take k) (fun k => [(0, IsSl tU64 xs), (1, IsSl tU64 ys), (5, Is (.int .i64 (k : Nat)))]) (fun _ => []) (fun k => xs.length - k) 0 ⟨Nat.zero_le _, rfl⟩ esubT lessT ?_
  rintro k ⟨hk, hs⟩
  (refine JC_seq ?_; refine JC_seq ?_)
  refine JC_region ?_
  refine JL_1 rfl (op_move rfl) ?_
  refine JL_1 rfl (op_move rfl) ?_
  refine JL_1 rfl (by exact op_len (Ev.rfl' rfl) rfl) ?_
  refine JL_1 rfl (op_lss (Ev.rfl' rfl) (Ev.rfl' rfl)) ?_
  refine JL_nil ?_
  (refine JQ_then ?_)
  refine JC_cond (Ev.rfl' rfl) (fun h => ?_) (fun h => ?_)
  · have h' : (k : Int) < xs.length := of_decide_eq_true h
    clear h
    obtain ⟨mx, hx⟩ : ∃ m, xs[k]? = some m := ⟨xs[k], List.getElem?_eq_getElem (by omega)⟩
    obtain ⟨my, hy⟩ : ∃ m, ys[k]? = some m := ⟨ys[k], List.getElem?_eq_getElem (by omega)⟩
    (repeat with_reducible first | refine JC_seq ?_ | refine JQ_then ?_ | refine JC_block ?_ | refine JC_skip ?_)
    refine JC_dr rfl (by kernel_rfl) ?_
    refine JD_stretch 9 (by kernel_rfl) ?_
    refine JW_1 (op_move rfl) ?_
    refine JW_1 (op_move rfl) ?_
    refine JW_1 (by exact op_index (j := _) (Ev.rfl' rfl) (Ev.rfl' rfl) rfl rfl (by rfl) hx) ?_
    refine JW_1 (by exact op_loadRef (Ev.rfl' rfl) rfl rfl rfl) ?_
    refine JW_1 (op_move rfl) ?_
    refine JW_1 (op_move rfl) ?_
    refine JW_1 (by exact op_index (j := _) (Ev.rfl' rfl) (Ev.rfl' rfl) rfl rfl (by rfl) hy) ?_
    refine JW_1 (by exact op_loadRef (Ev.rfl' rfl) rfl rfl rfl) ?_
    refine JW_1 (op_neq (Ev.rfl' rfl) (Ev.rfl' rfl)) ?_
    refine ⟨rfl, ?_⟩
    refine JD_end ?_
    (refine JQ_then ?_)
    refine JC_cond (Ev.rfl' rfl) (fun h => ?_) (fun h => ?_)
    · (refine JC_seq ?_)
      refine JC_region ?_
      refine JL_1 rfl (op_assign rfl) ?_
      refine JL_nil ?_
      (repeat with_reducible first | refine JQ_then ?_ | refine JQ_then_ret ?_ | refine JQ_block_ret ?_ | refine JC_ret ?_)
      have e : xs ≠ ys := by
        rintro rfl
        rw [hx] at hy
        simp at hy h
        exact h (by rw [hy])
      exact JQ_ret1 Tryz.results17 rfl () (SubL.eq (by rw [decide_eq_false e])) (List.nil_sublist _)
    have e : mx = my := by
      have : UV mx = UV my := by simpa using h
      simpa [UV_inj] using this
    clear h
    (repeat with_reducible first | refine JQ_then ?_ | refine JC_skip ?_ | refine JQ_block ?_)
    (skip)
    refine JC_region ?_
    refine JL_1 rfl (op_move rfl) ?_
    refine JL_1 rfl (op_add (Ev.rfl' rfl) (Ev.rfl' rfl) wrapT) ?_
    refine JL_1 rfl (op_assign rfl) ?_
    refine JL_nil ?_
    (skip)
    exact JQ_roundP (k + 1) ⟨by omega, (take_eq_succ hx hy hs).2 e⟩ (by omega) esubT lessT
  have e : xs = ys := by
    have h' : ¬ (k : Int) < xs.length := of_decide_eq_false h
    rw [List.take_of_length_le (by omega), List.take_of_length_le (by omega)] at hs
    exact hs
  clear h
  (repeat with_reducible first | refine JC_seq ?_ | refine JQ_then ?_ | refine JC_exit ?_ | refine JQ_then_exit ?_ | refine JQ_hit ?_)
  refine JC_region ?_
  refine JL_1 rfl (op_assign rfl) ?_
  refine JL_nil ?_
  (repeat with_reducible first | refine JQ_then ?_ | refine JC_ret ?_)
  exact JQ_ret1 Tryz.results17 rfl () (SubL.eq (by rw [decide_eq_true e])) (List.nil_sublist _)
set_option maxHeartbeats 4000000 in
-- bodegaref4.Same: function 39
theorem SameVerb_ok (x : GVerb) : FnP Tryz.prog 39 [IsGVerb x, IsGVerb x] (Is (.bool true)) := by
  refine FnP.enter Tryz.func39 Tryz.ntmps39 rfl rfl ?_
  intro c hX
  (refine JC_seq ?_)
  refine JC_region ?_
  (refine JL_n rfl (op_box (Ev.rfl' rfl) cellsT) ?_; intro i2)
  (refine JL_n rfl (op_box (Ev.rfl' rfl) cellsT) ?_; intro i3)
  refine JL_1 rfl (op_assign rfl) ?_
  refine JL_nil ?_
  (repeat with_reducible first | refine JC_seq ?_ | refine JQ_then ?_)
  (skip)
  refine JC_region ?_
  refine JL_1 rfl (by exact op_fieldPtr (k := 0) (Ev.rfl' rfl) rfl rfl rfl rfl) ?_
  refine JL_1 rfl (by exact op_loadPtr (Ev.rfl' rfl) memT (by rfl) (by rfl) (by rfl)) ?_
  refine JL_1 rfl (by exact op_fieldPtr (k := 0) (Ev.rfl' rfl) rfl rfl rfl rfl) ?_
  refine JL_1 rfl (by exact op_loadPtr (Ev.rfl' rfl) memT (by rfl) (by rfl) (by rfl)) ?_
  refine JL_1 rfl (op_neq (Ev.rfl' rfl) (Ev.rfl' rfl)) ?_
  refine JL_1 rfl (op_move rfl) ?_
  (refine JL_i0 rfl rfl rfl (fun hg => (by have hg0 := hg; (try simp at hg); exact op_fieldPtr (k := 1) evG rfl rfl rfl rfl)) ?_)
  (refine JL_i0 rfl rfl rfl (fun hg => (by have hg0 := hg; (try simp at hg); exact op_loadPtr evG memT (by rfl) (by rfl) (by rfl))) ?_)
  (refine JL_i0 rfl rfl rfl (fun hg => (by have hg0 := hg; (try simp at hg); exact op_fieldPtr (k := 1) evG rfl rfl rfl rfl)) ?_)
  (refine JL_i0 rfl rfl rfl (fun hg => (by have hg0 := hg; (try simp at hg); exact op_loadPtr evG memT (by rfl) (by rfl) (by rfl))) ?_)
  (refine JL_i0 rfl rfl rfl (fun hg => (by have hg0 := hg; (try simp at hg); exact op_neq evG evG)) ?_)
  refine JL_1 rfl (op_or (Ev.rfl' rfl) rfl (fun h => by exact SubL.iteT (by (rw [h]; rfl)) SubL.rfl')) ?_
  refine JL_1 rfl (op_move rfl) ?_
  (refine JL_i0 rfl rfl rfl (fun hg => (by have hg0 := hg; (try simp at hg); exact op_fieldPtr (k := 2) evG rfl rfl rfl rfl)) ?_)
  (refine JL_i0 rfl rfl rfl (fun hg => (by have hg0 := hg; (try simp at hg); exact op_loadPtr evG memT (by rfl) (by rfl) (by rfl))) ?_)
  (refine JL_i0 rfl rfl rfl (fun hg => (by have hg0 := hg; (try simp at hg); exact op_fieldPtr (k := 2) evG rfl rfl rfl rfl)) ?_)
  (refine JL_i0 rfl rfl rfl (fun hg => (by have hg0 := hg; (try simp at hg); exact op_loadPtr evG memT (by rfl) (by rfl) (by rfl))) ?_)
  (refine JL_i0 rfl rfl rfl (fun hg => (by have hg0 := hg; (try simp at hg); exact op_neq evG evG)) ?_)
  refine JL_1 rfl (op_or (Ev.rfl' rfl) rfl (fun h => by exact SubL.iteT (by (rw [h]; rfl)) SubL.rfl')) ?_
  refine JL_1 rfl (op_move rfl) ?_
  (refine JL_i0 rfl rfl rfl (fun hg => (by have hg0 := hg; (try simp at hg); exact op_fieldPtr (k := 7) evG rfl rfl rfl rfl)) ?_)
  (refine JL_i0 rfl rfl rfl (fun hg => (by have hg0 := hg; (try simp at hg); exact op_loadPtr evG memT (by rfl) (by rfl) (by rfl))) ?_)
  (refine JL_i0 rfl rfl rfl (fun hg => (by have hg0 := hg; (try simp at hg); exact op_fieldPtr (k := 7) evG rfl rfl rfl rfl)) ?_)
  (refine JL_i0 rfl rfl rfl (fun hg => (by have hg0 := hg; (try simp at hg); exact op_loadPtr evG memT (by rfl) (by rfl) (by rfl))) ?_)
  (refine JL_i0 rfl rfl rfl (fun hg => (by have hg0 := hg; (try simp at hg); exact op_neq evG evG)) ?_)
  refine JL_1 rfl (op_or (Ev.rfl' rfl) rfl (fun h => by exact SubL.iteT (by (rw [h]; rfl)) SubL.rfl')) ?_
  refine JL_1 rfl (op_move rfl) ?_
  (refine JL_i0 rfl rfl rfl (fun hg => (by have hg0 := hg; (try simp at hg); exact op_fieldPtr (k := 8) evG rfl rfl rfl rfl)) ?_)
  (refine JL_i0 rfl rfl rfl (fun hg => (by have hg0 := hg; (try simp at hg); exact op_loadPtr evG memT (by rfl) (by rfl) (by rfl))) ?_)
  (refine JL_i0 rfl rfl rfl (fun hg => (by have hg0 := hg; (try simp at hg); exact op_fieldPtr (k := 8) evG rfl rfl rfl rfl)) ?_)
  (refine JL_i0 rfl rfl rfl (fun hg => (by have hg0 := hg; (try simp at hg); exact op_loadPtr evG memT (by rfl) (by rfl) (by rfl))) ?_)
  (refine JL_i0 rfl rfl rfl (fun hg => (by have hg0 := hg; (try simp at hg); exact op_neq evG evG)) ?_)
  refine JL_1 rfl (op_or (Ev.rfl' rfl) rfl (fun h => by exact SubL.iteT (by (rw [h]; rfl)) SubL.rfl')) ?_
  refine JL_nil ?_
  (refine JQ_then ?_)
  refine JC_cond (Ev.rfl' rfl) (fun h => ?_) (fun h => ?_)
  · exact absurd h (by simp)
  clear h
  (repeat with_reducible first | refine JC_seq ?_ | refine JQ_then ?_ | refine JC_skip ?_)
  (skip)
  refine JC_region ?_
  refine JL_1 rfl (by exact op_fieldPtr (k := 0) (Ev.rfl' rfl) rfl rfl rfl rfl) ?_
  refine JL_1 rfl (by exact op_loadPtr (Ev.rfl' rfl) memT (by rfl) (by rfl) (by rfl)) ?_
  refine JL_nil ?_
  (repeat with_reducible first | refine JC_seq ?_ | refine JQ_then ?_ | refine JC_block ?_)
  (skip)
  refine JC_region ?_
  refine JL_1 rfl (op_eql (Ev.rfl' rfl) (Ev.rfl' rfl)) ?_
  refine JL_1 rfl (op_assign rfl) ?_
  refine JL_nil ?_
  (refine JQ_then ?_)
  refine JC_cond (Ev.rfl' rfl) (fun h => ?_) (fun h => ?_)
  · (refine JC_seq ?_)
    refine JC_region ?_
    refine JL_1 rfl (by exact op_fieldPtr (k := 3) (Ev.rfl' rfl) rfl rfl rfl rfl) ?_
    refine JL_1 rfl (by exact op_loadPtr (Ev.rfl' rfl) memT (by rfl) (by rfl) (by rfl)) ?_
    refine JL_1 rfl (by exact op_fieldPtr (k := 3) (Ev.rfl' rfl) rfl rfl rfl rfl) ?_
    refine JL_1 rfl (by exact op_loadPtr (Ev.rfl' rfl) memT (by rfl) (by rfl) (by rfl)) ?_
    refine JL_1 rfl (op_eql (Ev.rfl' rfl) (Ev.rfl' rfl)) ?_
    refine JL_1 rfl (op_assign rfl) ?_
    refine JL_nil ?_
    (repeat with_reducible first | refine JQ_then ?_ | refine JQ_then_ret ?_ | refine JQ_block_ret ?_ | refine JC_ret ?_)
    exact JQ_ret1 Tryz.results39 rfl () (SubL.eq (by simp)) (List.nil_sublist _)
  clear h
  (refine JC_seq ?_)
  refine JC_region ?_
  refine JL_1 rfl (op_eql (Ev.rfl' rfl) (Ev.rfl' rfl)) ?_
  refine JL_1 rfl (op_assign rfl) ?_
  refine JL_nil ?_
  (refine JQ_then ?_)
  refine JC_cond (Ev.rfl' rfl) (fun h => ?_) (fun h => ?_)
  · (refine JC_seq ?_)
    refine JC_region ?_
    refine JL_1 rfl (by exact op_fieldPtr (k := 6) (Ev.rfl' rfl) rfl rfl rfl rfl) ?_
    refine JL_1 rfl (by exact op_loadPtr (Ev.rfl' rfl) memT (by rfl) (by rfl) (by rfl)) ?_
    refine JL_1 rfl (by exact op_fieldPtr (k := 6) (Ev.rfl' rfl) rfl rfl rfl rfl) ?_
    refine JL_1 rfl (by exact op_loadPtr (Ev.rfl' rfl) memT (by rfl) (by rfl) (by rfl)) ?_
    refine JL_1 rfl (op_call Tryz.call17 (SameWords_ok _ _) ⟨evS, ⟨evS, trivial⟩⟩) ?_
    refine JL_1 rfl (op_assign rfl) ?_
    refine JL_nil ?_
    (repeat with_reducible first | refine JQ_then ?_ | refine JQ_then_ret ?_ | refine JQ_block_ret ?_ | refine JC_ret ?_)
    exact JQ_ret1 Tryz.results39 rfl () (SubL.eq (by simp)) (List.nil_sublist _)
  clear h
  (refine JC_seq ?_)
  refine JC_region ?_
  refine JL_1 rfl (op_eql (Ev.rfl' rfl) (Ev.rfl' rfl)) ?_
  refine JL_1 rfl (op_assign rfl) ?_
  refine JL_nil ?_
  (refine JQ_then ?_)
  refine JC_cond (Ev.rfl' rfl) (fun h => ?_) (fun h => ?_)
  · (refine JC_seq ?_)
    refine JC_region ?_
    refine JL_1 rfl (by exact op_fieldPtr (k := 4) (Ev.rfl' rfl) rfl rfl rfl rfl) ?_
    refine JL_1 rfl (by exact op_loadPtr (Ev.rfl' rfl) memT (by rfl) (by rfl) (by rfl)) ?_
    refine JL_1 rfl (by exact op_fieldPtr (k := 4) (Ev.rfl' rfl) rfl rfl rfl rfl) ?_
    refine JL_1 rfl (by exact op_loadPtr (Ev.rfl' rfl) memT (by rfl) (by rfl) (by rfl)) ?_
    refine JL_1 rfl (op_eql (Ev.rfl' rfl) (Ev.rfl' rfl)) ?_
    refine JL_1 rfl (op_move rfl) ?_
    (refine JL_i0 rfl rfl rfl (fun hg => (by have hg0 := hg; (try simp at hg); exact op_fieldPtr (k := 5) evG rfl rfl rfl rfl)) ?_)
    (refine JL_i0 rfl rfl rfl (fun hg => (by have hg0 := hg; (try simp at hg); exact op_loadPtr evG memT (by rfl) (by rfl) (by rfl))) ?_)
    (refine JL_i0 rfl rfl rfl (fun hg => (by have hg0 := hg; (try simp at hg); exact op_fieldPtr (k := 5) evG rfl rfl rfl rfl)) ?_)
    (refine JL_i0 rfl rfl rfl (fun hg => (by have hg0 := hg; (try simp at hg); exact op_loadPtr evG memT (by rfl) (by rfl) (by rfl))) ?_)
    (refine JL_i0 rfl rfl rfl (fun hg => (by have hg0 := hg; (try simp at hg); exact op_eql evG evG)) ?_)
    refine JL_1 rfl (op_and (Ev.rfl' rfl) rfl (fun h => by exact SubL.iteT (by (rw [h]; rfl)) SubL.rfl')) ?_
    refine JL_1 rfl (op_assign rfl) ?_
    refine JL_nil ?_
    (repeat with_reducible first | refine JQ_then ?_ | refine JQ_then_ret ?_ | refine JQ_block_ret ?_ | refine JC_ret ?_)
    exact JQ_ret1 Tryz.results39 rfl () (SubL.eq (by simp)) (List.nil_sublist _)
  clear h
  (refine JC_seq ?_)
  refine JC_region ?_
  refine JL_1 rfl (op_eql (Ev.rfl' rfl) (Ev.rfl' rfl)) ?_
  refine JL_1 rfl (op_assign rfl) ?_
  refine JL_nil ?_
  (refine JQ_then ?_)
  refine JC_cond (Ev.rfl' rfl) (fun h => ?_) (fun h => ?_)
  · (refine JC_seq ?_)
    refine JC_region ?_
    refine JL_1 rfl (by exact op_fieldPtr (k := 5) (Ev.rfl' rfl) rfl rfl rfl rfl) ?_
    refine JL_1 rfl (by exact op_loadPtr (Ev.rfl' rfl) memT (by rfl) (by rfl) (by rfl)) ?_
    refine JL_1 rfl (by exact op_fieldPtr (k := 5) (Ev.rfl' rfl) rfl rfl rfl rfl) ?_
    refine JL_1 rfl (by exact op_loadPtr (Ev.rfl' rfl) memT (by rfl) (by rfl) (by rfl)) ?_
    refine JL_1 rfl (op_eql (Ev.rfl' rfl) (Ev.rfl' rfl)) ?_
    refine JL_1 rfl (op_assign rfl) ?_
    refine JL_nil ?_
    (repeat with_reducible first | refine JQ_then ?_ | refine JQ_then_ret ?_ | refine JQ_block_ret ?_ | refine JC_ret ?_)
    exact JQ_ret1 Tryz.results39 rfl () (SubL.eq (by simp)) (List.nil_sublist _)
  clear h
  (repeat with_reducible first | refine JC_seq ?_ | refine JQ_then ?_ | refine JC_skip ?_ | refine JQ_block ?_)
  (skip)
  refine JC_region ?_
  refine JL_1 rfl (by exact op_fieldPtr (k := 3) (Ev.rfl' rfl) rfl rfl rfl rfl) ?_
  refine JL_1 rfl (by exact op_loadPtr (Ev.rfl' rfl) memT (by rfl) (by rfl) (by rfl)) ?_
  refine JL_1 rfl (by exact op_fieldPtr (k := 3) (Ev.rfl' rfl) rfl rfl rfl rfl) ?_
  refine JL_1 rfl (by exact op_loadPtr (Ev.rfl' rfl) memT (by rfl) (by rfl) (by rfl)) ?_
  refine JL_1 rfl (op_eql (Ev.rfl' rfl) (Ev.rfl' rfl)) ?_
  refine JL_1 rfl (op_move rfl) ?_
  (refine JL_i0 rfl rfl rfl (fun hg => (by have hg0 := hg; (try simp at hg); exact op_fieldPtr (k := 4) evG rfl rfl rfl rfl)) ?_)
  (refine JL_i0 rfl rfl rfl (fun hg => (by have hg0 := hg; (try simp at hg); exact op_loadPtr evG memT (by rfl) (by rfl) (by rfl))) ?_)
  (refine JL_i0 rfl rfl rfl (fun hg => (by have hg0 := hg; (try simp at hg); exact op_fieldPtr (k := 4) evG rfl rfl rfl rfl)) ?_)
  (refine JL_i0 rfl rfl rfl (fun hg => (by have hg0 := hg; (try simp at hg); exact op_loadPtr evG memT (by rfl) (by rfl) (by rfl))) ?_)
  (refine JL_i0 rfl rfl rfl (fun hg => (by have hg0 := hg; (try simp at hg); exact op_eql evG evG)) ?_)
  refine JL_1 rfl (op_and (Ev.rfl' rfl) rfl (fun h => by exact SubL.iteT (by (rw [h]; rfl)) SubL.rfl')) ?_
  refine JL_1 rfl (op_move rfl) ?_
  (refine JL_i0 rfl rfl rfl (fun hg => (by have hg0 := hg; (try simp at hg); exact op_fieldPtr (k := 5) evG rfl rfl rfl rfl)) ?_)
  (refine JL_i0 rfl rfl rfl (fun hg => (by have hg0 := hg; (try simp at hg); exact op_loadPtr evG memT (by rfl) (by rfl) (by rfl))) ?_)
  (refine JL_i0 rfl rfl rfl (fun hg => (by have hg0 := hg; (try simp at hg); exact op_fieldPtr (k := 5) evG rfl rfl rfl rfl)) ?_)
  (refine JL_i0 rfl rfl rfl (fun hg => (by have hg0 := hg; (try simp at hg); exact op_loadPtr evG memT (by rfl) (by rfl) (by rfl))) ?_)
  (refine JL_i0 rfl rfl rfl (fun hg => (by have hg0 := hg; (try simp at hg); exact op_eql evG evG)) ?_)
  refine JL_1 rfl (op_and (Ev.rfl' rfl) rfl (fun h => by exact SubL.iteT (by (rw [h]; rfl)) SubL.rfl')) ?_
  refine JL_1 rfl (op_move rfl) ?_
  (refine JL_i0 rfl rfl rfl (fun hg => (by have hg0 := hg; (try simp at hg); exact op_fieldPtr (k := 6) evG rfl rfl rfl rfl)) ?_)
  (refine JL_i0 rfl rfl rfl (fun hg => (by have hg0 := hg; (try simp at hg); exact op_loadPtr evG memT (by rfl) (by rfl) (by rfl))) ?_)
  (refine JL_i0 rfl rfl rfl (fun hg => (by have hg0 := hg; (try simp at hg); exact op_fieldPtr (k := 6) evG rfl rfl rfl rfl)) ?_)
  (refine JL_i0 rfl rfl rfl (fun hg => (by have hg0 := hg; (try simp at hg); exact op_loadPtr evG memT (by rfl) (by rfl) (by rfl))) ?_)
  (refine JL_i0 rfl rfl rfl (fun hg => (by have hg0 := hg; (try simp at hg); exact op_call Tryz.call17 (SameWords_ok _ _) ⟨evS, ⟨evS, trivial⟩⟩)) ?_)
  refine JL_1 rfl (op_and (Ev.rfl' rfl) rfl (fun h => by exact SubL.iteT (by (rw [h]; rfl)) SubL.rfl')) ?_
  refine JL_1 rfl (op_assign rfl) ?_
  refine JL_nil ?_
  (repeat with_reducible first | refine JQ_then ?_ | refine JC_ret ?_)
  exact JQ_ret1 Tryz.results39 rfl () (SubL.eq (by simp)) (List.nil_sublist _)

def nodesB (nodes : Int) : Bool := decide (nodes ≥ 1) && decide (nodes ≤ 5)
def initL (k : Nat) : List Mb := (List.range k).map (fun (i : Nat) => ⟨(i : Int), 1, true⟩)
theorem initL_succ (k : Nat) : initL (k + 1) = initL k ++ [⟨(k : Int), 1, true⟩] := by unfold initL; rw [List.range_succ, List.map_append]; rfl
theorem initL_len (k : Nat) : (initL k).length = k := by simp [initL]
def initMs (nodes : Int) : List Mb := if nodesB nodes then initL nodes.toNat else []
def initC (nodes : Int) : Int := if nodesB nodes then 0 else 1
theorem initMs_len (nodes : Int) : (initMs nodes).length ≤ 5 := by
  unfold initMs nodesB
  split
  · rename_i h; rw [initL_len]; simp at h; omega
  · simp
set_option maxHeartbeats 1000000 in
-- bodegaref9.Initial: function 74
theorem InitialR_ok (nodes : Int) : FnP Tryz.prog 74 [Is (.int .i64 nodes)] (IsTup [IsView 0 (initMs nodes), Is (.int .i64 (initC nodes))]) := by
  refine FnP.enter Tryz.func74 Tryz.ntmps74 rfl rfl ?_
  intro c hX
  refine JC_buf0 88 tMb ?_
  (refine JC_seq ?_)
  refine JC_region ?_
  (refine JL_n rfl (op_allocN rfl nrmT rfl) ?_; intro i2)
  refine JL_1 rfl (op_assign rfl) ?_
  refine JL_nil ?_
  (repeat with_reducible first | refine JC_seq ?_ | refine JQ_then ?_)
  (skip)
  refine JC_region ?_
  refine JL_1 rfl (op_move rfl) ?_
  refine JL_1 rfl (op_lss (Ev.rfl' rfl) (Ev.rfl' rfl)) ?_
  refine JL_1 rfl (op_move rfl) ?_
  (refine JL_i0 rfl rfl rfl (fun hg => (by have hg0 := hg; (try simp at hg); exact op_moveE (Ev.rfl' rfl))) ?_)
  (refine JL_i0 rfl rfl rfl (fun hg => (by have hg0 := hg; (try simp at hg); exact op_gtr evG evG)) ?_)
  refine JL_1 rfl (op_or (Ev.rfl' rfl) rfl (fun h => by exact SubL.iteT (by (rw [h]; rfl)) SubL.rfl')) ?_
  refine JL_nil ?_
  (refine JQ_then ?_)
  refine JC_cond (Ev.rfl' rfl) (fun h => ?_) (fun h => ?_)
  · (refine JC_seq ?_)
    refine JC_region ?_
    refine JL_1 rfl (op_buildN (qs := []) rfl rfl rfl rfl trivial (by rfl) nrmT) ?_
    refine JL_s0 (op_storeN (Ev.rfl' rfl) (Ev.rfl' rfl) cellsT replT nrmT (by rfl) (by rfl) (by rfl)) ?_
    refine JL_1 rfl (op_assign rfl) ?_
    refine JL_nil ?_
    (repeat with_reducible first | refine JQ_then ?_ | refine JQ_then_ret ?_ | refine JC_ret ?_)
    have e : nodesB nodes = false := by simp [nodesB]; simp at h; omega
    have e1 : initMs nodes = [] := by unfold initMs; rw [e]; rfl
    have e2 : initC nodes = 1 := by unfold initC; rw [e]; rfl
    rw [e1, e2]
    exact JQ_ret (Bs := [IsView 0 [], Is (.int .i64 1)]) Tryz.results74 ⟨⟨_, _, _, _, rfl, memT, rfl, .inr ⟨rfl, _, rfl, rfl, subT⟩⟩, ⟨⟨_, rfl, subT⟩, trivial⟩⟩ () SubL.rfl' (List.nil_sublist _)
  have e : nodesB nodes = true := by simp [nodesB]; simp at h; omega
  have e1 : initMs nodes = initL nodes.toNat := by unfold initMs; rw [e]; rfl
  have e2 : initC nodes = 0 := by unfold initC; rw [e]; rfl
  have hn : 1 ≤ nodes ∧ nodes ≤ 5 := by simp at h; omega
  rw [e1, e2]
  clear h e e1 e2
  (repeat with_reducible first | refine JC_seq ?_ | refine JQ_then ?_ | refine JC_skip ?_)
  refine JC_region ?_
  refine JL_1 rfl (op_buildN (qs := []) rfl rfl rfl rfl trivial (by rfl) nrmT) ?_
  (refine JL_n rfl (op_allocN rfl nrmT rfl) ?_; intro i4)
  refine JL_s0 (op_storeN (Ev.rfl' rfl) (Ev.rfl' rfl) cellsT replT nrmT (by rfl) (by rfl) (by rfl)) ?_
  refine JL_nil ?_
  (repeat with_reducible first | refine JC_seq ?_ | refine JQ_then ?_)
  (skip)
  refine JC_region ?_
  refine JL_1 rfl (op_assign rfl) ?_
  refine JL_nil ?_
  (repeat with_reducible first | refine JQ_then ?_ | refine JC_block ?_)
  refine JC_loopP (fun i : Nat × (Option Addr × Nat) => (i.1 : Int) ≤ nodes) (fun i => [(0, Is (.int .i64 nodes)), (2, Is (.pointer (some ⟨i2, 0, none⟩))), (4, Is (.pointer (some ⟨i4, 0, none⟩))), (5, Is (.int .i64 (i.1 : Nat)))])
    (fun i => [blk i4 29 [Is (.int .i64 0), Is (slV (initL i.1).length i.2)], blk i2 29 [Is (.int .i64 0), Is (.slice none 0 0)], buf (slV (initL i.1).length i.2) 88 tMb (initL i.1)]) (fun i => 5 - i.1) (0, (none, 0)) (by dsimp only; omega) esubT lessT ?_
  rintro ⟨k, s⟩ hk
  dsimp only at hk ⊢
  have hlk := initL_len k
  (refine JC_seq ?_; refine JC_seq ?_)
  refine JC_region ?_
  refine JL_1 rfl (op_move rfl) ?_
  refine JL_1 rfl (op_move rfl) ?_
  refine JL_1 rfl (op_lss (Ev.rfl' rfl) (Ev.rfl' rfl)) ?_
  refine JL_nil ?_
  (refine JQ_then ?_)
  refine JC_cond (Ev.rfl' rfl) (fun h => ?_) (fun h => ?_)
  · have h' : (k : Int) < nodes := of_decide_eq_true h
    clear h
    have hlk2 := initL_len (k + 1)
    (repeat with_reducible first | refine JC_seq ?_ | refine JQ_then ?_ | refine JC_block ?_ | refine JC_skip ?_)
    refine JC_region ?_
    refine JL_1 rfl (by exact op_fieldPtr (k := 1) (Ev.rfl' rfl) rfl rfl rfl rfl) ?_
    refine JL_1 rfl (by exact op_loadPtr (Ev.rfl' rfl) memT (by rfl) (by rfl) (by rfl)) ?_
    refine JL_1 rfl (op_move rfl) ?_
    refine JL_1 rfl (op_buildN (qs := [(0, _), (1, _), (2, _)]) rfl rfl rfl rfl ⟨⟨rfl, _, (Ev.rfl' rfl), cellsT⟩, ⟨⟨rfl, _, (Ev.rfl' rfl), cellsT⟩, ⟨⟨rfl, _, (Ev.rfl' rfl), cellsT⟩, trivial⟩⟩⟩ (by rfl) nrmT) ?_
    refine JL_1 rfl (op_buildSlice (size := 3) (qs := [(0, _)]) rfl rfl rfl ⟨⟨rfl, _, (Ev.rfl' rfl), cellsT⟩, trivial⟩ (by rfl) (by rfl)) ?_
    (refine JL_s rfl (op_app (Ev.rfl' rfl) (fun _ => replT) (by exact Ev.sub rfl (by exact SubL.row (xs := [(⟨(k : Nat), 1, true⟩ : Mb)]) (by rfl) (by rfl) subsT)) (by exact appT rfl rfl rfl) lenT) ?_; intro i24)
    refine JL_1 rfl (by exact op_fieldPtr (k := 1) (Ev.rfl' rfl) rfl rfl rfl rfl) ?_
    refine JL_s0 (op_storeN (Ev.rfl' rfl) (Ev.rfl' rfl) cellsT replT nrmT (by rfl) (by rfl) (by rfl)) ?_
    refine JL_nil ?_
    (repeat with_reducible first | refine JQ_then ?_ | refine JQ_block ?_)
    rw [← initL_succ]
    (skip)
    refine JC_region ?_
    refine JL_1 rfl (op_move rfl) ?_
    refine JL_1 rfl (op_add (Ev.rfl' rfl) (Ev.rfl' rfl) wrapT) ?_
    refine JL_1 rfl (op_assign rfl) ?_
    refine JL_nil ?_
    (skip)
    exact JQ_round (k + 1, i24) (by dsimp only; omega) (by dsimp only; omega) esubT (List.Sublist.refl _)
  have hk2 : nodes.toNat = k := by have := of_decide_eq_false h; omega
  clear h
  rw [hk2]
  (repeat with_reducible first | refine JC_seq ?_ | refine JQ_then ?_ | refine JC_exit ?_ | refine JQ_then_exit ?_ | refine JQ_hit ?_)
  refine JC_region ?_
  refine JL_1 rfl (by exact op_loadPtrsN (n := 2) (Ev.rfl' rfl) memT (by rfl) (by rfl) (by rfl) (by rfl) nrmT) ?_
  refine JL_s0 (op_storeN (Ev.rfl' rfl) (Ev.rfl' rfl) cellsT replT nrmT (by rfl) (by rfl) (by rfl)) ?_
  refine JL_1 rfl (op_assign rfl) ?_
  refine JL_nil ?_
  (repeat with_reducible first | refine JQ_then ?_ | refine JC_ret ?_)
  refine JQ_freeze hX replT ?_
  exact JQ_ret (Bs := [IsView 0 (initL k), Is (.int .i64 0)]) Tryz.results74 ⟨⟨_, _, _, _, rfl, memT, rfl, .inr ⟨rfl, _, rfl, rfl, subT⟩⟩, ⟨⟨_, rfl, subT⟩, trivial⟩⟩ () SubL.rfl' (List.nil_sublist _)
-- bodegaref4.SameAll: function 11
theorem SameAll_ok (xs : List GVerb) : FnP Tryz.prog 11 [IsSl tGVerb xs, IsSl tGVerb xs] (Is (.bool true)) := by
  refine FnP.enter Tryz.func11 Tryz.ntmps11 rfl rfl ?_
  intro c hX
  refine JC_len (t := 0) rfl (fun hlen => ?_)
  refine JC_seq ?_
  refine JC_region ?_
  refine JL_1 rfl (op_assign rfl) ?_
  refine JL_nil ?_
  refine JQ_then (JC_seq (JC_seq ?_))
  refine JC_region ?_
  refine JL_1 rfl (op_move rfl) ?_
  refine JL_1 rfl (by exact op_len (Ev.rfl' rfl) rfl) ?_
  refine JL_1 rfl (op_move rfl) ?_
  refine JL_1 rfl (by exact op_len (Ev.rfl' rfl) rfl) ?_
  refine JL_1 rfl (op_neq (Ev.rfl' rfl) (Ev.rfl' rfl)) ?_
  refine JL_nil ?_
  refine JQ_then ?_
  refine JC_cond (Ev.rfl' rfl) (fun h1 => ?_) (fun h1 => ?_)
  · exact absurd h1 (by simp)
  refine JC_skip (JQ_then (JC_seq (JC_seq ?_)))
  refine JC_region ?_
  refine JL_1 rfl (op_assign rfl) ?_
  refine JL_nil ?_
  refine JQ_then (JC_block ?_)
  refine JC_loopP (fun k : Nat => k ≤ xs.length) (fun k => [(0, IsSl tGVerb xs), (1, IsSl tGVerb xs), (5, Is (.int .i64 (k : Nat)))]) (fun _ => []) (fun k => xs.length - k) 0 (Nat.zero_le _) esubT lessT ?_
  rintro k hk
  refine JC_seq (JC_seq ?_)
  refine JC_region ?_
  refine JL_1 rfl (op_move rfl) ?_
  refine JL_1 rfl (op_move rfl) ?_
  refine JL_1 rfl (by exact op_len (Ev.rfl' rfl) rfl) ?_
  refine JL_1 rfl (op_lss (Ev.rfl' rfl) (Ev.rfl' rfl)) ?_
  refine JL_nil ?_
  refine JQ_then ?_
  refine JC_cond (Ev.rfl' rfl) (fun h4 => ?_) (fun h4 => ?_)
  · have hlt : k < xs.length := by have := of_decide_eq_true h4; omega
    clear h4
    obtain ⟨z, hz⟩ : ∃ z, xs[k]? = some z := ⟨xs[k], List.getElem?_eq_getElem hlt⟩
    refine JC_skip (JQ_then (JC_seq (JC_block (JC_seq ?_))))
    refine JC_dr rfl (by kernel_rfl) ?_
    refine JD_stretch 10 (by kernel_rfl) ?_
    refine JW_1 (op_move rfl) ?_
    refine JW_1 (op_move rfl) ?_
    refine JW_1 (by exact op_index (j := _) (Ev.rfl' rfl) (Ev.rfl' rfl) rfl rfl (by rfl) hz) ?_
    refine JW_1 (by exact op_loadRefsN (n := 9) (Ev.rfl' rfl) rfl rfl rfl (by rfl) nrmT) ?_
    refine JW_1 (op_move rfl) ?_
    refine JW_1 (op_move rfl) ?_
    refine JW_1 (by exact op_index (j := _) (Ev.rfl' rfl) (Ev.rfl' rfl) rfl rfl (by rfl) hz) ?_
    refine JW_1 (by exact op_loadRefsN (n := 9) (Ev.rfl' rfl) rfl rfl rfl (by rfl) nrmT) ?_
    refine JW_1 (op_call Tryz.call39 (SameVerb_ok z) ⟨evS, ⟨evS, trivial⟩⟩) ?_
    refine JW_1 (op_not (Ev.rfl' rfl)) ?_
    refine ⟨rfl, ?_⟩
    refine JD_end ?_
    refine JQ_then ?_
    refine JC_cond (Ev.rfl' rfl) (fun h6 => ?_) (fun h6 => ?_)
    · exact absurd h6 (by simp)
    refine JC_skip (JQ_block (JQ_then ?_))
    refine JC_region ?_
    refine JL_1 rfl (op_move rfl) ?_
    refine JL_1 rfl (op_add (Ev.rfl' rfl) (Ev.rfl' rfl) wrapT) ?_
    refine JL_1 rfl (op_assign rfl) ?_
    refine JL_nil ?_
    exact JQ_roundP (k + 1) (by omega) (by omega) esubT lessT
  refine JC_exit (JQ_then_exit (JQ_then_exit (JQ_hit (JQ_then (JC_seq ?_)))))
  refine JC_region ?_
  refine JL_1 rfl (op_assign rfl) ?_
  refine JL_nil ?_
  refine JQ_then (JC_ret ?_)
  refine JQ_ret1 Tryz.results11 rfl () (SubL.eq ?_) (List.nil_sublist _)
  rfl
-- bodegalaw15.sameLeases: function 23
theorem sameLeases_ok (xs : List Hg) : FnP Tryz.prog 23 [IsSl tHg xs, IsSl tHg xs] (Is (.bool true)) := by
  refine FnP.enter Tryz.func23 Tryz.ntmps23 rfl rfl ?_
  intro c hX
  refine JC_len (t := 0) rfl (fun hlen => ?_)
  refine JC_seq ?_
  refine JC_region ?_
  refine JL_1 rfl (op_assign rfl) ?_
  refine JL_nil ?_
  refine JQ_then (JC_seq (JC_seq ?_))
  refine JC_region ?_
  refine JL_1 rfl (op_move rfl) ?_
  refine JL_1 rfl (by exact op_len (Ev.rfl' rfl) rfl) ?_
  refine JL_1 rfl (op_move rfl) ?_
  refine JL_1 rfl (by exact op_len (Ev.rfl' rfl) rfl) ?_
  refine JL_1 rfl (op_neq (Ev.rfl' rfl) (Ev.rfl' rfl)) ?_
  refine JL_nil ?_
  refine JQ_then ?_
  refine JC_cond (Ev.rfl' rfl) (fun h1 => ?_) (fun h1 => ?_)
  · exact absurd h1 (by simp)
  refine JC_skip (JQ_then (JC_seq (JC_seq ?_)))
  refine JC_region ?_
  refine JL_1 rfl (op_assign rfl) ?_
  refine JL_nil ?_
  refine JQ_then (JC_block ?_)
  refine JC_loopP (fun k : Nat => k ≤ xs.length) (fun k => [(0, IsSl tHg xs), (1, IsSl tHg xs), (5, Is (.int .i64 (k : Nat)))]) (fun _ => []) (fun k => xs.length - k) 0 (Nat.zero_le _) esubT lessT ?_
  rintro k hk
  refine JC_seq (JC_seq ?_)
  refine JC_region ?_
  refine JL_1 rfl (op_move rfl) ?_
  refine JL_1 rfl (op_move rfl) ?_
  refine JL_1 rfl (by exact op_len (Ev.rfl' rfl) rfl) ?_
  refine JL_1 rfl (op_lss (Ev.rfl' rfl) (Ev.rfl' rfl)) ?_
  refine JL_nil ?_
  refine JQ_then ?_
  refine JC_cond (Ev.rfl' rfl) (fun h4 => ?_) (fun h4 => ?_)
  · have hlt : k < xs.length := by have := of_decide_eq_true h4; omega
    clear h4
    obtain ⟨z, hz⟩ : ∃ z, xs[k]? = some z := ⟨xs[k], List.getElem?_eq_getElem hlt⟩
    refine JC_skip (JQ_then (JC_seq (JC_block (JC_seq ?_))))
    refine JC_dr rfl (by kernel_rfl) ?_
    refine JD_stretch 24 (by kernel_rfl) ?_
    refine JW_1 (op_move rfl) ?_
    refine JW_1 (op_move rfl) ?_
    refine JW_1 (by exact op_index (j := _) (Ev.rfl' rfl) (Ev.rfl' rfl) rfl rfl (by rfl) hz) ?_
    refine JW_1 (by exact op_fieldRefN (k := 0) (Ev.rfl' rfl) rfl rfl rfl rfl nrmT) ?_
    refine JW_1 (by exact op_loadRef (Ev.rfl' rfl) rfl rfl rfl) ?_
    refine JW_1 (op_move rfl) ?_
    refine JW_1 (op_move rfl) ?_
    refine JW_1 (by exact op_index (j := _) (Ev.rfl' rfl) (Ev.rfl' rfl) rfl rfl (by rfl) hz) ?_
    refine JW_1 (by exact op_fieldRefN (k := 0) (Ev.rfl' rfl) rfl rfl rfl rfl nrmT) ?_
    refine JW_1 (by exact op_loadRef (Ev.rfl' rfl) rfl rfl rfl) ?_
    refine JW_1 (op_neq (Ev.rfl' rfl) (Ev.rfl' rfl)) ?_
    refine JW_1 (op_move rfl) ?_
    (refine JW_i0 rfl rfl (fun hg => (by have hg0 := hg; (try simp at hg); exact op_moveE (Ev.rfl' rfl))) ?_)
    (refine JW_i0 rfl rfl (fun hg => (by have hg0 := hg; (try simp at hg); exact op_moveE (Ev.rfl' rfl))) ?_)
    (refine JW_i0 rfl rfl (fun hg => (by have hg0 := hg; (try simp at hg); exact op_index (j := _) evG evG rfl rfl (by rfl) hz)) ?_)
    (refine JW_i0 rfl rfl (fun hg => (by have hg0 := hg; (try simp at hg); exact op_fieldRefN (k := 1) evG rfl rfl rfl rfl nrmT)) ?_)
    (refine JW_i0 rfl rfl (fun hg => (by have hg0 := hg; (try simp at hg); exact op_loadRef evG rfl rfl rfl)) ?_)
    (refine JW_i0 rfl rfl (fun hg => (by have hg0 := hg; (try simp at hg); exact op_moveE (Ev.rfl' rfl))) ?_)
    (refine JW_i0 rfl rfl (fun hg => (by have hg0 := hg; (try simp at hg); exact op_moveE (Ev.rfl' rfl))) ?_)
    (refine JW_i0 rfl rfl (fun hg => (by have hg0 := hg; (try simp at hg); exact op_index (j := _) evG evG rfl rfl (by rfl) hz)) ?_)
    (refine JW_i0 rfl rfl (fun hg => (by have hg0 := hg; (try simp at hg); exact op_fieldRefN (k := 1) evG rfl rfl rfl rfl nrmT)) ?_)
    (refine JW_i0 rfl rfl (fun hg => (by have hg0 := hg; (try simp at hg); exact op_loadRef evG rfl rfl rfl)) ?_)
    (refine JW_i0 rfl rfl (fun hg => (by have hg0 := hg; (try simp at hg); exact op_neq evG evG)) ?_)
    refine JW_1 (op_or (Ev.rfl' rfl) rfl (fun h => by exact SubL.iteT (by (rw [h]; rfl)) SubL.rfl')) ?_
    refine ⟨rfl, ?_⟩
    refine JD_end ?_
    refine JQ_then ?_
    refine JC_cond (Ev.rfl' rfl) (fun h6 => ?_) (fun h6 => ?_)
    · exact absurd h6 (by simp)
    refine JC_skip (JQ_block (JQ_then ?_))
    refine JC_region ?_
    refine JL_1 rfl (op_move rfl) ?_
    refine JL_1 rfl (op_add (Ev.rfl' rfl) (Ev.rfl' rfl) wrapT) ?_
    refine JL_1 rfl (op_assign rfl) ?_
    refine JL_nil ?_
    exact JQ_roundP (k + 1) (by omega) (by omega) esubT lessT
  refine JC_exit (JQ_then_exit (JQ_then_exit (JQ_hit (JQ_then (JC_seq ?_)))))
  refine JC_region ?_
  refine JL_1 rfl (op_assign rfl) ?_
  refine JL_nil ?_
  refine JQ_then (JC_ret ?_)
  refine JQ_ret1 Tryz.results23 rfl () (SubL.eq ?_) (List.nil_sublist _)
  rfl
def expV (h : Hg) (now : Int) : Bool := (h.inc == 0) || decide (h.until_ < now)
-- lease.Expired: function 24
theorem Expired_ok (h : Hg) (now : Int) : FnP Tryz.prog 24 [IsHg h, Is (.int .i64 now)] (Is (.bool (expV h now))) := by
  refine FnP.enter Tryz.func24 Tryz.ntmps24 rfl rfl ?_
  intro c hX
  refine JC_seq ?_
  refine JC_region ?_
  (refine JL_n rfl (op_box (Ev.rfl' rfl) cellsT) ?_; intro i2)
  refine JL_1 rfl (op_assign rfl) ?_
  refine JL_nil ?_
  refine JQ_then (JC_seq ?_)
  refine JC_region ?_
  refine JL_1 rfl (by exact op_fieldPtr (k := 0) (Ev.rfl' rfl) rfl rfl rfl rfl) ?_
  refine JL_1 rfl (by exact op_loadPtr (Ev.rfl' rfl) memT (by rfl) (by rfl) (by rfl)) ?_
  refine JL_1 rfl (op_eql (Ev.rfl' rfl) (Ev.rfl' rfl)) ?_
  refine JL_1 rfl (op_move rfl) ?_
  (refine JL_i0 rfl rfl rfl (fun hg => (by have hg0 := hg; (try simp at hg); exact op_fieldPtr (k := 1) evG rfl rfl rfl rfl)) ?_)
  (refine JL_i0 rfl rfl rfl (fun hg => (by have hg0 := hg; (try simp at hg); exact op_loadPtr evG memT (by rfl) (by rfl) (by rfl))) ?_)
  (refine JL_i0 rfl rfl rfl (fun hg => (by have hg0 := hg; (try simp at hg); exact op_moveE (Ev.rfl' rfl))) ?_)
  (refine JL_i0 rfl rfl rfl (fun hg => (by have hg0 := hg; (try simp at hg); exact op_lss evG evG)) ?_)
  refine JL_1 rfl (op_or (Ev.rfl' rfl) rfl (fun h => by exact SubL.iteT (by (rw [h]; rfl)) SubL.rfl')) ?_
  refine JL_1 rfl (op_assign rfl) ?_
  refine JL_nil ?_
  refine JQ_then (JC_ret ?_)
  refine JQ_ret1 Tryz.results24 rfl () (SubL.eq ?_) (List.nil_sublist _)
  rfl
-- bodegaref9.Expired: function 25
theorem ExpiredR_ok (h : Hg) (now : Int) : FnP Tryz.prog 25 [IsHg h, Is (.int .i64 now)] (Is (.bool (expV h now))) := by
  refine FnP.enter Tryz.func25 Tryz.ntmps25 rfl rfl ?_
  intro c hX
  refine JC_seq ?_
  refine JC_region ?_
  (refine JL_n rfl (op_box (Ev.rfl' rfl) cellsT) ?_; intro i2)
  refine JL_1 rfl (op_assign rfl) ?_
  refine JL_nil ?_
  refine JQ_then (JC_seq ?_)
  refine JC_region ?_
  refine JL_1 rfl (by exact op_fieldPtr (k := 0) (Ev.rfl' rfl) rfl rfl rfl rfl) ?_
  refine JL_1 rfl (by exact op_loadPtr (Ev.rfl' rfl) memT (by rfl) (by rfl) (by rfl)) ?_
  refine JL_1 rfl (op_eql (Ev.rfl' rfl) (Ev.rfl' rfl)) ?_
  refine JL_1 rfl (op_move rfl) ?_
  (refine JL_i0 rfl rfl rfl (fun hg => (by have hg0 := hg; (try simp at hg); exact op_fieldPtr (k := 1) evG rfl rfl rfl rfl)) ?_)
  (refine JL_i0 rfl rfl rfl (fun hg => (by have hg0 := hg; (try simp at hg); exact op_loadPtr evG memT (by rfl) (by rfl) (by rfl))) ?_)
  (refine JL_i0 rfl rfl rfl (fun hg => (by have hg0 := hg; (try simp at hg); exact op_moveE (Ev.rfl' rfl))) ?_)
  (refine JL_i0 rfl rfl rfl (fun hg => (by have hg0 := hg; (try simp at hg); exact op_lss evG evG)) ?_)
  refine JL_1 rfl (op_or (Ev.rfl' rfl) rfl (fun h => by exact SubL.iteT (by (rw [h]; rfl)) SubL.rfl')) ?_
  refine JL_1 rfl (op_assign rfl) ?_
  refine JL_nil ?_
  refine JQ_then (JC_ret ?_)
  refine JQ_ret1 Tryz.results25 rfl () (SubL.eq ?_) (List.nil_sublist _)
  rfl
-- bodegahand.Start: function 40
theorem Start_ok (nodes : Int) : FnP Tryz.prog 40 [Is (.int .i64 nodes)] (IsView 0 (initMs nodes)) := by
  refine FnP.enter Tryz.func40 Tryz.ntmps40 rfl rfl ?_
  intro c hX
  refine JC_seq ?_
  refine JC_region ?_
  (refine JL_n rfl (op_allocN rfl nrmT rfl) ?_; intro i2)
  refine JL_nil ?_
  refine JQ_then (JC_seq ?_)
  refine JC_region ?_
  refine JL_1 rfl (op_move rfl) ?_
  refine JL_1 rfl (op_call Tryz.call74 (InitialR_ok _) ⟨evS, trivial⟩) ?_
  refine JL_1 rfl (op_move rfl) ?_
  refine JL_1 rfl (op_extract (Ev.rfl' rfl) rfl) ?_
  refine JL_1 rfl (op_extract (Ev.rfl' rfl) rfl) ?_
  (refine JL_n rfl (op_allocN rfl nrmT rfl) ?_; intro i3)
  refine JL_s0 (op_storeN (Ev.rfl' rfl) (Ev.rfl' rfl) cellsT replT nrmT (by rfl) (by rfl) (by rfl)) ?_
  refine JL_1 rfl (op_assign rfl) ?_
  refine JL_nil ?_
  refine JQ_then (JC_seq ?_)
  refine JC_region ?_
  refine JL_1 rfl (by exact op_loadPtrsN (n := 2) (Ev.rfl' rfl) memT (by rfl) (by rfl) (by rfl) (by rfl) nrmT) ?_
  refine JL_s0 (op_storeN (Ev.rfl' rfl) (Ev.rfl' rfl) cellsT replT nrmT (by rfl) (by rfl) (by rfl)) ?_
  refine JL_nil ?_
  refine JQ_then (JC_ret ?_)
  exact JQ_ret (Bs := [IsView 0 (initMs nodes)]) Tryz.results40 ⟨⟨_, _, _, _, rfl, memT, rfl, .inr ⟨rfl, _, rfl, rfl, subT⟩⟩, trivial⟩ () SubL.rfl' (List.nil_sublist _)
end Go.Proofs.YtfglhiciagmicaaGreat

/- The contract of bodegahand.Pick: the remainder that is not negative. Own work. -/
namespace Go.Proofs.YtfglhiciagmicaaGreat
open Go.RowKit
set_option linter.unusedVariables false
set_option linter.unusedSimpArgs false
theorem pick_emod (n k : Int) (h : 1 ≤ k) : (n.tmod k + k) % k = n % k := by
  rw [Int.add_emod_right, Int.tmod_eq_emod]
  split
  · show (n % k - 0) % k = _; rw [Int.sub_zero, Int.emod_emod_of_dvd _ (Int.dvd_refl k)]
  · rw [Int.natAbs_of_nonneg (by omega), Int.sub_emod, Int.emod_self]; simp
end Go.Proofs.YtfglhiciagmicaaGreat

/- Contract: a number in range. Own work. -/
namespace Go.Proofs.YtfglhiciagmicaaGreat
open Go.RowKit
set_option linter.unusedVariables false
set_option linter.unusedSimpArgs false
set_option maxRecDepth 100000
theorem pick_tmod (n k : Int) (h : 1 ≤ k) : (n.tmod k + k).tmod k = n % k := by
  have h2 := Int.lt_tmod_of_pos n (show 0 < k by omega)
  rw [Int.tmod_eq_emod_of_nonneg (by omega), pick_emod n k h]
-- bodegahand.Pick: function 7
theorem PickH_ok (n k : Int) (hb : 1 ≤ k) (hb2 : k ≤ 4611686018427387903) : FnP Tryz.prog 7 [Is (.int .i64 n), Is (.int .i64 k)] (Is (.int .i64 (n % k))) := by
  have h1 := Int.tmod_lt_of_pos n (show 0 < k by omega)
  have h2 := Int.lt_tmod_of_pos n (show 0 < k by omega)
  refine FnP.enter Tryz.func7 Tryz.ntmps7 rfl rfl ?_
  intro c hX
  (refine JC_seq ?_)
  refine JC_region ?_
  refine JL_1 rfl (op_assign rfl) ?_
  refine JL_nil ?_
  (repeat with_reducible first | refine JC_seq ?_ | refine JQ_then ?_)
  (skip)
  refine JC_region ?_
  refine JL_1 rfl (op_move rfl) ?_
  refine JL_1 rfl (op_lss (Ev.rfl' rfl) (Ev.rfl' rfl)) ?_
  refine JL_nil ?_
  (refine JQ_then ?_)
  refine JC_cond (Ev.rfl' rfl) (fun h => absurd (of_decide_eq_true h) (by omega)) (fun h => ?_)
  (repeat with_reducible first | refine JC_seq ?_ | refine JQ_then ?_ | refine JC_skip ?_)
  refine JC_region ?_
  refine JL_1 rfl (op_move rfl) ?_
  refine JL_1 rfl (op_move rfl) ?_
  refine JL_1 rfl (op_rem (Ev.rfl' rfl) (Ev.rfl' rfl) (by omega) rfl) ?_
  refine JL_1 rfl (op_move rfl) ?_
  refine JL_1 rfl (op_add (Ev.rfl' rfl) (Ev.rfl' rfl) wrapT) ?_
  refine JL_1 rfl (op_move rfl) ?_
  refine JL_1 rfl (op_rem (Ev.rfl' rfl) (Ev.rfl' rfl) (by omega) rfl) ?_
  refine JL_1 rfl (op_assign rfl) ?_
  refine JL_nil ?_
  (repeat with_reducible first | refine JQ_then ?_ | refine JC_ret ?_)
  exact JQ_ret1 Tryz.results7 rfl () (SubL.eq (by rw [pick_tmod n k hb])) (List.nil_sublist _)
end Go.Proofs.YtfglhiciagmicaaGreat

/- Contracts: Pick; some view. Own work. -/
namespace Go.Proofs.YtfglhiciagmicaaGreat
open Go.RowKit
set_option linter.unusedVariables false
set_option linter.unusedSimpArgs false
set_option maxRecDepth 100000
/-! ### The view that the hand makes -/
def bitI (m : Int) (k : Nat) : Int := IntKind.i64.wrap ((BitVec.ofInt 64 (m.fdiv (2 ^ min ((k : Int)).toNat 64)) &&& BitVec.ofInt 64 1).toNat : Int)
def handB (boots : List Int) (k : Nat) : Int := if k < boots.length then boots.getD k 0 % 31 + 1 else 1
def hand1 (mask full : Int) (boots : List Int) (k : Nat) : List Mb := if bitI (mask % 32) k == 0 then [] else [⟨k, handB boots k, bitI (full % 32) k == 1⟩]
def handL (mask full : Int) (boots : List Int) (k : Nat) : List Mb := (List.range k).flatMap (hand1 mask full boots)
theorem handL_succ (mask full : Int) (boots : List Int) (k : Nat) : handL mask full boots (k + 1) = handL mask full boots k ++ hand1 mask full boots k := by
  unfold handL; rw [List.range_succ, List.flatMap_append]; simp
theorem hand1_len (mask full : Int) (boots : List Int) (k : Nat) : (hand1 mask full boots k).length ≤ 1 := by unfold hand1; split <;> simp
theorem handL_len (mask full : Int) (boots : List Int) (k : Nat) : (handL mask full boots k).length ≤ k := by
  induction k with
  | zero => simp [handL]
  | succ k ih => rw [handL_succ, List.length_append]; have := hand1_len mask full boots k; omega
def nonEmpty (l : List Mb) : List Mb := if l.length = 0 then [⟨0, 1, false⟩] else l
def fullFirst (l : List Mb) : List Mb := l.set 0 ⟨(Mb.at l 0).n, (Mb.at l 0).b, true⟩
def handM (n : Nat) (mask full : Int) (boots : List Int) : List Mb := if (handL mask full boots n).any Mb.f then nonEmpty (handL mask full boots n) else fullFirst (nonEmpty (handL mask full boots n))
theorem nonEmpty_len (l : List Mb) (h : l.length ≤ 5) : 1 ≤ (nonEmpty l).length ∧ (nonEmpty l).length ≤ 5 := by
  unfold nonEmpty
  split
  · simp
  · omega
theorem handM_len (n : Nat) (hn : n ≤ 5) (mask full : Int) (boots : List Int) : 1 ≤ (handM n mask full boots).length ∧ (handM n mask full boots).length ≤ 5 := by
  have h := nonEmpty_len _ (Nat.le_trans (handL_len mask full boots n) hn)
  unfold handM
  split
  · exact h
  · unfold fullFirst; rw [List.length_set]; exact h
set_option maxHeartbeats 4000000 in
-- bodegahand.View: function 44
theorem HandView_ok (n : Nat) (hn : n ≤ 5) (number mask full : Int) (boots : List Int) : Fn Tryz.prog 44 [Is (.int .i64 number), Is (.int .i64 mask), Is (.int .i64 full), IsSl tI64 boots, Is (.int .i64 (n : Nat))] []
    (fun s : Option Addr × Nat => IsAgg [Is (.int .i64 (number % 16)), Is (slV (handM n mask full boots).length s)]) (fun s => [buf (slV (handM n mask full boots).length s) 88 tMb (handM n mask full boots)]) := by
  refine Fn.enterN Tryz.func44 Tryz.ntmps44 rfl rfl ?_
  intro c hX
  refine JC_len (t := 3) rfl (fun hlen => ?_)
  refine JC_buf0 88 tMb ?_
  (refine JC_seq ?_)
  refine JC_region ?_
  (refine JL_n rfl (op_allocN rfl nrmT rfl) ?_; intro i10)
  refine JL_nil ?_
  (repeat with_reducible first | refine JC_seq ?_ | refine JQ_then ?_)
  (skip)
  refine JC_region ?_
  refine JL_1 rfl (op_move rfl) ?_
  refine JL_1 rfl (by ((refine op_call Tryz.call7 (PickH_ok _ _ ?_ ?_) ⟨evS, ⟨evS, trivial⟩⟩); all_goals (omega))) ?_
  refine JL_1 rfl (op_buildN (qs := [(0, _)]) rfl rfl rfl rfl ⟨⟨rfl, _, (Ev.rfl' rfl), cellsT⟩, trivial⟩ (by rfl) nrmT) ?_
  (refine JL_n rfl (op_allocN rfl nrmT rfl) ?_; intro i11)
  refine JL_s0 (op_storeN (Ev.rfl' rfl) (Ev.rfl' rfl) cellsT replT nrmT (by rfl) (by rfl) (by rfl)) ?_
  refine JL_nil ?_
  (repeat with_reducible first | refine JC_seq ?_ | refine JQ_then ?_)
  (skip)
  refine JC_region ?_
  refine JL_1 rfl (op_assign rfl) ?_
  refine JL_nil ?_
  (repeat with_reducible first | refine JC_seq ?_ | refine JQ_then ?_)
  (skip)
  refine JC_region ?_
  refine JL_1 rfl (op_assign rfl) ?_
  refine JL_nil ?_
  (repeat with_reducible first | refine JQ_then ?_ | refine JC_block ?_)
  generalize number % 16 = num
  refine JC_loop (fun i : Nat × (Option Addr × Nat) => i.1 ≤ n) (fun i => [(1, Is (.int .i64 mask)), (2, Is (.int .i64 full)), (3, IsSl tI64 boots), (4, Is (.int .i64 (n : Nat))), (10, Is (.pointer (some ⟨i10, 0, none⟩))), (11, Is (.pointer (some ⟨i11, 0, none⟩))), (12, Is (.bool ((handL mask full boots i.1).any Mb.f))), (13, Is (.int .i64 (i.1 : Nat)))])
    (fun i => [blk i11 29 [Is (.int .i64 num), Is (slV (handL mask full boots i.1).length i.2)], blk i10 29 [Is (.int .i64 0), Is (.slice none 0 0)], buf (slV (handL mask full boots i.1).length i.2) 88 tMb (handL mask full boots i.1)]) (fun i => n - i.1) (0, (none, 0)) (Nat.zero_le _) esubT (List.Sublist.refl _) ?_
  rintro ⟨k, s⟩ hk
  dsimp only at hk ⊢
  have hms := handL_len mask full boots k
  have hsu := handL_succ mask full boots k
  (refine JC_seq ?_; refine JC_seq ?_)
  refine JC_region ?_
  refine JL_1 rfl (op_move rfl) ?_
  refine JL_1 rfl (op_move rfl) ?_
  refine JL_1 rfl (op_lss (Ev.rfl' rfl) (Ev.rfl' rfl)) ?_
  refine JL_nil ?_
  (refine JQ_then ?_)
  refine JC_cond (Ev.rfl' rfl) (fun h => ?_) (fun h => ?_)
  · have h' : (k : Int) < n := of_decide_eq_true h
    clear h
    (repeat with_reducible first | refine JC_seq ?_ | refine JQ_then ?_ | refine JC_block ?_ | refine JC_skip ?_)
    refine JC_region ?_
    refine JL_1 rfl (op_move rfl) ?_
    refine JL_1 rfl (by ((refine op_call Tryz.call7 (PickH_ok _ _ ?_ ?_) ⟨evS, ⟨evS, trivial⟩⟩); all_goals (omega))) ?_
    refine JL_1 rfl (op_move rfl) ?_
    refine JL_1 rfl (op_conv (Ev.rfl' rfl) rfl rfl convT) ?_
    refine JL_1 rfl (op_shr (Ev.rfl' rfl) (Ev.rfl' rfl) (by omega) rfl) ?_
    refine JL_1 rfl (op_bits (Ev.rfl' rfl) (Ev.rfl' rfl) (by simp) rfl) ?_
    refine JL_1 rfl (op_eql (Ev.rfl' rfl) (Ev.rfl' rfl)) ?_
    refine JL_nil ?_
    (refine JQ_then ?_)
    refine JC_cond (Ev.rfl' rfl) (fun h => ?_) (fun h => ?_)
    · have e1 : hand1 mask full boots k = [] := by unfold hand1; exact if_pos h
      rw [e1, List.append_nil] at hsu
      rw [← hsu]
      (repeat with_reducible first | refine JQ_then ?_ | refine JC_exit ?_ | refine JQ_then_exit ?_ | refine JQ_hit ?_)
      (skip)
      refine JC_region ?_
      refine JL_1 rfl (op_move rfl) ?_
      refine JL_1 rfl (op_add (Ev.rfl' rfl) (Ev.rfl' rfl) wrapT) ?_
      refine JL_1 rfl (op_assign rfl) ?_
      refine JL_nil ?_
      (skip)
      exact JQ_round (k + 1, s) (by dsimp only; omega) (by dsimp only; omega) esubT (List.Sublist.refl _)
    have e1 : hand1 mask full boots k = [⟨k, handB boots k, bitI (full % 32) k == 1⟩] := by unfold hand1; exact if_neg (by rw [show (bitI (mask % 32) k == 0) = false from h]; simp)
    rw [e1] at hsu
    clear h
    (repeat with_reducible first | refine JC_seq ?_ | refine JQ_then ?_ | refine JC_skip ?_)
    (skip)
    refine JC_region ?_
    refine JL_1 rfl (op_move rfl) ?_
    refine JL_1 rfl (op_move rfl) ?_
    refine JL_1 rfl (by ((refine op_call Tryz.call7 (PickH_ok _ _ ?_ ?_) ⟨evS, ⟨evS, trivial⟩⟩); all_goals (omega))) ?_
    refine JL_1 rfl (op_move rfl) ?_
    refine JL_1 rfl (op_conv (Ev.rfl' rfl) rfl rfl convT) ?_
    refine JL_1 rfl (op_shr (Ev.rfl' rfl) (Ev.rfl' rfl) (by omega) rfl) ?_
    refine JL_1 rfl (op_bits (Ev.rfl' rfl) (Ev.rfl' rfl) (by simp) rfl) ?_
    refine JL_1 rfl (op_eql (Ev.rfl' rfl) (Ev.rfl' rfl)) ?_
    refine JL_1 rfl (op_buildN (qs := [(0, _), (1, _), (2, _)]) rfl rfl rfl rfl ⟨⟨rfl, _, (Ev.rfl' rfl), cellsT⟩, ⟨⟨rfl, _, (Ev.rfl' rfl), cellsT⟩, ⟨⟨rfl, _, (Ev.rfl' rfl), cellsT⟩, trivial⟩⟩⟩ (by rfl) nrmT) ?_
    (refine JL_n rfl (op_allocN rfl nrmT rfl) ?_; intro i14)
    refine JL_s0 (op_storeN (Ev.rfl' rfl) (Ev.rfl' rfl) cellsT replT nrmT (by rfl) (by rfl) (by rfl)) ?_
    refine JL_nil ?_
    (repeat with_reducible first | refine JC_seq ?_ | refine JQ_then ?_)
    (skip)
    refine JC_region ?_
    refine JL_1 rfl (op_move rfl) ?_
    refine JL_1 rfl (op_move rfl) ?_
    refine JL_1 rfl (by exact op_len (Ev.rfl' rfl) rfl) ?_
    refine JL_1 rfl (op_lss (Ev.rfl' rfl) (Ev.rfl' rfl)) ?_
    refine JL_nil ?_
    (refine JQ_then ?_)
    refine JC_cutT (fun _ : Unit => True) (fun z => [(1, Is (.int .i64 mask)), (2, Is (.int .i64 full)), (3, IsSl tI64 boots), (4, Is (.int .i64 (n : Nat))), (10, Is (.pointer (some ⟨i10, 0, none⟩))), (11, Is (.pointer (some ⟨i11, 0, none⟩))), (12, Is (.bool ((handL mask full boots k).any Mb.f))), (13, Is (.int .i64 (k : Nat))), (14, Is (.pointer (some ⟨i14, 0, none⟩)))])
      (fun z => [blk i14 88 [Is (.int .i64 (k : Nat)), Is (.int .i64 (handB boots k)), Is (.bool (bitI (full % 32) k == 1))], blk i11 29 [Is (.int .i64 num), Is (slV (handL mask full boots k).length s)], blk i10 29 [Is (.int .i64 0), Is (.slice none 0 0)], buf (slV (handL mask full boots k).length s) 88 tMb (handL mask full boots k)]) ?_ ?_
    · rintro _ _
      generalize (bitI (full % 32) k == 1) = f at *
      generalize handB boots k = b at *
      (refine JC_seq ?_)
      refine JC_region ?_
      refine JL_1 rfl (op_move rfl) ?_
      refine JL_1 rfl (op_move rfl) ?_
      (refine JL_i0 rfl rfl rfl (fun hg => (by have hg0 := hg; (try simp at hg); exact op_fieldPtr (k := 2) evG rfl rfl rfl rfl)) ?_)
      (refine JL_i0 rfl rfl rfl (fun hg => (by have hg0 := hg; (try simp at hg); exact op_loadPtr evG memT (by rfl) (by rfl) (by rfl))) ?_)
      refine JL_1 rfl (op_or (Ev.rfl' rfl) rfl (fun h => by exact SubL.iteT (by (rw [h]; rfl)) SubL.rfl')) ?_
      refine JL_1 rfl (op_assign rfl) ?_
      refine JL_nil ?_
      (refine JQ_then ?_)
      (skip)
      refine JC_region ?_
      refine JL_1 rfl (by exact op_fieldPtr (k := 1) (Ev.rfl' rfl) rfl rfl rfl rfl) ?_
      refine JL_1 rfl (by exact op_loadPtr (Ev.rfl' rfl) memT (by rfl) (by rfl) (by rfl)) ?_
      refine JL_1 rfl (by exact op_loadPtrsN (n := 3) (Ev.rfl' rfl) memT (by rfl) (by rfl) (by rfl) (by rfl) nrmT) ?_
      refine JL_1 rfl (op_buildSlice (size := 3) (qs := [(0, _)]) rfl rfl rfl ⟨⟨rfl, _, (Ev.rfl' rfl), cellsT⟩, trivial⟩ (by rfl) (by rfl)) ?_
      (refine JL_s rfl (op_app (Ev.rfl' rfl) (fun _ => replT) (by exact Ev.sub rfl (by exact SubL.row (xs := [(⟨(k : Nat), b, f⟩ : Mb)]) (by rfl) (by rfl) subsT)) (by exact appT rfl rfl rfl) lenT) ?_; intro i59)
      refine JL_1 rfl (by exact op_fieldPtr (k := 1) (Ev.rfl' rfl) rfl rfl rfl rfl) ?_
      refine JL_s0 (op_storeN (Ev.rfl' rfl) (Ev.rfl' rfl) cellsT replT nrmT (by rfl) (by rfl) (by rfl)) ?_
      refine JL_nil ?_
      (repeat with_reducible first | refine JQ_then ?_ | refine JQ_block ?_)
      rw [← hsu]
      refine JC_set 12 (Is (.bool ((handL mask full boots (k + 1)).any Mb.f))) rfl (SubL.eq (by rw [hsu]; simp)) ?_
      (skip)
      refine JC_region ?_
      refine JL_1 rfl (op_move rfl) ?_
      refine JL_1 rfl (op_add (Ev.rfl' rfl) (Ev.rfl' rfl) wrapT) ?_
      refine JL_1 rfl (op_assign rfl) ?_
      refine JL_nil ?_
      (skip)
      exact JQ_roundP (k + 1, i59) (by dsimp only; omega) (by dsimp only; omega) esubT lessT
    refine JC_cond (Ev.rfl' rfl) (fun h => ?_) (fun h => ?_)
    · have h' : (k : Int) < boots.length := of_decide_eq_true h
      clear h
      obtain ⟨z, hz⟩ : ∃ z, boots[k]? = some z := ⟨boots[k], List.getElem?_eq_getElem (by omega)⟩
      have hb : handB boots k = z % 31 + 1 := by unfold handB; rw [if_pos (by omega), List.getD_eq_getElem?_getD, hz]; rfl
      rw [hb]
      (skip)
      refine JC_region ?_
      refine JL_1 rfl (op_move rfl) ?_
      refine JL_1 rfl (op_move rfl) ?_
      refine JL_1 rfl (by exact op_index (j := _) (Ev.rfl' rfl) (Ev.rfl' rfl) rfl rfl (by rfl) hz) ?_
      refine JL_1 rfl (by exact op_loadRef (Ev.rfl' rfl) rfl rfl rfl) ?_
      refine JL_1 rfl (by ((refine op_call Tryz.call7 (PickH_ok _ _ ?_ ?_) ⟨evS, ⟨evS, trivial⟩⟩); all_goals (omega))) ?_
      refine JL_1 rfl (op_add (Ev.rfl' rfl) (Ev.rfl' rfl) wrapT) ?_
      refine JL_1 rfl (by exact op_fieldPtr (k := 1) (Ev.rfl' rfl) rfl rfl rfl rfl) ?_
      refine JL_s0 (op_storeN (Ev.rfl' rfl) (Ev.rfl' rfl) cellsT replT nrmT (by rfl) (by rfl) (by rfl)) ?_
      refine JL_nil ?_
      (skip)
      exact JQ_meet () trivial esubT (List.Sublist.refl _)
    · have hb : handB boots k = 1 := by unfold handB; rw [if_neg (by have := of_decide_eq_false h; omega)]
      rw [hb]
      (refine JC_skip ?_)
      exact JQ_meet () trivial esubT (List.Sublist.refl _)
  have hk5 : n = k := by have := of_decide_eq_false h; omega
  subst hk5
  clear h hsu
  have hM : handM n mask full boots = if (handL mask full boots n).any Mb.f then nonEmpty (handL mask full boots n) else fullFirst (nonEmpty (handL mask full boots n)) := rfl
  generalize handM n mask full boots = M at *
  generalize handL mask full boots n = ms at *
  (repeat with_reducible first | refine JC_seq ?_ | refine JQ_then ?_ | refine JC_exit ?_ | refine JQ_then_exit ?_ | refine JQ_hit ?_)
  refine JC_region ?_
  refine JL_1 rfl (by exact op_fieldPtr (k := 1) (Ev.rfl' rfl) rfl rfl rfl rfl) ?_
  refine JL_1 rfl (by exact op_loadPtr (Ev.rfl' rfl) memT (by rfl) (by rfl) (by rfl)) ?_
  refine JL_1 rfl (by exact op_lenLit (Ev.rfl' rfl) rfl) ?_
  refine JL_1 rfl (op_eql (Ev.rfl' rfl) (Ev.rfl' rfl)) ?_
  refine JL_nil ?_
  (refine JQ_then ?_)
  refine JC_cutT (fun z : Option Addr × Nat => True) (fun z => [(10, Is (.pointer (some ⟨i10, 0, none⟩))), (11, Is (.pointer (some ⟨i11, 0, none⟩))), (12, Is (.bool (ms.any Mb.f)))])
      (fun z => [blk i11 29 [Is (.int .i64 num), Is (slV (nonEmpty ms).length z)], blk i10 29 [Is (.int .i64 0), Is (.slice none 0 0)], buf (slV (nonEmpty ms).length z) 88 tMb (nonEmpty ms)]) ?_ ?_
  · rintro s _
    have h1 := nonEmpty_len ms (by omega)
    generalize nonEmpty ms = l at *
    (refine JC_seq ?_; refine JC_seq ?_)
    refine JC_region ?_
    refine JL_1 rfl (op_move rfl) ?_
    refine JL_1 rfl (op_not (Ev.rfl' rfl)) ?_
    refine JL_nil ?_
    (refine JQ_then ?_)
    refine JC_cutT (fun _ : Unit => True) (fun z => [(10, Is (.pointer (some ⟨i10, 0, none⟩))), (11, Is (.pointer (some ⟨i11, 0, none⟩)))])
      (fun z => [blk i11 29 [Is (.int .i64 num), Is (slV M.length s)], blk i10 29 [Is (.int .i64 0), Is (.slice none 0 0)], buf (slV M.length s) 88 tMb M]) ?_ ?_
    · rintro _ _
      (refine JC_seq ?_)
      refine JC_region ?_
      refine JL_1 rfl (by exact op_loadPtrsN (n := 2) (Ev.rfl' rfl) memT (by rfl) (by rfl) (by rfl) (by rfl) nrmT) ?_
      refine JL_s0 (op_storeN (Ev.rfl' rfl) (Ev.rfl' rfl) cellsT replT nrmT (by rfl) (by rfl) (by rfl)) ?_
      refine JL_nil ?_
      (repeat with_reducible first | refine JQ_then ?_ | refine JC_ret ?_)
      exact JQ_retP (Bs := [IsAgg [Is (.int .i64 num), Is (slV M.length s)]]) Tryz.results44 ⟨⟨_, _, _, _, rfl, memT, rfl, .inr ⟨rfl, _, rfl, rfl, subT⟩⟩, trivial⟩ s SubL.rfl' lessT
    refine JC_cond (Ev.rfl' rfl) (fun h => ?_) (fun h => ?_)
    · have ha : ms.any Mb.f = false := by simpa using h
      rw [ha] at hM
      have hM' : M = fullFirst l := hM
      have hMl : M.length = l.length := by rw [hM']; unfold fullFirst; rw [List.length_set]
      have hz := Mb.at_get l 0 (by omega)
      rw [hMl]
      (skip)
      refine JC_region ?_
      refine JL_1 rfl (by exact op_fieldPtr (k := 1) (Ev.rfl' rfl) rfl rfl rfl rfl) ?_
      refine JL_1 rfl (by exact op_loadPtr (Ev.rfl' rfl) memT (by rfl) (by rfl) (by rfl)) ?_
      refine JL_1 rfl (by exact op_indexBuf (k := 0) (Ev.rfl' rfl) memT (Ev.rfl' rfl) rfl rfl idxT lenT) ?_
      refine JL_1 rfl (by exact op_fieldBuf (k := 2) (Ev.rfl' rfl) memT lenT rfl rfl rfl rfl) ?_
      refine JL_s0 (by exact op_storeBuf (z' := ⟨(Mb.at l 0).n, (Mb.at l 0).b, true⟩) (Ev.rfl' rfl) (Ev.rfl' rfl) cellsT replT hz rfl (by rfl) (by rfl)) ?_
      refine JL_nil ?_
      (skip)
      subst hM'
      exact JQ_meet () trivial esubT (List.Sublist.refl _)
    · have ha : ms.any Mb.f = true := by simpa using h
      rw [ha] at hM
      have hM' : M = l := hM
      subst hM'
      (refine JC_skip ?_)
      exact JQ_meet () trivial esubT (List.Sublist.refl _)
  refine JC_cond (Ev.rfl' rfl) (fun h => ?_) (fun h => ?_)
  · have e1 : nonEmpty ms = [⟨0, 1, false⟩] := by unfold nonEmpty; exact if_pos (by simpa using h)
    rw [e1]
    (skip)
    refine JC_region ?_
    refine JL_1 rfl (op_buildN (qs := [(0, _), (1, _)]) rfl rfl rfl rfl ⟨⟨rfl, _, (Ev.rfl' rfl), cellsT⟩, ⟨⟨rfl, _, (Ev.rfl' rfl), cellsT⟩, trivial⟩⟩ (by rfl) nrmT) ?_
    (refine JL_n rfl (op_buildSliceO (T := tMb) ([(⟨0, 1, false⟩ : Mb)]) (size := 3) (qs := [(0, _)]) rfl rfl rfl ⟨⟨rfl, _, (Ev.rfl' rfl), cellsT⟩, trivial⟩ (by rfl) (by rfl) subzT) ?_; intro i66)
    refine JL_1 rfl (by exact op_fieldPtr (k := 1) (Ev.rfl' rfl) rfl rfl rfl rfl) ?_
    refine JL_s0 (op_storeN (Ev.rfl' rfl) (Ev.rfl' rfl) cellsT replT nrmT (by rfl) (by rfl) (by rfl)) ?_
    refine JL_nil ?_
    (skip)
    exact JQ_meetP (some ⟨i66, 0, none⟩, 1) trivial esubT lessT
  · have e1 : nonEmpty ms = ms := by unfold nonEmpty; exact if_neg (by simpa using h)
    rw [e1]
    (refine JC_skip ?_)
    exact JQ_meet s trivial esubT (List.Sublist.refl _)
end Go.Proofs.YtfglhiciagmicaaGreat

/- Readers of the structs of this seat: printed by wip/rd3.py. Own work. -/

namespace Go.Proofs.YtfglhiciagmicaaGreat
open Go.RowKit Go.ChangeShapes Go.WideShapes Go.ChangeAt
set_option linter.unusedVariables false
set_option linter.unusedSimpArgs false
set_option maxRecDepth 100000
section
variable {H : Type} {enc : TypeId × Value → H} {w : World} {base : Nat} {sp : Nat → Bool} {held : Bool}
structure GRaw where
  client : Int
  inc : Int
  until_ : Int
  seq : Int
  mask : Int
  spoil : Int
def tGRaw : Ty GRaw := ⟨6, fun a => [Is (.int .i64 a.client), Is (.int .i64 a.inc), Is (.int .i64 a.until_), Is (.int .i64 a.seq), Is (.int .i64 a.mask), Is (.int .i64 a.spoil)], fun _ => rfl⟩
@[reducible] def IsGRaw (a : GRaw) : VP := IsAgg (tGRaw.cells a)
def GRaw.wf (a : GRaw) : Prop := I64ok a.client ∧ I64ok a.inc ∧ I64ok a.until_ ∧ I64ok a.seq ∧ I64ok a.mask ∧ I64ok a.spoil
theorem cN_bodega_bodegalaw15_Raw : Tryz.prog.cellsOf 23 = 6 := by kernel_rfl
theorem cN_int : Tryz.prog.cellsOf 3 = 1 := by kernel_rfl
theorem rds_GRaw : Rds enc Tryz.prog w base sp held 23 tGRaw GRaw.wf := by
  intro fuel cs x h
  obtain ⟨xs, n, _, _, hlen, hxs, hf⟩ := DataW.trod_struct Tryz.underlying23 h
  rw [cN_bodega_bodegalaw15_Raw] at hlen
  match cs, hlen with
  | [c0, c1, c2, c3, c4, c5], _ =>
    match xs, hxs with
    | [x0, x1, x2, x3, x4, x5], _ =>
      have f0 : DataW.trod enc Tryz.prog w base sp held n 3 (([c0, c1, c2, c3, c4, c5].drop 0).take (Tryz.prog.cellsOf 3)) = some x0 := hf 0 _ rfl
      rw [cN_int] at f0
      obtain ⟨a0, g0, o0, w0⟩ := (rds_i64 Tryz.underlying3) _ _ _ f0
      have f1 : DataW.trod enc Tryz.prog w base sp held n 3 (([c0, c1, c2, c3, c4, c5].drop 1).take (Tryz.prog.cellsOf 3)) = some x1 := hf 1 _ rfl
      rw [cN_int] at f1
      obtain ⟨a1, g1, o1, w1⟩ := (rds_i64 Tryz.underlying3) _ _ _ f1
      have f2 : DataW.trod enc Tryz.prog w base sp held n 3 (([c0, c1, c2, c3, c4, c5].drop 2).take (Tryz.prog.cellsOf 3)) = some x2 := hf 2 _ rfl
      rw [cN_int] at f2
      obtain ⟨a2, g2, o2, w2⟩ := (rds_i64 Tryz.underlying3) _ _ _ f2
      have f3 : DataW.trod enc Tryz.prog w base sp held n 3 (([c0, c1, c2, c3, c4, c5].drop 3).take (Tryz.prog.cellsOf 3)) = some x3 := hf 3 _ rfl
      rw [cN_int] at f3
      obtain ⟨a3, g3, o3, w3⟩ := (rds_i64 Tryz.underlying3) _ _ _ f3
      have f4 : DataW.trod enc Tryz.prog w base sp held n 3 (([c0, c1, c2, c3, c4, c5].drop 4).take (Tryz.prog.cellsOf 3)) = some x4 := hf 4 _ rfl
      rw [cN_int] at f4
      obtain ⟨a4, g4, o4, w4⟩ := (rds_i64 Tryz.underlying3) _ _ _ f4
      have f5 : DataW.trod enc Tryz.prog w base sp held n 3 (([c0, c1, c2, c3, c4, c5].drop 5).take (Tryz.prog.cellsOf 3)) = some x5 := hf 5 _ rfl
      rw [cN_int] at f5
      obtain ⟨a5, g5, o5, w5⟩ := (rds_i64 Tryz.underlying3) _ _ _ f5
      exact ⟨⟨a0, a1, a2, a3, a4, a5⟩, (((((g0.append g1).append g2).append g3).append g4).append g5), (ones_app (ones_app (ones_app (ones_app (ones_app o0 o1) o2) o3) o4) o5), ⟨w0, w1, w2, w3, w4, w5⟩⟩
structure GPoke where
  kind : Int
  node : Int
  client : Int
  a : Int
  b : Int
  w : BitVec 64
def tGPoke : Ty GPoke := ⟨6, fun a => [Is (.int .i64 a.kind), Is (.int .i64 a.node), Is (.int .i64 a.client), Is (.int .i64 a.a), Is (.int .i64 a.b), Is (.int .u64 (UV a.w))], fun _ => rfl⟩
@[reducible] def IsGPoke (a : GPoke) : VP := IsAgg (tGPoke.cells a)
def GPoke.wf (a : GPoke) : Prop := I64ok a.kind ∧ I64ok a.node ∧ I64ok a.client ∧ I64ok a.a ∧ I64ok a.b ∧ (fun _ => True) a.w
theorem cN_bodega_bodegahand_Poke : Tryz.prog.cellsOf 149 = 6 := by kernel_rfl
theorem cN_uint64 : Tryz.prog.cellsOf 83 = 1 := by kernel_rfl
theorem rds_GPoke : Rds enc Tryz.prog w base sp held 149 tGPoke GPoke.wf := by
  intro fuel cs x h
  obtain ⟨xs, n, _, _, hlen, hxs, hf⟩ := DataW.trod_struct Tryz.underlying149 h
  rw [cN_bodega_bodegahand_Poke] at hlen
  match cs, hlen with
  | [c0, c1, c2, c3, c4, c5], _ =>
    match xs, hxs with
    | [x0, x1, x2, x3, x4, x5], _ =>
      have f0 : DataW.trod enc Tryz.prog w base sp held n 3 (([c0, c1, c2, c3, c4, c5].drop 0).take (Tryz.prog.cellsOf 3)) = some x0 := hf 0 _ rfl
      rw [cN_int] at f0
      obtain ⟨a0, g0, o0, w0⟩ := (rds_i64 Tryz.underlying3) _ _ _ f0
      have f1 : DataW.trod enc Tryz.prog w base sp held n 3 (([c0, c1, c2, c3, c4, c5].drop 1).take (Tryz.prog.cellsOf 3)) = some x1 := hf 1 _ rfl
      rw [cN_int] at f1
      obtain ⟨a1, g1, o1, w1⟩ := (rds_i64 Tryz.underlying3) _ _ _ f1
      have f2 : DataW.trod enc Tryz.prog w base sp held n 3 (([c0, c1, c2, c3, c4, c5].drop 2).take (Tryz.prog.cellsOf 3)) = some x2 := hf 2 _ rfl
      rw [cN_int] at f2
      obtain ⟨a2, g2, o2, w2⟩ := (rds_i64 Tryz.underlying3) _ _ _ f2
      have f3 : DataW.trod enc Tryz.prog w base sp held n 3 (([c0, c1, c2, c3, c4, c5].drop 3).take (Tryz.prog.cellsOf 3)) = some x3 := hf 3 _ rfl
      rw [cN_int] at f3
      obtain ⟨a3, g3, o3, w3⟩ := (rds_i64 Tryz.underlying3) _ _ _ f3
      have f4 : DataW.trod enc Tryz.prog w base sp held n 3 (([c0, c1, c2, c3, c4, c5].drop 4).take (Tryz.prog.cellsOf 3)) = some x4 := hf 4 _ rfl
      rw [cN_int] at f4
      obtain ⟨a4, g4, o4, w4⟩ := (rds_i64 Tryz.underlying3) _ _ _ f4
      have f5 : DataW.trod enc Tryz.prog w base sp held n 83 (([c0, c1, c2, c3, c4, c5].drop 5).take (Tryz.prog.cellsOf 83)) = some x5 := hf 5 _ rfl
      rw [cN_uint64] at f5
      obtain ⟨a5, g5, o5, w5⟩ := (rds_u64 Tryz.underlying83) _ _ _ f5
      exact ⟨⟨a0, a1, a2, a3, a4, a5⟩, (((((g0.append g1).append g2).append g3).append g4).append g5), (ones_app (ones_app (ones_app (ones_app (ones_app o0 o1) o2) o3) o4) o5), ⟨w0, w1, w2, w3, w4, w5⟩⟩
structure GAlter where
  batch : Int
  verb : Int
  kind : Int
  w : BitVec 64
def tGAlter : Ty GAlter := ⟨4, fun a => [Is (.int .i64 a.batch), Is (.int .i64 a.verb), Is (.int .i64 a.kind), Is (.int .u64 (UV a.w))], fun _ => rfl⟩
def GAlter.wf (a : GAlter) : Prop := I64ok a.batch ∧ I64ok a.verb ∧ I64ok a.kind ∧ (fun _ => True) a.w
theorem cN_bodega_bodegahand_Alter : Tryz.prog.cellsOf 138 = 4 := by kernel_rfl
theorem rds_GAlter : Rds enc Tryz.prog w base sp held 138 tGAlter GAlter.wf := by
  intro fuel cs x h
  obtain ⟨xs, n, _, _, hlen, hxs, hf⟩ := DataW.trod_struct Tryz.underlying138 h
  rw [cN_bodega_bodegahand_Alter] at hlen
  match cs, hlen with
  | [c0, c1, c2, c3], _ =>
    match xs, hxs with
    | [x0, x1, x2, x3], _ =>
      have f0 : DataW.trod enc Tryz.prog w base sp held n 3 (([c0, c1, c2, c3].drop 0).take (Tryz.prog.cellsOf 3)) = some x0 := hf 0 _ rfl
      rw [cN_int] at f0
      obtain ⟨a0, g0, o0, w0⟩ := (rds_i64 Tryz.underlying3) _ _ _ f0
      have f1 : DataW.trod enc Tryz.prog w base sp held n 3 (([c0, c1, c2, c3].drop 1).take (Tryz.prog.cellsOf 3)) = some x1 := hf 1 _ rfl
      rw [cN_int] at f1
      obtain ⟨a1, g1, o1, w1⟩ := (rds_i64 Tryz.underlying3) _ _ _ f1
      have f2 : DataW.trod enc Tryz.prog w base sp held n 3 (([c0, c1, c2, c3].drop 2).take (Tryz.prog.cellsOf 3)) = some x2 := hf 2 _ rfl
      rw [cN_int] at f2
      obtain ⟨a2, g2, o2, w2⟩ := (rds_i64 Tryz.underlying3) _ _ _ f2
      have f3 : DataW.trod enc Tryz.prog w base sp held n 83 (([c0, c1, c2, c3].drop 3).take (Tryz.prog.cellsOf 83)) = some x3 := hf 3 _ rfl
      rw [cN_uint64] at f3
      obtain ⟨a3, g3, o3, w3⟩ := (rds_u64 Tryz.underlying83) _ _ _ f3
      exact ⟨⟨a0, a1, a2, a3⟩, (((g0.append g1).append g2).append g3), (ones_app (ones_app (ones_app o0 o1) o2) o3), ⟨w0, w1, w2, w3⟩⟩
end
end Go.Proofs.YtfglhiciagmicaaGreat

/- Contracts: the views and jobs of the statements. Own work. -/
namespace Go.Proofs.YtfglhiciagmicaaGreat
open Go.RowKit
set_option linter.unusedVariables false
set_option linter.unusedSimpArgs false
set_option maxRecDepth 100000
def vwN (r : GRaw) : Int := if r.spoil % 12 = 0 then r.spoil % 40 - 4 else 0
def vwM (r : GRaw) (n : Nat) : List Mb := if r.mask % 3 > 0 then handM n r.mask 31 [] else initMs (n : Nat)
theorem vwM_len (r : GRaw) (n : Nat) (hn : n ≤ 5) : (vwM r n).length ≤ 5 := by
  unfold vwM
  split
  · exact (handM_len n hn _ _ _).2
  · exact initMs_len _
-- (bodegalaw15.Raw).view: function 14
set_option maxHeartbeats 1000000 in
theorem view_ok (r : GRaw) (n : Nat) (hn : n ≤ 5) : FnP Tryz.prog 14 [IsGRaw r, Is (.int .i64 (n : Nat))] (IsView (vwN r) (vwM r n)) := by
  refine FnP.enter Tryz.func14 Tryz.ntmps14 rfl rfl ?_
  intro c hX
  refine JC_seq ?_
  refine JC_region ?_
  (refine JL_n rfl (op_box (Ev.rfl' rfl) cellsT) ?_; intro i2)
  (refine JL_n rfl (op_allocN rfl nrmT rfl) ?_; intro i4)
  refine JL_nil ?_
  refine JQ_then (JC_seq ?_)
  refine JC_freezeB hX (b := i2) replT ?_
  refine JC_set 2 (IsRef (tGRaw.cells r)) rfl (SubL.fact memT) ?_
  refine JC_region ?_
  refine JL_1 rfl (op_move rfl) ?_
  refine JL_1 rfl (op_call Tryz.call40 (Start_ok _) ⟨evS, trivial⟩) ?_
  (refine JL_n rfl (op_allocN rfl nrmT rfl) ?_; intro i5)
  refine JL_s0 (op_storeN (Ev.rfl' rfl) (Ev.rfl' rfl) cellsT replT nrmT (by rfl) (by rfl) (by rfl)) ?_
  refine JL_nil ?_
  refine JQ_then (JC_seq (JC_seq ?_))
  refine JC_region ?_
  refine JL_1 rfl (by exact op_fieldRefN (k := 4) (Ev.rfl' rfl) rfl rfl rfl rfl nrmT) ?_
  refine JL_1 rfl (by exact op_loadRef (Ev.rfl' rfl) rfl rfl rfl) ?_
  refine JL_1 rfl (by ((refine op_call Tryz.call7 (PickH_ok _ _ ?_ ?_) ⟨evS, ⟨evS, trivial⟩⟩); all_goals (omega))) ?_
  refine JL_1 rfl (op_gtr (Ev.rfl' rfl) (Ev.rfl' rfl)) ?_
  refine JL_nil ?_
  refine JQ_then ?_
  refine JC_cutT (fun _ : Unit => True) (fun _ => [(2, IsRef (tGRaw.cells r)), (4, Is (.pointer (some ⟨i4, 0, none⟩))), (5, Is (.pointer (some ⟨i5, 0, none⟩)))]) (fun _ => [blk i4 29 [Is (.int .i64 0), Is (.slice none 0 0)], blk i5 29 [Is (.int .i64 0), IsSl tMb (vwM r n)]]) ?_ ?_
  rotate_left
  focus
    refine JC_cond (Ev.rfl' rfl) (fun h2 => ?_) (fun h2 => ?_)
    · have g : r.mask % 3 > 0 := of_decide_eq_true h2
      have e : vwM r n = handM n r.mask 31 [] := by unfold vwM; rw [if_pos g]
      rw [e]
      refine JC_region ?_
      refine JL_1 rfl (by exact op_fieldRefN (k := 4) (Ev.rfl' rfl) rfl rfl rfl rfl nrmT) ?_
      refine JL_1 rfl (by exact op_loadRef (Ev.rfl' rfl) rfl rfl rfl) ?_
      refine JL_1 rfl (op_move rfl) ?_
      (refine JL_s rfl (op_callN Tryz.call44 (HandView_ok n hn _ _ _ []) ⟨evS, ⟨evS, ⟨evS, ⟨evS, ⟨evS, trivial⟩⟩⟩⟩⟩) ?_; intro i15)
      refine JL_s0 (op_storeN (Ev.rfl' rfl) (Ev.rfl' rfl) cellsT replT nrmT (by rfl) (by rfl) (by rfl)) ?_
      refine JL_nil ?_
      refine JQ_freeze hX (v := slV (handM n r.mask 31 []).length i15) replT ?_
      refine JQ_blkSub (b := i5) (As' := [Is (.int .i64 (0 % 16)), IsSl tMb (handM n r.mask 31 [])]) replT subsT ?_
      exact JQ_meetP () trivial esubT lessT
    have g : ¬ r.mask % 3 > 0 := of_decide_eq_false h2
    have e : vwM r n = initMs (n : Nat) := by unfold vwM; rw [if_neg g]
    rw [e]
    refine JC_skip ?_
    exact JQ_meetP () trivial esubT lessT
  rintro _ _
  refine JC_seq (JC_seq ?_)
  refine JC_region ?_
  refine JL_1 rfl (by exact op_fieldRefN (k := 5) (Ev.rfl' rfl) rfl rfl rfl rfl nrmT) ?_
  refine JL_1 rfl (by exact op_loadRef (Ev.rfl' rfl) rfl rfl rfl) ?_
  refine JL_1 rfl (by ((refine op_call Tryz.call7 (PickH_ok _ _ ?_ ?_) ⟨evS, ⟨evS, trivial⟩⟩); all_goals (omega))) ?_
  refine JL_1 rfl (op_eql (Ev.rfl' rfl) (Ev.rfl' rfl)) ?_
  refine JL_nil ?_
  refine JQ_then ?_
  refine JC_cond (Ev.rfl' rfl) (fun h4 => ?_) (fun h4 => ?_)
  · have g : r.spoil % 12 = 0 := by simpa using h4
    have e : vwN r = r.spoil % 40 - 4 := by unfold vwN; rw [if_pos g]
    rw [e]
    have hsp : True := trivial
    refine JC_region ?_
    refine JL_1 rfl (by exact op_fieldRefN (k := 5) (Ev.rfl' rfl) rfl rfl rfl rfl nrmT) ?_
    refine JL_1 rfl (by exact op_loadRef (Ev.rfl' rfl) rfl rfl rfl) ?_
    refine JL_1 rfl (by ((refine op_call Tryz.call7 (PickH_ok _ _ ?_ ?_) ⟨evS, ⟨evS, trivial⟩⟩); all_goals (omega))) ?_
    refine JL_1 rfl (op_sub (Ev.rfl' rfl) (Ev.rfl' rfl) wrapT) ?_
    refine JL_1 rfl (by exact op_fieldPtr (k := 0) (Ev.rfl' rfl) rfl rfl rfl rfl) ?_
    refine JL_s0 (op_storeN (Ev.rfl' rfl) (Ev.rfl' rfl) cellsT replT nrmT (by rfl) (by rfl) (by rfl)) ?_
    refine JL_nil ?_
    refine JQ_then (JC_seq ?_)
    refine JC_region ?_
    refine JL_1 rfl (by exact op_loadPtrsN (n := 2) (Ev.rfl' rfl) memT (by rfl) (by rfl) (by rfl) (by rfl) nrmT) ?_
    refine JL_s0 (op_storeN (Ev.rfl' rfl) (Ev.rfl' rfl) cellsT replT nrmT (by rfl) (by rfl) (by rfl)) ?_
    refine JL_nil ?_
    refine JQ_then (JC_ret ?_)
    first
      | (have := hsp; exact JQ_retP (Bs := [IsView (r.spoil % 40 - 4) (vwM r n)]) Tryz.results14 ⟨⟨_, _, _, _, rfl, memT, rfl, .inr ⟨rfl, _, rfl, rfl, subT⟩⟩, trivial⟩ () SubL.rfl' lessT)
      | exact JQ_retP (Bs := [IsView 0 (vwM r n)]) Tryz.results14 ⟨⟨_, _, _, _, rfl, memT, rfl, .inr ⟨rfl, _, rfl, rfl, subT⟩⟩, trivial⟩ () SubL.rfl' lessT
  have g : ¬ r.spoil % 12 = 0 := by simpa using h4
  have e : vwN r = 0 := by unfold vwN; rw [if_neg g]
  rw [e]
  refine JC_skip (JQ_then (JC_seq ?_))
  refine JC_region ?_
  refine JL_1 rfl (by exact op_loadPtrsN (n := 2) (Ev.rfl' rfl) memT (by rfl) (by rfl) (by rfl) (by rfl) nrmT) ?_
  refine JL_s0 (op_storeN (Ev.rfl' rfl) (Ev.rfl' rfl) cellsT replT nrmT (by rfl) (by rfl) (by rfl)) ?_
  refine JL_nil ?_
  refine JQ_then (JC_ret ?_)
  first
    | (have := hsp; exact JQ_retP (Bs := [IsView (r.spoil % 40 - 4) (vwM r n)]) Tryz.results14 ⟨⟨_, _, _, _, rfl, memT, rfl, .inr ⟨rfl, _, rfl, rfl, subT⟩⟩, trivial⟩ () SubL.rfl' lessT)
    | exact JQ_retP (Bs := [IsView 0 (vwM r n)]) Tryz.results14 ⟨⟨_, _, _, _, rfl, memT, rfl, .inr ⟨rfl, _, rfl, rfl, subT⟩⟩, trivial⟩ () SubL.rfl' lessT
-- (bodegalaw15.Raw).renew: function 8
-- (bodegalaw15.Raw).resolve: function 18
end Go.Proofs.YtfglhiciagmicaaGreat

/- Rules: parts of a row of one's own; the nil slice cut and grown; clear. Own work. -/
namespace Go.Proofs.YtfglhiciagmicaaGreat
open Go.RowKit
set_option linter.unusedVariables false
set_option linter.unusedSimpArgs false
section
variable {P : Program} {c : Ctx} {A : Nat → Option VP} {L : List Item} {d : Option Tmp} {ty : TypeId} {pos : String} {af : Array Edge} {g : Option (Nat × Bool)}
variable {α : Type} {T : Ty α} {xs ys : List α} {x y : Operand} {t u e : TypeId} {i : Option Addr × Nat} {n : Nat}
/-- What is one's own, told otherwise, serves an operation. -/
theorem OpS.conv {o : Oper} {L1 : List Item} {ι : Type} {F : ι → VP} {L' : ι → List Item} (hc : ∀ φ w, HP c φ L w → HP c φ L1 w) (h : OpS P c o A L1 F L') : OpS P c o A L F L' := by
  intro φ a w K Q hm he hk
  refine h φ a w K Q (hc φ w hm) (fun x hx B hB => ?_) hk
  obtain ⟨D, h1, h2⟩ := hB
  exact h2 _ _ (hc φ w hm).mem.facts (he x hx D (.rfl' h1))
theorem OpP.conv {o : Oper} {L1 : List Item} {F : VP} (hc : ∀ φ w, HP c φ L w → HP c φ L1 w) (h : OpP P c o A L1 F) : OpP P c o A L F := by
  intro φ a w K Q hm he hk
  refine h φ a w K Q (hc φ w hm) (fun x hx B hB => ?_) hk
  obtain ⟨D, h1, h2⟩ := hB
  exact h2 _ _ (hc φ w hm).mem.facts (he x hx D (.rfl' h1))
theorem own_val {φ : Fz} {w : World} (hm : HP c φ L w) (hL : buf (slV n i) e T xs ∈ L) : n = xs.length ∧ n ≤ i.2 ∧ i.2 ≤ maxLen ∧ (i.1 = none → i.2 = 0 ∧ n = 0) := by
  obtain ⟨flat, f1, f2, f3⟩ := buf_owns (hm.mem.items _ hL)
  obtain ⟨a, cp⟩ := i
  rcases f3.2 with ⟨h1, h0⟩ | ⟨gg, cap, cur, e1, _, e2, e3, e4, e5, e6⟩
  · unfold slV at h1
    injection h1 with h1 h2 h3
    dsimp only at h1 h2 h3
    subst h1 h2 h3
    exact ⟨h0.symm, Nat.le_refl _, Nat.zero_le _, fun _ => ⟨rfl, rfl⟩⟩
  · unfold slV at e1
    injection e1 with e7 e8 e9
    dsimp only at e7 e8 e9
    subst e7 e8 e9
    exact ⟨rfl, e3, e4, fun h => by cases h⟩
/-! ### Parts -/
theorem run_sliceOf {φ : Fz} {a : Act} {w : World} {lo hi : Option Operand} {l h : Nat} {ad : Option Addr} {m cp sz : Nat} (he : ∀ v, v ∈ (Op.slice t x lo hi none).operands → ∀ B, Ev A L v B → B.ok φ (a.eval v)) (hx : a.eval x = .slice ad m cp) (hu : P.underlying t = some (.slice e)) (hs : (P.info? e).map (·.size) = some sz) (hl : opN A L 0 lo l) (hh : opN A L m hi h) (h1 : l ≤ h) (h2 : h ≤ m) (h3 : m ≤ cp) :
    (execOp a.eval ⟨d, .slice t x lo hi none, ty, pos, af, g⟩).run P w = .ok (.value (.slice (if cp = l then ad else ad.map (·.add (l * sz))) (h - l) (cp - l))) w := by
  have hlo : ∀ y, lo = some y → ∃ k, a.eval y = .int k (l : Int) := fun y hy => by
    subst hy
    obtain ⟨k, i, h3, h4⟩ := hl
    have h5 : a.eval y = .int k i := he y (by simp [Op.operands]) _ h3
    exact ⟨k, by rw [h5, h4]⟩
  have hhi : ∀ y, hi = some y → ∃ k, a.eval y = .int k (h : Int) := fun y hy => by
    subst hy
    obtain ⟨k, i, h3, h4⟩ := hh
    have h5 : a.eval y = .int k i := he y (by simp [Op.operands]) _ h3
    exact ⟨k, by rw [h5, h4]⟩
  have hb := run_bounds (P := P) (a := a) (lo := lo) (hi := hi) (l := l) (h := h) (n := m) (cp := cp) hlo (fun e => by subst e; exact hl) hhi (fun e => by subst e; exact hh) h1 h2 h3 w
  simp only [execOp, hx]
  refine run_val ?_
  simp only [Instr.sliceAt, Sem.run_bind, run_underlying hu, Result.andThen_ok, Instr.slice]
  simp only [Option.map_none] at hb ⊢
  simp only [hb, Result.andThen_ok, run_sizeOf hs, Sem.run_pure]
/-- The first h of a row of one's own. -/
theorem op_sliceLo {lo hi : Option Operand} {h sz : Nat} (hx : Ev A L x (Is (slV n i))) (hL : buf (slV n i) e T xs ∈ L) (hu : P.underlying t = some (.slice e)) (hs : (P.info? e).map (·.size) = some sz) (hl : opN A L 0 lo 0) (hh : opN A L n hi h) (h2 : h ≤ n) : OpP P c ⟨d, .slice t x lo hi none, ty, pos, af, g⟩ A L (Is (slV h i)) :=
  opp fun φ a w hm he => by
    obtain ⟨e1, e2, e3, e4⟩ := own_val hm hL
    have h1 : a.eval x = slV n i := he x (by simp [Op.operands]) _ hx
    refine ⟨_, run_sliceOf (A := A) (L := L) (φ := φ) he h1 hu hs hl hh (Nat.zero_le _) h2 e2, ?_⟩
    show _ = slV h i
    obtain ⟨ad, cp⟩ := i
    unfold slV
    dsimp only
    rw [Nat.sub_zero, Nat.sub_zero, Nat.zero_mul]
    cases ad with
    | none => simp
    | some ad => split <;> simp [Addr.add]
theorem slV_own (n h : Nat) (i : Option Addr × Nat) : (slV n i).ownBlock = (slV h i).ownBlock := by
  obtain ⟨a, cp⟩ := i
  cases a <;> rfl
/-- A row of one's own, cut. -/
theorem HP.cutBuf {φ : Fz} {w : World} {h : Nat} {L' : List Item} (hm : HP c φ L w) (hr : Repl L (buf (slV n i) e T xs) (buf (slV h i) e T (xs.take h)) L') (hh : h ≤ xs.length) : HP c φ L' w := by
  have hat : (buf (slV h i) e T (xs.take h)).at_ = (buf (slV n i) e T xs).at_ := slV_own h n i
  refine hm.upd hr (Kpt.refl _ _) ?_ fun b hb => .inr (hat ▸ hb)
  obtain ⟨⟨flat, f0, f1, f2, f3⟩, f4⟩ := hm.mem.items _ hr.mem
  have hl : (xs.take h).length = h := by rw [List.length_take]; omega
  have hle : h * T.size ≤ xs.length * T.size := Nat.mul_le_mul_right _ hh
  refine ⟨⟨flat.take (h * T.size), by rw [List.length_take, f0, hl]; omega, by rw [flat_take]; exact f1.take _, f2.sub fun u hu => List.mem_of_mem_take hu, ?_⟩, fun b hb => f4 b (hat ▸ hb)⟩
  rcases f3 with ⟨h1, h0⟩ | ⟨gg, cap, cur, e1, e2, e3, e4, e5, e6⟩
  · refine .inl ⟨?_, by rw [hl]; omega⟩
    unfold slV at h1 ⊢
    injection h1 with h1 h2 h3
    rw [h1, h3, show h = 0 by omega]
  · refine .inr ⟨gg, cap, cur, ?_, by rw [hat]; exact e2, by rw [hl]; omega, e4, e5, ?_⟩
    · unfold slV at e1 ⊢
      injection e1 with e7 e8 e9
      rw [e7, e9, hl]
    · rw [hl, ← e6, List.take_take, Nat.min_eq_left hle]
theorem JC_cutBuf {Q : Exit → Act → World → Prop} {N : Nat} {E : Env} {h : Nat} {L' : List Item} {z : Code} (hr : Repl L (buf (slV n i) e T xs) (buf (slV h i) e T (xs.take h)) L') (hh : h ≤ xs.length) (k : JC P c N z E L' Q) : JC P c N z E L Q := fun φ a w st => k φ a w ⟨st.defers, st.size, st.env, st.mem.cutBuf hr hh⟩
end
end Go.Proofs.YtfglhiciagmicaaGreat

/- Memory of one's own of which only the size is known; a row of such; what is one's own stays, in a call that got own memory; parts of own rows copied. Own work. -/
namespace Go.Proofs.YtfglhiciagmicaaGreat
open Go.RowKit
set_option linter.unusedVariables false
set_option linter.unusedSimpArgs false
/-! ### What is one's own stays, in a call that got own memory -/
section
variable {P : Program} {c : Ctx} {L : List Item} {α : Type} {T : Ty α} {xs : List α}
/-- The blocks that the call got are still named by the other things. -/
theorem HP.freezeX {φ : Fz} {w : World} {v : Value} {e : TypeId} {L' : List Item} (hX : ∀ b, b ∈ c.X → b ∈ names L') (hm : HP c φ L w) (hr : Repl L (buf v e T xs) (fact v (IsSl T xs)) L') : ∃ φ', Fle φ φ' ∧ HP c φ' L' w := by
  have hit := hm.mem.items _ hr.mem
  obtain ⟨flat, f1, f2, f3⟩ := buf_owns hit
  rcases f3.2 with ⟨rfl, h0⟩ | ⟨gg, cap, cur, rfl, _, e1, e2, e3, e4, e5⟩
  · have hxs : xs = [] := List.eq_nil_of_length_eq_zero h0
    subst hxs
    refine ⟨φ, Fle.rfl', hm.upd hr (Kpt.refl _ _) ⟨?_, fun b (hb : none = some b) => (nomatch hb)⟩ fun b (hb : none = some b) => (nomatch hb)⟩
    exact ⟨none, 0, 0, rfl, rfl, Nat.le_refl _, Nat.zero_le _, .inl rfl⟩
  · have hown : ∀ i, φ gg i = none := fun i => (hit.2 gg rfl).2 i
    let φ' : Fz := fun b i => if b = gg then flat[i]? else φ b i
    have hsame : ∀ i, φ' gg i = flat[i]? := fun i => if_pos rfl
    have hoth : ∀ b i, b ≠ gg → φ' b i = φ b i := fun b i h => if_neg h
    have hle : Fle φ φ' := fun b i u hu => by
      rw [hoth b i (fun e => by subst e; rw [hown i] at hu; cases hu)]; exact hu
    have hg0 : c.w.heap.size ≤ gg := (hm.mine gg (mem_names.2 ⟨_, hr.mem, rfl⟩)).resolve_right fun hx => by
      obtain ⟨x, hx1, hx2⟩ := mem_names.1 (hX gg hx)
      rcases hr.mem' hx1 with rfl | ⟨hx', hap⟩
      · cases hx2
      · exact (hap hm.mem.sep).1 gg hx2 rfl
    have hfl : flat.length = xs.length * T.size := f3.1
    refine ⟨φ', hle, ⟨⟨fun b i u hu => ?_, fun x hx => ?_, hr.sep hm.mem.sep fun x hx _ _ => ⟨fun b _ (hb : none = some b) => (nomatch hb), fun b (hb : none = some b) => (nomatch hb)⟩⟩, hm.kept, fun b hb => ?_, fun b i hb => ?_⟩⟩
    · by_cases hbg : b = gg
      · subst hbg
        rw [hsame] at hu
        rw [cell_of_row w b i cur e _ e1]
        rw [← e5] at hu
        have hi : i < xs.length * T.size := by
          have := (List.getElem?_eq_some_iff.1 hu).1
          rw [List.length_take] at this; omega
        rw [List.getElem?_take_of_lt hi, Array.getElem?_toList] at hu
        exact hu
      · rw [hoth b i hbg] at hu
        exact hm.mem.base b i u hu
    · rcases hr.mem' hx with rfl | ⟨hx', hap⟩
      · refine ⟨⟨_, _, _, rfl, rfl, e2, e3, .inr ⟨gg, 0, rfl, fun k x hk j B hB => ?_⟩⟩, fun b (hb : none = some b) => (nomatch hb)⟩
        obtain ⟨u, h1, h2⟩ := flat_at (flat := flat) f1 hk hB
        refine ⟨u, ?_, B.mono hle h2, f2 u (List.mem_of_getElem? h1)⟩
        rw [hsame, Nat.zero_add]; exact h1
      · obtain ⟨h1, h2⟩ := hm.mem.items x hx'
        refine ⟨x.mono hle h1, fun b hb => ⟨(h2 b hb).1, fun i => ?_⟩⟩
        rw [hoth b i (fun e => (hap hm.mem.sep).1 b hb (by rw [e]; rfl))]
        exact (h2 b hb).2 i
    · obtain ⟨x, hx, hxb⟩ := mem_names.1 hb
      rcases hr.mem' hx with rfl | ⟨hx', _⟩
      · cases hxb
      · exact hm.mine b (mem_names.2 ⟨x, hx', hxb⟩)
    · rw [hoth b i (by omega)]
      exact hm.old b i hb
variable {Q : Exit → Act → World → Prop} {N : Nat} {ops : Array Oper} {rest : List Oper} {E : Env}
theorem JL_freezeX {v : Value} {e : TypeId} {L' : List Item} (hr : Repl L (buf v e T xs) (fact v (IsSl T xs)) L') (hX : ∀ b, b ∈ c.X → b ∈ names L') (h : JL P ops Q c N rest E L') : JL P ops Q c N rest E L := fun φ a w st =>
  let ⟨φ', h1, h2⟩ := HP.freezeX hX st.mem hr
  h φ' a w ⟨st.defers, st.size, fun t B hB => B.mono h1 (st.env t B hB), h2⟩
theorem JC_freezeX {x : Code} {v : Value} {e : TypeId} {L' : List Item} (hr : Repl L (buf v e T xs) (fact v (IsSl T xs)) L') (hX : ∀ b, b ∈ c.X → b ∈ names L') (h : JC P c N x E L' Q) : JC P c N x E L Q := fun φ a w st =>
  let ⟨φ', h1, h2⟩ := HP.freezeX hX st.mem hr
  h φ' a w ⟨st.defers, st.size, fun t B hB => B.mono h1 (st.env t B hB), h2⟩
theorem JQ_freezeX {ex : Exit} {v : Value} {e : TypeId} {L' : List Item} (hr : Repl L (buf v e T xs) (fact v (IsSl T xs)) L') (hX : ∀ b, b ∈ c.X → b ∈ names L') (h : JQ c N E L' Q ex) : JQ c N E L Q ex := fun φ a w st =>
  let ⟨φ', h1, h2⟩ := HP.freezeX hX st.mem hr
  h φ' a w ⟨st.defers, st.size, fun t B hB => B.mono h1 (st.env t B hB), h2⟩
end
/-! ### Memory of which only the size is known -/
section
variable {c : Ctx} {L L' : List Item} {α : Type} {T : Ty α}
/-- A row of m elements. -/
def ub (e : TypeId) (T : Ty α) (m : Nat) (a : Option Addr × Nat) : Item := ⟨(slV m a).ownBlock, fun φ o => ∃ xs : List α, xs.length = m ∧ (buf (slV m a) e T xs).ok φ o, fun h ⟨xs, e1, k⟩ => ⟨xs, e1, (buf (slV m a) e T xs).mono h k⟩⟩
theorem HP.openU {φ : Fz} {w : World} {e : TypeId} {m : Nat} {a : Option Addr × Nat} (h : HP c φ (ub e T m a :: L) w) : ∃ xs : List α, xs.length = m ∧ HP c φ (buf (slV m a) e T xs :: L) w := by
  obtain ⟨⟨xs, e1, k⟩, h2⟩ := h.mem.items _ (List.mem_cons_self ..)
  exact ⟨xs, e1, h.upd (Repl.head _ _ _) (Kpt.refl _ _) ⟨k, h2⟩ fun b hb => .inr hb⟩
theorem HP.closeU {φ : Fz} {w : World} {e : TypeId} {m : Nat} {a : Option Addr × Nat} {xs : List α} (h : HP c φ L w) (hr : Repl L (buf (slV m a) e T xs) (ub e T m a) L') (hl : xs.length = m) : HP c φ L' w := by
  obtain ⟨k, h2⟩ := h.mem.items _ hr.mem
  exact h.upd hr (Kpt.refl _ _) ⟨⟨xs, hl, k⟩, h2⟩ fun b hb => .inr hb
variable {P : Program} {Q : Exit → Act → World → Prop} {N : Nat} {ops : Array Oper} {rest : List Oper} {E : Env}
theorem JC_openU {x : Code} {e : TypeId} {m : Nat} {a : Option Addr × Nat} (hd : Drop1 L (ub e T m a) L') (h : ∀ xs : List α, xs.length = m → JC P c N x E (buf (slV m a) e T xs :: L') Q) : JC P c N x E L Q := fun φ ac w st =>
  let ⟨xs, h1, h2⟩ := (st.mem.lessP (SubP.cons hd (SubP.refl' _))).openU
  h xs h1 φ ac w ⟨st.defers, st.size, st.env, h2⟩
theorem JC_closeU {x : Code} {e : TypeId} {m : Nat} {a : Option Addr × Nat} {xs : List α} (hr : Repl L (buf (slV m a) e T xs) (ub e T m a) L') (hl : xs.length = m) (h : JC P c N x E L' Q) : JC P c N x E L Q := fun φ ac w st =>
  h φ ac w ⟨st.defers, st.size, st.env, st.mem.closeU hr hl⟩
theorem JQ_closeU {ex : Exit} {e : TypeId} {m : Nat} {a : Option Addr × Nat} {xs : List α} (hr : Repl L (buf (slV m a) e T xs) (ub e T m a) L') (hl : xs.length = m) (h : JQ c N E L' Q ex) : JQ c N E L Q ex := fun φ ac w st =>
  h φ ac w ⟨st.defers, st.size, st.env, st.mem.closeU hr hl⟩
/-! ### A row of such things -/
variable {β : Type} {f : β → Item}
theorem drop_map : ∀ {l : List β} {k : Nat} {d : β}, l[k]? = some d → Drop1 (l.map f) (f d) ((l.eraseIdx k).map f)
  | [], k, d, h => by simp at h
  | x :: l, 0, d, h => by
    simp at h
    subst h
    exact Drop1.here _ _
  | x :: l, k + 1, d, h => by
    have h' : l[k]? = some d := by simpa using h
    exact Drop1.next _ (drop_map h')
theorem SubP.skip {M L : List Item} (x : Item) (h : SubP M L) : SubP M (x :: L) := by
  induction h with
  | nil L => exact SubP.nil _
  | cons hd _ ih => exact SubP.cons (Drop1.next _ hd) ih
theorem SubP.tr1 {M L L1 : List Item} {it : Item} (hd : Drop1 L it L1) (h : SubP M (it :: L1)) : SubP M L := by
  have key : ∀ {A B : List Item} {x : Item}, Drop1 A x B → ∀ {y : Item} {C : List Item}, Drop1 (x :: B) y C → ∃ D, Drop1 A y D ∧ (C = B ∧ D = B ∨ ∃ C', C = x :: C' ∧ Drop1 D x C') := by
    intro A B x hA y C hC
    cases hC with
    | here => exact ⟨B, hA, .inl ⟨rfl, rfl⟩⟩
    | next _ h2 =>
      rename_i C'
      suffices hs : ∀ {A B : List Item} {x : Item}, Drop1 A x B → ∀ {y : Item} {C' : List Item}, Drop1 B y C' → ∃ D, Drop1 A y D ∧ Drop1 D x C' by
        obtain ⟨D, d1, d2⟩ := hs hA h2
        exact ⟨D, d1, .inr ⟨C', rfl, d2⟩⟩
      intro A B x hA
      induction hA with
      | here x L => intro y C' h; exact ⟨_, Drop1.next _ h, Drop1.here _ _⟩
      | next z hA ih =>
        intro y C' h
        cases h with
        | here => exact ⟨_, Drop1.here _ _, hA⟩
        | next _ h =>
          obtain ⟨D, d1, d2⟩ := ih h
          exact ⟨_, Drop1.next _ d1, Drop1.next _ d2⟩
  generalize hG : it :: L1 = G at h
  induction h generalizing L L1 with
  | nil => exact SubP.nil _
  | cons h1 h2 ih =>
    subst hG
    obtain ⟨D, d1, d2⟩ := key hd h1
    rcases d2 with ⟨e1, e2⟩ | ⟨C', e1, d3⟩
    · subst e1 e2
      exact SubP.cons d1 h2
    · exact SubP.cons d1 (ih d3 e1.symm)
end
end Go.Proofs.YtfglhiciagmicaaGreat

/- Contracts: addresses of words; a formatted memory node. Own work. -/
namespace Go.Proofs.YtfglhiciagmicaaGreat
open Go.RowKit
set_option linter.unusedVariables false
set_option linter.unusedSimpArgs false
set_option maxRecDepth 100000
theorem gs {α : Type} {xs : List α} {k : Nat} (d : α) (h : k < xs.length) : xs[k]? = some (xs.getD k d) := by
  rw [List.getD_eq_getElem?_getD, List.getElem?_eq_getElem h]
  rfl
-- bodegaref1.ConsensusAt: function 113
theorem ConsensusAt_ok (n : Int) (h : 0 ≤ n ∧ n < 16) : FnP Tryz.prog 113 [Is (.int .i64 n)] (Is (.int .i64 (8 + n))) := by
  refine FnP.enter Tryz.func113 Tryz.ntmps113 rfl rfl ?_
  intro c hX
  refine JC_seq ?_
  refine JC_region ?_
  refine JL_1 rfl (op_assign rfl) ?_
  refine JL_nil ?_
  refine JQ_then (JC_seq (JC_seq ?_))
  refine JC_region ?_
  refine JL_1 rfl (op_move rfl) ?_
  refine JL_1 rfl (op_lss (Ev.rfl' rfl) (Ev.rfl' rfl)) ?_
  refine JL_1 rfl (op_move rfl) ?_
  (refine JL_i0 rfl rfl rfl (fun hg => (by have hg0 := hg; (try simp at hg); exact op_moveE (Ev.rfl' rfl))) ?_)
  (refine JL_i0 rfl rfl rfl (fun hg => (by have hg0 := hg; (try simp at hg); exact op_geq evG evG)) ?_)
  refine JL_1 rfl (op_or (Ev.rfl' rfl) rfl (fun h => by exact SubL.iteT (by (rw [h]; rfl)) SubL.rfl')) ?_
  refine JL_nil ?_
  refine JQ_then ?_
  refine JC_cond (Ev.rfl' rfl) (fun h1 => ?_) (fun h1 => ?_)
  · exact absurd h1 (by simp; omega)
  refine JC_skip (JQ_then (JC_seq ?_))
  refine JC_region ?_
  refine JL_1 rfl (op_move rfl) ?_
  refine JL_1 rfl (op_add (Ev.rfl' rfl) (Ev.rfl' rfl) wrapT) ?_
  refine JL_1 rfl (op_assign rfl) ?_
  refine JL_nil ?_
  refine JQ_then (JC_ret ?_)
  refine JQ_ret1 Tryz.results113 rfl () (SubL.eq ?_) (List.nil_sublist _)
  rfl
-- bodegaref1.MarkAt: function 118
theorem MarkAt_ok (n : Int) (h : 0 ≤ n ∧ n < 6) : FnP Tryz.prog 118 [Is (.int .i64 n)] (Is (.int .i64 ((6 + n * 15) * 8))) := by
  refine FnP.enter Tryz.func118 Tryz.ntmps118 rfl rfl ?_
  intro c hX
  refine JC_seq ?_
  refine JC_region ?_
  refine JL_1 rfl (op_assign rfl) ?_
  refine JL_nil ?_
  refine JQ_then (JC_seq (JC_seq ?_))
  refine JC_region ?_
  refine JL_1 rfl (op_move rfl) ?_
  refine JL_1 rfl (op_call Tryz.call32 (ClientR_ok _) ⟨evS, trivial⟩) ?_
  refine JL_1 rfl (op_not (Ev.rfl' rfl)) ?_
  refine JL_nil ?_
  refine JQ_then ?_
  refine JC_cond (Ev.rfl' rfl) (fun h1 => ?_) (fun h1 => ?_)
  · exact absurd h1 (by simp; omega)
  refine JC_skip (JQ_then (JC_seq ?_))
  refine JC_region ?_
  refine JL_1 rfl (op_move rfl) ?_
  refine JL_1 rfl (op_mul (Ev.rfl' rfl) (Ev.rfl' rfl) wrapT) ?_
  refine JL_1 rfl (op_add (Ev.rfl' rfl) (Ev.rfl' rfl) wrapT) ?_
  refine JL_1 rfl (op_mul (Ev.rfl' rfl) (Ev.rfl' rfl) wrapT) ?_
  refine JL_1 rfl (op_assign rfl) ?_
  refine JL_nil ?_
  refine JQ_then (JC_ret ?_)
  refine JQ_ret1 Tryz.results118 rfl () (SubL.eq ?_) (List.nil_sublist _)
  rfl
-- bodegaref1.TagAt: function 103
theorem TagAt_ok (n : Int) (h : 0 ≤ n ∧ n < 6) : FnP Tryz.prog 103 [Is (.int .i64 n)] (Is (.int .i64 ((6 + n * 15) * 8 + 1))) := by
  refine FnP.enter Tryz.func103 Tryz.ntmps103 rfl rfl ?_
  intro c hX
  refine JC_seq ?_
  refine JC_region ?_
  refine JL_1 rfl (op_assign rfl) ?_
  refine JL_nil ?_
  refine JQ_then (JC_seq (JC_seq ?_))
  refine JC_region ?_
  refine JL_1 rfl (op_move rfl) ?_
  refine JL_1 rfl (op_call Tryz.call32 (ClientR_ok _) ⟨evS, trivial⟩) ?_
  refine JL_1 rfl (op_not (Ev.rfl' rfl)) ?_
  refine JL_nil ?_
  refine JQ_then ?_
  refine JC_cond (Ev.rfl' rfl) (fun h1 => ?_) (fun h1 => ?_)
  · exact absurd h1 (by simp; omega)
  refine JC_skip (JQ_then (JC_seq ?_))
  refine JC_region ?_
  refine JL_1 rfl (op_move rfl) ?_
  refine JL_1 rfl (op_call Tryz.call118 (MarkAt_ok n h) ⟨evS, trivial⟩) ?_
  refine JL_1 rfl (op_add (Ev.rfl' rfl) (Ev.rfl' rfl) wrapT) ?_
  refine JL_1 rfl (op_assign rfl) ?_
  refine JL_nil ?_
  refine JQ_then (JC_ret ?_)
  refine JQ_ret1 Tryz.results103 rfl () (SubL.eq ?_) (List.nil_sublist _)
  rfl
-- bodegaref1.BodyAt: function 116
theorem BodyAt_ok (n : Int) (h : 0 ≤ n ∧ n < 6) : FnP Tryz.prog 116 [Is (.int .i64 n)] (Is (.int .i64 ((6 + n * 15) * 8 + 8))) := by
  refine FnP.enter Tryz.func116 Tryz.ntmps116 rfl rfl ?_
  intro c hX
  refine JC_seq ?_
  refine JC_region ?_
  refine JL_1 rfl (op_assign rfl) ?_
  refine JL_nil ?_
  refine JQ_then (JC_seq (JC_seq ?_))
  refine JC_region ?_
  refine JL_1 rfl (op_move rfl) ?_
  refine JL_1 rfl (op_call Tryz.call32 (ClientR_ok _) ⟨evS, trivial⟩) ?_
  refine JL_1 rfl (op_not (Ev.rfl' rfl)) ?_
  refine JL_nil ?_
  refine JQ_then ?_
  refine JC_cond (Ev.rfl' rfl) (fun h1 => ?_) (fun h1 => ?_)
  · exact absurd h1 (by simp; omega)
  refine JC_skip (JQ_then (JC_seq ?_))
  refine JC_region ?_
  refine JL_1 rfl (op_move rfl) ?_
  refine JL_1 rfl (op_call Tryz.call118 (MarkAt_ok n h) ⟨evS, trivial⟩) ?_
  refine JL_1 rfl (op_add (Ev.rfl' rfl) (Ev.rfl' rfl) wrapT) ?_
  refine JL_1 rfl (op_assign rfl) ?_
  refine JL_nil ?_
  refine JQ_then (JC_ret ?_)
  refine JQ_ret1 Tryz.results116 rfl () (SubL.eq ?_) (List.nil_sublist _)
  rfl
-- bodegaref1.PageAt: function 100
theorem PageAt_ok (n : Int) (h : 96 ≤ n ∧ n < 256) : FnP Tryz.prog 100 [Is (.int .i64 n)] (Is (.int .i64 (n * 8))) := by
  refine FnP.enter Tryz.func100 Tryz.ntmps100 rfl rfl ?_
  intro c hX
  refine JC_seq ?_
  refine JC_region ?_
  refine JL_1 rfl (op_assign rfl) ?_
  refine JL_nil ?_
  refine JQ_then (JC_seq (JC_seq ?_))
  refine JC_region ?_
  refine JL_1 rfl (op_move rfl) ?_
  refine JL_1 rfl (op_lss (Ev.rfl' rfl) (Ev.rfl' rfl)) ?_
  refine JL_1 rfl (op_move rfl) ?_
  (refine JL_i0 rfl rfl rfl (fun hg => (by have hg0 := hg; (try simp at hg); exact op_moveE (Ev.rfl' rfl))) ?_)
  (refine JL_i0 rfl rfl rfl (fun hg => (by have hg0 := hg; (try simp at hg); exact op_geq evG evG)) ?_)
  refine JL_1 rfl (op_or (Ev.rfl' rfl) rfl (fun h => by exact SubL.iteT (by (rw [h]; rfl)) SubL.rfl')) ?_
  refine JL_nil ?_
  refine JQ_then ?_
  refine JC_cond (Ev.rfl' rfl) (fun h1 => ?_) (fun h1 => ?_)
  · exact absurd h1 (by simp; omega)
  refine JC_skip (JQ_then (JC_seq ?_))
  refine JC_region ?_
  refine JL_1 rfl (op_move rfl) ?_
  refine JL_1 rfl (op_mul (Ev.rfl' rfl) (Ev.rfl' rfl) wrapT) ?_
  refine JL_1 rfl (op_assign rfl) ?_
  refine JL_nil ?_
  refine JQ_then (JC_ret ?_)
  refine JQ_ret1 Tryz.results100 rfl () (SubL.eq ?_) (List.nil_sublist _)
  rfl
theorem DoorN_ok (n : Int) (h : 0 ≤ n ∧ n < 6) : FnP Tryz.prog 101 [Is (.int .i64 n)] (Is (.int .i64 (24 + n))) := by
  have e : addrN 24 n = 24 + n := by unfold addrN; rw [if_pos h]
  rw [← e]
  exact DoorR_ok n
theorem ClockN_ok (n : Int) (h : 0 ≤ n ∧ n < 6) : FnP Tryz.prog 50 [Is (.int .i64 n)] (Is (.int .i64 (32 + n))) := by
  have e : addrN 32 n = 32 + n := by unfold addrN; rw [if_pos h]
  rw [← e]
  exact ClockR_ok n
theorem LeaseN_ok (n : Int) (h : 0 ≤ n ∧ n < 6) : FnP Tryz.prog 36 [Is (.int .i64 n)] (Is (.int .i64 (40 + n))) := by
  have e : addrN 40 n = 40 + n := by unfold addrN; rw [if_pos h]
  rw [← e]
  exact LeaseAtR_ok n
-- bodegaref1.InitialValue: function 112
theorem InitialValue_ok (n : Int) : Fn Tryz.prog 112 [Is (.int .i64 n)] [] (fun z : BitVec 64 × Int => IsTup [Is (.int .u64 (UV z.1)), Is (.int .i64 z.2)]) (fun _ => []) := by
  refine Fn.enterN Tryz.func112 Tryz.ntmps112 rfl rfl ?_
  intro c hX
  refine JC_seq ?_
  refine JC_region ?_
  refine JL_1 rfl (op_assign rfl) ?_
  refine JL_1 rfl (op_assign rfl) ?_
  refine JL_nil ?_
  refine JQ_then (JC_seq (JC_seq ?_))
  refine JC_region ?_
  refine JL_1 rfl (op_move rfl) ?_
  refine JL_1 rfl (op_lss (Ev.rfl' rfl) (Ev.rfl' rfl)) ?_
  refine JL_1 rfl (op_move rfl) ?_
  (refine JL_i0 rfl rfl rfl (fun hg => (by have hg0 := hg; (try simp at hg); exact op_moveE (Ev.rfl' rfl))) ?_)
  (refine JL_i0 rfl rfl rfl (fun hg => (by have hg0 := hg; (try simp at hg); exact op_gtr evG evG)) ?_)
  refine JL_1 rfl (op_or (Ev.rfl' rfl) rfl (fun h => by exact SubL.iteT (by (rw [h]; rfl)) SubL.rfl')) ?_
  refine JL_nil ?_
  refine JQ_then ?_
  refine JC_cond (Ev.rfl' rfl) (fun h1 => ?_) (fun h1 => ?_)
  · refine JC_seq ?_
    refine JC_region ?_
    refine JL_1 rfl (op_assign rfl) ?_
    refine JL_1 rfl (op_assign rfl) ?_
    refine JL_nil ?_
    refine JQ_then (JC_ret (JQ_then_ret ?_))
    exact JQ_retP (Bs := [Is (.int .u64 0), Is (.int .i64 2)]) Tryz.results112 ⟨⟨_, rfl, subT⟩, ⟨⟨_, rfl, subT⟩, trivial⟩⟩ (0#64, 2) SubL.rfl' lessT
  have g : 1 ≤ n ∧ n ≤ 5 := by simp at h1; omega
  clear h1
  refine JC_skip (JQ_then (JC_seq ?_))
  refine JC_region ?_
  refine JL_1 rfl (op_assign rfl) ?_
  refine JL_nil ?_
  refine JQ_then (JC_seq (JC_seq ?_))
  refine JC_region ?_
  refine JL_1 rfl (op_assign rfl) ?_
  refine JL_nil ?_
  refine JQ_then (JC_block ?_)
  refine JC_loopP (fun z : Nat × BitVec 64 => (z.1 : Int) ≤ n) (fun z => [(0, Is (.int .i64 n)), (4, Is (.int .u64 (UV z.2))), (5, Is (.int .i64 (z.1 : Nat)))]) (fun _ => []) (fun z => 5 - z.1) (0, BitVec.ofInt 64 549755813888) (by dsimp only; omega) esubT lessT ?_
  rintro ⟨k, v⟩ hk
  dsimp only at hk ⊢
  refine JC_seq (JC_seq ?_)
  refine JC_region ?_
  refine JL_1 rfl (op_move rfl) ?_
  refine JL_1 rfl (op_move rfl) ?_
  refine JL_1 rfl (op_lss (Ev.rfl' rfl) (Ev.rfl' rfl)) ?_
  refine JL_nil ?_
  refine JQ_then ?_
  refine JC_cond (Ev.rfl' rfl) (fun h5 => ?_) (fun h5 => ?_)
  · have hlt : (k : Int) < n := of_decide_eq_true h5
    clear h5
    refine JC_skip (JQ_then (JC_seq (JC_block ?_)))
    refine JC_region ?_
    refine JL_1 rfl (op_move rfl) ?_
    refine JL_1 rfl (op_move rfl) ?_
    refine JL_1 rfl (op_mul (Ev.rfl' rfl) (Ev.rfl' rfl) wrapT) ?_
    refine JL_1 rfl (op_conv (Ev.rfl' rfl) rfl rfl convT) ?_
    refine JL_1 rfl (by exact op_shlU (k := 7 * k) ev64 (Ev.rfl' rfl) (by omega) idxT) ?_
    refine JL_1 rfl (by exact op_bits ev64 ev64 (by simp) (or_u64 _ _)) ?_
    refine JL_1 rfl (op_assign rfl) ?_
    refine JL_nil ?_
    refine JQ_block (JQ_then ?_)
    refine JC_region ?_
    refine JL_1 rfl (op_move rfl) ?_
    refine JL_1 rfl (op_add (Ev.rfl' rfl) (Ev.rfl' rfl) wrapT) ?_
    refine JL_1 rfl (op_assign rfl) ?_
    refine JL_nil ?_
    exact JQ_roundP (k + 1, v ||| BitVec.ofInt 64 7 <<< (7 * k)) (by dsimp only; omega) (by dsimp only; omega) esubT lessT
  clear h5
  refine JC_exit (JQ_then_exit (JQ_then_exit (JQ_hit (JQ_then (JC_seq ?_)))))
  refine JC_region ?_
  refine JL_1 rfl (op_move rfl) ?_
  refine JL_1 rfl (op_assign rfl) ?_
  refine JL_1 rfl (op_assign rfl) ?_
  refine JL_nil ?_
  refine JQ_then (JC_ret ?_)
  exact JQ_retP (Bs := [Is (.int .u64 (UV v)), Is (.int .i64 0)]) Tryz.results112 ⟨⟨_, rfl, subT⟩, ⟨⟨_, rfl, subT⟩, trivial⟩⟩ (v, 0) SubL.rfl' lessT
theorem InitialValueE_ok (n : Int) : FnP Tryz.prog 112 [Is (.int .i64 n)] (VEx fun z : BitVec 64 × Int => IsTup [Is (.int .u64 (UV z.1)), Is (.int .i64 z.2)]) := (InitialValue_ok n).ex
-- bodegaref1.Formatted: function 97
set_option maxHeartbeats 1000000 in
theorem Formatted_ok (n : Int) : Fn Tryz.prog 97 [Is (.int .i64 n), Is (.int .i64 98)] [] (fun a : Option Addr × Nat => Is (slV 784 a)) (fun a => [ub 83 tU64 784 a]) := by
  refine Fn.enterN Tryz.func97 Tryz.ntmps97 rfl rfl ?_
  intro c hX
  refine JC_seq ?_
  refine JC_region ?_
  refine JL_1 rfl (op_assign rfl) ?_
  refine JL_nil ?_
  refine JQ_then (JC_seq ?_)
  refine JC_region ?_
  refine JL_1 rfl (op_move rfl) ?_
  refine JL_1 rfl (op_mul (Ev.rfl' rfl) (Ev.rfl' rfl) wrapT) ?_
  (refine JL_n rfl (op_makeRow tU64 0#64 (n := 784) (Ev.rfl' rfl) (Ev.rfl' rfl) rfl rfl rfl rfl rfl (by rfl) (by decide)) ?_; intro i12)
  refine JL_1 rfl (op_assign rfl) ?_
  refine JL_nil ?_
  refine JQ_then (JC_seq ?_)
  refine JC_closeU (T := tU64) (m := 784) (a := (some ⟨i12, 0, none⟩, 784)) replT (by simp) ?_
  refine JC_openU (T := tU64) (m := 784) (a := (some ⟨i12, 0, none⟩, 784)) (Drop1.here _ _) (fun xs hxs => ?_)
  refine JC_set 5 (Is (slV 784 (some ⟨i12, 0, none⟩, 784))) rfl SubL.rfl' ?_
  refine JC_region ?_
  refine JL_1 rfl (op_move rfl) ?_
  refine JL_1 rfl (op_move rfl) ?_
  refine JL_1 rfl (by exact op_indexBuf (k := 0) (Ev.rfl' rfl) memT (Ev.rfl' rfl) rfl rfl idxT lenT) ?_
  refine JL_s0 (by exact op_storeBuf0 (z' := 1#64) (Ev.rfl' rfl) (Ev.rfl' rfl) cellsT replT (gs 0#64 (k := 0) (by omega)) rfl (by rfl) (by rfl)) ?_
  refine JL_1 rfl (by exact op_indexBuf (k := 1) (Ev.rfl' rfl) memT (Ev.rfl' rfl) rfl rfl idxT lenT) ?_
  refine JL_s0 (by exact op_storeBuf0 (z' := 1#64) (Ev.rfl' rfl) (Ev.rfl' rfl) cellsT replT (gs 0#64 (k := 1) (by rw [List.length_set]; omega)) rfl (by rfl) (by rfl)) ?_
  refine JL_nil ?_
  refine JQ_then (JC_seq ?_)
  refine JC_region ?_
  refine JL_1 rfl (op_move rfl) ?_
  refine JL_1 rfl (op_call Tryz.call112 (InitialValueE_ok _) ⟨evS, trivial⟩) ?_
  refine JL_1 rfl (op_move rfl) ?_
  (refine JL_ex 17 rfl (fun z => ?_); obtain ⟨v, cd⟩ := z; dsimp only)
  refine JL_1 rfl (op_extract (Ev.rfl' rfl) rfl) ?_
  refine JL_1 rfl (op_extract (Ev.rfl' rfl) rfl) ?_
  refine JL_1 rfl (op_assign rfl) ?_
  refine JL_1 rfl (op_assign rfl) ?_
  refine JL_nil ?_
  refine JQ_then (JC_seq ?_)
  refine JC_region ?_
  refine JL_1 rfl (op_move rfl) ?_
  refine JL_1 rfl (by ((refine op_call Tryz.call113 (ConsensusAt_ok 0 ?_) ⟨evS, trivial⟩); all_goals (decide))) ?_
  refine JL_1 rfl (op_move rfl) ?_
  refine JL_1 rfl (by exact op_bits ev64 ev64 (by simp) (or_u64 _ _)) ?_
  refine JL_1 rfl (by exact op_indexBuf (k := 8) (Ev.rfl' rfl) memT (Ev.rfl' rfl) rfl rfl idxT lenT) ?_
  refine JL_s0 (by exact op_storeBuf0 (z' := (BitVec.ofInt 64 4504699138998272 ||| v)) (Ev.rfl' rfl) (Ev.rfl' rfl) cellsT replT (gs 0#64 (k := 8) (by rw [List.length_set, List.length_set]; omega)) rfl (by rfl) (by rfl)) ?_
  refine JL_nil ?_
  refine JQ_then (JC_seq (JC_seq ?_))
  refine JC_region ?_
  refine JL_1 rfl (op_assign rfl) ?_
  refine JL_nil ?_
  refine JQ_then (JC_block ?_)
  refine JC_loopP (fun z : Nat × List (BitVec 64) => z.1 ≤ 6 ∧ z.2.length = 784) (fun z => [(1, Is (.int .i64 98)), (5, Is (slV 784 (some ⟨i12, 0, none⟩, 784))), (8, Is (.int .i64 (z.1 : Nat)))]) (fun z => [buf (slV 784 (some ⟨i12, 0, none⟩, 784)) 83 tU64 z.2]) (fun z => 6 - z.1) (0, ((xs.set 0 1#64).set 1 1#64).set 8 (BitVec.ofInt 64 4504699138998272 ||| v)) ⟨Nat.zero_le _, by simp [hxs]⟩ esubT lessT ?_
  rintro ⟨k, ys⟩ ⟨hk, hys⟩
  dsimp only at hk hys ⊢
  refine JC_seq (JC_seq ?_)
  refine JC_region ?_
  refine JL_1 rfl (op_move rfl) ?_
  refine JL_1 rfl (op_lss (Ev.rfl' rfl) (Ev.rfl' rfl)) ?_
  refine JL_nil ?_
  refine JQ_then ?_
  refine JC_cond (Ev.rfl' rfl) (fun h6 => ?_) (fun h6 => ?_)
  · have hlt : k < 6 := by have := of_decide_eq_true h6; omega
    clear h6
    refine JC_skip (JQ_then (JC_seq (JC_block ?_)))
    refine JC_region ?_
    refine JL_1 rfl (op_move rfl) ?_
    refine JL_1 rfl (op_move rfl) ?_
    refine JL_1 rfl (by ((refine op_call Tryz.call101 (DoorN_ok _ ?_) ⟨evS, trivial⟩); all_goals (omega))) ?_
    refine JL_1 rfl (by exact op_indexBuf (k := 24 + k) (Ev.rfl' rfl) memT (Ev.rfl' rfl) rfl rfl idxT lenT) ?_
    refine JL_s0 (by exact op_storeBuf0 (z' := 1#64) (Ev.rfl' rfl) (Ev.rfl' rfl) cellsT replT (gs 0#64 (k := 24 + k) (by omega)) rfl (by rfl) (by rfl)) ?_
    refine JL_nil ?_
    refine JQ_block (JQ_then ?_)
    refine JC_region ?_
    refine JL_1 rfl (op_move rfl) ?_
    refine JL_1 rfl (op_add (Ev.rfl' rfl) (Ev.rfl' rfl) wrapT) ?_
    refine JL_1 rfl (op_assign rfl) ?_
    refine JL_nil ?_
    exact JQ_roundP (k + 1, ys.set (24 + k) 1#64) ⟨by dsimp only; omega, by dsimp only; rw [List.length_set]; exact hys⟩ (by dsimp only; omega) esubT lessT
  clear h6
  refine JC_exit (JQ_then_exit (JQ_then_exit (JQ_hit (JQ_then (JC_seq (JC_seq ?_))))))
  refine JC_region ?_
  refine JL_1 rfl (op_assign rfl) ?_
  refine JL_nil ?_
  refine JQ_then (JC_block ?_)
  refine JC_loopP (fun z : Nat × List (BitVec 64) => 96 ≤ z.1 ∧ z.1 ≤ 98 ∧ z.2.length = 784) (fun z => [(1, Is (.int .i64 98)), (5, Is (slV 784 (some ⟨i12, 0, none⟩, 784))), (9, Is (.int .i64 (z.1 : Nat)))]) (fun z => [buf (slV 784 (some ⟨i12, 0, none⟩, 784)) 83 tU64 z.2]) (fun z => 98 - z.1) (96, ys) ⟨Nat.le_refl _, by dsimp only; omega, hys⟩ esubT lessT ?_
  rintro ⟨m, zs⟩ ⟨hm1, hm2, hzs⟩
  dsimp only at hm1 hm2 hzs ⊢
  refine JC_seq (JC_seq ?_)
  refine JC_region ?_
  refine JL_1 rfl (op_move rfl) ?_
  refine JL_1 rfl (op_move rfl) ?_
  refine JL_1 rfl (op_lss (Ev.rfl' rfl) (Ev.rfl' rfl)) ?_
  refine JL_nil ?_
  refine JQ_then ?_
  refine JC_cond (Ev.rfl' rfl) (fun h10 => ?_) (fun h10 => ?_)
  · have hlt : m < 98 := by have := of_decide_eq_true h10; omega
    clear h10
    refine JC_skip (JQ_then (JC_seq (JC_block ?_)))
    refine JC_region ?_
    refine JL_1 rfl (op_move rfl) ?_
    refine JL_1 rfl (op_move rfl) ?_
    refine JL_1 rfl (op_mul (Ev.rfl' rfl) (Ev.rfl' rfl) wrapT) ?_
    refine JL_1 rfl (by exact op_indexBuf (k := m * 8) (Ev.rfl' rfl) memT (Ev.rfl' rfl) rfl rfl idxT lenT) ?_
    refine JL_s0 (by exact op_storeBuf0 (z' := 256#64) (Ev.rfl' rfl) (Ev.rfl' rfl) cellsT replT (gs 0#64 (k := m * 8) (by omega)) rfl (by rfl) (by rfl)) ?_
    refine JL_nil ?_
    refine JQ_block (JQ_then ?_)
    refine JC_region ?_
    refine JL_1 rfl (op_move rfl) ?_
    refine JL_1 rfl (op_add (Ev.rfl' rfl) (Ev.rfl' rfl) wrapT) ?_
    refine JL_1 rfl (op_assign rfl) ?_
    refine JL_nil ?_
    exact JQ_roundP (m + 1, zs.set (m * 8) 256#64) ⟨by dsimp only; omega, by dsimp only; omega, by dsimp only; rw [List.length_set]; exact hzs⟩ (by dsimp only; omega) esubT lessT
  clear h10
  refine JC_exit (JQ_then_exit (JQ_then_exit (JQ_hit (JQ_then (JC_seq ?_)))))
  refine JC_region ?_
  refine JL_1 rfl (op_move rfl) ?_
  refine JL_1 rfl (op_assign rfl) ?_
  refine JL_nil ?_
  refine JQ_then (JC_ret ?_)
  refine JQ_closeU (T := tU64) (m := 784) (a := (some ⟨i12, 0, none⟩, 784)) replT hzs ?_
  exact JQ_retP (Bs := [Is (slV 784 (some ⟨i12, 0, none⟩, 784))]) Tryz.results97 ⟨⟨_, rfl, subT⟩, trivial⟩ (some ⟨i12, 0, none⟩, 784) SubL.rfl' lessT
end Go.Proofs.YtfglhiciagmicaaGreat
