/- Texts of this claim, laid together (part 6): walks of functions, what they compute, and plain laws of it. Own work. -/
import Derived.Test.YtfkmbdpnjcgimaaGreatM5EpochGuards
/- Contracts: epoch.Next, advance. Own work. -/
namespace Go.Proofs.YtfkmbdpnjcgimaaGreat
open Go.RowKit
set_option linter.unusedVariables false
set_option linter.unusedSimpArgs false
set_option maxRecDepth 100000
theorem mpF_get {α : Type} (f : Int → α) {c : Int} : ∀ l : List Int, c ∈ l → ∀ m : List (Int × α), mget (l.foldl (fun m c => mput m c (f c)) m) c = some (f c)
  | [], h, _ => by cases h
  | x :: l, h, m => by
    by_cases hc : c ∈ l
    · exact mpF_get f l hc _
    · rcases List.mem_cons.1 h with rfl | h
      · have hk : ∀ (l : List Int) (m : List (Int × α)), c ∉ l → mget m c = some (f c) → mget (l.foldl (fun m c => mput m c (f c)) m) c = some (f c) := by
          intro l
          induction l with
          | nil => intro m _ h; exact h
          | cons y l ih =>
            intro m h1 h2
            refine ih _ (fun h => h1 (List.mem_cons_of_mem _ h)) ?_
            rw [mget_mput, if_neg (fun e => h1 (by rw [← e]; exact List.mem_cons_self ..))]
            exact h2
        exact hk l _ hc (by rw [mget_mput, if_pos rfl])
      · exact absurd h hc
def adv3 (e : Eout) : Eout := if e.code = 3 then e else blkE e
def nx3 (ks : List Pg) (g : BitVec 32) (N : Int → Nd) : List Pg × Eout := advE ⟨latP ks 97, g, 0, 0⟩ N
theorem nx3_len (ks : List Pg) (g : BitVec 32) (N : Int → Nd) : (nx3 ks g N).1.length ≤ 1 := advE_len _ _
-- epoch.Next: function 43
set_option maxHeartbeats 4000000 in
theorem next3_ok (o : Eop) (ks : List Pg) (g : BitVec 32) (N : Int → Nd) (hok : OkE o) (hrd : Rdy o ks g N) (hk1 : o.kind = 3) (hg : ¬ UV g = 4294967295) : FnP Tryz.prog 43 [IsEop o, IsSl tPg ks]
    (IsTup [IsSl tI64 [], IsSl tPg (nx3 ks g N).1, IsEout (adv3 (nx3 ks g N).2), Is (.bool true)]) := by
  have hnv : nodesV o = six := by unfold nodesV; rw [if_neg (by omega), if_pos hk1]
  have hmn : ∀ c, c ∈ six → mget (ndM o N (linV o).length) c = some (N c) := by intro c hc; unfold ndM; rw [cK_all, hnv]; exact mpF_get N six hc []
  have hE : hasE o = true := by unfold hasE; rw [hk1]; rfl
  have hep : stE o g (linV o).length = g := by unfold stE; rw [if_pos ⟨hE, linE_pos o⟩]
  have hpp : stP o ks (linV o).length = latP ks 97 := by unfold stP; rw [if_pos ⟨hE, linE_pos o⟩]
  have hlen := nx3_len ks g N
  have hasc : AscP (nx3 ks g N).1 := asc_le1 hlen
  have hln : (nx3 ks g N).1.length ≤ 4 := Nat.le_trans hlen (by decide)
  refine FnP.enter Tryz.func43 Tryz.ntmps43 rfl rfl ?_
  intro c hX
  refine JC_seq (JC_region ?_)
  (refine JL_n rfl (op_box (Ev.rfl' rfl) cellsT) ?_; intro i2)
  refine JL_1 rfl (op_assign rfl) (JL_1 rfl (op_assign rfl) ?_)
  (refine JL_n rfl (op_allocN rfl nrmT rfl) ?_; intro i6)
  refine JL_1 rfl (op_assign rfl) (JL_nil ?_)
  refine JQ_then (JC_seq (JC_seq ?_))
  refine JC_region (JL_1 rfl (by exact op_loadPtrsN (n := 6) (Ev.rfl' rfl) memT (by rfl) (by rfl) (by rfl) (by rfl) nrmT) ?_)
  refine JL_1 rfl (op_call Tryz.call56 (isValidE_ok o hok) ⟨evS, trivial⟩) ?_
  refine JL_1 rfl (op_not (Ev.rfl' rfl)) (JL_nil (JQ_then ?_))
  refine JC_cond (Ev.rfl' rfl) (fun h1 => ?_) (fun h1 => ?_)
  · exact absurd h1 (by simp)
  clear h1
  refine JC_skip (JQ_then (JC_seq ?_))
  refine JC_region (JL_1 rfl (by exact op_loadPtrsN (n := 6) (Ev.rfl' rfl) memT (by rfl) (by rfl) (by rfl) (by rfl) nrmT) ?_)
  refine JL_1 rfl (op_move rfl) ?_
  (refine JL_s rfl (op_callN Tryz.call57 (readS_ok o ks g N hrd) ⟨evS, ⟨evS, trivial⟩⟩) ?_; intro i18)
  refine JL_1 rfl (op_move rfl) (JL_1 rfl (op_extract (Ev.rfl' rfl) rfl) (JL_1 rfl (op_extract (Ev.rfl' rfl) rfl) (JL_1 rfl (op_extract (Ev.rfl' rfl) rfl) (JL_1 rfl (op_extract (Ev.rfl' rfl) rfl) ?_))))
  (refine JL_n rfl (op_allocN rfl nrmT rfl) ?_; intro i8)
  refine JL_s0 (op_storeN (Ev.rfl' rfl) (Ev.rfl' rfl) cellsT replT nrmT (by rfl) (by rfl) (by rfl)) ?_
  refine JL_1 rfl (op_assign rfl) (JL_1 rfl (op_assign rfl) (JL_1 rfl (op_assign rfl) (JL_nil ?_)))
  refine JQ_then (JC_seq (JC_seq ?_))
  have hpe : advE ⟨stP o ks (linV o).length, stE o g (linV o).length, i18.1, i18.2⟩ N = nx3 ks g N := by rw [hep, hpp]; rfl
  have hg' : ¬ UV (⟨stP o ks (linV o).length, stE o g (linV o).length, i18.1, i18.2⟩ : Est).ep = 4294967295 := by show ¬ UV (stE o g (linV o).length) = _; rw [hep]; exact hg
  refine JC_region (JL_1 rfl (op_move rfl) (JL_1 rfl (by exact op_lenLit (Ev.rfl' rfl) rfl) ?_))
  refine JL_1 rfl (op_gtr (Ev.rfl' rfl) (Ev.rfl' rfl)) (JL_nil (JQ_then ?_))
  refine JC_cond (Ev.rfl' rfl) (fun h4 => ?_) (fun h4 => ?_)
  · exact absurd h4 (by simp)
  refine JC_skip (JQ_then (JC_seq (JC_seq ?_)))
  refine JC_region (JL_1 rfl (op_move rfl) (JL_1 rfl (op_neq (Ev.rfl' rfl) (Ev.rfl' rfl)) (JL_nil (JQ_then ?_))))
  refine JC_cond (Ev.rfl' rfl) (fun h6 => ?_) (fun h6 => ?_)
  · exact absurd h6 (by simp)
  refine JC_skip (JQ_then (JC_seq ?_))
  refine JC_region (JL_1 rfl (op_assign rfl) (JL_nil ?_))
  refine JQ_then (JC_seq (JC_seq ?_))
  refine JC_region (JL_1 rfl (by exact op_fieldPtr (k := 0) (Ev.rfl' rfl) rfl rfl rfl rfl) ?_)
  refine JL_1 rfl (by exact op_loadPtr (Ev.rfl' rfl) memT (by rfl) (by rfl) (by rfl)) ?_
  refine JL_nil ?_
  refine JQ_then (JC_block (JC_seq ?_))
  refine JC_region (JL_1 rfl (op_eql (Ev.rfl' rfl) (Ev.rfl' rfl)) (JL_1 rfl (op_assign rfl) (JL_nil (JQ_then ?_))))
  refine JC_cond (Ev.rfl' rfl) (fun h10 => ?_) (fun h10 => ?_)
  · exact absurd h10 (by simp [hk1])
  refine JC_seq (JC_region (JL_1 rfl (op_eql (Ev.rfl' rfl) (Ev.rfl' rfl)) (JL_1 rfl (op_assign rfl) (JL_nil (JQ_then ?_)))))
  refine JC_cond (Ev.rfl' rfl) (fun h12 => ?_) (fun h12 => ?_)
  · exact absurd h12 (by simp [hk1])
  refine JC_seq (JC_region (JL_1 rfl (op_eql (Ev.rfl' rfl) (Ev.rfl' rfl)) (JL_1 rfl (op_assign rfl) (JL_nil (JQ_then ?_)))))
  refine JC_cond (Ev.rfl' rfl) (fun h14 => ?_) (fun h14 => ?_)
  · exact absurd h14 (by simp [hk1])
  refine JC_seq (JC_region (JL_1 rfl (op_eql (Ev.rfl' rfl) (Ev.rfl' rfl)) (JL_1 rfl (op_assign rfl) (JL_nil (JQ_then ?_)))))
  refine JC_cond (Ev.rfl' rfl) (fun h16 => ?_) (fun h16 => ?_)
  · refine JC_region (JL_1 rfl (by exact op_loadPtrsN (n := 12) (Ev.rfl' rfl) memT (by rfl) (by rfl) (by rfl) (by rfl) nrmT) ?_)
    refine JL_1 rfl (by exact op_loadPtrsN (n := 6) (Ev.rfl' rfl) memT (by rfl) (by rfl) (by rfl) (by rfl) nrmT) ?_
    (refine JL_s rfl (op_callM (Drops.cons drop1A (Drops.nil _)) Tryz.call60 (advance_ok ⟨stP o ks (linV o).length, stE o g (linV o).length, i18.1, i18.2⟩ o N _ hk1 hg' hmn) ⟨evS, ⟨evS, trivial⟩⟩) ?_; intro i84)
    refine JL_1 rfl (op_move rfl) (JL_1 rfl (op_extract (Ev.rfl' rfl) rfl) (JL_1 rfl (op_extract (Ev.rfl' rfl) rfl) (JL_1 rfl (op_assign rfl) (JL_s0 (op_storeN (Ev.rfl' rfl) (Ev.rfl' rfl) cellsT replT nrmT (by rfl) (by rfl) (by rfl)) ?_))))
    refine JL_nil ?_
    refine JQ_block (JQ_then (JC_seq (JC_seq ?_)))
    rw [hpe]
    refine JC_region (JL_1 rfl (op_move rfl) (JL_1 rfl (op_move rfl) ?_))
    (refine JL_i0 rfl rfl rfl (fun hg => (by have hg0 := hg; (try simp at hg); exact op_fieldPtr (k := 0) evG rfl rfl rfl rfl)) ?_)
    (refine JL_i0 rfl rfl rfl (fun hg => (by have hg0 := hg; (try simp at hg); exact op_loadPtr evG memT (by rfl) (by rfl) (by rfl))) ?_)
    (refine JL_i0 rfl rfl rfl (fun hg => (by have hg0 := hg; (try simp at hg); exact op_eql evG evG)) ?_)
    (refine JL_i0 rfl rfl rfl (fun hg => (by have hg0 := hg; (try simp at hg); exact op_moveE (Ev.sub rfl (SubL.iteT (by assumption) SubL.rfl')))) ?_)
    (refine JL_i0 rfl rfl rfl (fun hg => (by have hg0 := hg; (try simp at hg); exact op_fieldPtr (k := 0) evG rfl rfl rfl rfl)) ?_)
    (refine JL_i0 rfl rfl rfl (fun hg => (by have hg0 := hg; (try simp at hg); exact op_loadPtr evG memT (by rfl) (by rfl) (by rfl))) ?_)
    (refine JL_i0 rfl rfl rfl (fun hg => (by have hg0 := hg; (try simp at hg); exact op_eql evG evG)) ?_)
    (refine JL_i0 rfl rfl rfl (fun hg => (by have hg0 := hg; (try simp at hg); exact op_and evG rfl (fun h => by exact SubL.iteT (by (rw [h]; rfl)) SubL.rfl'))) ?_)
    (refine JL_i0 rfl rfl rfl (fun hg => (by have hg0 := hg; (try simp at hg); exact op_not evG)) ?_)
    refine JL_1 rfl (op_and (Ev.rfl' rfl) rfl (fun h => by exact SubL.rfl')) ?_
    refine JL_nil (JQ_then (JC_cutT (fun _ : Unit => True) (fun _ => [(4, Is (.slice none 0 0)), (5, IsSl tPg (nx3 ks g N).1), (6, Is (.pointer (some ⟨i6, 0, none⟩))), (7, Is (.bool true))]) (fun _ => [blk i6 81 (tEout.cells (adv3 (nx3 ks g N).2))]) ?_ ?_))
    rotate_left
    focus
      refine JC_cond (Ev.rfl' rfl) (fun h22 => ?_) (fun h22 => ?_)
      · have hc : ¬ (nx3 ks g N).2.code = 3 := by simpa [hk1] using h22
        have e : adv3 (nx3 ks g N).2 = blkE (nx3 ks g N).2 := by unfold adv3; rw [if_neg hc]
        rw [e]
        refine JC_region (JL_1 rfl (by exact op_fieldPtr (k := 2) (Ev.rfl' rfl) rfl rfl rfl rfl) ?_)
        refine JL_s0 (op_storeN (Ev.rfl' rfl) (Ev.rfl' rfl) cellsT replT nrmT (by rfl) (by rfl) (by rfl)) ?_
        refine JL_nil ?_
        exact JQ_meetP () trivial esubT lessT
      have hc : (nx3 ks g N).2.code = 3 := by simpa [hk1] using h22
      have e : adv3 (nx3 ks g N).2 = (nx3 ks g N).2 := by unfold adv3; rw [if_pos hc]
      rw [e]
      refine JC_skip ?_
      exact JQ_meetP () trivial esubT lessT
    rintro _ _
    refine JC_seq (JC_region (JL_1 rfl (op_move rfl) (JL_1 rfl (op_call Tryz.call63 (SortFunc_ok _ hasc hln) ⟨evS, ⟨evS, trivial⟩⟩) ?_)))
    refine JL_nil ?_
    refine JQ_then (JC_seq ?_)
    refine JC_dr rfl (by kernel_rfl) ?_
    refine JD_fl (its := []) (JF_1 0 rfl (by kernel_rfl) (op_move rfl) ?_)
    refine JF_1 1 rfl (by kernel_rfl) (op_move rfl) ?_
    refine JF_1 2 rfl (by kernel_rfl) (by exact op_loadPtrsN (n := 5) (Ev.rfl' rfl) memT (by rfl) (by rfl) (by rfl) (by rfl) nrmT) ?_
    refine JF_1f 3 rfl (by kernel_rfl) (fun _ => (op_move rfl)) ?_
    refine JF_1 4 rfl (by kernel_rfl) (op_assign rfl) ?_
    refine JF_1 5 rfl (by kernel_rfl) (op_assign rfl) ?_
    refine JF_b0 6 [0, 1, 2, 4, 5, 6] rfl (by kernel_rfl) (fun c' => by exact op_store (Ev.rfl' rfl) (Ev.rfl' rfl) cellsT replT (by rfl) (by rfl) (by rfl)) ?_
    refine JF_1 7 rfl (by kernel_rfl) (op_assign rfl) ?_
    refine JF_end (by kernel_rfl) rfl ?_
    refine JQ_then (JC_ret ?_)
    exact JQ_retP (Bs := [IsSl tI64 [], IsSl tPg (nx3 ks g N).1, IsEout (adv3 (nx3 ks g N).2), Is (.bool true)]) Tryz.results43 ⟨⟨_, rfl, subT⟩, ⟨⟨_, rfl, subT⟩, ⟨⟨_, _, _, _, rfl, memT, rfl, .inr ⟨rfl, _, rfl, rfl, subT⟩⟩, ⟨⟨_, rfl, subT⟩, trivial⟩⟩⟩⟩ () SubL.rfl' lessT
  exact absurd h16 (by simp [hk1])
end Go.Proofs.YtfkmbdpnjcgimaaGreat

/- Contracts: epoch.Next, collect. Own work. -/
namespace Go.Proofs.YtfkmbdpnjcgimaaGreat
open Go.RowKit
set_option linter.unusedVariables false
set_option linter.unusedSimpArgs false
set_option maxRecDepth 100000
def nx5 (o : Eop) (ks : List Pg) (g : BitVec 32) (N : Int → Nd) (ws : List Pg) : List Pg × Eout := colE ⟨Pg.nil, g, 0, 0⟩ (N o.for_) (latP ks (98 + o.for_)) ws
-- epoch.Next: function 43
set_option maxHeartbeats 4000000 in
theorem next5_ok (o : Eop) (ks : List Pg) (g : BitVec 32) (N : Int → Nd) (ws : List Pg) (hok : OkE o) (hrd : Rdy o ks g N) (hk1 : o.kind = 5) (hws : ws.length ≤ 3) (hasc : AscP (nx5 o ks g N ws).1) (hln : (nx5 o ks g N ws).1.length ≤ 4)
    (hfree : (colK (N o.for_) g 4).1 ≠ [] → Fn Tryz.prog 78 [Is (.int .i64 o.lines), IsSl tPt (colK (N o.for_) g 4).1, IsSl tPg ks] [] (fun i : WA => IsTup [Top, Is (slV ws.length i), Is (.int .i64 0), Is (.bool true)]) (fun i => [buf (slV ws.length i) 51 tPg ws])) : FnP Tryz.prog 43 [IsEop o, IsSl tPg ks]
    (IsTup [IsSl tI64 [], IsSl tPg (nx5 o ks g N ws).1, IsEout (blkE (nx5 o ks g N ws).2), Is (.bool true)]) := by
  have hnv : nodesV o = [o.for_] := by unfold nodesV; rw [if_pos (by omega)]
  have hmp : mget (pgM o ks (linV o).length) o.for_ = some (latP ks (98 + o.for_)) := by unfold pgM; rw [cK_all, hnv]; exact mget_one _ _
  have hmn : mget (ndM o N (linV o).length) o.for_ = some (N o.for_) := by unfold ndM; rw [cK_all, hnv]; exact mget_one _ _
  have hE : hasE o = true := by unfold hasE; rw [hk1]; rfl
  have hep : stE o g (linV o).length = g := by unfold stE; rw [if_pos ⟨hE, linE_pos o⟩]
  refine FnP.enter Tryz.func43 Tryz.ntmps43 rfl rfl ?_
  intro c hX
  refine JC_seq (JC_region ?_)
  (refine JL_n rfl (op_box (Ev.rfl' rfl) cellsT) ?_; intro i2)
  refine JL_1 rfl (op_assign rfl) (JL_1 rfl (op_assign rfl) ?_)
  (refine JL_n rfl (op_allocN rfl nrmT rfl) ?_; intro i6)
  refine JL_1 rfl (op_assign rfl) (JL_nil ?_)
  refine JQ_then (JC_seq (JC_seq ?_))
  refine JC_region (JL_1 rfl (by exact op_loadPtrsN (n := 6) (Ev.rfl' rfl) memT (by rfl) (by rfl) (by rfl) (by rfl) nrmT) ?_)
  refine JL_1 rfl (op_call Tryz.call56 (isValidE_ok o hok) ⟨evS, trivial⟩) ?_
  refine JL_1 rfl (op_not (Ev.rfl' rfl)) (JL_nil (JQ_then ?_))
  refine JC_cond (Ev.rfl' rfl) (fun h1 => ?_) (fun h1 => ?_)
  · exact absurd h1 (by simp)
  clear h1
  refine JC_skip (JQ_then (JC_seq ?_))
  refine JC_region (JL_1 rfl (by exact op_loadPtrsN (n := 6) (Ev.rfl' rfl) memT (by rfl) (by rfl) (by rfl) (by rfl) nrmT) ?_)
  refine JL_1 rfl (op_move rfl) ?_
  (refine JL_s rfl (op_callN Tryz.call57 (readS_ok o ks g N hrd) ⟨evS, ⟨evS, trivial⟩⟩) ?_; intro i18)
  refine JL_1 rfl (op_move rfl) (JL_1 rfl (op_extract (Ev.rfl' rfl) rfl) (JL_1 rfl (op_extract (Ev.rfl' rfl) rfl) (JL_1 rfl (op_extract (Ev.rfl' rfl) rfl) (JL_1 rfl (op_extract (Ev.rfl' rfl) rfl) ?_))))
  (refine JL_n rfl (op_allocN rfl nrmT rfl) ?_; intro i8)
  refine JL_s0 (op_storeN (Ev.rfl' rfl) (Ev.rfl' rfl) cellsT replT nrmT (by rfl) (by rfl) (by rfl)) ?_
  refine JL_1 rfl (op_assign rfl) (JL_1 rfl (op_assign rfl) (JL_1 rfl (op_assign rfl) (JL_nil ?_)))
  refine JQ_then (JC_seq (JC_seq ?_))
  have hpe : colE ⟨stP o ks (linV o).length, stE o g (linV o).length, i18.1, i18.2⟩ (N o.for_) (latP ks (98 + o.for_)) ws = nx5 o ks g N ws := by rw [hep]; rfl
  have hfr : (colK (N o.for_) (⟨stP o ks (linV o).length, stE o g (linV o).length, i18.1, i18.2⟩ : Est).ep 4).1 ≠ [] → Fn Tryz.prog 78 [Is (.int .i64 o.lines), IsSl tPt (colK (N o.for_) (⟨stP o ks (linV o).length, stE o g (linV o).length, i18.1, i18.2⟩ : Est).ep 4).1, IsSl tPg ks] [] (fun i : WA => IsTup [Top, Is (slV ws.length i), Is (.int .i64 0), Is (.bool true)]) (fun i => [buf (slV ws.length i) 51 tPg ws]) := by
    dsimp only; rw [hep]; exact hfree
  refine JC_region (JL_1 rfl (op_move rfl) (JL_1 rfl (by exact op_lenLit (Ev.rfl' rfl) rfl) ?_))
  refine JL_1 rfl (op_gtr (Ev.rfl' rfl) (Ev.rfl' rfl)) (JL_nil (JQ_then ?_))
  refine JC_cond (Ev.rfl' rfl) (fun h4 => ?_) (fun h4 => ?_)
  · exact absurd h4 (by simp)
  refine JC_skip (JQ_then (JC_seq (JC_seq ?_)))
  refine JC_region (JL_1 rfl (op_move rfl) (JL_1 rfl (op_neq (Ev.rfl' rfl) (Ev.rfl' rfl)) (JL_nil (JQ_then ?_))))
  refine JC_cond (Ev.rfl' rfl) (fun h6 => ?_) (fun h6 => ?_)
  · exact absurd h6 (by simp)
  refine JC_skip (JQ_then (JC_seq ?_))
  refine JC_region (JL_1 rfl (op_assign rfl) (JL_nil ?_))
  refine JQ_then (JC_seq (JC_seq ?_))
  refine JC_region (JL_1 rfl (by exact op_fieldPtr (k := 0) (Ev.rfl' rfl) rfl rfl rfl rfl) ?_)
  refine JL_1 rfl (by exact op_loadPtr (Ev.rfl' rfl) memT (by rfl) (by rfl) (by rfl)) ?_
  refine JL_nil ?_
  refine JQ_then (JC_block (JC_seq ?_))
  refine JC_region (JL_1 rfl (op_eql (Ev.rfl' rfl) (Ev.rfl' rfl)) (JL_1 rfl (op_assign rfl) (JL_nil (JQ_then ?_))))
  refine JC_cond (Ev.rfl' rfl) (fun h10 => ?_) (fun h10 => ?_)
  · exact absurd h10 (by simp [hk1])
  refine JC_seq (JC_region (JL_1 rfl (op_eql (Ev.rfl' rfl) (Ev.rfl' rfl)) (JL_1 rfl (op_assign rfl) (JL_nil (JQ_then ?_)))))
  refine JC_cond (Ev.rfl' rfl) (fun h12 => ?_) (fun h12 => ?_)
  · exact absurd h12 (by simp [hk1])
  refine JC_seq (JC_region (JL_1 rfl (op_eql (Ev.rfl' rfl) (Ev.rfl' rfl)) (JL_1 rfl (op_assign rfl) (JL_nil (JQ_then ?_)))))
  refine JC_cond (Ev.rfl' rfl) (fun h14 => ?_) (fun h14 => ?_)
  · exact absurd h14 (by simp [hk1])
  refine JC_seq (JC_region (JL_1 rfl (op_eql (Ev.rfl' rfl) (Ev.rfl' rfl)) (JL_1 rfl (op_assign rfl) (JL_nil (JQ_then ?_)))))
  refine JC_cond (Ev.rfl' rfl) (fun h16 => ?_) (fun h16 => ?_)
  · exact absurd h16 (by simp [hk1])
  refine JC_seq (JC_region (JL_1 rfl (op_eql (Ev.rfl' rfl) (Ev.rfl' rfl)) (JL_1 rfl (op_assign rfl) (JL_nil (JQ_then ?_)))))
  refine JC_cond (Ev.rfl' rfl) (fun h18 => ?_) (fun h18 => ?_)
  · exact absurd h18 (by simp [hk1])
  refine JC_seq (JC_region (JL_1 rfl (op_eql (Ev.rfl' rfl) (Ev.rfl' rfl)) (JL_1 rfl (op_assign rfl) (JL_nil (JQ_then ?_)))))
  refine JC_cond (Ev.rfl' rfl) (fun h20 => ?_) (fun h20 => ?_)
  · refine JC_region (JL_1 rfl (by exact op_loadPtrsN (n := 12) (Ev.rfl' rfl) memT (by rfl) (by rfl) (by rfl) (by rfl) nrmT) ?_)
    refine JL_1 rfl (by exact op_loadPtrsN (n := 6) (Ev.rfl' rfl) memT (by rfl) (by rfl) (by rfl) (by rfl) nrmT) ?_
    refine JL_1 rfl (op_move rfl) ?_
    (refine JL_s rfl (op_callM (Drops.cons drop1A (Drops.cons drop1A (Drops.nil _))) Tryz.call62 (collect_ok ⟨stP o ks (linV o).length, stE o g (linV o).length, i18.1, i18.2⟩ o ks _ _ (N o.for_) (latP ks (98 + o.for_)) ws hmp hmn hws hfr) ⟨evS, ⟨evS, ⟨evS, trivial⟩⟩⟩) ?_; intro i101)
    refine JL_1 rfl (op_move rfl) (JL_1 rfl (op_extract (Ev.rfl' rfl) rfl) (JL_1 rfl (op_extract (Ev.rfl' rfl) rfl) (JL_1 rfl (op_extract (Ev.rfl' rfl) rfl) (JL_1 rfl (op_extract (Ev.rfl' rfl) rfl) (JL_1 rfl (op_assign rfl) (JL_1 rfl (op_assign rfl) (JL_s0 (op_storeN (Ev.rfl' rfl) (Ev.rfl' rfl) cellsT replT nrmT (by rfl) (by rfl) (by rfl)) ?_)))))))
    refine JL_1 rfl (op_assign rfl) (JL_nil ?_)
    refine JQ_block (JQ_then (JC_seq (JC_seq ?_)))
    rw [hpe]
    refine JC_region (JL_1 rfl (op_move rfl) (JL_1 rfl (op_move rfl) ?_))
    (refine JL_i0 rfl rfl rfl (fun hg => (by have hg0 := hg; (try simp at hg); exact op_fieldPtr (k := 0) evG rfl rfl rfl rfl)) ?_)
    (refine JL_i0 rfl rfl rfl (fun hg => (by have hg0 := hg; (try simp at hg); exact op_loadPtr evG memT (by rfl) (by rfl) (by rfl))) ?_)
    (refine JL_i0 rfl rfl rfl (fun hg => (by have hg0 := hg; (try simp at hg); exact op_eql evG evG)) ?_)
    (refine JL_i0 rfl rfl rfl (fun hg => (by have hg0 := hg; (try simp at hg); exact op_moveE (Ev.sub rfl (SubL.iteT (by assumption) SubL.rfl')))) ?_)
    (refine JL_i0 rfl rfl rfl (fun hg => (by have hg0 := hg; (try simp at hg); exact op_fieldPtr (k := 0) evG rfl rfl rfl rfl)) ?_)
    (refine JL_i0 rfl rfl rfl (fun hg => (by have hg0 := hg; (try simp at hg); exact op_loadPtr evG memT (by rfl) (by rfl) (by rfl))) ?_)
    (refine JL_i0 rfl rfl rfl (fun hg => (by have hg0 := hg; (try simp at hg); exact op_eql evG evG)) ?_)
    (refine JL_i0 rfl rfl rfl (fun hg => (by have hg0 := hg; (try simp at hg); exact op_and evG rfl (fun h => by exact SubL.iteT (by (rw [h]; rfl)) SubL.rfl'))) ?_)
    (refine JL_i0 rfl rfl rfl (fun hg => (by have hg0 := hg; (try simp at hg); exact op_not evG)) ?_)
    refine JL_1 rfl (op_and (Ev.rfl' rfl) rfl (fun h => by exact SubL.rfl')) ?_
    refine JL_nil (JQ_then ?_)
    refine JC_cond (Ev.rfl' rfl) (fun h22 => ?_) (fun h22 => ?_)
    · refine JC_region (JL_1 rfl (by exact op_fieldPtr (k := 2) (Ev.rfl' rfl) rfl rfl rfl rfl) ?_)
      refine JL_s0 (op_storeN (Ev.rfl' rfl) (Ev.rfl' rfl) cellsT replT nrmT (by rfl) (by rfl) (by rfl)) ?_
      refine JL_nil ?_
      refine JQ_then (JC_seq ?_)
      refine JC_region (JL_1 rfl (op_move rfl) (JL_1 rfl (op_call Tryz.call63 (SortFunc_ok _ hasc hln) ⟨evS, ⟨evS, trivial⟩⟩) ?_))
      refine JL_nil ?_
      refine JQ_then (JC_seq ?_)
      refine JC_dr rfl (by kernel_rfl) ?_
      refine JD_fl (its := []) (JF_1 0 rfl (by kernel_rfl) (op_move rfl) ?_)
      refine JF_1 1 rfl (by kernel_rfl) (op_move rfl) ?_
      refine JF_1 2 rfl (by kernel_rfl) (by exact op_loadPtrsN (n := 5) (Ev.rfl' rfl) memT (by rfl) (by rfl) (by rfl) (by rfl) nrmT) ?_
      refine JF_1f 3 rfl (by kernel_rfl) (fun _ => (op_move rfl)) ?_
      refine JF_1 4 rfl (by kernel_rfl) (op_assign rfl) ?_
      refine JF_1 5 rfl (by kernel_rfl) (op_assign rfl) ?_
      refine JF_b0 6 [0, 1, 2, 4, 5, 6] rfl (by kernel_rfl) (fun c' => by exact op_store (Ev.rfl' rfl) (Ev.rfl' rfl) cellsT replT (by rfl) (by rfl) (by rfl)) ?_
      refine JF_1 7 rfl (by kernel_rfl) (op_assign rfl) ?_
      refine JF_end (by kernel_rfl) rfl ?_
      refine JQ_then (JC_ret ?_)
      exact JQ_retP (Bs := [IsSl tI64 [], IsSl tPg (nx5 o ks g N ws).1, IsEout (blkE (nx5 o ks g N ws).2), Is (.bool true)]) Tryz.results43 ⟨⟨_, rfl, subT⟩, ⟨⟨_, rfl, subT⟩, ⟨⟨_, _, _, _, rfl, memT, rfl, .inr ⟨rfl, _, rfl, rfl, subT⟩⟩, ⟨⟨_, rfl, subT⟩, trivial⟩⟩⟩⟩ () SubL.rfl' lessT
    exact absurd h22 (by simp [hk1])
  exact absurd h20 (by simp [hk1])
end Go.Proofs.YtfkmbdpnjcgimaaGreat

/- Contracts: pages freed, one or two of one segment: the closure. Own work. -/
namespace Go.Proofs.YtfkmbdpnjcgimaaGreat
open Go.RowKit
set_option linter.unusedVariables false
set_option linter.unusedSimpArgs false
set_option maxRecDepth 100000
-- segment.Free$1: function 99
theorem freeC_ok (a b : Pt) : FnP Tryz.prog 99 [IsPt a, IsRef (tPt.cells b)] (Is (.bool (a.line == b.line))) := by
  refine FnP.enter Tryz.func99 Tryz.ntmps99 rfl rfl ?_
  intro c hX
  refine JC_seq (JC_region ?_)
  (refine JL_n rfl (op_box (Ev.rfl' rfl) cellsT) ?_; intro i2)
  refine JL_1 rfl (op_assign rfl) (JL_nil ?_)
  refine JQ_then (JC_seq ?_)
  refine JC_region (JL_1 rfl (by exact op_fieldPtr (k := 0) (Ev.rfl' rfl) rfl rfl rfl rfl) ?_)
  refine JL_1 rfl (by exact op_loadPtr (Ev.rfl' rfl) memT (by rfl) (by rfl) (by rfl)) ?_
  refine JL_1 rfl (by exact op_fieldRefN (k := 0) (Ev.rfl' rfl) rfl rfl rfl rfl nrmT) ?_
  refine JL_1 rfl (by exact op_loadRef (Ev.rfl' rfl) rfl rfl rfl) ?_
  refine JL_1 rfl (op_eql (Ev.rfl' rfl) (Ev.rfl' rfl)) (JL_1 rfl (op_assign rfl) (JL_nil ?_))
  refine JQ_then (JC_ret ?_)
  refine JQ_ret1 Tryz.results99 rfl () (SubL.eq ?_) (List.nil_sublist _)
  rfl
-- slices.IndexFunc[[]bodega/pointer.Pointer,bodega/pointer.Pointer]: function 116
set_option maxHeartbeats 1000000 in
theorem IndexL_ok (xs : List Pt) (p : Pt) (hl : xs.length ≤ 4) (hno : ∀ x, x ∈ xs → ¬ x.line = p.line) : FnP Tryz.prog 116 [IsSl tPt xs, IsFn 99 [IsRef (tPt.cells p)]] (Is (.int .i64 (-1))) := by
  refine FnP.enter Tryz.func116 Tryz.ntmps116 rfl rfl ?_
  intro c hX
  refine JC_seq (JC_region (JL_1 rfl (op_assign rfl) (JL_nil ?_)))
  refine JQ_then (JC_seq (JC_seq ?_))
  refine JC_region (JL_1 rfl (op_move rfl) (JL_1 rfl (by exact op_len (Ev.rfl' rfl) rfl) ?_))
  refine JL_1 rfl (op_move rfl) (JL_nil ?_)
  refine JQ_then (JC_block ?_)
  refine JC_loopP (fun k : Nat => k ≤ xs.length) (fun k => [(0, IsSl tPt xs), (1, IsFn 99 [IsRef (tPt.cells p)]), (7, Is (.int .i64 (xs.length : Nat))), (8, Is (.int .i64 (k : Nat)))]) (fun _ => []) (fun k => xs.length - k) 0 (Nat.zero_le _) esubT lessT ?_
  intro k hk
  refine JC_seq (JC_region (JL_1 rfl (op_lss (Ev.rfl' rfl) (Ev.rfl' rfl)) (JL_nil ?_)))
  refine JQ_then (JC_seq ?_)
  refine JC_cond (Ev.rfl' rfl) (fun h2 => ?_) (fun h2 => ?_)
  · have hlt : k < xs.length := by have := of_decide_eq_true h2; omega
    clear h2
    obtain ⟨x, hx⟩ : ∃ x, xs[k]? = some x := ⟨_, List.getElem?_eq_getElem hlt⟩
    have hnx := hno x (List.mem_of_getElem? hx)
    refine JC_skip (JQ_then (JC_seq (JC_block (JC_seq ?_))))
    refine JC_region (JL_1 rfl (op_move rfl) (JL_1 rfl (op_assign rfl) (JL_nil ?_)))
    refine JQ_then (JC_seq ?_)
    refine JC_region (JL_1 rfl (op_move rfl) (JL_1 rfl (op_move rfl) (JL_1 rfl (op_move rfl) (JL_1 rfl (by exact op_index (j := k) (Ev.rfl' rfl) (Ev.rfl' rfl) rfl rfl (by rfl) hx) ?_))))
    refine JL_1 rfl (by exact op_loadRefsN (n := 2) (Ev.rfl' rfl) rfl rfl rfl (by rfl) nrmT) ?_
    refine JL_1 rfl (op_callFn (As := [IsPt x]) (Ev.rfl' rfl) Tryz.call99 (freeC_ok x p) ⟨evS, trivial⟩) ?_
    refine JL_nil (JQ_then ?_)
    refine JC_cond (Ev.rfl' rfl) (fun h4 => ?_) (fun h4 => ?_)
    · exact absurd (by simpa using h4) hnx
    clear h4
    refine JC_skip (JQ_block (JQ_then ?_))
    refine JC_region (JL_1 rfl (op_add (Ev.rfl' rfl) (Ev.rfl' rfl) wrapT) ?_)
    refine JL_1 rfl (op_move rfl) (JL_nil ?_)
    exact JQ_roundP (k + 1) (by omega) (by omega) esubT lessT
  refine JC_exit (JQ_then_exit (JQ_then_exit (JQ_hit (JQ_then (JC_seq ?_)))))
  refine JC_region (JL_1 rfl (op_assign rfl) (JL_nil ?_))
  refine JQ_then (JC_ret ?_)
  refine JQ_ret1 Tryz.results116 rfl () (SubL.eq ?_) (List.nil_sublist _)
  rfl
-- slices.ContainsFunc[[]bodega/pointer.Pointer,bodega/pointer.Pointer]: function 98
theorem ContainsL_ok (xs : List Pt) (p : Pt) (hl : xs.length ≤ 4) (hno : ∀ x, x ∈ xs → ¬ x.line = p.line) : FnP Tryz.prog 98 [IsSl tPt xs, IsFn 99 [IsRef (tPt.cells p)]] (Is (.bool false)) := by
  refine FnP.enter Tryz.func98 Tryz.ntmps98 rfl rfl ?_
  intro c hX
  refine JC_seq (JC_region (JL_1 rfl (op_assign rfl) (JL_nil ?_)))
  refine JQ_then (JC_seq ?_)
  refine JC_region (JL_1 rfl (op_move rfl) (JL_1 rfl (op_move rfl) (JL_1 rfl (op_call Tryz.call116 (IndexL_ok xs p hl hno) ⟨evS, ⟨evS, trivial⟩⟩) ?_)))
  refine JL_1 rfl (op_geq (Ev.rfl' rfl) (Ev.rfl' rfl)) (JL_1 rfl (op_assign rfl) (JL_nil ?_))
  refine JQ_then (JC_ret ?_)
  refine JQ_ret1 Tryz.results98 rfl () (SubL.eq ?_) (List.nil_sublist _)
  rfl
end Go.Proofs.YtfkmbdpnjcgimaaGreat

/- Contracts: one or two pages of one segment freed. Own work. -/
namespace Go.Proofs.YtfkmbdpnjcgimaaGreat
open Go.RowKit
set_option linter.unusedVariables false
set_option linter.unusedSimpArgs false
set_option maxRecDepth 100000
/-- A page to be freed: its pointer, its place, the page, the page that is written. -/
structure Fd where
  p : Pt
  i : Nat
  q : Pg
  w : Pg
structure FdOk (ks : List Pg) (lines : Int) (s : Nat) (u : BitVec 32) (f : Fd) : Prop where
  loc : locV lines f.p.line = ((s : Int), (f.i : Int), true)
  i15 : f.i ≤ 15
  val : validP f.p = true
  lat : latP ks f.p.line = f.q
  lock : lockB f.q = false
  kd : kindV f.q.d0 ≠ 0
  gn : genV f.q.d0 = f.p.gen
  rel : relP f.q = (f.w, 0)
  bit : bitB u f.i = true
def clrV (u : BitVec 32) (fs : List Fd) : BitVec 32 := fs.foldl (fun v f => v &&& ~~~(BitVec.ofInt 32 1 <<< f.i)) u
theorem clrV_snoc (u : BitVec 32) (fs : List Fd) (f : Fd) : clrV u (fs ++ [f]) = clrV u fs &&& ~~~(BitVec.ofInt 32 1 <<< f.i) := by
  unfold clrV; rw [List.foldl_append]; rfl
def frLines (s : Nat) (fs : List Fd) : List Int := fs.flatMap fun f => [f.p.line, lineV s]
theorem frLines_snoc (s : Nat) (fs : List Fd) (f : Fd) : frLines s (fs ++ [f]) = frLines s fs ++ [f.p.line, lineV s] := by
  unfold frLines; rw [List.flatMap_append]; simp
def frPg (s : Nat) (ph : Pg) (k : Nat) : List (Int × Pg) := if k = 0 then [] else [((s : Int), ph)]
def frHd (s : Nat) (o : Int) (u : BitVec 32) (fs : List Fd) (k : Nat) : List (Int × Hd) := if k = 0 then [] else [((s : Int), ⟨o, clrV u (fs.take k)⟩)]

theorem frLines_len (s : Nat) (fs : List Fd) : (frLines s fs).length = 2 * fs.length := by
  unfold frLines
  induction fs with
  | nil => rfl
  | cons f fs ih => rw [List.flatMap_cons, List.length_append, ih, List.length_cons]; simp; omega
theorem frTake {fs : List Fd} {k : Nat} {f : Fd} (h : fs[k]? = some f) : fs.take (k + 1) = fs.take k ++ [f] := by
  rw [List.take_add_one, h]; rfl
theorem frW {fs : List Fd} {k : Nat} {f : Fd} (h : fs[k]? = some f) : (fs.map Fd.w).take (k + 1) = (fs.map Fd.w).take k ++ [f.w] := by
  rw [← List.map_take, frTake h, List.map_append, List.map_take]; rfl
theorem frNo {fs : List Fd} {k : Nat} {f : Fd} (hnd : (fs.map fun f => f.p.line).Nodup) (hf : fs[k]? = some f) : ∀ x, x ∈ (fs.map Fd.p).take k → ¬ x.line = f.p.line := fun x hx e => by
  rw [← List.map_take] at hx
  obtain ⟨f', h1, rfl⟩ := List.mem_map.1 hx
  obtain ⟨j, hj⟩ := List.getElem?_of_mem h1
  have hjk : j < k := by
    have := (List.getElem?_eq_some_iff.1 hj).1
    rw [List.length_take] at this; omega
  have hj' : fs[j]? = some f' := by
    rw [List.getElem?_take_of_lt hjk] at hj; exact hj
  have a1 : (fs.map fun f => f.p.line)[j]? = some f'.p.line := by rw [List.getElem?_map, hj']; rfl
  have a2 : (fs.map fun f => f.p.line)[k]? = some f.p.line := by rw [List.getElem?_map, hf]; rfl
  have := (List.getElem?_inj (List.getElem?_eq_some_iff.1 a1).1 hnd).1 (a1.trans (by rw [a2, e]))
  omega
theorem getHd (s : Nat) (o : Int) (u : BitVec 32) (fs : List Fd) (k : Nat) : mget (frHd s o u fs k) (s : Int) = if k = 0 then none else some ⟨o, clrV u (fs.take k)⟩ := by
  unfold frHd
  split <;> simp [mget]
theorem putPg (s : Nat) (ph : Pg) (k : Nat) : mput (frPg s ph k) (s : Int) ph = frPg s ph (k + 1) := by
  unfold frPg
  rw [if_neg (Nat.succ_ne_zero k)]
  split <;> simp [mput]
theorem putHd {s : Nat} {o : Int} {u : BitVec 32} {fs : List Fd} {k : Nat} {f : Fd} (hf : fs[k]? = some f) : mput (frHd s o u fs k) (s : Int) ⟨o, clrV u (fs.take k) &&& ~~~(BitVec.ofInt 32 1 <<< f.i)⟩ = frHd s o u fs (k + 1) := by
  unfold frHd
  rw [if_neg (Nat.succ_ne_zero k), frTake hf, clrV_snoc]
  split <;> simp [mput]
theorem asc_desc {xs ys zs : List Pg} (hs : Srt Pg.l 0 xs.length ys) (hp : PI 0 xs.length xs ys) (hz : zs.Perm xs) (ha : zs.Pairwise (fun x y => x.l < y.l)) : ys = zs := by
  have hl : ys.length = xs.length := hp.len
  have hn : (zs.map Pg.l).Nodup := by
    rw [List.Nodup, List.pairwise_map]
    exact ha.imp fun h => by omega
  have hd : (ys.map Pg.l).Nodup := (((hp.perm.trans hz.symm).map Pg.l).nodup_iff).2 hn
  exact asc_unique (key := Pg.l) (hp.perm.trans hz.symm) (srt_asc (by rw [hl]; exact hs) hd) ha
-- segment.Free: function 78
set_option maxHeartbeats 4000000 in
theorem FreeN_ok (ks : List Pg) (lines : Int) (fs : List Fd) (s : Nat) (ph wh : Pg) (o : Int) (u : BitVec 32) (zs : List Pg) (hz0 : sizeB lines = true) (hs : s ≤ 8) (hn1 : 1 ≤ fs.length) (hn2 : fs.length ≤ 2) (hfs : ∀ f, f ∈ fs → FdOk ks lines s u f) (hnd : (fs.map fun f => f.p.line).Nodup) (hm : missV ks (frLines s fs) = [])
    (hhd : headV ks s = (ph, ⟨o, u⟩, true, 0)) (hwh : (writeH ph ⟨o, clrV u fs⟩).1 = wh) (hzp : zs.Perm (fs.map Fd.w ++ [wh])) (hza : zs.Pairwise (fun x y => x.l < y.l)) :
    Fn Tryz.prog 78 [Is (.int .i64 lines), IsSl tPt (fs.map Fd.p), IsSl tPg ks] [] (fun i : Option Addr × Nat => IsTup [Top, Is (slV (fs.length + 1) i), Is (.int .i64 0), Is (.bool true)]) (fun i => [buf (slV (fs.length + 1) i) 51 tPg zs]) := by
  have hheader := header_ok ks s
  rw [hhd] at hheader
  (try dsimp only at hheader)
  have hlv := line_rng (s : Int)
  have hpn : (fs.map Fd.p).length = fs.length := List.length_map _
  refine Fn.enterN Tryz.func78 Tryz.ntmps78 rfl rfl ?_
  intro c hX
  refine JC_seq (JC_region (JL_1 rfl (op_assign rfl) (JL_1 rfl (op_assign rfl) (JL_1 rfl (op_assign rfl) (JL_1 rfl (op_assign rfl) (JL_nil ?_))))))
  refine JQ_then (JC_seq (JC_seq ?_))
  refine JC_region (JL_1 rfl (op_move rfl) (JL_1 rfl (op_call Tryz.call24 (isSize_ok _) ⟨evS, trivial⟩) ?_))
  refine JL_1 rfl (op_not (Ev.rfl' rfl)) (JL_1 rfl (op_move rfl) ?_)
  (refine JL_i0 rfl rfl rfl (fun hg => (by have hg0 := hg; (try simp at hg); exact op_moveE (Ev.rfl' rfl))) ?_)
  (refine JL_i0 rfl rfl rfl (fun hg => (by have hg0 := hg; (try simp at hg); exact op_len evG rfl)) ?_)
  (refine JL_i0 rfl rfl rfl (fun hg => (by have hg0 := hg; (try simp at hg); exact op_lss evG evG)) ?_)
  refine JL_1 rfl (op_or (Ev.rfl' rfl) rfl (fun h => by exact SubL.iteT (by (rw [h]; rfl)) SubL.rfl')) ?_
  refine JL_1 rfl (op_move rfl) ?_
  (refine JL_i0 rfl rfl rfl (fun hg => (by have hg0 := hg; (try simp at hg); exact op_moveE (Ev.rfl' rfl))) ?_)
  (refine JL_i0 rfl rfl rfl (fun hg => (by have hg0 := hg; (try simp at hg); exact op_len evG rfl)) ?_)
  (refine JL_i0 rfl rfl rfl (fun hg => (by have hg0 := hg; (try simp at hg); exact op_gtr evG evG)) ?_)
  refine JL_1 rfl (op_or (Ev.rfl' rfl) rfl (fun h => by exact SubL.iteT (by (rw [h]; rfl)) SubL.rfl')) ?_
  refine JL_nil (JQ_then ?_)
  refine JC_cond (Ev.rfl' rfl) (fun h1 => ?_) (fun h1 => ?_)
  · exact absurd h1 (by rw [hz0]; simp; omega)
  clear h1
  refine JC_skip (JQ_then (JC_seq ?_))
  refine JC_region (JL_1 rfl (op_assign rfl) (JL_nil ?_))
  refine JQ_then (JC_seq (JC_seq ?_))
  refine JC_region (JL_1 rfl (op_move rfl) (JL_1 rfl (by exact op_len (Ev.rfl' rfl) rfl) ?_))
  refine JL_1 rfl (op_move rfl) (JL_nil ?_)
  refine JQ_then (JC_block ?_)
  refine JC_buf0 3 tI64 (JC_loopP (fun z : Nat × WA => z.1 ≤ fs.length) (fun z => [(0, Is (.int .i64 lines)), (1, IsSl tPt (fs.map Fd.p)), (2, IsSl tPg ks), (7, Is (.slice none 0 0)), (10, Is (slV (frLines s (fs.take z.1)).length z.2)), (50, IsSl tPt (fs.map Fd.p)), (51, Is (.int .i64 ((fs.map Fd.p).length : Nat))), (52, Is (.int .i64 (z.1 : Nat)))]) (fun z => [buf (slV (frLines s (fs.take z.1)).length z.2) 3 tI64 (frLines s (fs.take z.1))]) (fun z => fs.length - z.1) (0, (none, 0)) (Nat.zero_le _) esubT lessT ?_)
  rintro ⟨k, a1⟩ hk
  dsimp only at hk ⊢
  refine JC_seq (JC_region (JL_1 rfl (op_lss (Ev.rfl' rfl) (Ev.rfl' rfl)) (JL_nil ?_)))
  refine JQ_then (JC_seq ?_)
  refine JC_cond (Ev.rfl' rfl) (fun h5 => ?_) (fun h5 => ?_)
  · have hlt : k < fs.length := by have := of_decide_eq_true h5; omega
    clear h5
    obtain ⟨f, hf⟩ : ∃ f, fs[k]? = some f := ⟨_, List.getElem?_eq_getElem hlt⟩
    have hF := hfs f (List.mem_of_getElem? hf)
    have hx : (fs.map Fd.p)[k]? = some f.p := by rw [List.getElem?_map, hf]; rfl
    have hlocate := Locate_ok lines f.p.line
    rw [hF.loc] at hlocate
    (try dsimp only at hlocate)
    have htl : ((fs.map Fd.p).take k).length ≤ 4 := by rw [List.length_take]; omega
    have hfl : (frLines s (fs.take k)).length ≤ 4 := by rw [frLines_len, List.length_take]; omega
    refine JC_skip (JQ_then (JC_seq (JC_block (JC_seq ?_))))
    refine JC_region (JL_1 rfl (op_move rfl) (JL_1 rfl (by exact op_index (j := k) (Ev.rfl' rfl) (Ev.rfl' rfl) rfl rfl (by rfl) hx) ?_))
    refine JL_1 rfl (by exact op_loadRefsN (n := 2) (Ev.rfl' rfl) rfl rfl rfl (by rfl) nrmT) ?_
    (refine JL_n rfl (op_allocN rfl nrmT rfl) ?_; intro i12)
    refine JL_1 rfl (op_assign rfl) (JL_s0 (op_storeN (Ev.rfl' rfl) (Ev.rfl' rfl) cellsT replT nrmT (by rfl) (by rfl) (by rfl)) ?_)
    refine JL_nil ?_
    refine JQ_then (JC_seq ?_)
    refine JC_freezeB (b := i12) hX replT ?_
    refine JC_set 12 (IsRef (tPt.cells f.p)) rfl (SubL.fact memT) ?_
    have hnol : ∀ x, x ∈ (fs.map Fd.p).take k → ¬ x.line = f.p.line := frNo hnd hf
    refine JC_region (JL_1 rfl (op_move rfl) (JL_1 rfl (by exact op_fieldRefN (k := 0) (Ev.rfl' rfl) rfl rfl rfl rfl nrmT) ?_))
    refine JL_1 rfl (by exact op_loadRef (Ev.rfl' rfl) rfl rfl rfl) ?_
    refine JL_1 rfl (op_call Tryz.call97 (hlocate) ⟨evS, ⟨evS, trivial⟩⟩) ?_
    refine JL_1 rfl (op_move rfl) (JL_1 rfl (op_extract (Ev.rfl' rfl) rfl) (JL_1 rfl (op_extract (Ev.rfl' rfl) rfl) (JL_1 rfl (op_extract (Ev.rfl' rfl) rfl) (JL_1 rfl (op_assign rfl) (JL_1 rfl (op_assign rfl) (JL_1 rfl (op_assign rfl) (JL_nil ?_)))))))
    refine JQ_then (JC_seq ?_)
    refine JC_region (JL_1 rfl (op_move rfl) (JL_1 rfl (op_move rfl) (JL_1 rfl (op_slice (Ev.rfl' rfl) rfl rfl rfl ⟨_, _, (Ev.rfl' rfl), (show _ = ((k : Nat) : Int) by rfl)⟩ (by omega) (by omega)) ?_)))
    refine JL_1 rfl (op_makeFunc (Cs := [IsRef (tPt.cells f.p)]) ⟨evS, trivial⟩) ?_
    refine JL_1 rfl (op_call Tryz.call98 (ContainsL_ok _ f.p htl hnol) ⟨evS, ⟨evS, trivial⟩⟩) ?_
    refine JL_1 rfl (op_assign rfl) (JL_nil ?_)
    refine JQ_then (JC_seq (JC_seq ?_))
    refine JC_region (JL_1 rfl (by exact op_loadRefsN (n := 2) (Ev.rfl' rfl) rfl rfl rfl (by rfl) nrmT) ?_)
    refine JL_1 rfl (op_call Tryz.call45 (ValidP_ok _) ⟨evS, trivial⟩) ?_
    refine JL_1 rfl (op_not (Ev.rfl' rfl)) (JL_1 rfl (op_move rfl) ?_)
    (refine JL_i0 rfl rfl rfl (fun hg => (by have hg0 := hg; (try simp at hg); exact op_moveE (Ev.rfl' rfl))) ?_)
    (refine JL_i0 rfl rfl rfl (fun hg => (by have hg0 := hg; (try simp at hg); exact op_not evG)) ?_)
    refine JL_1 rfl (op_or (Ev.rfl' rfl) rfl (fun h => by exact SubL.iteT (by (rw [h]; rfl)) SubL.rfl')) ?_
    refine JL_1 rfl (op_move rfl) ?_
    (refine JL_i0 rfl rfl rfl (fun hg => (by have hg0 := hg; (try simp at hg); exact op_moveE (Ev.rfl' rfl))) ?_)
    refine JL_1 rfl (op_or (Ev.rfl' rfl) rfl (fun h => by exact SubL.iteT (by (rw [h]; rfl)) SubL.rfl')) ?_
    refine JL_nil (JQ_then ?_)
    refine JC_cond (Ev.rfl' rfl) (fun h9 => ?_) (fun h9 => ?_)
    · exact absurd h9 (by rw [hF.val]; simp)
    clear h9
    refine JC_skip (JQ_then ?_)
    refine JC_dr rfl (by kernel_rfl) ?_
    refine JD_stretch 6 (by kernel_rfl) ?_
    refine JW_1 (op_move rfl) (JW_1 (by exact op_fieldRefN (k := 0) (Ev.rfl' rfl) rfl rfl rfl rfl nrmT) ?_)
    refine JW_1 (by exact op_loadRef (Ev.rfl' rfl) rfl rfl rfl) ?_
    refine JW_1 (op_move rfl) (JW_1 (op_call Tryz.call32 (HeaderLine_ok _) ⟨evS, trivial⟩) ?_)
    refine JW_1 (op_buildSlice (size := 1) (qs := [(0, _), (1, _)]) rfl rfl rfl ⟨⟨rfl, _, (Ev.rfl' rfl), cellsT⟩, ⟨⟨rfl, _, (Ev.rfl' rfl), cellsT⟩, trivial⟩⟩ (by rfl) (by rfl)) ?_
    refine ⟨rfl, ?_⟩
    (refine JD_s (by kernel_rfl) rfl rfl (op_app (Ev.rfl' rfl) (fun _ => replT) (by exact Ev.sub rfl (by exact SubL.row (xs := [f.p.line, lineV s]) (by rfl) (by rfl) subsT)) (by exact appT rfl rfl rfl) lenT) ?_; intro i86)
    refine JD_1 (by kernel_rfl) rfl rfl (op_assign rfl) ?_
    refine JD_end ?_
    refine JQ_block (JQ_then ?_)
    rw [← frLines_snoc, ← frTake hf]
    refine JC_region (JL_1 rfl (op_add (Ev.rfl' rfl) (Ev.rfl' rfl) wrapT) ?_)
    refine JL_1 rfl (op_move rfl) (JL_nil ?_)
    exact JQ_roundP (k + 1, i86) (by dsimp only; omega) (by dsimp only; omega) esubT lessT
  have hk1 : k = fs.length := by have := of_decide_eq_false h5; omega
  subst hk1
  clear h5
  rw [List.take_length]
  refine JC_freeze hX (v := slV (frLines s fs).length a1) replT ?_
  refine JC_set 10 (IsSl tI64 (frLines s fs)) rfl (SubL.fact memT) ?_
  refine JC_exit (JQ_then_exit (JQ_then_exit (JQ_hit (JQ_then (JC_seq (JC_seq ?_))))))
  refine JC_region (JL_1 rfl (op_move rfl) (JL_1 rfl (op_move rfl) (JL_1 rfl (op_call Tryz.call25 (missNil_ok _ _ hm) ⟨evS, ⟨evS, trivial⟩⟩) ?_)))
  refine JL_1 rfl (op_assign rfl) (JL_nil ?_)
  refine JQ_then (JC_seq ?_)
  refine JC_region (JL_1 rfl (op_move rfl) (JL_1 rfl (by exact op_lenLit (Ev.rfl' rfl) rfl) ?_))
  refine JL_1 rfl (op_gtr (Ev.rfl' rfl) (Ev.rfl' rfl)) (JL_nil (JQ_then ?_))
  refine JC_cond (Ev.rfl' rfl) (fun h14 => ?_) (fun h14 => ?_)
  · exact absurd h14 (by simp)
  refine JC_skip (JQ_then (JC_seq ?_))
  refine JC_region ?_
  (refine JL_n rfl (op_makeMap IsPg) ?_; intro i95)
  (refine JL_n rfl (op_makeMap IsHd) ?_; intro i96)
  refine JL_1 rfl (op_assign rfl) (JL_1 rfl (op_assign rfl) (JL_nil ?_))
  refine JQ_then (JC_seq (JC_seq ?_))
  refine JC_region (JL_1 rfl (op_move rfl) (JL_1 rfl (by exact op_len (Ev.rfl' rfl) rfl) ?_))
  refine JL_1 rfl (op_move rfl) (JL_nil ?_)
  refine JQ_then (JC_block ?_)
  refine JC_buf0 51 tPg (JC_loopP (fun z : Nat × WA => z.1 ≤ fs.length) (fun z => [(0, Is (.int .i64 lines)), (1, IsSl tPt (fs.map Fd.p)), (2, IsSl tPg ks), (7, Is (slV ((fs.map Fd.w).take z.1).length z.2)), (17, Is (.map (some i95))), (18, Is (.map (some i96))), (97, IsSl tPt (fs.map Fd.p)), (98, Is (.int .i64 ((fs.map Fd.p).length : Nat))), (99, Is (.int .i64 (z.1 : Nat)))]) (fun z => [mp i95 IsPg (frPg s ph z.1), mp i96 IsHd (frHd s o u fs z.1), buf (slV ((fs.map Fd.w).take z.1).length z.2) 51 tPg ((fs.map Fd.w).take z.1)]) (fun z => fs.length - z.1) (0, (none, 0)) (Nat.zero_le _) esubT lessT ?_)
  rintro ⟨k, a1⟩ hk
  dsimp only at hk ⊢
  refine JC_seq (JC_region (JL_1 rfl (op_lss (Ev.rfl' rfl) (Ev.rfl' rfl)) (JL_nil ?_)))
  refine JQ_then (JC_seq ?_)
  refine JC_cond (Ev.rfl' rfl) (fun h18 => ?_) (fun h18 => ?_)
  · have hlt : k < fs.length := by have := of_decide_eq_true h18; omega
    clear h18
    obtain ⟨f, hf⟩ : ∃ f, fs[k]? = some f := ⟨_, List.getElem?_eq_getElem hlt⟩
    have hF := hfs f (List.mem_of_getElem? hf)
    have hx : (fs.map Fd.p)[k]? = some f.p := by rw [List.getElem?_map, hf]; rfl
    have hlocate := Locate_ok lines f.p.line
    rw [hF.loc] at hlocate
    (try dsimp only at hlocate)
    have hlatest := LatestP_ok ks f.p.line
    rw [hF.lat] at hlatest
    have hrelease := Release_ok f.q
    rw [hF.rel] at hrelease
    (try dsimp only at hrelease)
    have hi15 := hF.i15
    have hmgh := getHd s o u fs k
    have hpp := putPg s ph k
    have hph := putHd (s := s) (o := o) (u := u) hf
    have hww := frW hf
    refine JC_skip (JQ_then (JC_seq (JC_block (JC_seq ?_))))
    refine JC_region (JL_1 rfl (by exact op_index (j := k) (Ev.rfl' rfl) (Ev.rfl' rfl) rfl rfl (by rfl) hx) ?_)
    refine JL_1 rfl (by exact op_loadRefsN (n := 2) (Ev.rfl' rfl) rfl rfl rfl (by rfl) nrmT) ?_
    (refine JL_n rfl (op_allocN rfl nrmT rfl) ?_; intro i20)
    refine JL_s0 (op_storeN (Ev.rfl' rfl) (Ev.rfl' rfl) cellsT replT nrmT (by rfl) (by rfl) (by rfl)) ?_
    refine JL_nil ?_
    refine JQ_then (JC_seq ?_)
    refine JC_region (JL_1 rfl (op_move rfl) (JL_1 rfl (by exact op_fieldPtr (k := 0) (Ev.rfl' rfl) rfl rfl rfl rfl) ?_))
    refine JL_1 rfl (by exact op_loadPtr (Ev.rfl' rfl) memT (by rfl) (by rfl) (by rfl)) ?_
    refine JL_1 rfl (op_call Tryz.call97 (hlocate) ⟨evS, ⟨evS, trivial⟩⟩) ?_
    refine JL_1 rfl (op_move rfl) (JL_1 rfl (op_extract (Ev.rfl' rfl) rfl) (JL_1 rfl (op_extract (Ev.rfl' rfl) rfl) (JL_1 rfl (op_extract (Ev.rfl' rfl) rfl) (JL_1 rfl (op_assign rfl) (JL_1 rfl (op_assign rfl) (JL_1 rfl (op_assign rfl) (JL_nil ?_)))))))
    refine JQ_then (JC_seq ?_)
    refine JC_region (JL_1 rfl (op_move rfl) (JL_1 rfl (by exact op_fieldPtr (k := 0) (Ev.rfl' rfl) rfl rfl rfl rfl) ?_))
    refine JL_1 rfl (by exact op_loadPtr (Ev.rfl' rfl) memT (by rfl) (by rfl) (by rfl)) ?_
    refine JL_1 rfl (op_call Tryz.call37 (hlatest) ⟨evS, ⟨evS, trivial⟩⟩) ?_
    refine JL_1 rfl (op_move rfl) (JL_1 rfl (op_extract (Ev.rfl' rfl) rfl) (JL_1 rfl (op_extract (Ev.rfl' rfl) rfl) ?_))
    (refine JL_n rfl (op_allocN rfl nrmT rfl) ?_; intro i24)
    refine JL_s0 (op_storeN (Ev.rfl' rfl) (Ev.rfl' rfl) cellsT replT nrmT (by rfl) (by rfl) (by rfl)) ?_
    refine JL_1 rfl (op_assign rfl) (JL_nil ?_)
    refine JQ_then (JC_seq ?_)
    refine JC_region (JL_1 rfl (by exact op_fieldPtr (k := 2) (Ev.rfl' rfl) rfl rfl rfl rfl) ?_)
    refine JL_1 rfl (op_indexArr (k := 0) (sz := 1) (Ev.rfl' rfl) (Ev.rfl' rfl) rfl rfl idxT (by decide)) ?_
    refine JL_1 rfl (by exact op_loadPtr (Ev.rfl' rfl) memT (by rfl) (by rfl) (by rfl)) ?_
    refine JL_1 rfl (op_call Tryz.call38 (UnpackTag_ok _) ⟨evS, trivial⟩) ?_
    (refine JL_n rfl (op_allocN rfl nrmT rfl) ?_; intro i26)
    refine JL_s0 (op_storeN (Ev.rfl' rfl) (Ev.rfl' rfl) cellsT replT nrmT (by rfl) (by rfl) (by rfl)) ?_
    refine JL_nil ?_
    refine JQ_then (JC_seq (JC_seq ?_))
    refine JC_region (JL_1 rfl (by exact op_loadPtrsN (n := 9) (Ev.rfl' rfl) memT (by rfl) (by rfl) (by rfl) (by rfl) nrmT) ?_)
    refine JL_1 rfl (op_call Tryz.call39 (LockedB_ok _) ⟨evS, trivial⟩) ?_
    refine JL_nil (JQ_then ?_)
    refine JC_cond (Ev.rfl' rfl) (fun h23 => ?_) (fun h23 => ?_)
    · exact absurd h23 (by rw [hF.lock]; simp)
    refine JC_skip (JQ_then (JC_seq (JC_seq ?_)))
    refine JC_region (JL_1 rfl (by exact op_fieldPtr (k := 0) (Ev.rfl' rfl) rfl rfl rfl rfl) ?_)
    refine JL_1 rfl (by exact op_loadPtr (Ev.rfl' rfl) memT (by rfl) (by rfl) (by rfl)) ?_
    refine JL_1 rfl (op_eql (Ev.rfl' rfl) (Ev.rfl' rfl)) (JL_1 rfl (op_move rfl) ?_)
    (refine JL_i0 rfl rfl rfl (fun hg => (by have hg0 := hg; (try simp at hg); exact op_fieldPtr (k := 1) evG rfl rfl rfl rfl)) ?_)
    (refine JL_i0 rfl rfl rfl (fun hg => (by have hg0 := hg; (try simp at hg); exact op_loadPtr evG memT (by rfl) (by rfl) (by rfl))) ?_)
    (refine JL_i0 rfl rfl rfl (fun hg => (by have hg0 := hg; (try simp at hg); exact op_fieldPtr (k := 1) evG rfl rfl rfl rfl)) ?_)
    (refine JL_i0 rfl rfl rfl (fun hg => (by have hg0 := hg; (try simp at hg); exact op_loadPtr evG memT (by rfl) (by rfl) (by rfl))) ?_)
    (refine JL_i0 rfl rfl rfl (fun hg => (by have hg0 := hg; (try simp at hg); exact op_neq evG evG)) ?_)
    refine JL_1 rfl (op_or (Ev.rfl' rfl) rfl (fun h => by exact SubL.iteT (by (rw [h]; rfl)) SubL.rfl')) ?_
    refine JL_nil (JQ_then ?_)
    refine JC_cond (Ev.rfl' rfl) (fun h25 => ?_) (fun h25 => ?_)
    · exact absurd h25 (by simp [unpackT]; exact ⟨hF.kd, hF.gn⟩)
    clear h25
    refine JC_skip (JQ_then (JC_seq ?_))
    refine JC_region (JL_1 rfl (op_move rfl) (JL_1 rfl (op_move rfl) (JL_1 rfl (op_call Tryz.call31 (hheader) ⟨evS, ⟨evS, trivial⟩⟩) ?_)))
    refine JL_1 rfl (op_move rfl) (JL_1 rfl (op_extract (Ev.rfl' rfl) rfl) (JL_1 rfl (op_extract (Ev.rfl' rfl) rfl) (JL_1 rfl (op_extract (Ev.rfl' rfl) rfl) (JL_1 rfl (op_extract (Ev.rfl' rfl) rfl) ?_))))
    (refine JL_n rfl (op_allocN rfl nrmT rfl) ?_; intro i27)
    (refine JL_n rfl (op_allocN rfl nrmT rfl) ?_; intro i28)
    refine JL_s0 (op_storeN (Ev.rfl' rfl) (Ev.rfl' rfl) cellsT replT nrmT (by rfl) (by rfl) (by rfl)) ?_
    refine JL_s0 (op_storeN (Ev.rfl' rfl) (Ev.rfl' rfl) cellsT replT nrmT (by rfl) (by rfl) (by rfl)) ?_
    refine JL_1 rfl (op_assign rfl) (JL_1 rfl (op_assign rfl) (JL_nil ?_))
    refine JQ_then (JC_seq (JC_seq ?_))
    refine JC_region (JL_1 rfl (op_move rfl) (JL_1 rfl (op_neq (Ev.rfl' rfl) (Ev.rfl' rfl)) (JL_nil (JQ_then ?_))))
    refine JC_cond (Ev.rfl' rfl) (fun h28 => ?_) (fun h28 => ?_)
    · exact absurd h28 (by simp)
    refine JC_skip (JQ_then (JC_seq (JC_seq ?_)))
    refine JC_region (JL_1 rfl (by exact op_fieldPtr (k := 1) (Ev.rfl' rfl) rfl rfl rfl rfl) ?_)
    refine JL_1 rfl (by exact op_loadPtr (Ev.rfl' rfl) memT (by rfl) (by rfl) (by rfl)) ?_
    refine JL_1 rfl (op_move rfl) (JL_1 rfl (op_conv (Ev.rfl' rfl) rfl rfl convT) ?_)
    refine JL_1 rfl (by exact op_shrU32 (k := f.i) ev32 (Ev.rfl' rfl) (by omega) idxT) ?_
    refine JL_1 rfl (by exact op_bits ev32 ev32 (by simp) (and_u32 _ _)) ?_
    refine JL_1 rfl (op_eql (Ev.rfl' rfl) (Ev.rfl' rfl)) (JL_nil (JQ_then ?_))
    refine JC_cond (Ev.rfl' rfl) (fun h30 => ?_) (fun h30 => ?_)
    · exact absurd (by simpa using h30) (bit_no hF.bit)
    clear h30
    refine JC_skip (JQ_then (JC_seq (JC_seq ?_)))
    refine JC_region (JL_1 rfl (op_move rfl) (JL_1 rfl (op_move rfl) (JL_1 rfl (op_lookup2D Hd.nil hd_zero (Ev.rfl' rfl) memT (Ev.rfl' rfl) rfl rfl rfl) ?_)))
    refine JL_1 rfl (op_move rfl) (JL_1 rfl (op_extract (Ev.rfl' rfl) rfl) (JL_1 rfl (op_extract (Ev.rfl' rfl) rfl) ?_))
    (refine JL_n rfl (op_allocN rfl nrmT rfl) ?_; intro i31)
    refine JL_s0 (op_storeN (Ev.rfl' rfl) (Ev.rfl' rfl) cellsT replT nrmT (by rfl) (by rfl) (by rfl)) ?_
    refine JL_1 rfl (op_assign rfl) (JL_nil ?_)
    refine JQ_then (JC_seq ?_)
    refine JC_region (JL_1 rfl (op_move rfl) (JL_nil (JQ_then ?_)))
    refine JC_cond (Ev.rfl' rfl) (fun h33 => ?_) (fun h33 => ?_)
    · have hkk : ¬ k = 0 := fun e => by rw [hmgh, if_pos e] at h33; cases h33
      rw [if_neg hkk] at hmgh
      rw [hmgh]
      dsimp only [Option.getD]
      clear h33
      refine JC_region (JL_1 rfl (by exact op_loadPtrsN (n := 2) (Ev.rfl' rfl) memT (by rfl) (by rfl) (by rfl) (by rfl) nrmT) ?_)
      refine JL_s0 (op_storeN (Ev.rfl' rfl) (Ev.rfl' rfl) cellsT replT nrmT (by rfl) (by rfl) (by rfl)) ?_
      refine JL_nil ?_
      refine JQ_then (JC_seq ?_)
      refine JC_region (JL_1 rfl (by exact op_fieldPtr (k := 1) (Ev.rfl' rfl) rfl rfl rfl rfl) ?_)
      refine JL_1 rfl (by exact op_loadPtr (Ev.rfl' rfl) memT (by rfl) (by rfl) (by rfl)) ?_
      refine JL_1 rfl (op_move rfl) (JL_1 rfl (op_conv (Ev.rfl' rfl) rfl rfl convT) ?_)
      refine JL_1 rfl (by exact op_shlU32 (k := f.i) ev32 (Ev.rfl' rfl) (by omega) idxT) ?_
      refine JL_1 rfl (by exact op_bits ev32 ev32 (by simp) (andNot_u32 _ _)) ?_
      refine JL_1 rfl (by exact op_fieldPtr (k := 1) (Ev.rfl' rfl) rfl rfl rfl rfl) ?_
      refine JL_s0 (op_storeN (Ev.rfl' rfl) (Ev.rfl' rfl) cellsT replT nrmT (by rfl) (by rfl) (by rfl)) ?_
      refine JL_nil ?_
      refine JQ_then (JC_seq ?_)
      refine JC_dr rfl (by kernel_rfl) ?_
      refine JD_front (it := mp i96 IsHd _) (by repeat (first | exact Drop1.here _ _ | apply Drop1.next)) ?_
      refine JD_front (it := mp i95 IsPg _) (by repeat (first | exact Drop1.here _ _ | apply Drop1.next)) ?_
      refine JD_stretchG (its := [_, _]) 8 (by kernel_rfl) ?_
      refine JW_1 (op_move rfl) (JW_1 (op_move rfl) (JW_1 (op_move rfl) (JW_1 (op_move rfl) (JW_1 (by exact op_loadPtrsN (n := 9) (Ev.rfl' rfl) memT (by rfl) (by rfl) (by rfl) (by rfl) nrmT) ?_))))
      refine JW_1 (by exact op_loadPtrsN (n := 2) (Ev.rfl' rfl) memT (by rfl) (by rfl) (by rfl) (by rfl) nrmT) ?_
      refine JW_ghost (s := 204) rfl rfl rfl (by kernel_rfl) (fun c' => by exact op_mapPut (V := IsPg) (v := ph) (Ev.rfl' rfl) (Ev.rfl' rfl) evS replT rfl rfl) ?_
      refine JW_ghost (s := 205) rfl rfl rfl (by kernel_rfl) (fun c' => by exact op_mapPut (V := IsHd) (v := ⟨o, clrV u (fs.take k) &&& ~~~(BitVec.ofInt 32 1 <<< f.i)⟩) (Ev.rfl' rfl) (Ev.rfl' rfl) evS replT rfl rfl) ?_
      refine ⟨rfl, ?_⟩
      intro _ _
      refine JD_end ?_
      refine JQ_then (JC_seq ?_)
      rw [hpp, hph]
      refine JC_region (JL_1 rfl (by exact op_loadPtrsN (n := 9) (Ev.rfl' rfl) memT (by rfl) (by rfl) (by rfl) (by rfl) nrmT) ?_)
      refine JL_1 rfl (op_call Tryz.call100 (hrelease) ⟨evS, trivial⟩) ?_
      refine JL_1 rfl (op_move rfl) (JL_1 rfl (op_extract (Ev.rfl' rfl) rfl) (JL_1 rfl (op_extract (Ev.rfl' rfl) rfl) (JL_s0 (op_storeN (Ev.rfl' rfl) (Ev.rfl' rfl) cellsT replT nrmT (by rfl) (by rfl) (by rfl)) ?_)))
      refine JL_nil (JQ_then (JC_region (JL_1 rfl (op_move rfl) (JL_1 rfl (by exact op_loadPtrsN (n := 9) (Ev.rfl' rfl) memT (by rfl) (by rfl) (by rfl) (by rfl) nrmT) ?_))))
      refine JL_1 rfl (op_buildSlice (size := 9) (qs := [(0, _)]) rfl rfl rfl ⟨⟨rfl, _, (Ev.rfl' rfl), cellsT⟩, trivial⟩ (by rfl) (by rfl)) ?_
      (refine JL_s rfl (op_app (Ev.rfl' rfl) (fun _ => replT) (by exact Ev.sub rfl (by exact SubL.row (xs := [f.w]) (by rfl) (by rfl) subsT)) (by exact appT rfl rfl rfl) lenT) ?_; intro i181)
      refine JL_1 rfl (op_assign rfl) (JL_nil ?_)
      refine JQ_block (JQ_then ?_)
      refine JC_region (JL_1 rfl (op_add (Ev.rfl' rfl) (Ev.rfl' rfl) wrapT) ?_)
      refine JL_1 rfl (op_move rfl) (JL_nil ?_)
      exact JQ_roundP (k + 1, i181) (by dsimp only; omega) (by dsimp only; omega) (by dsimp only; rw [hww]; exact esubT) (by dsimp only; rw [hww]; exact lessT)
    have hkk : k = 0 := Classical.byContradiction fun e => by rw [hmgh, if_neg e] at h33; cases h33
    have hcu : clrV u (fs.take k) = u := by rw [hkk]; rfl
    clear h33
    refine JC_blkEq (b := i28) (As' := [Is (.int .i64 o), Is (.int .u32 (UV (clrV u (fs.take k))))]) replT (by rw [hcu]) ?_
    refine JC_skip (JQ_then (JC_seq ?_))
    refine JC_region (JL_1 rfl (by exact op_fieldPtr (k := 1) (Ev.rfl' rfl) rfl rfl rfl rfl) ?_)
    refine JL_1 rfl (by exact op_loadPtr (Ev.rfl' rfl) memT (by rfl) (by rfl) (by rfl)) ?_
    refine JL_1 rfl (op_move rfl) (JL_1 rfl (op_conv (Ev.rfl' rfl) rfl rfl convT) ?_)
    refine JL_1 rfl (by exact op_shlU32 (k := f.i) ev32 (Ev.rfl' rfl) (by omega) idxT) ?_
    refine JL_1 rfl (by exact op_bits ev32 ev32 (by simp) (andNot_u32 _ _)) ?_
    refine JL_1 rfl (by exact op_fieldPtr (k := 1) (Ev.rfl' rfl) rfl rfl rfl rfl) ?_
    refine JL_s0 (op_storeN (Ev.rfl' rfl) (Ev.rfl' rfl) cellsT replT nrmT (by rfl) (by rfl) (by rfl)) ?_
    refine JL_nil ?_
    refine JQ_then (JC_seq ?_)
    refine JC_dr rfl (by kernel_rfl) ?_
    refine JD_front (it := mp i96 IsHd _) (by repeat (first | exact Drop1.here _ _ | apply Drop1.next)) ?_
    refine JD_front (it := mp i95 IsPg _) (by repeat (first | exact Drop1.here _ _ | apply Drop1.next)) ?_
    refine JD_stretchG (its := [_, _]) 8 (by kernel_rfl) ?_
    refine JW_1 (op_move rfl) (JW_1 (op_move rfl) (JW_1 (op_move rfl) (JW_1 (op_move rfl) (JW_1 (by exact op_loadPtrsN (n := 9) (Ev.rfl' rfl) memT (by rfl) (by rfl) (by rfl) (by rfl) nrmT) ?_))))
    refine JW_1 (by exact op_loadPtrsN (n := 2) (Ev.rfl' rfl) memT (by rfl) (by rfl) (by rfl) (by rfl) nrmT) ?_
    refine JW_ghost (s := 204) rfl rfl rfl (by kernel_rfl) (fun c' => by exact op_mapPut (V := IsPg) (v := ph) (Ev.rfl' rfl) (Ev.rfl' rfl) evS replT rfl rfl) ?_
    refine JW_ghost (s := 205) rfl rfl rfl (by kernel_rfl) (fun c' => by exact op_mapPut (V := IsHd) (v := ⟨o, clrV u (fs.take k) &&& ~~~(BitVec.ofInt 32 1 <<< f.i)⟩) (Ev.rfl' rfl) (Ev.rfl' rfl) evS replT rfl rfl) ?_
    refine ⟨rfl, ?_⟩
    intro _ _
    refine JD_end ?_
    refine JQ_then (JC_seq ?_)
    rw [hpp, hph]
    refine JC_region (JL_1 rfl (by exact op_loadPtrsN (n := 9) (Ev.rfl' rfl) memT (by rfl) (by rfl) (by rfl) (by rfl) nrmT) ?_)
    refine JL_1 rfl (op_call Tryz.call100 (hrelease) ⟨evS, trivial⟩) ?_
    refine JL_1 rfl (op_move rfl) (JL_1 rfl (op_extract (Ev.rfl' rfl) rfl) (JL_1 rfl (op_extract (Ev.rfl' rfl) rfl) (JL_s0 (op_storeN (Ev.rfl' rfl) (Ev.rfl' rfl) cellsT replT nrmT (by rfl) (by rfl) (by rfl)) ?_)))
    refine JL_nil (JQ_then (JC_region (JL_1 rfl (op_move rfl) (JL_1 rfl (by exact op_loadPtrsN (n := 9) (Ev.rfl' rfl) memT (by rfl) (by rfl) (by rfl) (by rfl) nrmT) ?_))))
    refine JL_1 rfl (op_buildSlice (size := 9) (qs := [(0, _)]) rfl rfl rfl ⟨⟨rfl, _, (Ev.rfl' rfl), cellsT⟩, trivial⟩ (by rfl) (by rfl)) ?_
    (refine JL_s rfl (op_app (Ev.rfl' rfl) (fun _ => replT) (by exact Ev.sub rfl (by exact SubL.row (xs := [f.w]) (by rfl) (by rfl) subsT)) (by exact appT rfl rfl rfl) lenT) ?_; intro i181)
    refine JL_1 rfl (op_assign rfl) (JL_nil ?_)
    refine JQ_block (JQ_then ?_)
    refine JC_region (JL_1 rfl (op_add (Ev.rfl' rfl) (Ev.rfl' rfl) wrapT) ?_)
    refine JL_1 rfl (op_move rfl) (JL_nil ?_)
    exact JQ_roundP (k + 1, i181) (by dsimp only; omega) (by dsimp only; omega) (by dsimp only; rw [hww]; exact esubT) (by dsimp only; rw [hww]; exact lessT)
  have hk1 : k = fs.length := by have := of_decide_eq_false h18; omega
  subst hk1
  clear h18
  have hq1 : frPg s ph fs.length = [((s : Int), ph)] := by unfold frPg; rw [if_neg (by omega)]
  have hq2 : frHd s o u fs fs.length = [((s : Int), ⟨o, clrV u fs⟩)] := by unfold frHd; rw [if_neg (by omega), List.take_length]
  have hq3 : (fs.map Fd.w).take fs.length = fs.map Fd.w := List.take_of_length_le (by simp)
  rw [hq1, hq2, hq3]
  have hmg : mget [((s : Int), ph)] (s : Int) = some ph := by simp [mget]
  have hej : ([((s : Int), (⟨o, clrV u fs⟩ : Hd))] : List (Int × Hd))[0]? = some ((s : Int), ⟨o, clrV u fs⟩) := rfl
  refine JC_exit (JQ_then_exit (JQ_then_exit (JQ_hit (JQ_then (JC_seq (JC_seq ?_))))))
  refine JC_region (JL_1 rfl (op_move rfl) ?_)
  (refine JL_s rfl (op_range (Ev.rfl' rfl) (fun _ _ => replT) rfl) ?_; intro i184)
  refine JL_nil ?_
  refine JQ_then (JC_block ?_)
  refine JC_loopP (fun z : List Nat × WA => z.1.Nodup ∧ ∀ j, j ∈ z.1 → j < 1) (fun z => [(7, Is (slV (fs.map Fd.w ++ z.1.map fun _ => wh).length z.2)), (17, Is (.map (some i95))), (184, Is (.pointer (some ⟨i184.1, 0, none⟩)))]) (fun z => [mp i95 IsPg [((s : Int), ph)], buf (slV (fs.map Fd.w ++ z.1.map fun _ => wh).length z.2) 51 tPg (fs.map Fd.w ++ z.1.map fun _ => wh), itr i184.1 i96 i184.2.1 i184.2.2 z.1, mpr i96 IsHd [((s : Int), ⟨o, clrV u fs⟩)] i184.2.1 i184.2.2]) (fun z => 1 - z.1.length) ([], a1) ⟨List.nodup_nil, fun j hj => by cases hj⟩ (by dsimp only; rw [List.map_nil, List.append_nil]; exact esubT) (by dsimp only; rw [List.map_nil, List.append_nil]; exact lessT) ?_
  rintro ⟨S, z2⟩ ⟨hnd', hS⟩
  dsimp only at hnd' hS ⊢
  have hsl := nodup_len _ hnd' hS
  have hwl : (fs.map Fd.w ++ S.map fun _ => wh).length ≤ 3 := by simp; omega
  refine JC_seq (JC_region ?_)
  (refine JL_s rfl (op_next (Ev.rfl' rfl) memT (fun _ => replT) (by assumption)) ?_; intro i185)
  refine JL_1 rfl (by exact op_extractHd (Ev.rfl' rfl)) ?_
  refine JL_nil ?_
  refine JQ_then (JC_seq ?_)
  obtain ⟨⟨more, Sf⟩, hst⟩ := i185
  dsimp only
  refine JC_cond (Ev.rfl' rfl) (fun h41 => ?_) (fun h41 => ?_)
  · subst h41
    obtain ⟨j, e1, hj, hjn⟩ : ∃ j, Sf = S ++ [j] ∧ j < 1 ∧ j ∉ S := hst
    subst e1
    have hj0 : j = 0 := by omega
    subst hj0
    have hSe : S = [] := by
      cases S with
      | nil => rfl
      | cons x S =>
        have := hS x (List.mem_cons_self ..)
        exact absurd (show 0 ∈ x :: S by rw [show x = 0 by omega]; exact List.mem_cons_self ..) hjn
    subst hSe
    refine JC_skip (JQ_then (JC_block (JC_seq ?_)))
    refine JC_region (JL_1 rfl (op_entry (Ev.rfl' rfl) memT memT hej) ?_)
    refine JL_1 rfl (op_extract (Ev.rfl' rfl) rfl) (JL_1 rfl (op_extract (Ev.rfl' rfl) rfl) ?_)
    (refine JL_n rfl (op_allocN rfl nrmT rfl) ?_; intro i34)
    refine JL_1 rfl (op_assign rfl) (JL_s0 (op_storeN (Ev.rfl' rfl) (Ev.rfl' rfl) cellsT replT nrmT (by rfl) (by rfl) (by rfl)) ?_)
    refine JL_nil ?_
    refine JQ_then (JC_seq ?_)
    refine JC_region (JL_1 rfl (op_move rfl) (JL_1 rfl (op_move rfl) (JL_1 rfl (op_lookupS hmg (Ev.rfl' rfl) memT (Ev.rfl' rfl) rfl rfl rfl) ?_)))
    refine JL_1 rfl (by exact op_loadPtrsN (n := 2) (Ev.rfl' rfl) memT (by rfl) (by rfl) (by rfl) (by rfl) nrmT) ?_
    refine JL_1 rfl (op_call Tryz.call34 (WriteHeader_ok ph ⟨o, clrV u fs⟩) ⟨evS, ⟨evS, trivial⟩⟩) ?_
    refine JL_1 rfl (op_move rfl) (JL_1 rfl (op_extract (Ev.rfl' rfl) rfl) (JL_1 rfl (op_extract (Ev.rfl' rfl) rfl) ?_))
    (refine JL_n rfl (op_allocN rfl nrmT rfl) ?_; intro i35)
    refine JL_s0 (op_storeN (Ev.rfl' rfl) (Ev.rfl' rfl) cellsT replT nrmT (by rfl) (by rfl) (by rfl)) ?_
    refine JL_1 rfl (op_assign rfl) (JL_nil (JQ_then ?_))
    rw [hwh]
    refine JC_region (JL_1 rfl (op_move rfl) (JL_1 rfl (by exact op_loadPtrsN (n := 9) (Ev.rfl' rfl) memT (by rfl) (by rfl) (by rfl) (by rfl) nrmT) ?_))
    refine JL_1 rfl (op_buildSlice (size := 9) (qs := [(0, _)]) rfl rfl rfl ⟨⟨rfl, _, (Ev.rfl' rfl), cellsT⟩, trivial⟩ (by rfl) (by rfl)) ?_
    (refine JL_s rfl (op_app (Ev.rfl' rfl) (fun _ => replT) (by exact Ev.sub rfl (by exact SubL.row (xs := [wh]) (by rfl) (by rfl) subsT)) (by exact appT rfl rfl rfl) lenT) ?_; intro i201)
    refine JL_1 rfl (op_assign rfl) (JL_nil (JQ_block ?_))
    exact JQ_roundP ([0], i201) ⟨by simp, by simp⟩ (by dsimp only; simp) (by simpa using esubT) (by simpa using lessT)
  subst h41
  obtain ⟨e1, hall⟩ : Sf = S ∧ ∀ j, j < 1 → j ∈ S := hst
  subst e1
  have hS1 := nod1 hnd' hS (hall 0 (by decide))
  obtain ⟨x, hx⟩ : ∃ x, Sf = [x] := List.length_eq_one_iff.1 hS1
  subst hx
  rw [show ([x].map fun _ => wh) = [wh] from rfl]
  have hwz : (fs.map Fd.w ++ [wh]).length = fs.length + 1 := by simp
  have hw20 : (fs.map Fd.w ++ [wh]).length ≤ 1048576 := by rw [hwz]; omega
  rw [hwz]
  refine JC_exit (JQ_then_exit (JQ_then_exit (JQ_hit (JQ_then (JC_seq ?_)))))
  refine JC_region (JL_1 rfl (op_move rfl) ?_)
  (refine JL_s rfl (by ((refine op_callT drop1T Tryz.call35 (ascending_ok (fs.map Fd.w ++ [wh]) (fs.length + 1) z2 ?_ ?_) ⟨evS, trivial⟩); all_goals (first | exact hwz.symm | exact hw20))) ?_; intro i203)
  refine JL_1 rfl (op_assign rfl) (JL_1 rfl (op_assign rfl) (JL_1 rfl (op_assign rfl) (JL_1 rfl (op_assign rfl) (JL_nil ?_))))
  refine JQ_then (JC_ret ?_)
  obtain ⟨ys, hy1, hy2⟩ := i203
  dsimp only
  have hy := asc_desc (by rw [hwz]; exact hy1) (by rw [hwz]; exact hy2) hzp hza
  subst hy
  exact JQ_retP (Bs := [Top, Is (slV (fs.length + 1) z2), Is (.int .i64 0), Is (.bool true)]) Tryz.results78 ⟨⟨_, rfl, subT⟩, ⟨⟨_, rfl, subT⟩, ⟨⟨_, rfl, subT⟩, ⟨⟨_, rfl, subT⟩, trivial⟩⟩⟩⟩ z2 SubL.rfl' lessT
end Go.Proofs.YtfkmbdpnjcgimaaGreat

/- Contracts: an operation done on the world of the statement. Own work. -/
namespace Go.Proofs.YtfkmbdpnjcgimaaGreat
open Go.RowKit
set_option linter.unusedVariables false
set_option linter.unusedSimpArgs false
set_option maxRecDepth 100000
@[reducible] def wldC (hp : Nat) (p : Nat → Int) (z1 z2 : WA) (tos : List Pt) (g : Int) : List VP := [Is (.pointer (some ⟨hp, 0, none⟩)), Is (.int .i64 (p 0)), Is (.int .i64 (p 1)), Is (.int .i64 (p 2)), Is (.int .i64 (p 3)), Is (.int .i64 (p 4)), Is (.int .i64 (p 5)), Is (slV 12 z1), IsSl tPt tos, Is (slV 12 z2), Is (.int .i64 g)]
@[reducible] def outC (e : Eout) : List VP := [Is (.int .i64 e.code), Is (.int .u32 (UV e.ep)), Is (.int .i64 e.blk), IsSl tPt e.freed, Top]
@[reducible] def IsOutT (e : Eout) : VP := IsAgg (outC e)
theorem pureVs_pg (y : Pg) : PureVs (tPg.cells y) := ⟨pure_is, pure_is, pure_is, pure_is, pure_is, pure_is, pure_is, pure_is, pure_is, trivial⟩
theorem pureVs_pt (y : Pt) : PureVs (tPt.cells y) := ⟨pure_is, pure_is, trivial⟩
theorem away_next {H ws : List Pg} {out : Eout} (hno : ∀ w, ws[0]? = some w → w ∉ H) : Away tPg H (IsTup [IsSl tI64 [], IsSl tPg ws, IsEout out, Is (.bool true)]) (IsTup [IsSl tI64 [], IsSl tPg ws, IsOutT out, Is (.bool true)]) :=
  away_tup ⟨away_sl (fun _ => ⟨pure_is, trivial⟩) (fun y hy => by cases hy), away_sl pureVs_pg (fun y hy he => hno y hy (pg_emb he)), away_agg ⟨away_is, away_is, away_is, away_sl pureVs_pt (fun y _ he => pt_emb he), away_top, trivial⟩, away_is, trivial⟩
-- (*bodega/bodegalaw26.world).run: function 19
set_option maxHeartbeats 1000000 in
theorem run_ok (bw hp n : Nat) (a z1 z2 : WA) (lines g : Int) (pn : Nat → Int) (tos : List Pt) (o : Eop) (H ws : List Pg) (out : Eout) (hH : H.length = n) (hn : n ≤ 200) (hne : H ≠ [])
    (hnx : FnP Tryz.prog 43 [IsEop o, IsSl tPg H] (IsTup [IsSl tI64 [], IsSl tPg ws, IsEout out, Is (.bool true)])) (hno : ∀ w, ws[0]? = some w → w ∉ H) (hlo : ∀ w, w ∈ ws → -9223372036854775000 ≤ w.l ∧ w.l ≤ 9223372036854775807) (hcode : ¬ out.code = 0 → ws = []) :
    Fn Tryz.prog 19 [Is (.pointer (some ⟨bw, 0, none⟩)), IsEop o] [blk bw 36 (wldC hp pn z1 z2 tos g), blk hp 58 (heapC (slV n a) lines), buf (slV n a) 51 tPg H]
      (fun _ : Unit => IsTup [IsOutT out, Is (.bool true)]) (fun _ => [blk bw 36 (wldC hp pn z1 z2 tos g), blk hp 58 (heapC (slV n a) lines), buf (slV n a) 51 tPg (ws.foldl comP H)]) := by
  refine Fn.enterN Tryz.func19 Tryz.ntmps19 rfl rfl ?_
  intro c hX
  refine JC_seq (JC_region ?_)
  (refine JL_n rfl (op_box (Ev.rfl' rfl) cellsT) ?_; intro i3)
  (refine JL_n rfl (op_allocN rfl nrmT rfl) ?_; intro i4)
  refine JL_1 rfl (op_assign rfl) (JL_nil ?_)
  refine JQ_then (JC_seq ?_)
  refine JC_dr rfl (by kernel_rfl) ?_
  refine JD_fl (its := []) (JF_1 0 rfl (by kernel_rfl) (by exact op_loadPtrsN (n := 6) (Ev.rfl' rfl) memT (by rfl) (by rfl) (by rfl) (by rfl) nrmT) ?_)
  refine JF_1 1 rfl (by kernel_rfl) (op_move rfl) ?_
  refine JF_1 2 rfl (by kernel_rfl) (by exact op_nilCheck (Ev.rfl' rfl)) ?_
  refine JF_1 3 rfl (by kernel_rfl) (by exact op_fieldPtr (k := 0) (Ev.rfl' rfl) rfl rfl rfl rfl) ?_
  refine JF_1 4 rfl (by kernel_rfl) (by exact op_loadPtr (Ev.rfl' rfl) memT (by rfl) (by rfl) (by rfl)) ?_
  refine JF_1 5 rfl (by kernel_rfl) (by exact op_nilCheck (Ev.rfl' rfl)) ?_
  refine JF_1 6 rfl (by kernel_rfl) (by exact op_fieldPtr (k := 0) (Ev.rfl' rfl) rfl rfl rfl rfl) ?_
  refine JF_1 7 rfl (by kernel_rfl) (by exact op_loadPtr (Ev.rfl' rfl) memT (by rfl) (by rfl) (by rfl)) ?_
  refine JF_1 8 rfl (by kernel_rfl) (op_callBW (v := slV n a) replT hne Tryz.call43 (hnx) ⟨evS, ⟨evS, trivial⟩⟩ (away_next hno)) ?_
  refine JF_1 9 rfl (by kernel_rfl) (op_move rfl) ?_
  refine JF_1 10 rfl (by kernel_rfl) (op_extract (Ev.rfl' rfl) rfl) ?_
  refine JF_1 11 rfl (by kernel_rfl) (op_extract (Ev.rfl' rfl) rfl) ?_
  refine JF_1 12 rfl (by kernel_rfl) (op_extract (Ev.rfl' rfl) rfl) ?_
  refine JF_1f 13 rfl (by kernel_rfl) (fun _ => (op_extract (Ev.rfl' rfl) rfl)) ?_
  refine JF_n 14 rfl (by kernel_rfl) (op_allocN rfl nrmT rfl) ?_
  (refine JF_name 8 14 (by kernel_rfl) rfl rfl ?_; intro i8)
  refine JF_1 15 rfl (by kernel_rfl) (op_assign rfl) ?_
  refine JF_1 16 rfl (by kernel_rfl) (op_assign rfl) ?_
  refine JF_b0 17 [0, 1, 2, 3, 4, 5, 6, 7, 8, 9, 10, 11, 12, 14, 15, 16, 17] rfl (by kernel_rfl) (fun c' => by exact op_store (Ev.rfl' rfl) (Ev.rfl' rfl) cellsT replT (by rfl) (by rfl) (by rfl)) ?_
  refine JF_1 18 rfl (by kernel_rfl) (op_assign rfl) ?_
  refine JF_end (by kernel_rfl) rfl ?_
  refine JQ_then (JC_seq (JC_seq ?_))
  refine JC_region (JL_1 rfl (op_move rfl) (JL_1 rfl (op_not (Ev.rfl' rfl)) (JL_1 rfl (op_move rfl) ?_)))
  (refine JL_i0 rfl rfl rfl (fun hg => (by have hg0 := hg; (try simp at hg); exact op_moveE (Ev.rfl' rfl))) ?_)
  (refine JL_i0 rfl rfl rfl (fun hg => (by have hg0 := hg; (try simp at hg); exact op_len evG rfl)) ?_)
  (refine JL_i0 rfl rfl rfl (fun hg => (by have hg0 := hg; (try simp at hg); exact op_gtr evG evG)) ?_)
  refine JL_1 rfl (op_or (Ev.rfl' rfl) rfl (fun h => by exact SubL.rfl')) ?_
  refine JL_1 rfl (op_move rfl) ?_
  (refine JL_i0 rfl rfl rfl (fun hg => (by have hg0 := hg; (try simp at hg); exact op_fieldPtr (k := 0) evG rfl rfl rfl rfl)) ?_)
  (refine JL_i0 rfl rfl rfl (fun hg => (by have hg0 := hg; (try simp at hg); exact op_loadPtr evG memT (by rfl) (by rfl) (by rfl))) ?_)
  (refine JL_i0 rfl rfl rfl (fun hg => (by have hg0 := hg; (try simp at hg); exact op_neq evG evG)) ?_)
  (refine JL_i0 rfl rfl rfl (fun hg => (by have hg0 := hg; (try simp at hg); exact op_moveE (Ev.sub rfl (SubL.iteT (by assumption) SubL.rfl')))) ?_)
  (refine JL_i0 rfl rfl rfl (fun hg => (by have hg0 := hg; (try simp at hg); exact op_moveE (Ev.rfl' rfl))) ?_)
  (refine JL_i0 rfl rfl rfl (fun hg => (by have hg0 := hg; (try simp at hg); exact op_len evG rfl)) ?_)
  (refine JL_i0 rfl rfl rfl (fun hg => (by have hg0 := hg; (try simp at hg); exact op_gtr evG evG)) ?_)
  (refine JL_i0 rfl rfl rfl (fun hg => (by have hg0 := hg; (try simp at hg); exact op_and evG rfl (fun h => by exact SubL.iteT (by (rw [h]; rfl)) SubL.rfl'))) ?_)
  refine JL_1 rfl (op_or (Ev.rfl' rfl) rfl (fun h => by exact SubL.rfl')) ?_
  refine JL_nil (JQ_then ?_)
  refine JC_cond (Ev.rfl' rfl) (fun h2 => ?_) (fun h2 => ?_)
  · exfalso
    have hx : (true : Bool) = false := by rw [← h2]; simp; intro h; exact hcode h
    cases hx
  refine JC_skip (JQ_then (JC_seq ?_))
  refine JC_region (JL_1 rfl (op_move rfl) (JL_1 rfl (by exact op_nilCheck (Ev.rfl' rfl)) ?_))
  refine JL_1 rfl (by exact op_fieldPtr (k := 0) (Ev.rfl' rfl) rfl rfl rfl rfl) ?_
  refine JL_1 rfl (by exact op_loadPtr (Ev.rfl' rfl) memT (by rfl) (by rfl) (by rfl)) ?_
  refine JL_1 rfl (op_move rfl) ?_
  (refine JL_s rfl (op_callT2 drop1T drop1T Tryz.call14 (Commit_ok hp n a lines H ws hH hn hlo) ⟨evS, ⟨evS, trivial⟩⟩) ?_; intro i47)
  refine JL_nil ?_
  refine JQ_then (JC_seq ?_)
  refine JC_region (JL_1 rfl (by exact op_loadPtrsN (n := 5) (Ev.rfl' rfl) memT (by rfl) (by rfl) (by rfl) (by rfl) nrmT) ?_)
  refine JL_s0 (op_storeN (Ev.rfl' rfl) (Ev.rfl' rfl) cellsT replT nrmT (by rfl) (by rfl) (by rfl)) ?_
  refine JL_1 rfl (op_assign rfl) (JL_nil ?_)
  refine JQ_then (JC_ret ?_)
  exact JQ_retP (Bs := [IsOutT out, Is (.bool true)]) Tryz.results19 ⟨⟨_, _, _, _, rfl, memT, rfl, .inr ⟨rfl, _, rfl, rfl, subT⟩⟩, ⟨⟨_, rfl, subT⟩, trivial⟩⟩ () SubL.rfl' lessT
end Go.Proofs.YtfkmbdpnjcgimaaGreat

/- Plain laws: the world of the statements, step by step: pins, the epoch, a page retired. Own work. -/
namespace Go.Proofs.YtfkmbdpnjcgimaaGreat
open Go.RowKit
set_option linter.unusedVariables false
set_option linter.unusedSimpArgs false
set_option maxRecDepth 100000
structure WI (n s0 G : Nat) (is : List Nat) (tos : List Pt) (a : AW) (H : List Pg) : Prop where
  S : ES n s0 is
  tl : tos.length = 12
  to : ∀ (k i : Nat), is[k]? = some i → tos[k]? = some (⟨104 + 16 * (s0 : Int) + i, 1⟩ : Pt)
  I : AI a
  B : PB a
  gb : a.g ≤ G
  ei : ∃ N, EI n s0 is a.g N (fun k => !a.fre k) a.fre H ∧ ∀ c, c < 6 → NdG tos a c (N c)
/-- Pages that may be written: the first is none of those that were lent. -/
structure GW (H ws : List Pg) : Prop where
  no : ∀ w, ws[0]? = some w → w ∉ H
  lo : ∀ w, w ∈ ws → 0 ≤ w.l ∧ w.l ≤ 300
theorem GW.lo' {H ws : List Pg} (h : GW H ws) : ∀ w, w ∈ ws → -9223372036854775000 ≤ w.l ∧ w.l ≤ 9223372036854775807 := fun w hw => by
  have := h.lo w hw; omega
theorem GW.nil (H : List Pg) : GW H [] := ⟨(fun w h => by simp at h), (fun w h => by simp at h)⟩
def NI (N : Nat → Nd) : Int → Nd := fun c => N c.toNat
theorem ofNat_UV {e : Nat} (h : e ≤ 1000) : UV (BitVec.ofNat 32 e) = (e : Int) := UV_ofNat (by omega)
section
variable {n s0 G : Nat} {is : List Nat} {tos : List Pt} {a : AW} {H : List Pg}
theorem WI.tok (h : WI n s0 G is tos a H) {k : Nat} (hk : k < 12) : ∃ i, is[k]? = some i ∧ (1 ≤ i ∧ i ≤ 15) ∧ tos.getD k Pt.nil = ⟨104 + 16 * (s0 : Int) + i, 1⟩ := by
  have hl := h.S.len
  refine ⟨is[k], List.getElem?_eq_getElem (by omega), h.S.rng _ (List.getElem_mem _), ?_⟩
  rw [List.getD_eq_getElem?_getD, h.to k _ (List.getElem?_eq_getElem (by omega))]
  rfl
theorem WI.valid (h : WI n s0 G is tos a H) {k : Nat} (hk : k < 12) : validP (tos.getD k Pt.nil) = true ∧ tos.getD k Pt.nil ≠ Pt.nil := by
  obtain ⟨i, _, h2, h3⟩ := h.tok hk
  have := h.S.n5
  have := h.S.s
  rw [h3]
  refine ⟨by rw [validP_iff]; simp only; omega, fun e => ?_⟩
  injection e with e1 e2
  omega
theorem WI.inj (h : WI n s0 G is tos a H) {k k' : Nat} (hk : k < 12) (hk' : k' < 12) (e : tos.getD k Pt.nil = tos.getD k' Pt.nil) : k = k' := by
  obtain ⟨i, a1, _, a2⟩ := h.tok hk
  obtain ⟨j, b1, _, b2⟩ := h.tok hk'
  rw [a2, b2] at e
  injection e with e1 _
  have : i = j := by omega
  subst this
  exact (List.getElem?_inj (List.getElem?_eq_some_iff.1 a1).1 h.S.nod).1 (a1.trans b1.symm)
theorem reOf_nil {x : Option (Nat × Nat)} (hv : ∀ k e, x = some (k, e) → tos.getD k Pt.nil ≠ Pt.nil) : reOf tos x = Re.nil ↔ x = none := by
  cases x with
  | none => exact ⟨fun _ => rfl, fun _ => rfl⟩
  | some y =>
    obtain ⟨k, e⟩ := y
    refine ⟨fun h => ?_, fun h => (by cases h)⟩
    unfold reOf Re.nil at h
    injection h with h1 _
    exact absurd h1 (hv k e rfl)
theorem nd_write {c : Nat} {nd : Nd} {p : Pg} (htl : ∀ k, k < 12 → validP (tos.getD k Pt.nil) = true) (hG : NdG tos a c nd) (hs : ∀ j k e, a.slot c j = some (k, e) → k < 12) (hp : 98 ≤ p.l ∧ p.l < 104) : (writeN p nd).2 = 0 := by
  have hb : badW p nd = false := by
    have h1 := hG.sg
    have h2 := hG.inc2
    have h3 : (!nd.pin && UV nd.ep != 0) = false := by
      rw [hG.pin, hG.ep]
      cases a.pin c with
      | none => rfl
      | some e => rfl
    unfold badW ownB
    rw [h3]
    simp
    omega
  have r : ∀ j, j < 4 → rwB (rj nd j) = true := fun j hj => by
    rw [hG.re j hj]
    cases hq : a.slot c j with
    | none => rfl
    | some x =>
      obtain ⟨k, e⟩ := x
      have := htl k (hs j k e hq)
      unfold rwB reOf
      rw [this, Bool.or_true]
  have hk : okR nd 4 = true := by
    show (rwB (rj nd 0) && rwB (rj nd 1) && rwB (rj nd 2) && rwB (rj nd 3)) = true
    rw [r 0 (by decide), r 1 (by decide), r 2 (by decide), r 3 (by decide)]; rfl
  rw [writeN_0 hb hk]
theorem NdG.same {a' : AW} {c : Nat} {nd : Nd} (h : NdG tos a c nd) (hp : a'.pin c = a.pin c) (hs : ∀ j, a'.slot c j = a.slot c j) : NdG tos a' c nd :=
  ⟨by rw [hp]; exact h.pin, by rw [hp]; exact h.ep, by rw [hp]; exact h.inc, h.inc2, h.sg, fun j hj => by rw [hs]; exact h.re j hj⟩
theorem EI.nin {g : Nat} {N : Nat → Nd} {Ub Kd : Nat → Bool} (h : EI n s0 is g N Ub Kd H) {k : Nat} {p w : Pg} (hk : H[k]? = some p) (hl : w.l = 96 + (k : Int)) (hne : w ≠ p) : w ∉ H := fun hm => by
  obtain ⟨j, hj⟩ := List.getElem?_of_mem hm
  have := h.ln j w hj
  have e : j = k := by omega
  subst e
  rw [hk] at hj
  injection hj with hj
  exact hne hj.symm
/-- A node page is written. -/
theorem WI.node (h : WI n s0 G is tos a H) {N : Nat → Nd} (hE : EI n s0 is a.g N (fun k => !a.fre k) a.fre H) (hN : ∀ c, c < 6 → NdG tos a c (N c)) {c : Nat} (hc : c < 6) {a' : AW} {nd : Nd} (hg : a'.g = a.g) (hf : a'.fre = a.fre) (hI : AI a') (hB : PB a') (hnd : NdG tos a' c nd) (hne : nd ≠ N c)
    (hoth : ∀ d, d < 6 → d ≠ c → a'.pin d = a.pin d ∧ ∀ j, a'.slot d j = a.slot d j) :
    GW H [(writeN (latP H (98 + (c : Int))) nd).1] ∧ WI n s0 G is tos a' (comP H (writeN (latP H (98 + (c : Int))) nd).1) := by
  obtain ⟨p, hp⟩ := hE.at_ (k := 2 + c) (by have := h.S.n5; omega)
  have hlat := (hE.lat hp).1
  rw [show (96 + ((2 + c : Nat) : Int)) = 98 + (c : Int) by omega] at hlat
  rw [hlat]
  have hpl := hE.ln _ _ hp
  have hw := back_node (nd_write (p := p) (fun k hk => (h.valid hk).1) hnd (fun j k e hs => (hI.s1 c j k e hs).1) (by omega))
  have hl : (writeN p nd).1.l = 98 + (c : Int) := by rw [hw.2.1]; omega
  refine ⟨⟨fun w hw0 => ?_, fun w hw0 => by rw [List.mem_singleton.1 hw0]; omega⟩, h.S, h.tl, h.to, hI, hB, by rw [hg]; exact h.gb, _, by rw [hg, hf]; exact hE.comNode h.S hc hl hw.1, fun d hd => ?_⟩
  · have e : (writeN p nd).1 = w := by simpa using hw0
    subst e
    refine hE.nin hp (by omega) fun e => hne ?_
    have h1 := hw.1
    rw [e, hE.nd c p hc hp] at h1
    injection h1 with h1 _
    exact h1.symm
  · by_cases e : d = c
    · subst e; rw [if_pos rfl]; exact hnd
    · rw [if_neg e]
      exact (hN d hd).same (hoth d hd e).1 (hoth d hd e).2
theorem rdy_of (h : WI n s0 G is tos a H) {N : Nat → Nd} (hE : EI n s0 is a.g N (fun k => !a.fre k) a.fre H) (o : Eop) (hr : ∀ c, c ∈ nodesV o → 0 ≤ c ∧ c < 6) : Rdy o H (BitVec.ofNat 32 a.g) (NI N) := by
  have h5 := h.S.n5
  refine ⟨hr, fun x hx => ?_, fun _ => ?_, fun c hc => ?_⟩
  · have key : ∃ k : Nat, k < 8 + 16 * n ∧ x = 96 + (k : Int) := by
      unfold linV at hx
      rcases List.mem_append.1 hx with hx | hx
      · split at hx
        · exact ⟨1, by omega, by rw [List.mem_singleton.1 hx]; rfl⟩
        · cases hx
      · obtain ⟨c, hc, rfl⟩ := List.mem_map.1 hx
        have := hr c hc
        exact ⟨2 + c.toNat, by omega, by omega⟩
    obtain ⟨k, hk, rfl⟩ := key
    obtain ⟨p, hp⟩ := hE.at_ hk
    obtain ⟨e1, e2⟩ := hE.lat hp
    rw [e1, e2]
    exact ⟨rfl, hE.un _ _ hp⟩
  · obtain ⟨p, hp⟩ := hE.at_ (k := 1) (by omega)
    have e1 := (hE.lat hp).1
    rw [show (96 + ((1 : Nat) : Int)) = 97 from rfl] at e1
    rw [e1]
    exact hE.ep p hp
  · have := hr c hc
    obtain ⟨p, hp⟩ := hE.at_ (k := 2 + c.toNat) (by omega)
    have e1 := (hE.lat hp).1
    rw [show (96 + ((2 + c.toNat : Nat) : Int)) = 98 + c by omega] at e1
    rw [e1]
    exact hE.nd c.toNat p (by omega) hp
theorem cl_ok {c : Nat} (hc : c < 6) : clientB (c : Int) = true := by unfold clientB; simp; omega
def opPin (c : Nat) : Eop := ⟨1, c, 1, 0, 0, []⟩
theorem pin_next (h : WI n s0 G is tos a H) (hG : G ≤ 900) {c : Nat} (hc : c < 6) :
    ∃ ws out, FnP Tryz.prog 43 [IsEop (opPin c), IsSl tPg H] (IsTup [IsSl tI64 [], IsSl tPg ws, IsEout out, Is (.bool true)]) ∧ GW H ws ∧ (¬ out.code = 0 → ws = []) ∧
      WI n s0 G is tos (a.pin1 c) (ws.foldl comP H) ∧ ((a.pin c).isSome = true → out.code = 17) ∧ (a.pin c = none → out.code = 0 ∧ UV out.ep = (a.g : Int)) := by
  obtain ⟨N, hE, hN⟩ := h.ei
  have hgb := h.gb
  have hr : ∀ x, x ∈ nodesV (opPin c) → 0 ≤ x ∧ x < 6 := fun x hx => by
    have : x = (c : Int) := by simpa [nodesV, opPin] using hx
    omega
  have hok : OkE (opPin c) := ⟨cl_ok hc, .inl rfl, (fun _ => by simp [opPin]), (fun e => by simp [opPin] at e), (fun e => by simp [opPin] at e), (fun e => by simp [opPin] at e)⟩
  have hnx := next1_ok (opPin c) H (BitVec.ofNat 32 a.g) (NI N) hok (rdy_of h hE _ hr) rfl
  have hNc := hN c hc
  have hNI : NI N (opPin c).client = N c := by unfold NI opPin; simp
  cases hp : a.pin c with
  | some e0 =>
    have e : nx1 (opPin c) H (BitVec.ofNat 32 a.g) (NI N) = ([], ⟨17, 0#32, 0, [], []⟩) := by
      unfold nx1 pinE
      rw [hNI]
      have h1 : (N c).pin = true := by rw [hNc.pin, hp]; rfl
      have h2 : (N c).inc = 1 := hNc.inc (by rw [hp]; rfl)
      rw [if_pos (by rw [h1, h2]; rfl)]
    rw [e] at hnx
    refine ⟨_, _, hnx, GW.nil H, fun _ => rfl, ?_, fun _ => rfl, (fun e => by cases e)⟩
    have : a.pin1 c = a := by unfold AW.pin1; rw [if_pos (by rw [hp]; rfl)]
    rw [this]
    exact h
  | none =>
    have e : nx1 (opPin c) H (BitVec.ofNat 32 a.g) (NI N) = ([(writeN (latP H (98 + (c : Int))) (pinN (N c) (BitVec.ofNat 32 a.g) 1)).1], ⟨0, BitVec.ofNat 32 a.g, 0, [], [97]⟩) := by
      unfold nx1 pinE
      rw [hNI]
      have h1 : (N c).pin = false := by rw [hNc.pin, hp]; rfl
      rw [if_neg (by rw [h1]; simp)]
      rfl
    rw [e] at hnx
    have ha : a.pin1 c = a.setPin c (some a.g) := by unfold AW.pin1; rw [if_neg (by rw [hp]; simp)]
    have hpc : (a.setPin c (some a.g)).pin c = some a.g := if_pos rfl
    obtain ⟨k1, k2⟩ := h.node hE hN hc (a' := a.setPin c (some a.g)) (nd := pinN (N c) (BitVec.ofNat 32 a.g) 1) rfl rfl (h.I.pin c) (fun d e hd => by
      have hd' : (if d = c then some a.g else a.pin d) = some e := hd
      split at hd'
      · omega
      · exact h.B d e hd') ⟨by rw [hpc]; rfl, by rw [hpc]; rfl, fun _ => rfl, ⟨by show (0 : Int) ≤ 1; decide, by show (1 : Int) ≤ 59; decide⟩, hNc.sg, hNc.re⟩ (fun e => by
      have : true = (N c).pin := congrArg Nd.pin e
      rw [hNc.pin, hp] at this
      cases this) (fun d _ hne => ⟨if_neg hne, fun _ => rfl⟩)
    refine ⟨_, _, hnx, k1, fun e => absurd rfl e, by rw [ha]; exact k2, (fun e => by cases e), fun _ => ⟨rfl, ofNat_UV (by omega)⟩⟩
def opUnpin (c : Nat) : Eop := ⟨2, c, 1, 0, 0, []⟩
def opEvict (c d : Nat) : Eop := ⟨6, d, 2, 0, c, []⟩
theorem unpin_one (h : WI n s0 G is tos a H) (hG : G ≤ 900) {N : Nat → Nd} (hE : EI n s0 is a.g N (fun k => !a.fre k) a.fre H) (hN : ∀ c, c < 6 → NdG tos a c (N c)) {c : Nat} (hc : c < 6) {b : Bool} (hb : (a.pin c).isSome = true → b = true) {ws : List Pg} {out : Eout} (e : (ws, out) = unpE b (N c) (latP H (98 + (c : Int)))) :
    GW H ws ∧ (¬ out.code = 0 → ws = []) ∧ WI n s0 G is tos (a.setPin c none) (ws.foldl comP H) ∧ (a.pin c = none → out.code = 16) ∧ ∀ e, a.pin c = some e → out.code = 0 ∧ UV out.ep = (e : Int) := by
  have hNc := hN c hc
  have hgb := h.gb
  cases hp : a.pin c with
  | none =>
    have h1 : (N c).pin = false := by rw [hNc.pin, hp]; rfl
    unfold unpE at e
    rw [if_pos (by rw [h1]; rfl)] at e
    injection e with e1 e2
    subst e1 e2
    refine ⟨GW.nil H, fun _ => rfl, ?_, fun _ => rfl, (fun _ e => by cases e)⟩
    have : a.setPin c none = a := by
      unfold AW.setPin
      have : (fun d => if d = c then none else a.pin d) = a.pin := by
        funext d
        by_cases e : d = c
        · rw [if_pos e, e, hp]
        · rw [if_neg e]
      rw [this]
    rw [this]
    exact h
  | some e0 =>
    have h1 : (N c).pin = true := by rw [hNc.pin, hp]; rfl
    have h2 : b = true := hb (by rw [hp]; rfl)
    unfold unpE at e
    rw [if_neg (by rw [h1, h2]; simp)] at e
    injection e with e1 e2
    subst e1 e2
    have hpc : (a.setPin c none).pin c = none := if_pos rfl
    obtain ⟨k1, k2⟩ := h.node hE hN hc (a' := a.setPin c none) (nd := unpN (N c)) rfl rfl (h.I.unpin c) (fun d e hd => by
      have hd' : (if d = c then none else a.pin d) = some e := hd
      split at hd'
      · cases hd'
      · exact h.B d e hd') ⟨by rw [hpc]; rfl, by rw [hpc]; rfl, (fun h => by rw [hpc] at h; cases h), hNc.inc2, hNc.sg, hNc.re⟩ (fun e => by
      have : false = (N c).pin := congrArg Nd.pin e
      rw [h1] at this
      cases this) (fun d _ hne => ⟨if_neg hne, fun _ => rfl⟩)
    refine ⟨k1, fun e => absurd rfl e, k2, fun e => (by cases e), fun e he => ⟨rfl, ?_⟩⟩
    injection he with he
    subst he
    have := h.I.p1 c e0 hp
    show UV (N c).ep = _
    rw [hNc.ep, hp]
    exact ofNat_UV (e := e0) (by omega)
theorem unpin_next (h : WI n s0 G is tos a H) (hG : G ≤ 900) {c : Nat} (hc : c < 6) :
    ∃ ws out, FnP Tryz.prog 43 [IsEop (opUnpin c), IsSl tPg H] (IsTup [IsSl tI64 [], IsSl tPg ws, IsEout out, Is (.bool true)]) ∧ GW H ws ∧ (¬ out.code = 0 → ws = []) ∧
      WI n s0 G is tos (a.setPin c none) (ws.foldl comP H) ∧ (a.pin c = none → out.code = 16) ∧ ∀ e, a.pin c = some e → out.code = 0 ∧ UV out.ep = (e : Int) := by
  obtain ⟨N, hE, hN⟩ := h.ei
  have hr : ∀ x, x ∈ nodesV (opUnpin c) → 0 ≤ x ∧ x < 6 := fun x hx => by
    have : x = (c : Int) := by simpa [nodesV, opUnpin] using hx
    omega
  have hok : OkE (opUnpin c) := ⟨cl_ok hc, .inr (.inl rfl), (fun _ => by simp [opUnpin]), (fun e => by simp [opUnpin] at e), (fun e => by simp [opUnpin] at e), (fun e => by simp [opUnpin] at e)⟩
  have hnx := next2_ok (opUnpin c) H (BitVec.ofNat 32 a.g) (NI N) hok (rdy_of h hE _ hr) rfl
  have hNI : NI N (opUnpin c).client = N c := by unfold NI opUnpin; simp
  obtain ⟨ws, out, e⟩ : ∃ ws out, (ws, out) = nx2 (opUnpin c) H (NI N) := ⟨_, _, rfl⟩
  rw [← e] at hnx
  unfold nx2 at e
  rw [hNI] at e
  obtain ⟨k1, k2, k3, k4, k5⟩ := unpin_one h hG hE hN hc (b := (N c).inc == (opUnpin c).inc) (fun hs => by rw [(hN c hc).inc hs]; rfl) e
  exact ⟨ws, _, hnx, k1, k2, k3, k4, k5⟩
theorem evict_next (h : WI n s0 G is tos a H) (hG : G ≤ 900) {c d : Nat} (hc : c < 6) (hd : d < 6) :
    ∃ ws out, FnP Tryz.prog 43 [IsEop (opEvict c d), IsSl tPg H] (IsTup [IsSl tI64 [], IsSl tPg ws, IsEout out, Is (.bool true)]) ∧ GW H ws ∧ (¬ out.code = 0 → ws = []) ∧
      WI n s0 G is tos (a.setPin c none) (ws.foldl comP H) ∧ (a.pin c = none → out.code = 16) ∧ ∀ e, a.pin c = some e → out.code = 0 ∧ UV out.ep = (e : Int) := by
  obtain ⟨N, hE, hN⟩ := h.ei
  have hr : ∀ x, x ∈ nodesV (opEvict c d) → 0 ≤ x ∧ x < 6 := fun x hx => by
    have : x = (c : Int) := by simpa [nodesV, opEvict] using hx
    omega
  have hok : OkE (opEvict c d) := ⟨cl_ok hd, .inr (.inr (.inr (.inr (.inr rfl)))), (fun _ => by simp [opEvict]), (fun _ => cl_ok hc), (fun e => by simp [opEvict] at e), (fun e => by simp [opEvict] at e)⟩
  have hnx := next6_ok (opEvict c d) H (BitVec.ofNat 32 a.g) (NI N) hok (rdy_of h hE _ hr) rfl
  have hNI : NI N (opEvict c d).for_ = N c := by unfold NI opEvict; simp
  obtain ⟨ws, out, e⟩ : ∃ ws out, (ws, out) = nx6 (opEvict c d) H (NI N) := ⟨_, _, rfl⟩
  rw [← e] at hnx
  unfold nx6 at e
  rw [hNI] at e
  obtain ⟨k1, k2, k3, k4, k5⟩ := unpin_one h hG hE hN hc (b := decide ((N c).inc ≤ (opEvict c d).inc)) (fun hs => by rw [(hN c hc).inc hs]; rfl) e
  exact ⟨ws, _, hnx, k1, k2, k3, k4, k5⟩
def opAdv (c : Nat) : Eop := ⟨3, c, 0, 0, 0, []⟩
theorem late_lag (h : WI n s0 G is tos a H) (hG : G ≤ 900) {N : Nat → Nd} (hN : ∀ c, c < 6 → NdG tos a c (N c)) {c : Nat} (hc : c < 6) : lagE (NI N) (BitVec.ofNat 32 a.g) (c : Int) = late a c := by
  have hgb := h.gb
  have e : NI N (c : Int) = N c := by unfold NI; simp
  unfold lagE late
  rw [e, (hN c hc).pin, (hN c hc).ep]
  cases hp : a.pin c with
  | none => rfl
  | some e0 =>
    have h1 := h.I.p1 c e0 hp
    simp only [Option.isSome_some, Option.getD_some, Bool.true_and]
    rw [ofNat_UV (by omega), ofNat_UV (by omega), Bool.eq_iff_iff]
    simp
    omega
theorem adv_next (h : WI n s0 G is tos a H) (hG : G ≤ 900) {c : Nat} (hc : c < 6) :
    ∃ ws out, FnP Tryz.prog 43 [IsEop (opAdv c), IsSl tPg H] (IsTup [IsSl tI64 [], IsSl tPg ws, IsEout out, Is (.bool true)]) ∧ GW H ws ∧ (¬ out.code = 0 → ws = []) ∧
      WI n s0 (G + 1) is tos a.adv1 (ws.foldl comP H) ∧ (∀ k : Nat, k < 6 → late a k = true → (∀ j, j < k → late a j = false) → out.code = 3 ∧ out.blk = (k : Int) ∧ a.adv1 = a) ∧ ((∀ j, j < 6 → late a j = false) → out.code = 0 ∧ UV out.ep = (a.g : Int) + 1 ∧ a.adv1 = a.adv) := by
  obtain ⟨N, hE, hN⟩ := h.ei
  have hgb := h.gb
  have hr : ∀ x, x ∈ nodesV (opAdv c) → 0 ≤ x ∧ x < 6 := fun x hx => by
    have : x ∈ six := by simpa [nodesV, opAdv] using hx
    simp [six] at this
    omega
  have hok : OkE (opAdv c) := ⟨cl_ok hc, .inr (.inr (.inl rfl)), (fun e => by simp [opAdv] at e), (fun e => by simp [opAdv] at e), (fun e => by simp [opAdv] at e), (fun e => by simp [opAdv] at e)⟩
  have hgu : UV (BitVec.ofNat 32 a.g) = (a.g : Int) := ofNat_UV (by omega)
  have hnx := next3_ok (opAdv c) H (BitVec.ofNat 32 a.g) (NI N) hok (rdy_of h hE _ hr) rfl (by rw [hgu]; omega)
  have hll : ∀ k : Nat, k < 6 → lagE (NI N) (BitVec.ofNat 32 a.g) (k : Int) = late a k := fun k hk => late_lag h hG hN hk
  by_cases hex : ∃ k : Nat, k < 6 ∧ late a k = true ∧ ∀ j, j < k → late a j = false
  · obtain ⟨k, hk, hl, hno⟩ := hex
    have e : nx3 H (BitVec.ofNat 32 a.g) (NI N) = ([], ⟨3, 0#32, (k : Int), [], []⟩) := by
      unfold nx3 advE
      dsimp only
      rw [find_first (six_at hk) (fun y hy => by
        obtain ⟨j, hj⟩ := List.getElem?_of_mem hy
        have hjk : j < k := by
          have := (List.getElem?_eq_some_iff.1 hj).1
          rw [List.length_take] at this; omega
        rw [List.getElem?_take_of_lt hjk, six_at (by omega)] at hj
        injection hj with hj
        subst hj
        rw [hll j (by omega)]; exact hno j hjk) (by rw [hll k hk]; exact hl)]
    rw [e] at hnx
    have ha : a.adv1 = a := by
      unfold AW.adv1
      rw [if_pos (List.any_eq_true.2 ⟨k, List.mem_range.2 hk, hl⟩)]
    refine ⟨[], _, hnx, GW.nil H, fun _ => rfl, by rw [ha]; exact ⟨h.S, h.tl, h.to, h.I, h.B, by omega, h.ei⟩, fun k' hk' hl' hno' => ?_, fun hall => ?_⟩
    · have : k' = k := by
        rcases Nat.lt_trichotomy k' k with hlt | hlt | hlt
        · rw [hno k' hlt] at hl'; cases hl'
        · exact hlt
        · rw [hno' k hlt] at hl; cases hl
      subst this
      exact ⟨rfl, rfl, ha⟩
    · rw [hall k hk] at hl; cases hl
  · have hall : ∀ k, k < 6 → late a k = false := by
      have key : ∀ m, m ≤ 6 → ∀ k, k < m → late a k = false := fun m => by
        induction m with
        | zero => intro _ k hk; omega
        | succ m ih =>
          intro hm k hk
          have ih' := ih (by omega)
          by_cases e : k = m
          · subst e
            cases hv : late a k with
            | false => rfl
            | true => exact absurd ⟨k, by omega, hv, ih'⟩ hex
          · exact ih' k (by omega)
      exact key 6 (Nat.le_refl _)
    have e : nx3 H (BitVec.ofNat 32 a.g) (NI N) = ([(writeE (latP H 97) (BitVec.ofNat 32 a.g + 1#32)).1], ⟨0, BitVec.ofNat 32 a.g + 1#32, 0, [], six.map (fun c => 98 + c)⟩) := by
      unfold nx3 advE
      dsimp only
      rw [show six.find? (lagE (NI N) (BitVec.ofNat 32 a.g)) = none from List.find?_eq_none.2 (fun y hy => by
        obtain ⟨j, hj⟩ := List.getElem?_of_mem hy
        have hj6 : j < 6 := (List.getElem?_eq_some_iff.1 hj).1
        rw [six_at hj6] at hj
        injection hj with hj
        subst hj
        rw [hll j hj6, hall j hj6]; simp)]
    rw [e] at hnx
    have ha : a.adv1 = a.adv := by
      unfold AW.adv1
      rw [if_neg (fun h => by
        obtain ⟨k, h1, h2⟩ := List.any_eq_true.1 h
        rw [hall k (List.mem_range.1 h1)] at h2; cases h2)]
    obtain ⟨p, hp⟩ := hE.at_ (k := 1) (by have := h.S.n5; omega)
    have e1 := (hE.lat hp).1
    rw [show (96 + ((1 : Nat) : Int)) = 97 from rfl] at e1
    rw [e1] at hnx
    have hpl : p.l = 97 := hE.ln 1 p hp
    obtain ⟨w1, w2⟩ := back_epoch (p := p) (e := BitVec.ofNat 32 a.g + 1#32) hpl
    have hge : BitVec.ofNat 32 a.g + 1#32 = BitVec.ofNat 32 (a.g + 1) := by
      apply BitVec.eq_of_toNat_eq
      simp
    rw [hge] at hnx w1 w2
    have hpin : ∀ c e, a.pin c = some e → e = a.g := fun c e hc => by
      have := hall c (h.B c e hc)
      unfold late at this
      rw [hc] at this
      simpa using this
    refine ⟨_, _, hnx, ⟨fun w hw0 => ?_, fun w hw0 => by rw [List.mem_singleton.1 hw0]; omega⟩, fun e => absurd rfl e, ?_, fun k hk hl => ?_, fun _ => ⟨rfl, by
      show UV (BitVec.ofNat 32 (a.g + 1)) = _
      rw [ofNat_UV (by omega)]; omega, ha⟩⟩
    · have e : (writeE p (BitVec.ofNat 32 (a.g + 1))).1 = w := by simpa using hw0
      subst e
      refine hE.nin hp (by omega) fun e => ?_
      rw [e, hE.ep p hp] at w1
      injection w1 with w1 _
      have h1 := congrArg UV w1
      rw [hgu, ofNat_UV (by omega)] at h1
      omega
    · rw [ha]
      refine ⟨h.S, h.tl, h.to, h.I.adv hpin, h.B, by show a.g + 1 ≤ G + 1; omega, N, ?_, fun d hd => (hN d hd).same rfl fun _ => rfl⟩
      exact hE.comEpoch h.S w2 w1
    · rw [hall k hk] at hl; cases hl
def opRet (c : Nat) (p : Pt) : Eop := ⟨4, c, 0, 0, 0, [p]⟩
theorem setR_rj (n : Nd) (r : Re) {j i : Nat} (hj : j < 4) (hi : i < 4) : rj (setR n j r) i = if i = j then r else rj n i := by
  match j, hj, i, hi with
  | 0, _, 0, _ | 0, _, 1, _ | 0, _, 2, _ | 0, _, 3, _ | 1, _, 0, _ | 1, _, 1, _ | 1, _, 2, _ | 1, _, 3, _ | 2, _, 0, _ | 2, _, 1, _ | 2, _, 2, _ | 2, _, 3, _ | 3, _, 0, _ | 3, _, 1, _ | 3, _, 2, _ | 3, _, 3, _ => rfl
theorem setR_rest (n : Nd) (r : Re) (j : Nat) : (setR n j r).pin = n.pin ∧ (setR n j r).ep = n.ep ∧ (setR n j r).inc = n.inc ∧ (setR n j r).sg = n.sg := by
  unfold setR
  split <;> exact ⟨rfl, rfl, rfl, rfl⟩
theorem firstR_at (n : Nd) : firstR n ≤ 4 ∧ (firstR n < 4 → rj n (firstR n) = Re.nil) ∧ ∀ i, i < firstR n → ¬ rj n i = Re.nil := by
  refine ⟨?_, ?_, fun i hi => firstR_no n hi⟩
  · unfold firstR
    repeat' split
    all_goals omega
  · unfold firstR
    intro h
    split
    · assumption
    · rename_i h0
      rw [if_neg h0] at h
      split
      · assumption
      · rename_i h1
        rw [if_neg h1] at h
        split
        · assumption
        · rename_i h2
          rw [if_neg h2] at h
          split
          · assumption
          · rename_i h3
            rw [if_neg h3] at h
            omega
theorem ret_next (h : WI n s0 G is tos a H) (hG : G ≤ 900) {c k : Nat} (hc : c < 6) (hk : k < 12) (hrk : a.ret k = none) (hfk : a.fre k = false) :
    ∃ ws out, FnP Tryz.prog 43 [IsEop (opRet c (tos.getD k Pt.nil)), IsSl tPg H] (IsTup [IsSl tI64 [], IsSl tPg ws, IsEout out, Is (.bool true)]) ∧ GW H ws ∧ (¬ out.code = 0 → ws = []) ∧
      WI n s0 G is tos (a.ret1 c k) (ws.foldl comP H) ∧ ((out.code = 0 ∧ (a.ret1 c k).ret k = some a.g ∧ ∃ j, a.ret1 c k = a.retire c j k) ∨ out.code = 12 ∧ a.ret1 c k = a) := by
  obtain ⟨N, hE, hN⟩ := h.ei
  have hgb := h.gb
  have hNc := hN c hc
  have hr : ∀ x, x ∈ nodesV (opRet c (tos.getD k Pt.nil)) → 0 ≤ x ∧ x < 6 := fun x hx => by
    have : x = (c : Int) := by simpa [nodesV, opRet] using hx
    omega
  have hok : OkE (opRet c (tos.getD k Pt.nil)) := ⟨cl_ok hc, .inr (.inr (.inr (.inl rfl))), (fun e => by simp [opRet] at e), (fun e => by simp [opRet] at e), (fun e => by simp [opRet] at e), (fun _ => ⟨_, rfl, (h.valid hk).1⟩)⟩
  have hNI : NI N (opRet c (tos.getD k Pt.nil)).client = N c := by unfold NI opRet; simp
  have hsv : ∀ j k' e, a.slot c j = some (k', e) → tos.getD k' Pt.nil ≠ Pt.nil := fun j k' e hs => (h.valid (h.I.s1 c j k' e hs).1).2
  have hnl : ∀ j, j < 4 → (rj (N c) j = Re.nil ↔ a.slot c j = none) := fun j hj => by
    rw [hNc.re j hj]; exact reOf_nil (hsv j)
  have hnx := next4_ok (opRet c (tos.getD k Pt.nil)) (tos.getD k Pt.nil) H (BitVec.ofNat 32 a.g) (NI N) hok (rdy_of h hE _ hr) rfl rfl (fun j hj hne e => by
    rw [hNI] at hne e
    rw [hNc.re j hj] at e
    cases hs : a.slot c j with
    | none => exact hne ((hnl j hj).2 hs)
    | some x =>
      obtain ⟨k', e'⟩ := x
      rw [hs] at e
      have hs1 := h.I.s1 c j k' e' hs
      have := h.inj hs1.1 hk e
      subst this
      rw [hrk] at hs1
      exact absurd hs1.2.2.2.1 (by simp))
  obtain ⟨f1, f2, f3⟩ := firstR_at (N c)
  have hcond : ¬ (((a.ret k).isSome || a.fre k) = true) := by rw [hrk, hfk]; simp
  rcases Nat.lt_or_ge (firstR (N c)) 4 with h4 | h4
  · obtain ⟨j, hj⟩ : ∃ j, firstR (N c) = j := ⟨_, rfl⟩
    rw [hj] at f2 f3 h4
    have hsj := (hnl j h4).1 (f2 h4)
    have hnj : nilJ a c = some j := by
      unfold nilJ
      refine find_first (k := j) (by rw [List.getElem?_range h4]) (fun y hy => ?_) (by rw [hsj]; rfl)
      obtain ⟨i, hi⟩ := List.getElem?_of_mem hy
      have hij : i < j := by
        have := (List.getElem?_eq_some_iff.1 hi).1
        rw [List.length_take] at this; omega
      rw [List.getElem?_take_of_lt hij, List.getElem?_range (by omega)] at hi
      injection hi with hi
      subst hi
      cases hv : a.slot c i with
      | none => exact absurd ((hnl i (by omega)).2 hv) (f3 i hij)
      | some _ => rfl
    have ha : a.ret1 c k = a.retire c j k := by
      unfold AW.ret1
      rw [if_neg hcond, hnj]
    have e : nx4 (opRet c (tos.getD k Pt.nil)) (tos.getD k Pt.nil) H (BitVec.ofNat 32 a.g) (NI N) = ([(writeN (latP H (98 + (c : Int))) (setR (N c) j ⟨tos.getD k Pt.nil, BitVec.ofNat 32 a.g⟩)).1], ⟨0, BitVec.ofNat 32 a.g, 0, [], [97]⟩) := by
      unfold nx4 retrE
      rw [hNI, hj, if_neg (by omega)]
      rfl
    rw [e] at hnx
    obtain ⟨q1, q2, q3, q4⟩ := setR_rest (N c) ⟨tos.getD k Pt.nil, BitVec.ofNat 32 a.g⟩ j
    obtain ⟨k1, k2⟩ := h.node hE hN hc (a' := a.retire c j k) (nd := setR (N c) j ⟨tos.getD k Pt.nil, BitVec.ofNat 32 a.g⟩) rfl rfl (h.I.retire hc h4 hk hsj hrk) h.B ⟨by rw [q1]; exact hNc.pin, by rw [q2]; exact hNc.ep, by rw [q3]; exact hNc.inc, by rw [q3]; exact hNc.inc2, by rw [q4]; exact hNc.sg, fun i hi => by
        rw [setR_rj _ _ h4 hi]
        show _ = reOf tos (if c = c ∧ i = j then some (k, a.g) else a.slot c i)
        by_cases e : i = j
        · rw [if_pos e, if_pos ⟨rfl, e⟩]; rfl
        · rw [if_neg e, if_neg (fun h => e h.2)]; exact hNc.re i hi⟩ (fun e => by
      have h1 : rj (setR (N c) j ⟨tos.getD k Pt.nil, BitVec.ofNat 32 a.g⟩) j = rj (N c) j := by rw [e]
      rw [setR_rj _ _ h4 h4, if_pos rfl, f2 h4] at h1
      injection h1 with h1 _
      exact (h.valid hk).2 h1) (fun d _ hne => ⟨rfl, fun i => if_neg (fun h => hne h.1)⟩)
    refine ⟨_, _, hnx, k1, fun e => absurd rfl e, by rw [ha]; exact k2, .inl ⟨rfl, by rw [ha]; exact if_pos rfl, j, ha⟩⟩
  · have hf4 : firstR (N c) = 4 := by omega
    have hnj : nilJ a c = none := by
      unfold nilJ
      refine List.find?_eq_none.2 fun y hy => ?_
      have hy4 := List.mem_range.1 hy
      cases hv : a.slot c y with
      | none => exact absurd ((hnl y hy4).2 hv) (f3 y (by omega))
      | some _ => simp
    have ha : a.ret1 c k = a := by
      unfold AW.ret1
      rw [if_neg hcond, hnj]
    have e : nx4 (opRet c (tos.getD k Pt.nil)) (tos.getD k Pt.nil) H (BitVec.ofNat 32 a.g) (NI N) = ([], ⟨12, 0#32, 0, [], []⟩) := by
      unfold nx4 retrE
      rw [hNI, if_pos hf4]
    rw [e] at hnx
    exact ⟨_, _, hnx, GW.nil H, fun _ => rfl, by rw [ha]; exact h, .inr ⟨rfl, ha⟩⟩
end
end Go.Proofs.YtfkmbdpnjcgimaaGreat

/- Plain laws: the world of the statements: what is collected. Own work. -/
namespace Go.Proofs.YtfkmbdpnjcgimaaGreat
open Go.RowKit
set_option linter.unusedVariables false
set_option linter.unusedSimpArgs false
set_option maxRecDepth 100000
/-! ### Lists -/
theorem sort_pg (xs : List Pg) (h : (xs.map Pg.l).Nodup) : ∃ zs : List Pg, zs.Perm xs ∧ zs.Pairwise (fun x y => x.l < y.l) := by
  refine ⟨xs.mergeSort (fun x y => decide (x.l ≤ y.l)), List.mergeSort_perm _ _, ?_⟩
  have h1 : (xs.mergeSort (fun x y => decide (x.l ≤ y.l))).Pairwise (fun x y => decide (x.l ≤ y.l) = true) := List.pairwise_mergeSort (fun a b c h1 h2 => by simp at h1 h2 ⊢; omega) (fun a b => by simp; omega) xs
  have h2 : (xs.mergeSort (fun x y => decide (x.l ≤ y.l))).Pairwise (fun x y => x.l ≠ y.l) := by
    have h3 : ((xs.mergeSort (fun x y => decide (x.l ≤ y.l))).map Pg.l).Nodup := (((List.mergeSort_perm xs _).map Pg.l).nodup_iff).2 h
    rw [List.Nodup, List.pairwise_map] at h3
    exact h3
  have h4 := h1.and h2
  exact h4.imp fun {x y} h => by
    have := of_decide_eq_true h.1
    have := h.2
    omega
theorem insV_end {w : Pg} : ∀ {acc : List Pg}, (∀ x, x ∈ acc → x.l < w.l) → insV acc w = acc ++ [w]
  | [], _ => rfl
  | x :: acc, h => by
    unfold insV
    rw [if_pos (h x (List.mem_cons_self ..)), insV_end fun y hy => h y (List.mem_cons_of_mem _ hy)]
    rfl
theorem ins_asc : ∀ {ws acc : List Pg}, ws.Pairwise (fun x y => x.l < y.l) → (∀ x, x ∈ acc → ∀ y, y ∈ ws → x.l < y.l) → ws.foldl insV acc = acc ++ ws
  | [], acc, _, _ => by simp
  | w :: ws, acc, h, h1 => by
    obtain ⟨h2, h3⟩ := List.pairwise_cons.1 h
    rw [List.foldl_cons, insV_end fun x hx => h1 x hx w (List.mem_cons_self ..), ins_asc h3]
    · simp
    · intro x hx y hy
      rcases List.mem_append.1 hx with hx | hx
      · exact h1 x hx y (List.mem_cons_of_mem _ hy)
      · rw [List.mem_singleton.1 hx]; exact h2 y hy
theorem merge_front {ws : List Pg} {w : Pg} (h : ws.Pairwise (fun x y => x.l < y.l)) (hw : ∀ x, x ∈ ws → w.l < x.l) : mergeV ws [w] = w :: ws := by
  unfold mergeV
  rw [List.foldl_append, ins_asc h (fun x hx => by cases hx), List.nil_append, List.foldl_cons, List.foldl_nil]
  cases ws with
  | nil => rfl
  | cons x ws =>
    have := hw x (List.mem_cons_self ..)
    unfold insV
    rw [if_neg (by omega), if_neg (by omega)]
theorem clr_bit (u : BitVec 32) (i : Nat) (hi : i < 32) : ∀ fs : List Fd, (∀ f, f ∈ fs → f.i < 32) → bitB (clrV u fs) i = (bitB u i && !fs.any fun f => f.i == i) := fun fs => by
  induction fs generalizing u with
  | nil => intro _; simp [clrV]
  | cons f fs ih =>
    intro h
    show bitB (clrV (u &&& ~~~(BitVec.ofInt 32 1 <<< f.i)) fs) i = _
    rw [ih _ fun x hx => h x (List.mem_cons_of_mem _ hx), bit_clear _ _ _ (h f (List.mem_cons_self ..)) hi, List.any_cons]
    have e : decide (i = f.i) = (f.i == i) := by
      rw [Bool.eq_iff_iff]; simp; exact ⟨fun e => e.symm, fun e => e.symm⟩
    rw [e]
    cases bitB u i <;> cases (f.i == i) <;> simp
/-! ### What is taken -/
theorem sel_cnt (a : AW) (c : Nat) : ∀ k, ((List.range k).filter (selJ a c)).length = min 2 ((List.range k).filter (safeJ a c)).length
  | 0 => rfl
  | k + 1 => by
    rw [List.range_succ, List.filter_append, List.filter_append, List.length_append, List.length_append, sel_cnt a c k]
    have e : selJ a c k = (safeJ a c k && decide (((List.range k).filter (safeJ a c)).length < 2)) := rfl
    cases hs : safeJ a c k with
    | false => rw [hs] at e; simp [e, hs]
    | true =>
      by_cases h2 : ((List.range k).filter (safeJ a c)).length < 2
      · rw [hs, decide_eq_true h2] at e
        simp [e, hs]; omega
      · rw [hs, decide_eq_false h2] at e
        simp [e, hs]; omega
def selL (a : AW) (c : Nat) (k : Nat) : List Nat := (List.range k).filter (selJ a c)
theorem colK_sel {a : AW} {c : Nat} {n : Nd} {g : BitVec 32} (hok : ∀ j, j < 4 → okC n g j = safeJ a c j) : ∀ k, k ≤ 4 → (colK n g k).1 = (selL a c k).map (fun j => (rj n j).to) ∧ (∀ i, i < 4 → rj (colK n g k).2 i = if i < k ∧ selJ a c i = true then Re.nil else rj n i) ∧ (colK n g k).2.pin = n.pin ∧ (colK n g k).2.ep = n.ep ∧ (colK n g k).2.inc = n.inc ∧ (colK n g k).2.sg = n.sg
  | 0, _ => ⟨rfl, fun i _ => by rw [if_neg (fun h => absurd h.1 (Nat.not_lt_zero _))]; rfl, rfl, rfl, rfl, rfl⟩
  | k + 1, hk => by
    obtain ⟨h1, h2, h3, h4, h5, h6⟩ := colK_sel hok k (by omega)
    have hlen : (colK n g k).1.length = min 2 ((List.range k).filter (safeJ a c)).length := by rw [h1, List.length_map]; exact sel_cnt a c k
    have hcond : (okC n g k && decide ((colK n g k).1.length < 2)) = selJ a c k := by
      show _ = (safeJ a c k && decide (((List.range k).filter (safeJ a c)).length < 2))
      rw [hok k (by omega), hlen]
      congr 1
      rw [Bool.eq_iff_iff]; simp; omega
    have hsl : selL a c (k + 1) = selL a c k ++ if selJ a c k = true then [k] else [] := by
      unfold selL
      rw [List.range_succ, List.filter_append]
      by_cases e : selJ a c k = true
      · simp [e]
      · simp [e]
    by_cases hs : selJ a c k = true
    · rw [colK_yes (by rw [hcond]; exact hs), hsl, if_pos hs]
      obtain ⟨q1, q2, q3, q4⟩ := setR_rest (colK n g k).2 Re.nil k
      refine ⟨by rw [List.map_append, ← h1]; rfl, fun i hi => ?_, q1.trans h3, q2.trans h4, q3.trans h5, q4.trans h6⟩
      rw [setR_rj _ _ (by omega) hi]
      by_cases e : i = k
      · subst e; rw [if_pos rfl, if_pos ⟨by omega, hs⟩]
      · rw [if_neg e, h2 i hi]
        by_cases e2 : i < k ∧ selJ a c i = true
        · rw [if_pos e2, if_pos ⟨by omega, e2.2⟩]
        · rw [if_neg e2, if_neg (fun h => e2 ⟨by omega, h.2⟩)]
    · rw [colK_no (by rw [hcond]; exact hs), hsl, if_neg hs, List.append_nil]
      refine ⟨h1, fun i hi => ?_, h3, h4, h5, h6⟩
      rw [h2 i hi]
      by_cases e2 : i < k ∧ selJ a c i = true
      · rw [if_pos e2, if_pos ⟨by omega, e2.2⟩]
      · rw [if_neg e2, if_neg (fun h => e2 ⟨by
          by_cases e : i = k
          · subst e; exact absurd h.2 hs
          · omega, h.2⟩)]
def kOf (a : AW) (c j : Nat) : Nat := match a.slot c j with
  | some x => x.1
  | none => 0
theorem sel_slot {a : AW} {c j : Nat} (h : selJ a c j = true) : ∃ e, a.slot c j = some (kOf a c j, e) ∧ e + 2 ≤ a.g := by
  unfold selJ safeJ at h
  unfold kOf
  cases hs : a.slot c j with
  | none => rw [hs] at h; cases h
  | some x =>
    rw [hs] at h
    exact ⟨x.2, rfl, of_decide_eq_true (Bool.and_eq_true_iff.1 h).1⟩
section
variable {n s0 G : Nat} {is : List Nat} {tos : List Pt} {a : AW} {H : List Pg}
theorem EI.comAll (hS : ES n s0 is) {g : Nat} {N : Nat → Nd} {u' : BitVec 32} {Ub' : Nat → Bool} (hu : usable u') (hb : ∀ k i, is[k]? = some i → bitB u' i = Ub' k) : ∀ (W H : List Pg) (Ub Kd : Nat → Bool), EI n s0 is g N Ub Kd H →
    (∀ w, w ∈ W → (w.l = 104 + 16 * (s0 : Int) ∧ readH w = (⟨0, u'⟩, 0)) ∨ ∃ (k i : Nat), is[k]? = some i ∧ w.l = 104 + 16 * (s0 : Int) + i ∧ kindV w.d0 = 0 ∧ genV w.d0 = 1) →
    ∃ Ub'' Kd'', EI n s0 is g N Ub'' Kd'' (W.foldl comP H) ∧ ((∃ w, w ∈ W ∧ w.l = 104 + 16 * (s0 : Int)) ∨ Ub = Ub' → Ub'' = Ub') ∧ ∀ k, Kd'' k = true ↔ Kd k = true ∨ ∃ w, w ∈ W ∧ ∃ i : Nat, is[k]? = some i ∧ w.l = 104 + 16 * (s0 : Int) + i
  | [], H, Ub, Kd, hE, _ => ⟨Ub, Kd, hE, fun h => h.elim (fun ⟨w, hw, _⟩ => by cases hw) id, fun k => ⟨.inl, fun h => h.elim id fun ⟨w, hw, _⟩ => by cases hw⟩⟩
  | w :: W, H, Ub, Kd, hE, hW => by
    rcases hW w (List.mem_cons_self ..) with ⟨h1, h2⟩ | ⟨k0, i0, h1, h2, h3, h4⟩
    · obtain ⟨Ub2, Kd2, e1, e2, e3⟩ := EI.comAll hS hu hb W (comP H w) Ub' Kd (hE.comHead hS h1 h2 hu hb) fun x hx => hW x (List.mem_cons_of_mem _ hx)
      refine ⟨Ub2, Kd2, e1, fun _ => e2 (.inr rfl), fun k => ?_⟩
      rw [e3 k]
      refine or_congr Iff.rfl ⟨fun ⟨x, hx, q⟩ => ⟨x, List.mem_cons_of_mem _ hx, q⟩, fun ⟨x, hx, i, q1, q2⟩ => ?_⟩
      rcases List.mem_cons.1 hx with rfl | hx
      · have := hS.rng i (List.mem_of_getElem? q1)
        omega
      · exact ⟨x, hx, i, q1, q2⟩
    · have hr := hS.rng i0 (List.mem_of_getElem? h1)
      obtain ⟨Ub2, Kd2, e1, e2, e3⟩ := EI.comAll hS hu hb W (comP H w) Ub _ (hE.comPage hS h1 h2 h3 h4) fun x hx => hW x (List.mem_cons_of_mem _ hx)
      refine ⟨Ub2, Kd2, e1, fun h => e2 (h.elim (fun ⟨x, hx, q⟩ => ?_) .inr), fun k => ?_⟩
      · rcases List.mem_cons.1 hx with rfl | hx
        · omega
        · exact .inl ⟨x, hx, q⟩
      · rw [e3 k]
        constructor
        · rintro (h | ⟨x, hx, q⟩)
          · by_cases e : k = k0
            · subst e; exact .inr ⟨w, List.mem_cons_self .., i0, h1, h2⟩
            · rw [if_neg e] at h; exact .inl h
          · exact .inr ⟨x, List.mem_cons_of_mem _ hx, q⟩
        · rintro (h | ⟨x, hx, i, q1, q2⟩)
          · left
            split
            · rfl
            · exact h
          · rcases List.mem_cons.1 hx with rfl | hx
            · left
              have : i = i0 := by omega
              subst this
              rw [if_pos ((List.getElem?_inj (List.getElem?_eq_some_iff.1 q1).1 hS.nod).1 (q1.trans h1.symm))]
            · exact .inr ⟨x, hx, i, q1, q2⟩
def opCol (n c d : Nat) : Eop := ⟨5, c, 0, 104 + 16 * (n : Int), d, []⟩
theorem col_next (h : WI n s0 G is tos a H) (hG : G ≤ 900) {c d : Nat} (hc : c < 6) (hd : d < 6) :
    ∃ ws out, FnP Tryz.prog 43 [IsEop (opCol n c d), IsSl tPg H] (IsTup [IsSl tI64 [], IsSl tPg ws, IsEout out, Is (.bool true)]) ∧ GW H ws ∧ (¬ out.code = 0 → ws = []) ∧
      WI n s0 G is tos (a.col d) (ws.foldl comP H) ∧ ((out.code = 16 ∧ out.freed = [] ∧ a.col d = a) ∨ (out.code = 0 ∧ ∃ ks : List Nat, out.freed = ks.map (fun k => tos.getD k Pt.nil) ∧ 1 ≤ ks.length ∧ ks.length ≤ 2 ∧ ks.Nodup ∧ (∀ k, k ∈ ks → k < 12 ∧ a.fre k = false ∧ ∃ e, a.ret k = some e ∧ e + 2 ≤ a.g) ∧ ∀ k, (a.col d).fre k = true ↔ a.fre k = true ∨ k ∈ ks)) := by
  obtain ⟨N, hE, hN⟩ := h.ei
  have hgb := h.gb
  have h5 := h.S.n5
  have hs := h.S.s
  have hNd := hN d hd
  have hr : ∀ x, x ∈ nodesV (opCol n c d) → 0 ≤ x ∧ x < 6 := fun x hx => by
    have : x = (d : Int) := by simpa [nodesV, opCol] using hx
    omega
  have hok : OkE (opCol n c d) := ⟨cl_ok hc, .inr (.inr (.inr (.inr (.inl rfl)))), (fun e => by simp [opCol] at e), (fun _ => cl_ok hd), (fun _ => by show 104 ≤ 104 + 16 * (n : Int) ∧ 104 + 16 * (n : Int) ≤ 256; omega), (fun e => by simp [opCol] at e)⟩
  have hNI : NI N (opCol n c d).for_ = N d := by unfold NI opCol; simp
  have hsv : ∀ j k' e, a.slot d j = some (k', e) → tos.getD k' Pt.nil ≠ Pt.nil := fun j k' e hs => (h.valid (h.I.s1 d j k' e hs).1).2
  have hoc : ∀ j, j < 4 → okC (N d) (BitVec.ofNat 32 a.g) j = safeJ a d j := fun j hj => by
    unfold okC safeJ safeV
    rw [hNd.re j hj]
    cases hq : a.slot d j with
    | none => rfl
    | some x =>
      obtain ⟨k, e⟩ := x
      have h1 : ¬ reOf tos (some (k, e)) = Re.nil := fun h2 => by
        have := (reOf_nil (tos := tos) (x := some (k, e)) (fun k' e' h3 => by injection h3 with h3; injection h3 with h3 h4; subst h3 h4; exact hsv j k e hq)).1 h2
        cases this
      have h2 := h.I.s1 d j k e hq
      have h3 := h.I.r1 k e h2.2.2.2.1
      rw [decide_eq_false h1]
      have e1 : (reOf tos (some (k, e))).ep = BitVec.ofNat 32 e := rfl
      rw [e1, ofNat_UV (by omega), ofNat_UV (by omega), Bool.eq_iff_iff]
      simp
      omega
  obtain ⟨c1, c2, c3, c4, c5, c6⟩ := colK_sel hoc 4 (Nat.le_refl _)
  obtain ⟨js, hjs⟩ : ∃ js, selL a d 4 = js := ⟨_, rfl⟩
  have hmem : ∀ j, j ∈ js ↔ j < 4 ∧ selJ a d j = true := fun j => by
    rw [← hjs]; unfold selL; rw [List.mem_filter, List.mem_range]
  have hjnd : js.Nodup := by rw [← hjs]; exact List.Pairwise.sublist List.filter_sublist List.nodup_range
  have hjl : js.length ≤ 2 := by
    rw [← hjs]
    have := sel_cnt a d 4
    unfold selL
    omega
  rw [hjs] at c1
  have hfree : ∀ k, (a.col d).fre k = true ↔ a.fre k = true ∨ k ∈ js.map (kOf a d) := fun k => by
    unfold AW.col
    rw [free_fre]
    refine or_congr Iff.rfl ⟨fun ⟨j, e, q1, q2, q3⟩ => ?_, fun hk => ?_⟩
    · refine List.mem_map.2 ⟨j, (hmem j).2 ⟨q1, q2⟩, ?_⟩
      unfold kOf; rw [q3]
    · obtain ⟨j, hj, rfl⟩ := List.mem_map.1 hk
      obtain ⟨q1, q2⟩ := (hmem j).1 hj
      obtain ⟨e, q3, _⟩ := sel_slot q2
      exact ⟨j, e, q1, q2, q3⟩
  have hknd : (js.map (kOf a d)).Nodup := by
    rw [List.Nodup, List.pairwise_map]
    refine (List.Pairwise.and_mem.1 hjnd).imp fun {x y} ⟨hx, hy, hne⟩ e => ?_
    obtain ⟨e1, q1, _⟩ := sel_slot ((hmem x).1 hx).2
    obtain ⟨e2, q2, _⟩ := sel_slot ((hmem y).1 hy).2
    rw [← e] at q2
    exact hne (h.I.s2 _ _ _ _ _ _ _ q1 q2).2
  have hkf : ∀ k, k ∈ js.map (kOf a d) → k < 12 ∧ a.fre k = false ∧ ∃ e, a.ret k = some e ∧ e + 2 ≤ a.g := fun k hk => by
    obtain ⟨j, hj, rfl⟩ := List.mem_map.1 hk
    obtain ⟨e, q1, q2⟩ := sel_slot ((hmem j).1 hj).2
    obtain ⟨p1, p2, p3, p4, p5⟩ := h.I.s1 _ _ _ _ q1
    exact ⟨p1, p5, e, p4, q2⟩
  have hto : js.map (fun j => (rj (N d) j).to) = (js.map (kOf a d)).map (fun k => tos.getD k Pt.nil) := by
    rw [List.map_map]
    refine List.map_congr_left fun j hj => ?_
    obtain ⟨q0, q1⟩ := (hmem j).1 hj
    obtain ⟨e, q2, _⟩ := sel_slot q1
    rw [hNd.re j q0, q2]
    rfl
  rw [hto] at c1
  by_cases hz : js = []
  · have e : ∀ ws, nx5 (opCol n c d) H (BitVec.ofNat 32 a.g) (NI N) ws = ([], ⟨16, 0#32, 0, [], []⟩) := fun ws => by
      unfold nx5 colE
      rw [hNI, if_pos (by show (colK (N d) (BitVec.ofNat 32 a.g) 4).1 = []; rw [c1, hz]; rfl)]
    have hnx := next5_ok (opCol n c d) H (BitVec.ofNat 32 a.g) (NI N) [] hok (rdy_of h hE _ hr) rfl (Nat.zero_le _) (by rw [e]; exact List.Pairwise.nil) (by rw [e]; exact Nat.zero_le _) (fun hne => absurd (by rw [hNI, c1, hz]; rfl) hne)
    rw [e] at hnx
    have ha : a.col d = a := by
      have hsel : ∀ j, j < 4 → selJ a d j = false := fun j hj => by
        cases hv : selJ a d j with
        | false => rfl
        | true => have := (hmem j).2 ⟨hj, hv⟩; rw [hz] at this; cases this
      unfold AW.col AW.free
      have e1 : (fun d' i => if d' = d ∧ selJ a d i = true then none else a.slot d' i) = a.slot := by
        funext d' i
        by_cases e : d' = d ∧ selJ a d i = true
        · exfalso
          obtain ⟨e', q, _⟩ := sel_slot e.2
          have := (h.I.s1 _ _ _ _ q).2.2.1
          rw [hsel i this] at e
          cases e.2
        · rw [if_neg e]
      have e2 : (a.col d).fre = a.fre := by
        funext k
        rw [Bool.eq_iff_iff, hfree k, hz]
        simp
      unfold AW.col AW.free at e2
      dsimp only at e2
      rw [e1, e2]
    refine ⟨[], _, hnx, GW.nil H, fun _ => rfl, by rw [ha]; exact h, .inl ⟨rfl, rfl, ha⟩⟩
  · have hjl1 : 1 ≤ js.length := by
      cases js with
      | nil => exact absurd rfl hz
      | cons x xs => simp
    -- the header
    obtain ⟨u, hu, hbit, hhd⟩ := hE.hd
    obtain ⟨ph, hph⟩ := hE.at_ (k := 8 + 16 * s0) (by omega)
    have hrh := hhd ph hph
    have hphl := hE.ln _ _ hph
    have hhead : headV H (s0 : Int) = (ph, ⟨0, u⟩, true, 0) := by
      obtain ⟨e1, e2⟩ := hE.lat hph
      rw [← line_seg (by omega)] at e1 e2
      unfold headV
      rw [if_pos e2, e1, if_neg (by rw [hE.un _ ph hph]; simp), hrh]
    -- the pages
    obtain ⟨qf, hqf⟩ : ∃ qf : Nat → Pg, ∀ k i, is[k]? = some i → H[8 + 16 * s0 + i]? = some (qf k) := by
      refine ⟨fun k => H.getD (8 + 16 * s0 + is.getD k 0) Pg.nil, fun k i hi => ?_⟩
      have hir := h.S.rng i (List.mem_of_getElem? hi)
      obtain ⟨p, hp⟩ := hE.at_ (k := 8 + 16 * s0 + i) (by omega)
      show _ = some (H.getD (8 + 16 * s0 + is.getD k 0) Pg.nil)
      rw [show is.getD k 0 = i by rw [List.getD_eq_getElem?_getD, hi]; rfl, List.getD_eq_getElem?_getD, hp]
      rfl
    obtain ⟨fd, hfd⟩ : ∃ fd : Nat → Fd, ∀ k, fd k = ⟨tos.getD k Pt.nil, is.getD k 0, qf k, tagP (qf k) ⟨0, genV (qf k).d0, 0#32⟩⟩ := ⟨_, fun _ => rfl⟩
    obtain ⟨fs, hfs0⟩ : ∃ fs : List Fd, fs = (js.map (kOf a d)).map fd := ⟨_, rfl⟩
    have hfmem : ∀ f, f ∈ fs → ∃ k i, k ∈ js.map (kOf a d) ∧ f = fd k ∧ is[k]? = some i ∧ (1 ≤ i ∧ i ≤ 15) ∧ f.p = ⟨104 + 16 * (s0 : Int) + i, 1⟩ ∧ f.i = i ∧ f.w.l = 104 + 16 * (s0 : Int) + i ∧ H[8 + 16 * s0 + i]? = some f.q ∧ f.w = tagP f.q ⟨0, genV f.q.d0, 0#32⟩ ∧ kindV f.q.d0 = 1 ∧ genV f.q.d0 = 1 := fun f hf => by
      rw [hfs0] at hf
      obtain ⟨k, hk, rfl⟩ := List.mem_map.1 hf
      obtain ⟨k1, k2, _⟩ := hkf k hk
      obtain ⟨i, i1, i2, i3⟩ := h.tok k1
      have hq := hqf k i i1
      obtain ⟨d1, d2⟩ := hE.dp k i _ i1 hq
      rw [k2, if_neg (by simp)] at d1
      refine ⟨k, i, hk, rfl, i1, i2, by rw [hfd]; exact i3, by rw [hfd]; show is.getD k 0 = i; rw [List.getD_eq_getElem?_getD, i1]; rfl, by rw [hfd]; show (qf k).l = _; rw [hE.ln _ _ hq]; omega, by rw [hfd]; exact hq, by rw [hfd], by rw [hfd]; exact d1, by rw [hfd]; exact d2⟩
    have hfl : fs.length = js.length := by rw [hfs0, List.length_map, List.length_map]
    have hpl : fs.map Fd.p = (js.map (kOf a d)).map (fun k => tos.getD k Pt.nil) := by
      rw [hfs0, List.map_map]
      exact List.map_congr_left fun k _ => by rw [Function.comp, hfd]
    have hok2 : ∀ f, f ∈ fs → FdOk H (104 + 16 * (n : Int)) s0 u f := fun f hf => by
      obtain ⟨k, i, hk, hfk, i1, i2, p1, p2, p3, p4, p5, p6, p7⟩ := hfmem f hf
      obtain ⟨k1, k2, _⟩ := hkf k hk
      have hql := hE.ln _ _ p4
      have hqu := hE.un _ _ p4
      have hla := (hE.lat p4).1
      refine ⟨by rw [p2]; exact loc_seg (by omega) hs i2 (by rw [p1]), by rw [p2]; omega, by rw [p1, validP_iff]; simp only; omega, by rw [p1]; rw [show (96 + ((8 + 16 * s0 + i : Nat) : Int)) = 104 + 16 * (s0 : Int) + i by omega] at hla; exact hla, hqu, by rw [p6]; decide, by rw [p7, p1], ?_, ?_⟩
      · rw [p5]
        unfold relP
        rw [if_pos (by unfold heapB; simp; omega), if_neg (by rw [hqu]; simp), if_neg (by rw [p6]; decide)]
      · rw [p2, hbit k i i1, k2]; rfl
    have hlnd : (fs.map fun f => f.p.line).Nodup := by
      rw [hfs0, List.Nodup, List.pairwise_map, List.pairwise_map]
      refine (List.Pairwise.and_mem.1 hknd).imp fun {x y} ⟨hx, hy, hne⟩ e => ?_
      obtain ⟨x1, _⟩ := hkf x hx
      obtain ⟨y1, _⟩ := hkf y hy
      obtain ⟨i, a1, _, a2⟩ := h.tok x1
      obtain ⟨i', b1, _, b2⟩ := h.tok y1
      rw [hfd, hfd] at e
      have e' : (tos.getD x Pt.nil).line = (tos.getD y Pt.nil).line := e
      rw [a2, b2] at e'
      refine hne (h.inj x1 y1 ?_)
      rw [a2, b2]
      have : i = i' := by simp only at e'; omega
      rw [this]
    obtain ⟨wh, hwh⟩ : ∃ wh, (writeH ph ⟨0, clrV u fs⟩).1 = wh := ⟨_, rfl⟩
    have hfi : ∀ f, f ∈ fs → f.i < 32 := fun f hf => by have := (hok2 f hf).i15; omega
    have hu' : usable (clrV u fs) := fun t ht => by
      have ht32 : t < 32 := by rw [bit_lsb] at ht; exact BitVec.lt_of_getLsbD ht
      rw [clr_bit u t ht32 fs hfi] at ht
      exact hu t (Bool.and_eq_true_iff.1 ht).1
    have w2 := back_header (write_hd (p := ph) (o := 0) (u := clrV u fs) (hdr_seg (s := s0) (by omega) (by omega)) ⟨by decide, by decide⟩ hu')
    rw [hwh] at w2
    have hwhl : wh.l = 104 + 16 * (s0 : Int) := by rw [w2.2.1]; omega
    have hwnd : ((fs.map Fd.w ++ [wh]).map Pg.l).Nodup := by
      rw [List.map_append, List.map_map]
      refine List.nodup_append.2 ⟨?_, by simp, fun x hx y hy e => ?_⟩
      · have e : fs.map (Pg.l ∘ Fd.w) = fs.map fun f => f.p.line := List.map_congr_left fun f hf => by
          obtain ⟨k, i, _, _, _, _, p1, _, p3, _⟩ := hfmem f hf
          rw [Function.comp, p3, p1]
        rw [e]; exact hlnd
      · obtain ⟨f, hf, rfl⟩ := List.mem_map.1 hx
        obtain ⟨k, i, _, _, _, i2, p1, _, p3, _⟩ := hfmem f hf
        simp only [List.map_cons, List.map_nil, List.mem_singleton] at hy
        rw [hy, hwhl, Function.comp, p3] at e
        omega
    obtain ⟨zs, hzp, hza⟩ := sort_pg _ hwnd
    have hzl : zs.length = fs.length + 1 := by rw [hzp.length_eq]; simp
    have hmiss : missV H (frLines s0 fs) = [] := by
      unfold missV
      rw [List.filter_eq_nil_iff]
      intro l hl
      have key : ∃ k : Nat, k < 8 + 16 * n ∧ l = 96 + (k : Int) := by
        unfold frLines at hl
        obtain ⟨f, hf, hl⟩ := List.mem_flatMap.1 hl
        obtain ⟨k, i, _, _, _, i2, p1, _⟩ := hfmem f hf
        rcases List.mem_cons.1 hl with rfl | hl
        · exact ⟨8 + 16 * s0 + i, by omega, by rw [p1]; simp only; omega⟩
        · exact ⟨8 + 16 * s0, by omega, by rw [List.mem_singleton.1 hl]; exact line_seg (by omega)⟩
      obtain ⟨k, hk, rfl⟩ := key
      obtain ⟨p, hp⟩ := hE.at_ hk
      have e : latO H (96 + (k : Int)) = some p := lat_hit hp (hE.ln k p hp) fun j q hj hq => by rw [hE.ln j q hq]; omega
      rw [e]; simp
    have hfree2 := FreeN_ok H (104 + 16 * (n : Int)) fs s0 ph wh 0 u zs (by unfold sizeB; simp; omega) (by omega) (by omega) (by omega) hok2 hlnd hmiss hhead hwh hzp hza
    rw [hpl, ← c1] at hfree2
    have hne0 : ¬ (colK (N d) (BitVec.ofNat 32 a.g) 4).1 = [] := by rw [c1]; simp [hz]
    -- the node
    obtain ⟨nd, hnd0⟩ : ∃ nd, (colK (N d) (BitVec.ofNat 32 a.g) 4).2 = nd := ⟨_, rfl⟩
    rw [hnd0] at c2 c3 c4 c5 c6
    have hI' : AI (a.col d) := h.I.free d _
    have hB' : PB (a.col d) := h.B
    have hsl : ∀ d' i, (a.col d).slot d' i = if d' = d ∧ selJ a d i = true then none else a.slot d' i := fun _ _ => rfl
    have hndG : NdG tos (a.col d) d nd := ⟨by rw [c3]; exact hNd.pin, by rw [c4]; exact hNd.ep, by rw [c5]; exact hNd.inc, by rw [c5]; exact hNd.inc2, by rw [c6]; exact hNd.sg, fun j hj => by
      rw [c2 j hj, hsl]
      by_cases e : selJ a d j = true
      · rw [if_pos ⟨hj, e⟩, if_pos ⟨rfl, e⟩]; rfl
      · rw [if_neg (fun h => e h.2), if_neg (fun h => e h.2)]; exact hNd.re j hj⟩
    obtain ⟨p, hp⟩ := hE.at_ (k := 2 + d) (by omega)
    have hlat := (hE.lat hp).1
    rw [show (96 + ((2 + d : Nat) : Int)) = 98 + (d : Int) by omega] at hlat
    have hpl2 := hE.ln _ _ hp
    have hw := back_node (nd_write (p := p) (fun k hk => (h.valid hk).1) hndG (fun j k e hs => (hI'.s1 d j k e hs).1) (by omega))
    obtain ⟨wn, hwn⟩ : ∃ wn, (writeN p nd).1 = wn := ⟨_, rfl⟩
    rw [hwn] at hw
    have hwl : wn.l = 98 + (d : Int) := by rw [hw.2.1]; omega
    have hzmem : ∀ w, w ∈ zs → w = wh ∨ ∃ f, f ∈ fs ∧ w = f.w := fun w hw => by
      rcases List.mem_append.1 (hzp.mem_iff.1 hw) with h1 | h1
      · obtain ⟨f, hf, rfl⟩ := List.mem_map.1 h1; exact .inr ⟨f, hf, rfl⟩
      · exact .inl (List.mem_singleton.1 h1)
    have hzrng : ∀ w, w ∈ zs → 104 ≤ w.l ∧ w.l ≤ 300 := fun w hw => by
      rcases hzmem w hw with rfl | ⟨f, hf, rfl⟩
      · omega
      · obtain ⟨k, i, _, _, _, i2, _, _, p3, _⟩ := hfmem f hf
        omega
    have hmg : mergeV zs [wn] = wn :: zs := merge_front hza fun x hx => by have := hzrng x hx; omega
    have e : nx5 (opCol n c d) H (BitVec.ofNat 32 a.g) (NI N) zs = (wn :: zs, ⟨0, BitVec.ofNat 32 a.g, 0, (colK (N d) (BitVec.ofNat 32 a.g) 4).1, [97]⟩) := by
      unfold nx5 colE
      rw [hNI]
      dsimp only
      rw [if_neg hne0, hnd0]
      show (mergeV zs [(writeN (latP H (98 + (d : Int))) nd).1], _) = _
      rw [hlat, hwn, hmg]
    have hnx := next5_ok (opCol n c d) H (BitVec.ofNat 32 a.g) (NI N) zs hok (rdy_of h hE _ hr) rfl (by omega) (by rw [e]; exact List.pairwise_cons.2 ⟨fun x hx => by have := hzrng x hx; omega, hza⟩) (by rw [e, List.length_cons]; omega) (fun _ => by rw [hNI, hzl]; exact hfree2)
    rw [e] at hnx
    -- what has been written
    have hE1 := hE.comNode h.S hd hwl hw.1
    have hgw1 : ∀ i, 1 ≤ i → 1 = 1 := fun _ _ => rfl
    have hW : ∀ w, w ∈ zs → (w.l = 104 + 16 * (s0 : Int) ∧ readH w = (⟨0, clrV u fs⟩, 0)) ∨ ∃ (k i : Nat), is[k]? = some i ∧ w.l = 104 + 16 * (s0 : Int) + i ∧ kindV w.d0 = 0 ∧ genV w.d0 = 1 := fun w hw => by
      rcases hzmem w hw with rfl | ⟨f, hf, rfl⟩
      · exact .inl ⟨hwhl, w2.1⟩
      · obtain ⟨k, i, hk, hfk, i1, i2, p1, p2, p3, p4, p5, p6, p7⟩ := hfmem f hf
        refine .inr ⟨k, i, i1, p3, ?_, ?_⟩
        · rw [p5]; exact kind_pack _ (by simp)
        · rw [p5]
          exact (gen_pack _ (by dsimp only; rw [p7]; omega)).trans p7
    obtain ⟨Ub2, Kd2, q1, q2, q3⟩ := EI.comAll h.S (Ub' := fun k => !(a.col d).fre k) hu' (fun k i hi => by
      have hir := h.S.rng i (List.mem_of_getElem? hi)
      rw [clr_bit u i (by omega) fs hfi, hbit k i hi, Bool.eq_iff_iff]
      simp only [Bool.and_eq_true, Bool.not_eq_true', Bool.eq_false_iff, ne_eq]
      rw [hfree k, not_or]
      refine and_congr Iff.rfl (not_congr ?_)
      rw [List.any_eq_true]
      constructor
      · rintro ⟨f, hf, hfe⟩
        obtain ⟨k', i', hk', _, i1', _, _, p2, _⟩ := hfmem f hf
        have : i' = i := by rw [← p2]; simpa using hfe
        subst this
        rw [(List.getElem?_inj (List.getElem?_eq_some_iff.1 hi).1 h.S.nod).1 (hi.trans i1'.symm)]
        exact hk'
      · intro hk
        refine ⟨fd k, by rw [hfs0]; exact List.mem_map.2 ⟨k, hk, rfl⟩, ?_⟩
        rw [hfd]
        show (is.getD k 0 == i) = true
        rw [List.getD_eq_getElem?_getD, hi]
        simp) zs _ _ _ hE1 hW
    have hUb := q2 (.inl ⟨wh, hzp.mem_iff.2 (by simp), hwhl⟩)
    have hKd : Kd2 = (a.col d).fre := by
      funext k
      rw [Bool.eq_iff_iff, q3 k, hfree k]
      refine or_congr Iff.rfl ⟨fun ⟨w, hw, i, i1, i2⟩ => ?_, fun hk => ?_⟩
      · have hir := h.S.rng i (List.mem_of_getElem? i1)
        rcases hzmem w hw with rfl | ⟨f, hf, rfl⟩
        · omega
        · obtain ⟨k', i', hk', _, i1', _, _, _, p3, _⟩ := hfmem f hf
          have : i' = i := by omega
          subst this
          rw [(List.getElem?_inj (List.getElem?_eq_some_iff.1 i1).1 h.S.nod).1 (i1.trans i1'.symm)]
          exact hk'
      · have hf : fd k ∈ fs := by rw [hfs0]; exact List.mem_map.2 ⟨k, hk, rfl⟩
        obtain ⟨k', i, hk', hfk, i1, _, p1, _, p3, _⟩ := hfmem _ hf
        have hkk : k = k' := by
          have e1 : (fd k).p = (fd k').p := by rw [hfk]
          rw [hfd, hfd] at e1
          exact h.inj (hkf k hk).1 (hkf k' hk').1 e1
        subst hkk
        exact ⟨(fd k).w, hzp.mem_iff.2 (List.mem_append_left _ (List.mem_map.2 ⟨fd k, hf, rfl⟩)), i, i1, p3⟩
    rw [hUb, hKd] at q1
    refine ⟨_, _, hnx, ⟨fun w hw0 => ?_, fun w hw0 => ?_⟩, fun e => absurd rfl e, ⟨h.S, h.tl, h.to, hI', hB', h.gb, _, q1, fun d' hd' => ?_⟩, .inr ⟨rfl, js.map (kOf a d), c1, by rw [List.length_map]; exact hjl1, by rw [List.length_map]; exact hjl, hknd, hkf, hfree⟩⟩
    · have e : wn = w := by simpa using hw0
      subst e
      refine hE.nin hp (by omega) fun e => ?_
      have h1 := hw.1
      rw [e, hE.nd d p hd hp] at h1
      injection h1 with h1 _
      obtain ⟨j, hj⟩ : ∃ j, j ∈ js := by
        cases js with
        | nil => exact absurd rfl hz
        | cons x xs => exact ⟨x, List.mem_cons_self ..⟩
      obtain ⟨j1, j2⟩ := (hmem j).1 hj
      obtain ⟨e', j3, _⟩ := sel_slot j2
      have h2 := c2 j j1
      rw [if_pos ⟨j1, j2⟩, ← h1, hNd.re j j1, j3] at h2
      have := (reOf_nil (tos := tos) (x := some (kOf a d j, e')) (fun k' e'' h3 => by injection h3 with h3; injection h3 with h3 h4; subst h3 h4; exact hsv j _ _ j3)).1 h2
      cases this
    · rcases List.mem_cons.1 hw0 with rfl | hw0
      · omega
      · have := hzrng w hw0; omega
    · by_cases e : d' = d
      · subst e; rw [if_pos rfl]; exact hndG
      · rw [if_neg e]
        exact (hN d' hd').same rfl fun j => by rw [hsl, if_neg (fun h => e h.1)]
end
end Go.Proofs.YtfkmbdpnjcgimaaGreat

/- Readers of the structs of this seat: printed by wip/rd3.py. Own work. -/

namespace Go.Proofs.YtfkmbdpnjcgimaaGreat
open Go.RowKit Go.ChangeShapes Go.WideShapes Go.ChangeAt
set_option linter.unusedVariables false
set_option linter.unusedSimpArgs false
set_option maxRecDepth 100000
section
variable {H : Type} {enc : TypeId × Value → H} {w : World} {base : Nat} {sp : Nat → Bool} {held : Bool}
structure Mw where
  kind : Int
  client : Int
  for_ : Int
def tMw : Ty Mw := ⟨3, fun a => [Is (.int .i64 a.kind), Is (.int .i64 a.client), Is (.int .i64 a.for_)], fun _ => rfl⟩
@[reducible] def IsMw (a : Mw) : VP := IsAgg (tMw.cells a)
def Mw.wf (a : Mw) : Prop := I64ok a.kind ∧ I64ok a.client ∧ I64ok a.for_
theorem cN_bodega_bodegalaw26_Move : Tryz.prog.cellsOf 29 = 3 := by kernel_rfl
theorem cN_intW : Tryz.prog.cellsOf 3 = 1 := by kernel_rfl
theorem rds_Mw : Rds enc Tryz.prog w base sp held 29 tMw Mw.wf := by
  intro fuel cs x h
  obtain ⟨xs, n, _, _, hlen, hxs, hf⟩ := DataW.trod_struct Tryz.underlying29 h
  rw [cN_bodega_bodegalaw26_Move] at hlen
  match cs, hlen with
  | [c0, c1, c2], _ =>
    match xs, hxs with
    | [x0, x1, x2], _ =>
      have f0 : DataW.trod enc Tryz.prog w base sp held n 3 (([c0, c1, c2].drop 0).take (Tryz.prog.cellsOf 3)) = some x0 := hf 0 _ rfl
      rw [cN_intW] at f0
      obtain ⟨a0, g0, o0, w0⟩ := (rds_i64 Tryz.underlying3) _ _ _ f0
      have f1 : DataW.trod enc Tryz.prog w base sp held n 3 (([c0, c1, c2].drop 1).take (Tryz.prog.cellsOf 3)) = some x1 := hf 1 _ rfl
      rw [cN_intW] at f1
      obtain ⟨a1, g1, o1, w1⟩ := (rds_i64 Tryz.underlying3) _ _ _ f1
      have f2 : DataW.trod enc Tryz.prog w base sp held n 3 (([c0, c1, c2].drop 2).take (Tryz.prog.cellsOf 3)) = some x2 := hf 2 _ rfl
      rw [cN_intW] at f2
      obtain ⟨a2, g2, o2, w2⟩ := (rds_i64 Tryz.underlying3) _ _ _ f2
      exact ⟨⟨a0, a1, a2⟩, ((g0.append g1).append g2), (ones_app (ones_app o0 o1) o2), ⟨w0, w1, w2⟩⟩
end
end Go.Proofs.YtfkmbdpnjcgimaaGreat

/- Contracts: a move of the statements' world. Own work. -/
namespace Go.Proofs.YtfkmbdpnjcgimaaGreat
open Go.RowKit
set_option linter.unusedVariables false
set_option linter.unusedSimpArgs false
set_option maxRecDepth 100000
def pinI (a : AW) (c : Nat) : Int := match a.pin c with
  | none => 0
  | some e => (e : Int) + 1
def retI (a : AW) (k : Nat) : Int := match a.ret k with
  | none => -1
  | some e => (e : Int)
def retL (a : AW) : List Int := (List.range 12).map (retI a)
def freL (a : AW) : List Bool := (List.range 12).map a.fre
theorem retL_len (a : AW) : (retL a).length = 12 := by unfold retL; simp
theorem freL_len (a : AW) : (freL a).length = 12 := by unfold freL; simp
@[reducible] def WL (bw hp n : Nat) (z0 z1 z2 : WA) (tos : List Pt) (a : AW) (H : List Pg) : List Item := [blk bw 36 (wldC hp (pinI a) z1 z2 tos (a.g : Int)), blk hp 58 (heapC (slV (8 + 16 * n) z0) (104 + 16 * (n : Int))), buf (slV (8 + 16 * n) z0) 51 tPg H, buf (slV 12 z1) 3 tI64 (retL a), buf (slV 12 z2) 4 tBool (freL a)]
theorem pin_at (hp : Nat) (p : Nat → Int) (z1 z2 : WA) (tos : List Pt) (g : Int) {c : Nat} (hc : c < 6) : (wldC hp p z1 z2 tos g)[0 + 1 + c * 1]? = some (Is (.int .i64 (p c))) := by
  match c, hc with
  | 0, _ | 1, _ | 2, _ | 3, _ | 4, _ | 5, _ => rfl
def updP (p : Nat → Int) (c : Nat) (v : Int) : Nat → Int := fun d => if d = c then v else p d
theorem pin_put (hp : Nat) (p : Nat → Int) (z1 z2 : WA) (tos : List Pt) (g v : Int) {c : Nat} (hc : c < 6) : ovr (wldC hp p z1 z2 tos g) (0 + 1 + c * 1) [Is (.int .i64 v)] = wldC hp (updP p c v) z1 z2 tos g := by
  match c, hc with
  | 0, _ | 1, _ | 2, _ | 3, _ | 4, _ | 5, _ => rfl
theorem ble_wld (hp : Nat) (p : Nat → Int) (z1 z2 : WA) (tos : List Pt) (g : Int) {c : Nat} (hc : c < 6) : Nat.ble (0 + 1 + c * 1 + 1) (wldC hp p z1 z2 tos g).length = true := by
  match c, hc with
  | 0, _ | 1, _ | 2, _ | 3, _ | 4, _ | 5, _ => rfl
theorem pinI_some {a : AW} {c e : Nat} (h : a.pin c = some e) : pinI a c = (e : Int) + 1 := by unfold pinI; rw [h]
theorem pinI_none {a : AW} {c : Nat} (h : a.pin c = none) : pinI a c = 0 := by unfold pinI; rw [h]
theorem pinI_set (a : AW) (c : Nat) (x : Option Nat) : pinI (a.setPin c x) = updP (pinI a) c (match x with | none => 0 | some e => (e : Int) + 1) := by
  funext d
  unfold pinI updP AW.setPin
  by_cases h : d = c
  · simp [h]
  · simp [h]
theorem H_ne {H : List Pg} {n : Nat} (h : H.length = 8 + 16 * n) : H ≠ [] := fun e => by
  rw [e] at h
  simp only [List.length_nil] at h
  omega
-- (*bodega/bodegalaw26.world).do: function 7
set_option maxHeartbeats 1000000 in
theorem do0_ok (bw hp n s0 G : Nat) (z0 z1 z2 : WA) (is : List Nat) (tos : List Pt) (a : AW) (H : List Pg) (m : Mw) (at_ : Int) (cl : Nat) (h : WI n s0 G is tos a H) (hG : G ≤ 900) (hcl : m.client % 6 = (cl : Int)) (hkd : m.kind % 8 = 0) :
    Fn Tryz.prog 7 [Is (.pointer (some ⟨bw, 0, none⟩)), IsMw m, Is (.int .i64 at_)] (WL bw hp n z0 z1 z2 tos a H) (fun _ : {H' : List Pg // WI n s0 (G + 1) is tos (a.pin1 cl) H'} => Is (.bool true)) (fun i => WL bw hp n z0 z1 z2 tos (a.pin1 cl) i.1) := by
  have hc : cl < 6 := by omega
  obtain ⟨N, hE, _⟩ := h.ei
  have hHl : H.length = 8 + 16 * n := hE.len
  have hn5 := h.S.n5
  have hgb := h.gb
  obtain ⟨ws, out, hnx, hgw, hcd, hW, h17, h0⟩ := pin_next h hG hc
  have hrun := run_ok bw hp (8 + 16 * n) z0 z1 z2 (104 + 16 * (n : Int)) (a.g : Int) (pinI a) tos (opPin cl) H ws out hHl (by omega) (H_ne hHl) hnx hgw.no hgw.lo' hcd
  have hW' : WI n s0 (G + 1) is tos (a.pin1 cl) (ws.foldl comP H) := ⟨hW.S, hW.tl, hW.to, hW.I, hW.B, by have := hW.gb; omega, hW.ei⟩
  refine Fn.enterN Tryz.func7 Tryz.ntmps7 rfl rfl ?_
  intro c hX
  refine JC_seq (JC_region ?_)
  (refine JL_n rfl (op_box (Ev.rfl' rfl) cellsT) ?_; intro i4)
  refine JL_1 rfl (op_assign rfl) (JL_nil ?_)
  refine JQ_then (JC_seq ?_)
  refine JC_dr rfl (by kernel_rfl) ?_
  refine JD_stretch 8 (by kernel_rfl) ?_
  refine JW_1 (by exact op_fieldPtr (k := 1) (Ev.rfl' rfl) rfl rfl rfl rfl) ?_
  refine JW_1 (by exact op_loadPtr (Ev.rfl' rfl) memT (by rfl) (by rfl) (by rfl)) ?_
  refine JW_1 (by ((refine op_call Tryz.call18 (PickH_ok _ _ ?_ ?_) ⟨evS, ⟨evS, trivial⟩⟩); all_goals (omega))) ?_
  refine JW_1 (by exact op_fieldPtr (k := 2) (Ev.rfl' rfl) rfl rfl rfl rfl) ?_
  refine JW_1 (by exact op_loadPtr (Ev.rfl' rfl) memT (by rfl) (by rfl) (by rfl)) ?_
  refine JW_1 (by ((refine op_call Tryz.call18 (PickH_ok _ _ ?_ ?_) ⟨evS, ⟨evS, trivial⟩⟩); all_goals (omega))) ?_
  refine JW_1 (op_assign rfl) (JW_1 (op_assign rfl) ?_)
  refine ⟨rfl, ?_⟩
  refine JD_end ?_
  refine JQ_then (JC_seq (JC_seq ?_))
  rw [hcl]
  refine JC_region (JL_1 rfl (by exact op_fieldPtr (k := 0) (Ev.rfl' rfl) rfl rfl rfl rfl) ?_)
  refine JL_1 rfl (by exact op_loadPtr (Ev.rfl' rfl) memT (by rfl) (by rfl) (by rfl)) ?_
  refine JL_1 rfl (by ((refine op_call Tryz.call18 (PickH_ok _ _ ?_ ?_) ⟨evS, ⟨evS, trivial⟩⟩); all_goals (omega))) ?_
  refine JL_nil ?_
  refine JQ_then (JC_block (JC_seq ?_))
  refine JC_region (JL_1 rfl (op_eql (Ev.rfl' rfl) (Ev.rfl' rfl)) (JL_1 rfl (op_assign rfl) (JL_nil (JQ_then ?_))))
  refine JC_cond (Ev.rfl' rfl) (fun h3 => ?_) (fun h3 => ?_)
  · have hkk := h3
    refine JC_seq (JC_region (JL_1 rfl (op_move rfl) (JL_1 rfl (op_move rfl) (JL_1 rfl (op_buildN (qs := [(0, _), (1, _), (2, _)]) rfl rfl rfl rfl ⟨⟨rfl, _, (Ev.rfl' rfl), cellsT⟩, ⟨⟨rfl, _, (Ev.rfl' rfl), cellsT⟩, ⟨⟨rfl, _, (Ev.rfl' rfl), cellsT⟩, trivial⟩⟩⟩ (by rfl) nrmT) ?_))))
    (refine JL_s rfl (op_callM (Drops.cons drop1A (Drops.cons drop1A (Drops.cons drop1A (Drops.nil _)))) Tryz.call19 (hrun) ⟨evS, ⟨evS, trivial⟩⟩) ?_; intro i41)
    refine JL_1 rfl (op_move rfl) (JL_1 rfl (op_extract (Ev.rfl' rfl) rfl) (JL_1 rfl (op_extract (Ev.rfl' rfl) rfl) ?_))
    (refine JL_n rfl (op_allocN rfl nrmT rfl) ?_; intro i9)
    refine JL_s0 (op_storeN (Ev.rfl' rfl) (Ev.rfl' rfl) cellsT replT nrmT (by rfl) (by rfl) (by rfl)) ?_
    refine JL_1 rfl (op_assign rfl) (JL_nil ?_)
    refine JQ_then (JC_seq (JC_seq ?_))
    refine JC_region (JL_1 rfl (op_move rfl) (JL_1 rfl (op_move rfl) (JL_1 rfl (by exact op_nilCheck (Ev.rfl' rfl)) ?_)))
    refine JL_1 rfl (by exact op_fieldPtr (k := 1) (Ev.rfl' rfl) rfl rfl rfl rfl) ?_
    refine JL_1 rfl (op_indexArr (k := _) (sz := 1) (Ev.rfl' rfl) (Ev.rfl' rfl) rfl rfl idxT (by omega)) ?_
    refine JL_1 rfl (op_loadPtr (Ev.rfl' rfl) memT rfl rfl (pin_at _ _ _ _ _ _ hc)) ?_
    refine JL_1 rfl (op_gtr (Ev.rfl' rfl) (Ev.rfl' rfl)) (JL_nil (JQ_then ?_))
    refine JC_cond (Ev.rfl' rfl) (fun h5 => ?_) (fun h5 => ?_)
    · have hps : (a.pin cl).isSome = true := by
        cases hv : a.pin cl with
        | some _ => rfl
        | none => rw [pinI_none hv] at h5; simp at h5
      have ha : a.pin1 cl = a := by unfold AW.pin1; rw [if_pos hps]
      have ho := h17 hps
      refine JC_seq (JC_region (JL_1 rfl (op_move rfl) (JL_1 rfl (op_move rfl) ?_)))
      (refine JL_i0 rfl rfl rfl (fun hg => (by have hg0 := hg; (try simp at hg); exact op_fieldPtr (k := 0) evG rfl rfl rfl rfl)) ?_)
      (refine JL_i0 rfl rfl rfl (fun hg => (by have hg0 := hg; (try simp at hg); exact op_loadPtr evG memT (by rfl) (by rfl) (by rfl))) ?_)
      (refine JL_i0 rfl rfl rfl (fun hg => (by have hg0 := hg; (try simp at hg); exact op_eql evG evG)) ?_)
      refine JL_1 rfl (op_and (Ev.rfl' rfl) rfl (fun h => by exact SubL.rfl')) ?_
      refine JL_1 rfl (op_assign rfl) (JL_nil ?_)
      refine JQ_then (JC_ret (JQ_then_ret (JQ_block_ret (JQ_then_ret ?_))))
      rw [show (true && out.code == 17) = true by rw [ho]; rfl]
      exact JQ_retP (Bs := [Is (.bool true)]) Tryz.results7 ⟨⟨_, rfl, subT⟩, trivial⟩ ⟨_, hW'⟩ SubL.rfl' (by dsimp only; rw [ha]; exact lessT)
    have hps : a.pin cl = none := by
      cases hv : a.pin cl with
      | none => rfl
      | some e => rw [pinI_some hv] at h5; have := of_decide_eq_false h5; omega
    have ha : a.pin1 cl = a.setPin cl (some a.g) := by unfold AW.pin1; rw [hps]; rfl
    have ho := h0 hps
    have hpi := pinI_set a cl (some a.g)
    dsimp only at hpi
    refine JC_skip (JQ_then (JC_seq ?_))
    refine JC_dr rfl (by kernel_rfl) ?_
    refine JD_stretch 10 (by kernel_rfl) ?_
    refine JW_1 (op_move rfl) (JW_1 (op_move rfl) (JW_1 (op_move rfl) (JW_1 (by exact op_nilCheck (Ev.rfl' rfl)) ?_)))
    refine JW_1 (by exact op_fieldPtr (k := 10) (Ev.rfl' rfl) rfl rfl rfl rfl) ?_
    refine JW_1 (by exact op_loadPtr (Ev.rfl' rfl) memT (by rfl) (by rfl) (by rfl)) ?_
    refine JW_1 (op_add (Ev.rfl' rfl) (Ev.rfl' rfl) wrapT) ?_
    refine JW_1 (by exact op_nilCheck (Ev.rfl' rfl)) ?_
    refine JW_1 (by exact op_fieldPtr (k := 1) (Ev.rfl' rfl) rfl rfl rfl rfl) ?_
    refine JW_1 (op_indexArr (k := cl) (sz := 1) (Ev.rfl' rfl) (Ev.rfl' rfl) rfl rfl rfl hc) ?_
    refine ⟨rfl, ?_⟩
    refine JD_s0 (by kernel_rfl) rfl (op_storeN (Rs := wldC hp (updP (pinI a) cl ((a.g : Int) + 1)) z1 z2 tos (a.g : Int)) (Ev.rfl' rfl) (Ev.rfl' rfl) cellsT replT (pin_put _ _ _ _ _ _ _ hc) (by rfl) (by rfl) (ble_wld _ _ _ _ _ _ hc)) ?_
    refine JD_end ?_
    refine JQ_then (JC_seq ?_)
    refine JC_dr rfl (by kernel_rfl) ?_
    refine JD_stretch 17 (by kernel_rfl) ?_
    refine JW_1 (op_move rfl) (JW_1 (op_move rfl) ?_)
    (refine JW_i0 rfl rfl (fun hg => (by have hg0 := hg; (try simp at hg); exact op_fieldPtr (k := 0) evG rfl rfl rfl rfl)) ?_)
    (refine JW_i0 rfl rfl (fun hg => (by have hg0 := hg; (try simp at hg); exact op_loadPtr evG memT (by rfl) (by rfl) (by rfl))) ?_)
    (refine JW_i0 rfl rfl (fun hg => (by have hg0 := hg; (try simp at hg); exact op_eql evG evG)) ?_)
    refine JW_1 (op_and (Ev.rfl' rfl) rfl (fun h => by exact SubL.rfl')) ?_
    refine JW_1 (op_move rfl) ?_
    (refine JW_i0 rfl rfl (fun hg => (by have hg0 := hg; (try simp at hg); exact op_fieldPtr (k := 1) evG rfl rfl rfl rfl)) ?_)
    (refine JW_i0 rfl rfl (fun hg => (by have hg0 := hg; (try simp at hg); exact op_loadPtr evG memT (by rfl) (by rfl) (by rfl))) ?_)
    (refine JW_i0 rfl rfl (fun hg => (by have hg0 := hg; (try simp at hg); exact op_conv evG rfl rfl convT)) ?_)
    (refine JW_i0 rfl rfl (fun hg => (by have hg0 := hg; (try simp at hg); exact op_moveE (Ev.rfl' rfl))) ?_)
    (refine JW_i0 rfl rfl (fun hg => (by have hg0 := hg; (try simp at hg); exact op_nilCheck evG)) ?_)
    (refine JW_i0 rfl rfl (fun hg => (by have hg0 := hg; (try simp at hg); exact op_fieldPtr (k := 10) evG rfl rfl rfl rfl)) ?_)
    (refine JW_i0 rfl rfl (fun hg => (by have hg0 := hg; (try simp at hg); exact op_loadPtr evG memT (by rfl) (by rfl) (by rfl))) ?_)
    (refine JW_i0 rfl rfl (fun hg => (by have hg0 := hg; (try simp at hg); exact op_eql evG evG)) ?_)
    refine JW_1 (op_and (Ev.rfl' rfl) rfl (fun h => by exact SubL.iteT (by (rw [h]; rfl)) SubL.rfl')) ?_
    refine JW_1 (op_assign rfl) ?_
    refine ⟨rfl, ?_⟩
    refine JD_end ?_
    refine JQ_then (JC_ret (JQ_block_ret (JQ_then_ret ?_)))
    rw [show (true && out.code == 0 && UV out.ep == (a.g : Int)) = true by rw [ho.1, ho.2]; simp]
    exact JQ_retP (Bs := [Is (.bool true)]) Tryz.results7 ⟨⟨_, rfl, subT⟩, trivial⟩ ⟨_, hW'⟩ SubL.rfl' (by dsimp only [WL]; rw [ha, hpi]; exact lessT)
  exact absurd h3 (by simp [hkd])
end Go.Proofs.YtfkmbdpnjcgimaaGreat

/- Contracts: a move of the statements' world: unpin, evict. Own work. -/
namespace Go.Proofs.YtfkmbdpnjcgimaaGreat
open Go.RowKit
set_option linter.unusedVariables false
set_option linter.unusedSimpArgs false
set_option maxRecDepth 100000
-- (*bodega/bodegalaw26.world).do: function 7
set_option maxHeartbeats 1000000 in
theorem do1_ok (bw hp n s0 G : Nat) (z0 z1 z2 : WA) (is : List Nat) (tos : List Pt) (a : AW) (H : List Pg) (m : Mw) (at_ : Int) (cl ot : Nat) (h : WI n s0 G is tos a H) (hG : G ≤ 900) (hcl : m.client % 6 = (cl : Int)) (hot : m.for_ % 6 = (ot : Int)) (hkd : m.kind % 8 = 1) :
    Fn Tryz.prog 7 [Is (.pointer (some ⟨bw, 0, none⟩)), IsMw m, Is (.int .i64 at_)] (WL bw hp n z0 z1 z2 tos a H) (fun _ : {H' : List Pg // WI n s0 (G + 1) is tos (a.setPin cl none) H'} => Is (.bool true)) (fun i => WL bw hp n z0 z1 z2 tos (a.setPin cl none) i.1) := by
  have hc : cl < 6 := by omega
  have ho6 : ot < 6 := by omega
  obtain ⟨N, hE, _⟩ := h.ei
  have hHl : H.length = 8 + 16 * n := hE.len
  have hn5 := h.S.n5
  have hgb := h.gb
  obtain ⟨ws, out, hnx, hgw, hcd, hW, h16, h0⟩ := unpin_next h hG hc
  have hrun := run_ok bw hp (8 + 16 * n) z0 z1 z2 (104 + 16 * (n : Int)) (a.g : Int) (pinI a) tos (opUnpin cl) H ws out hHl (by omega) (H_ne hHl) hnx hgw.no hgw.lo' hcd
  have hW' : WI n s0 (G + 1) is tos (a.setPin cl none) (ws.foldl comP H) := ⟨hW.S, hW.tl, hW.to, hW.I, hW.B, by have := hW.gb; omega, hW.ei⟩
  have hpi := pinI_set a cl none
  dsimp only at hpi
  refine Fn.enterN Tryz.func7 Tryz.ntmps7 rfl rfl ?_
  intro c hX
  refine JC_seq (JC_region ?_)
  (refine JL_n rfl (op_box (Ev.rfl' rfl) cellsT) ?_; intro i4)
  refine JL_1 rfl (op_assign rfl) (JL_nil ?_)
  refine JQ_then (JC_seq ?_)
  refine JC_dr rfl (by kernel_rfl) ?_
  refine JD_stretch 8 (by kernel_rfl) ?_
  refine JW_1 (by exact op_fieldPtr (k := 1) (Ev.rfl' rfl) rfl rfl rfl rfl) ?_
  refine JW_1 (by exact op_loadPtr (Ev.rfl' rfl) memT (by rfl) (by rfl) (by rfl)) ?_
  refine JW_1 (by ((refine op_call Tryz.call18 (PickH_ok _ _ ?_ ?_) ⟨evS, ⟨evS, trivial⟩⟩); all_goals (omega))) ?_
  refine JW_1 (by exact op_fieldPtr (k := 2) (Ev.rfl' rfl) rfl rfl rfl rfl) ?_
  refine JW_1 (by exact op_loadPtr (Ev.rfl' rfl) memT (by rfl) (by rfl) (by rfl)) ?_
  refine JW_1 (by ((refine op_call Tryz.call18 (PickH_ok _ _ ?_ ?_) ⟨evS, ⟨evS, trivial⟩⟩); all_goals (omega))) ?_
  refine JW_1 (op_assign rfl) (JW_1 (op_assign rfl) ?_)
  refine ⟨rfl, ?_⟩
  refine JD_end ?_
  refine JQ_then (JC_seq (JC_seq ?_))
  rw [hcl, hot]
  refine JC_region (JL_1 rfl (by exact op_fieldPtr (k := 0) (Ev.rfl' rfl) rfl rfl rfl rfl) ?_)
  refine JL_1 rfl (by exact op_loadPtr (Ev.rfl' rfl) memT (by rfl) (by rfl) (by rfl)) ?_
  refine JL_1 rfl (by ((refine op_call Tryz.call18 (PickH_ok _ _ ?_ ?_) ⟨evS, ⟨evS, trivial⟩⟩); all_goals (omega))) ?_
  refine JL_nil ?_
  refine JQ_then (JC_block (JC_seq ?_))
  refine JC_region (JL_1 rfl (op_eql (Ev.rfl' rfl) (Ev.rfl' rfl)) (JL_1 rfl (op_assign rfl) (JL_nil (JQ_then ?_))))
  refine JC_cond (Ev.rfl' rfl) (fun h3 => ?_) (fun h3 => ?_)
  · exact absurd h3 (by simp [hkd])
  refine JC_seq (JC_seq ?_)
  refine JC_region (JL_1 rfl (op_eql (Ev.rfl' rfl) (Ev.rfl' rfl)) (JL_1 rfl (op_assign rfl) (JL_nil (JQ_then ?_))))
  refine JC_cond (Ev.rfl' rfl) (fun h9 => ?_) (fun h9 => ?_)
  · refine JC_skip (JQ_then ?_)
    refine JC_cond (Ev.rfl' rfl) (fun h9 => ?_) (fun h9 => ?_)
    · refine JC_seq (JC_region (JL_1 rfl (op_move rfl) (JL_1 rfl (op_buildN (qs := [(0, _), (1, _), (2, _)]) rfl rfl rfl rfl ⟨⟨rfl, _, (Ev.rfl' rfl), cellsT⟩, ⟨⟨rfl, _, (Ev.rfl' rfl), cellsT⟩, ⟨⟨rfl, _, (Ev.rfl' rfl), cellsT⟩, trivial⟩⟩⟩ (by rfl) nrmT) ?_)))
      (refine JL_n rfl (op_allocN rfl nrmT rfl) ?_; intro i11)
      refine JL_s0 (op_storeN (Ev.rfl' rfl) (Ev.rfl' rfl) cellsT replT nrmT (by rfl) (by rfl) (by rfl)) ?_
      refine JL_nil ?_
      refine JQ_then (JC_seq (JC_seq ?_))
      refine JC_region (JL_1 rfl (by exact op_fieldPtr (k := 0) (Ev.rfl' rfl) rfl rfl rfl rfl) ?_)
      refine JL_1 rfl (by exact op_loadPtr (Ev.rfl' rfl) memT (by rfl) (by rfl) (by rfl)) ?_
      refine JL_1 rfl (by ((refine op_call Tryz.call18 (PickH_ok _ _ ?_ ?_) ⟨evS, ⟨evS, trivial⟩⟩); all_goals (omega))) ?_
      refine JL_1 rfl (op_eql (Ev.rfl' rfl) (Ev.rfl' rfl)) (JL_nil (JQ_then ?_))
      refine JC_cond (Ev.rfl' rfl) (fun h12 => ?_) (fun h12 => ?_)
      · exact absurd h12 (by simp [hkd])
      refine JC_skip (JQ_then (JC_seq ?_))
      refine JC_region (JL_1 rfl (op_move rfl) (JL_1 rfl (by exact op_loadPtrsN (n := 6) (Ev.rfl' rfl) memT (by rfl) (by rfl) (by rfl) (by rfl) nrmT) ?_))
      (refine JL_s rfl (op_callM (Drops.cons drop1A (Drops.cons drop1A (Drops.cons drop1A (Drops.nil _)))) Tryz.call19 (hrun) ⟨evS, ⟨evS, trivial⟩⟩) ?_; intro i98)
      refine JL_1 rfl (op_move rfl) (JL_1 rfl (op_extract (Ev.rfl' rfl) rfl) (JL_1 rfl (op_extract (Ev.rfl' rfl) rfl) ?_))
      (refine JL_n rfl (op_allocN rfl nrmT rfl) ?_; intro i12)
      refine JL_s0 (op_storeN (Ev.rfl' rfl) (Ev.rfl' rfl) cellsT replT nrmT (by rfl) (by rfl) (by rfl)) ?_
      refine JL_1 rfl (op_assign rfl) (JL_nil ?_)
      refine JQ_then (JC_seq (JC_seq ?_))
      refine JC_region (JL_1 rfl (op_move rfl) (JL_1 rfl (op_move rfl) (JL_1 rfl (by exact op_nilCheck (Ev.rfl' rfl)) ?_)))
      refine JL_1 rfl (by exact op_fieldPtr (k := 1) (Ev.rfl' rfl) rfl rfl rfl rfl) ?_
      refine JL_1 rfl (op_indexArr (k := _) (sz := 1) (Ev.rfl' rfl) (Ev.rfl' rfl) rfl rfl idxT (by omega)) ?_
      refine JL_1 rfl (op_loadPtr (Ev.rfl' rfl) memT rfl rfl (pin_at _ _ _ _ _ _ hc)) ?_
      refine JL_1 rfl (op_eql (Ev.rfl' rfl) (Ev.rfl' rfl)) (JL_nil (JQ_then ?_))
      refine JC_cond (Ev.rfl' rfl) (fun h15 => ?_) (fun h15 => ?_)
      · have hps : a.pin cl = none := by
          cases hv : a.pin cl with
          | none => rfl
          | some e => rw [pinI_some hv] at h15; simp at h15; omega
        have ha : a.setPin cl none = a := by
          unfold AW.setPin
          have : (fun d => if d = cl then none else a.pin d) = a.pin := by
            funext d
            by_cases e : d = cl
            · rw [if_pos e, e, hps]
            · rw [if_neg e]
          rw [this]
        have ho := h16 hps
        refine JC_seq (JC_region (JL_1 rfl (op_move rfl) (JL_1 rfl (op_move rfl) ?_)))
        (refine JL_i0 rfl rfl rfl (fun hg => (by have hg0 := hg; (try simp at hg); exact op_fieldPtr (k := 0) evG rfl rfl rfl rfl)) ?_)
        (refine JL_i0 rfl rfl rfl (fun hg => (by have hg0 := hg; (try simp at hg); exact op_loadPtr evG memT (by rfl) (by rfl) (by rfl))) ?_)
        (refine JL_i0 rfl rfl rfl (fun hg => (by have hg0 := hg; (try simp at hg); exact op_eql evG evG)) ?_)
        refine JL_1 rfl (op_and (Ev.rfl' rfl) rfl (fun h => by exact SubL.rfl')) ?_
        refine JL_1 rfl (op_assign rfl) (JL_nil ?_)
        refine JQ_then (JC_ret (JQ_then_ret (JQ_block_ret (JQ_then_ret ?_))))
        rw [show (true && out.code == 16) = true by rw [ho]; rfl]
        exact JQ_retP (Bs := [Is (.bool true)]) Tryz.results7 ⟨⟨_, rfl, subT⟩, trivial⟩ ⟨_, hW'⟩ SubL.rfl' (by dsimp only [WL]; rw [ha]; exact lessT)
      obtain ⟨e0, hps⟩ : ∃ e, a.pin cl = some e := by
        cases hv : a.pin cl with
        | some e => exact ⟨e, rfl⟩
        | none => rw [pinI_none hv] at h15; simp at h15
      have ho := h0 e0 hps
      have hpv := pinI_some hps
      have he0 := h.I.p1 cl e0 hps
      have hsub : IntKind.i64.wrap (pinI a cl - 1) = (e0 : Int) := by rw [hpv, show ((e0 : Int) + 1 - 1) = (e0 : Int) by omega]; exact wI64 (by omega)
      refine JC_skip (JQ_then (JC_seq ?_))
      refine JC_region (JL_1 rfl (op_move rfl) (JL_1 rfl (op_move rfl) (JL_1 rfl (by exact op_nilCheck (Ev.rfl' rfl)) ?_)))
      refine JL_1 rfl (by exact op_fieldPtr (k := 1) (Ev.rfl' rfl) rfl rfl rfl rfl) ?_
      refine JL_1 rfl (op_indexArr (k := _) (sz := 1) (Ev.rfl' rfl) (Ev.rfl' rfl) rfl rfl idxT (by omega)) ?_
      refine JL_1 rfl (op_loadPtr (Ev.rfl' rfl) memT rfl rfl (pin_at _ _ _ _ _ _ hc)) ?_
      refine JL_1 rfl (op_sub (Ev.rfl' rfl) (Ev.rfl' rfl) hsub) (JL_1 rfl (op_assign rfl) (JL_nil ?_))
      refine JQ_then (JC_seq ?_)
      refine JC_region (JL_1 rfl (op_move rfl) (JL_1 rfl (op_move rfl) (JL_1 rfl (by exact op_nilCheck (Ev.rfl' rfl)) ?_)))
      refine JL_1 rfl (by exact op_fieldPtr (k := 1) (Ev.rfl' rfl) rfl rfl rfl rfl) ?_
      refine JL_1 rfl (op_indexArr (k := cl) (sz := 1) (Ev.rfl' rfl) (Ev.rfl' rfl) rfl rfl rfl hc) (JL_s0 (op_storeN (Rs := wldC hp (updP (pinI a) cl 0) z1 z2 tos (a.g : Int)) (Ev.rfl' rfl) (Ev.rfl' rfl) cellsT replT (pin_put _ _ _ _ _ _ _ hc) (by rfl) (by rfl) (ble_wld _ _ _ _ _ _ hc)) ?_)
      refine JL_nil ?_
      refine JQ_then (JC_seq ?_)
      refine JC_region (JL_1 rfl (op_move rfl) (JL_1 rfl (op_move rfl) ?_))
      (refine JL_i0 rfl rfl rfl (fun hg => (by have hg0 := hg; (try simp at hg); exact op_fieldPtr (k := 0) evG rfl rfl rfl rfl)) ?_)
      (refine JL_i0 rfl rfl rfl (fun hg => (by have hg0 := hg; (try simp at hg); exact op_loadPtr evG memT (by rfl) (by rfl) (by rfl))) ?_)
      (refine JL_i0 rfl rfl rfl (fun hg => (by have hg0 := hg; (try simp at hg); exact op_eql evG evG)) ?_)
      refine JL_1 rfl (op_and (Ev.rfl' rfl) rfl (fun h => by exact SubL.rfl')) ?_
      refine JL_1 rfl (op_move rfl) ?_
      (refine JL_i0 rfl rfl rfl (fun hg => (by have hg0 := hg; (try simp at hg); exact op_fieldPtr (k := 1) evG rfl rfl rfl rfl)) ?_)
      (refine JL_i0 rfl rfl rfl (fun hg => (by have hg0 := hg; (try simp at hg); exact op_loadPtr evG memT (by rfl) (by rfl) (by rfl))) ?_)
      (refine JL_i0 rfl rfl rfl (fun hg => (by have hg0 := hg; (try simp at hg); exact op_conv evG rfl rfl convT)) ?_)
      (refine JL_i0 rfl rfl rfl (fun hg => (by have hg0 := hg; (try simp at hg); exact op_moveE (Ev.rfl' rfl))) ?_)
      (refine JL_i0 rfl rfl rfl (fun hg => (by have hg0 := hg; (try simp at hg); exact op_eql evG evG)) ?_)
      refine JL_1 rfl (op_and (Ev.rfl' rfl) rfl (fun h => by exact SubL.iteT (by (rw [h]; rfl)) SubL.rfl')) ?_
      refine JL_1 rfl (op_assign rfl) (JL_nil ?_)
      refine JQ_then (JC_ret (JQ_block_ret (JQ_then_ret ?_)))
      rw [show (true && out.code == 0 && UV out.ep == (e0 : Int)) = true by rw [ho.1, ho.2]; simp]
      exact JQ_retP (Bs := [Is (.bool true)]) Tryz.results7 ⟨⟨_, rfl, subT⟩, trivial⟩ ⟨_, hW'⟩ SubL.rfl' (by dsimp only [WL]; rw [hpi]; exact lessT)
    exact absurd h9 (by simp [hkd])
  exact absurd h9 (by simp [hkd])
-- (*bodega/bodegalaw26.world).do: function 7
set_option maxHeartbeats 1000000 in
theorem do7_ok (bw hp n s0 G : Nat) (z0 z1 z2 : WA) (is : List Nat) (tos : List Pt) (a : AW) (H : List Pg) (m : Mw) (at_ : Int) (cl ot : Nat) (h : WI n s0 G is tos a H) (hG : G ≤ 900) (hcl : m.client % 6 = (cl : Int)) (hot : m.for_ % 6 = (ot : Int)) (hkd : m.kind % 8 = 7) :
    Fn Tryz.prog 7 [Is (.pointer (some ⟨bw, 0, none⟩)), IsMw m, Is (.int .i64 at_)] (WL bw hp n z0 z1 z2 tos a H) (fun _ : {H' : List Pg // WI n s0 (G + 1) is tos (a.setPin cl none) H'} => Is (.bool true)) (fun i => WL bw hp n z0 z1 z2 tos (a.setPin cl none) i.1) := by
  have hc : cl < 6 := by omega
  have ho6 : ot < 6 := by omega
  obtain ⟨N, hE, _⟩ := h.ei
  have hHl : H.length = 8 + 16 * n := hE.len
  have hn5 := h.S.n5
  have hgb := h.gb
  obtain ⟨ws, out, hnx, hgw, hcd, hW, h16, h0⟩ := evict_next h hG hc ho6
  have hrun := run_ok bw hp (8 + 16 * n) z0 z1 z2 (104 + 16 * (n : Int)) (a.g : Int) (pinI a) tos (opEvict cl ot) H ws out hHl (by omega) (H_ne hHl) hnx hgw.no hgw.lo' hcd
  have hW' : WI n s0 (G + 1) is tos (a.setPin cl none) (ws.foldl comP H) := ⟨hW.S, hW.tl, hW.to, hW.I, hW.B, by have := hW.gb; omega, hW.ei⟩
  have hpi := pinI_set a cl none
  dsimp only at hpi
  refine Fn.enterN Tryz.func7 Tryz.ntmps7 rfl rfl ?_
  intro c hX
  refine JC_seq (JC_region ?_)
  (refine JL_n rfl (op_box (Ev.rfl' rfl) cellsT) ?_; intro i4)
  refine JL_1 rfl (op_assign rfl) (JL_nil ?_)
  refine JQ_then (JC_seq ?_)
  refine JC_dr rfl (by kernel_rfl) ?_
  refine JD_stretch 8 (by kernel_rfl) ?_
  refine JW_1 (by exact op_fieldPtr (k := 1) (Ev.rfl' rfl) rfl rfl rfl rfl) ?_
  refine JW_1 (by exact op_loadPtr (Ev.rfl' rfl) memT (by rfl) (by rfl) (by rfl)) ?_
  refine JW_1 (by ((refine op_call Tryz.call18 (PickH_ok _ _ ?_ ?_) ⟨evS, ⟨evS, trivial⟩⟩); all_goals (omega))) ?_
  refine JW_1 (by exact op_fieldPtr (k := 2) (Ev.rfl' rfl) rfl rfl rfl rfl) ?_
  refine JW_1 (by exact op_loadPtr (Ev.rfl' rfl) memT (by rfl) (by rfl) (by rfl)) ?_
  refine JW_1 (by ((refine op_call Tryz.call18 (PickH_ok _ _ ?_ ?_) ⟨evS, ⟨evS, trivial⟩⟩); all_goals (omega))) ?_
  refine JW_1 (op_assign rfl) (JW_1 (op_assign rfl) ?_)
  refine ⟨rfl, ?_⟩
  refine JD_end ?_
  refine JQ_then (JC_seq (JC_seq ?_))
  rw [hcl, hot]
  refine JC_region (JL_1 rfl (by exact op_fieldPtr (k := 0) (Ev.rfl' rfl) rfl rfl rfl rfl) ?_)
  refine JL_1 rfl (by exact op_loadPtr (Ev.rfl' rfl) memT (by rfl) (by rfl) (by rfl)) ?_
  refine JL_1 rfl (by ((refine op_call Tryz.call18 (PickH_ok _ _ ?_ ?_) ⟨evS, ⟨evS, trivial⟩⟩); all_goals (omega))) ?_
  refine JL_nil ?_
  refine JQ_then (JC_block (JC_seq ?_))
  refine JC_region (JL_1 rfl (op_eql (Ev.rfl' rfl) (Ev.rfl' rfl)) (JL_1 rfl (op_assign rfl) (JL_nil (JQ_then ?_))))
  refine JC_cond (Ev.rfl' rfl) (fun h3 => ?_) (fun h3 => ?_)
  · exact absurd h3 (by simp [hkd])
  refine JC_seq (JC_seq ?_)
  refine JC_region (JL_1 rfl (op_eql (Ev.rfl' rfl) (Ev.rfl' rfl)) (JL_1 rfl (op_assign rfl) (JL_nil (JQ_then ?_))))
  refine JC_cond (Ev.rfl' rfl) (fun h9 => ?_) (fun h9 => ?_)
  · exact absurd h9 (by simp [hkd])
  refine JC_region (JL_1 rfl (op_eql (Ev.rfl' rfl) (Ev.rfl' rfl)) (JL_1 rfl (op_assign rfl) (JL_nil (JQ_then ?_))))
  refine JC_cond (Ev.rfl' rfl) (fun h10 => ?_) (fun h10 => ?_)
  · refine JC_seq (JC_region (JL_1 rfl (op_move rfl) (JL_1 rfl (op_buildN (qs := [(0, _), (1, _), (2, _)]) rfl rfl rfl rfl ⟨⟨rfl, _, (Ev.rfl' rfl), cellsT⟩, ⟨⟨rfl, _, (Ev.rfl' rfl), cellsT⟩, ⟨⟨rfl, _, (Ev.rfl' rfl), cellsT⟩, trivial⟩⟩⟩ (by rfl) nrmT) ?_)))
    (refine JL_n rfl (op_allocN rfl nrmT rfl) ?_; intro i11)
    refine JL_s0 (op_storeN (Ev.rfl' rfl) (Ev.rfl' rfl) cellsT replT nrmT (by rfl) (by rfl) (by rfl)) ?_
    refine JL_nil ?_
    refine JQ_then (JC_seq (JC_seq ?_))
    refine JC_region (JL_1 rfl (by exact op_fieldPtr (k := 0) (Ev.rfl' rfl) rfl rfl rfl rfl) ?_)
    refine JL_1 rfl (by exact op_loadPtr (Ev.rfl' rfl) memT (by rfl) (by rfl) (by rfl)) ?_
    refine JL_1 rfl (by ((refine op_call Tryz.call18 (PickH_ok _ _ ?_ ?_) ⟨evS, ⟨evS, trivial⟩⟩); all_goals (omega))) ?_
    refine JL_1 rfl (op_eql (Ev.rfl' rfl) (Ev.rfl' rfl)) (JL_nil (JQ_then ?_))
    refine JC_cond (Ev.rfl' rfl) (fun h12 => ?_) (fun h12 => ?_)
    · refine JC_region (JL_1 rfl (op_move rfl) (JL_1 rfl (op_move rfl) (JL_1 rfl (op_buildN (qs := [(0, _), (1, _), (4, _), (2, _)]) rfl rfl rfl rfl ⟨⟨rfl, _, (Ev.rfl' rfl), cellsT⟩, ⟨⟨rfl, _, (Ev.rfl' rfl), cellsT⟩, ⟨⟨rfl, _, (Ev.rfl' rfl), cellsT⟩, ⟨⟨rfl, _, (Ev.rfl' rfl), cellsT⟩, trivial⟩⟩⟩⟩ (by rfl) nrmT) ?_)))
      refine JL_s0 (op_storeN (Ev.rfl' rfl) (Ev.rfl' rfl) cellsT replT nrmT (by rfl) (by rfl) (by rfl)) ?_
      refine JL_nil ?_
      refine JQ_then (JC_seq ?_)
      refine JC_region (JL_1 rfl (op_move rfl) (JL_1 rfl (by exact op_loadPtrsN (n := 6) (Ev.rfl' rfl) memT (by rfl) (by rfl) (by rfl) (by rfl) nrmT) ?_))
      (refine JL_s rfl (op_callM (Drops.cons drop1A (Drops.cons drop1A (Drops.cons drop1A (Drops.nil _)))) Tryz.call19 (hrun) ⟨evS, ⟨evS, trivial⟩⟩) ?_; intro i98)
      refine JL_1 rfl (op_move rfl) (JL_1 rfl (op_extract (Ev.rfl' rfl) rfl) (JL_1 rfl (op_extract (Ev.rfl' rfl) rfl) ?_))
      (refine JL_n rfl (op_allocN rfl nrmT rfl) ?_; intro i12)
      refine JL_s0 (op_storeN (Ev.rfl' rfl) (Ev.rfl' rfl) cellsT replT nrmT (by rfl) (by rfl) (by rfl)) ?_
      refine JL_1 rfl (op_assign rfl) (JL_nil ?_)
      refine JQ_then (JC_seq (JC_seq ?_))
      refine JC_region (JL_1 rfl (op_move rfl) (JL_1 rfl (op_move rfl) (JL_1 rfl (by exact op_nilCheck (Ev.rfl' rfl)) ?_)))
      refine JL_1 rfl (by exact op_fieldPtr (k := 1) (Ev.rfl' rfl) rfl rfl rfl rfl) ?_
      refine JL_1 rfl (op_indexArr (k := _) (sz := 1) (Ev.rfl' rfl) (Ev.rfl' rfl) rfl rfl idxT (by omega)) ?_
      refine JL_1 rfl (op_loadPtr (Ev.rfl' rfl) memT rfl rfl (pin_at _ _ _ _ _ _ hc)) ?_
      refine JL_1 rfl (op_eql (Ev.rfl' rfl) (Ev.rfl' rfl)) (JL_nil (JQ_then ?_))
      refine JC_cond (Ev.rfl' rfl) (fun h15 => ?_) (fun h15 => ?_)
      · have hps : a.pin cl = none := by
          cases hv : a.pin cl with
          | none => rfl
          | some e => rw [pinI_some hv] at h15; simp at h15; omega
        have ha : a.setPin cl none = a := by
          unfold AW.setPin
          have : (fun d => if d = cl then none else a.pin d) = a.pin := by
            funext d
            by_cases e : d = cl
            · rw [if_pos e, e, hps]
            · rw [if_neg e]
          rw [this]
        have ho := h16 hps
        refine JC_seq (JC_region (JL_1 rfl (op_move rfl) (JL_1 rfl (op_move rfl) ?_)))
        (refine JL_i0 rfl rfl rfl (fun hg => (by have hg0 := hg; (try simp at hg); exact op_fieldPtr (k := 0) evG rfl rfl rfl rfl)) ?_)
        (refine JL_i0 rfl rfl rfl (fun hg => (by have hg0 := hg; (try simp at hg); exact op_loadPtr evG memT (by rfl) (by rfl) (by rfl))) ?_)
        (refine JL_i0 rfl rfl rfl (fun hg => (by have hg0 := hg; (try simp at hg); exact op_eql evG evG)) ?_)
        refine JL_1 rfl (op_and (Ev.rfl' rfl) rfl (fun h => by exact SubL.rfl')) ?_
        refine JL_1 rfl (op_assign rfl) (JL_nil ?_)
        refine JQ_then (JC_ret (JQ_then_ret (JQ_block_ret (JQ_then_ret ?_))))
        rw [show (true && out.code == 16) = true by rw [ho]; rfl]
        exact JQ_retP (Bs := [Is (.bool true)]) Tryz.results7 ⟨⟨_, rfl, subT⟩, trivial⟩ ⟨_, hW'⟩ SubL.rfl' (by dsimp only [WL]; rw [ha]; exact lessT)
      obtain ⟨e0, hps⟩ : ∃ e, a.pin cl = some e := by
        cases hv : a.pin cl with
        | some e => exact ⟨e, rfl⟩
        | none => rw [pinI_none hv] at h15; simp at h15
      have ho := h0 e0 hps
      have hpv := pinI_some hps
      have he0 := h.I.p1 cl e0 hps
      have hsub : IntKind.i64.wrap (pinI a cl - 1) = (e0 : Int) := by rw [hpv, show ((e0 : Int) + 1 - 1) = (e0 : Int) by omega]; exact wI64 (by omega)
      refine JC_skip (JQ_then (JC_seq ?_))
      refine JC_region (JL_1 rfl (op_move rfl) (JL_1 rfl (op_move rfl) (JL_1 rfl (by exact op_nilCheck (Ev.rfl' rfl)) ?_)))
      refine JL_1 rfl (by exact op_fieldPtr (k := 1) (Ev.rfl' rfl) rfl rfl rfl rfl) ?_
      refine JL_1 rfl (op_indexArr (k := _) (sz := 1) (Ev.rfl' rfl) (Ev.rfl' rfl) rfl rfl idxT (by omega)) ?_
      refine JL_1 rfl (op_loadPtr (Ev.rfl' rfl) memT rfl rfl (pin_at _ _ _ _ _ _ hc)) ?_
      refine JL_1 rfl (op_sub (Ev.rfl' rfl) (Ev.rfl' rfl) hsub) (JL_1 rfl (op_assign rfl) (JL_nil ?_))
      refine JQ_then (JC_seq ?_)
      refine JC_region (JL_1 rfl (op_move rfl) (JL_1 rfl (op_move rfl) (JL_1 rfl (by exact op_nilCheck (Ev.rfl' rfl)) ?_)))
      refine JL_1 rfl (by exact op_fieldPtr (k := 1) (Ev.rfl' rfl) rfl rfl rfl rfl) ?_
      refine JL_1 rfl (op_indexArr (k := cl) (sz := 1) (Ev.rfl' rfl) (Ev.rfl' rfl) rfl rfl rfl hc) (JL_s0 (op_storeN (Rs := wldC hp (updP (pinI a) cl 0) z1 z2 tos (a.g : Int)) (Ev.rfl' rfl) (Ev.rfl' rfl) cellsT replT (pin_put _ _ _ _ _ _ _ hc) (by rfl) (by rfl) (ble_wld _ _ _ _ _ _ hc)) ?_)
      refine JL_nil ?_
      refine JQ_then (JC_seq ?_)
      refine JC_region (JL_1 rfl (op_move rfl) (JL_1 rfl (op_move rfl) ?_))
      (refine JL_i0 rfl rfl rfl (fun hg => (by have hg0 := hg; (try simp at hg); exact op_fieldPtr (k := 0) evG rfl rfl rfl rfl)) ?_)
      (refine JL_i0 rfl rfl rfl (fun hg => (by have hg0 := hg; (try simp at hg); exact op_loadPtr evG memT (by rfl) (by rfl) (by rfl))) ?_)
      (refine JL_i0 rfl rfl rfl (fun hg => (by have hg0 := hg; (try simp at hg); exact op_eql evG evG)) ?_)
      refine JL_1 rfl (op_and (Ev.rfl' rfl) rfl (fun h => by exact SubL.rfl')) ?_
      refine JL_1 rfl (op_move rfl) ?_
      (refine JL_i0 rfl rfl rfl (fun hg => (by have hg0 := hg; (try simp at hg); exact op_fieldPtr (k := 1) evG rfl rfl rfl rfl)) ?_)
      (refine JL_i0 rfl rfl rfl (fun hg => (by have hg0 := hg; (try simp at hg); exact op_loadPtr evG memT (by rfl) (by rfl) (by rfl))) ?_)
      (refine JL_i0 rfl rfl rfl (fun hg => (by have hg0 := hg; (try simp at hg); exact op_conv evG rfl rfl convT)) ?_)
      (refine JL_i0 rfl rfl rfl (fun hg => (by have hg0 := hg; (try simp at hg); exact op_moveE (Ev.rfl' rfl))) ?_)
      (refine JL_i0 rfl rfl rfl (fun hg => (by have hg0 := hg; (try simp at hg); exact op_eql evG evG)) ?_)
      refine JL_1 rfl (op_and (Ev.rfl' rfl) rfl (fun h => by exact SubL.iteT (by (rw [h]; rfl)) SubL.rfl')) ?_
      refine JL_1 rfl (op_assign rfl) (JL_nil ?_)
      refine JQ_then (JC_ret (JQ_block_ret (JQ_then_ret ?_)))
      rw [show (true && out.code == 0 && UV out.ep == (e0 : Int)) = true by rw [ho.1, ho.2]; simp]
      exact JQ_retP (Bs := [Is (.bool true)]) Tryz.results7 ⟨⟨_, rfl, subT⟩, trivial⟩ ⟨_, hW'⟩ SubL.rfl' (by dsimp only [WL]; rw [hpi]; exact lessT)
    exact absurd h12 (by simp [hkd])
  exact absurd h10 (by simp [hkd])
end Go.Proofs.YtfkmbdpnjcgimaaGreat

/- Contracts: a move of the statements' world: advance. Own work. -/
namespace Go.Proofs.YtfkmbdpnjcgimaaGreat
open Go.RowKit
set_option linter.unusedVariables false
set_option linter.unusedSimpArgs false
set_option maxRecDepth 100000
theorem late_pin (a : AW) (k : Nat) : (decide (pinI a k > 0) && (pinI a k - 1 != (a.g : Int))) = late a k := by
  unfold late
  cases hv : a.pin k with
  | none => rw [pinI_none hv]; rfl
  | some e =>
    rw [pinI_some hv, Bool.eq_iff_iff]
    simp
    omega
theorem pinI_rng {a : AW} (hI : AI a) (k : Nat) : 0 ≤ pinI a k ∧ pinI a k ≤ (a.g : Int) + 1 := by
  cases hv : a.pin k with
  | none => rw [pinI_none hv]; omega
  | some e => rw [pinI_some hv]; have := hI.p1 k e hv; omega
-- (*bodega/bodegalaw26.world).do: function 7
set_option maxHeartbeats 2000000 in
theorem do2_ok (bw hp n s0 G : Nat) (z0 z1 z2 : WA) (is : List Nat) (tos : List Pt) (a : AW) (H : List Pg) (m : Mw) (at_ : Int) (cl ot : Nat) (h : WI n s0 G is tos a H) (hG : G ≤ 900) (hcl : m.client % 6 = (cl : Int)) (hot : m.for_ % 6 = (ot : Int)) (hkd : m.kind % 8 = 2) :
    Fn Tryz.prog 7 [Is (.pointer (some ⟨bw, 0, none⟩)), IsMw m, Is (.int .i64 at_)] (WL bw hp n z0 z1 z2 tos a H) (fun _ : {H' : List Pg // WI n s0 (G + 1) is tos a.adv1 H'} => Is (.bool true)) (fun i => WL bw hp n z0 z1 z2 tos a.adv1 i.1) := by
  have hc : cl < 6 := by omega
  obtain ⟨N, hE, _⟩ := h.ei
  have hHl : H.length = 8 + 16 * n := hE.len
  have hn5 := h.S.n5
  have hgb := h.gb
  obtain ⟨ws, out, hnx, hgw, hcd, hW', hl1, hl2⟩ := adv_next h hG hc
  have hrun := run_ok bw hp (8 + 16 * n) z0 z1 z2 (104 + 16 * (n : Int)) (a.g : Int) (pinI a) tos (opAdv cl) H ws out hHl (by omega) (H_ne hHl) hnx hgw.no hgw.lo' hcd
  refine Fn.enterN Tryz.func7 Tryz.ntmps7 rfl rfl ?_
  intro c hX
  refine JC_seq (JC_region ?_)
  (refine JL_n rfl (op_box (Ev.rfl' rfl) cellsT) ?_; intro i4)
  refine JL_1 rfl (op_assign rfl) (JL_nil ?_)
  refine JQ_then (JC_seq ?_)
  refine JC_dr rfl (by kernel_rfl) ?_
  refine JD_stretch 8 (by kernel_rfl) ?_
  refine JW_1 (by exact op_fieldPtr (k := 1) (Ev.rfl' rfl) rfl rfl rfl rfl) ?_
  refine JW_1 (by exact op_loadPtr (Ev.rfl' rfl) memT (by rfl) (by rfl) (by rfl)) ?_
  refine JW_1 (by ((refine op_call Tryz.call18 (PickH_ok _ _ ?_ ?_) ⟨evS, ⟨evS, trivial⟩⟩); all_goals (omega))) ?_
  refine JW_1 (by exact op_fieldPtr (k := 2) (Ev.rfl' rfl) rfl rfl rfl rfl) ?_
  refine JW_1 (by exact op_loadPtr (Ev.rfl' rfl) memT (by rfl) (by rfl) (by rfl)) ?_
  refine JW_1 (by ((refine op_call Tryz.call18 (PickH_ok _ _ ?_ ?_) ⟨evS, ⟨evS, trivial⟩⟩); all_goals (omega))) ?_
  refine JW_1 (op_assign rfl) (JW_1 (op_assign rfl) ?_)
  refine ⟨rfl, ?_⟩
  refine JD_end ?_
  refine JQ_then (JC_seq (JC_seq ?_))
  rw [hcl, hot]
  refine JC_region (JL_1 rfl (by exact op_fieldPtr (k := 0) (Ev.rfl' rfl) rfl rfl rfl rfl) ?_)
  refine JL_1 rfl (by exact op_loadPtr (Ev.rfl' rfl) memT (by rfl) (by rfl) (by rfl)) ?_
  refine JL_1 rfl (by ((refine op_call Tryz.call18 (PickH_ok _ _ ?_ ?_) ⟨evS, ⟨evS, trivial⟩⟩); all_goals (omega))) ?_
  refine JL_nil ?_
  refine JQ_then (JC_block (JC_seq ?_))
  refine JC_region (JL_1 rfl (op_eql (Ev.rfl' rfl) (Ev.rfl' rfl)) (JL_1 rfl (op_assign rfl) (JL_nil (JQ_then ?_))))
  refine JC_cond (Ev.rfl' rfl) (fun h3 => ?_) (fun h3 => ?_)
  · exact absurd h3 (by simp [hkd])
  refine JC_seq (JC_seq ?_)
  refine JC_region (JL_1 rfl (op_eql (Ev.rfl' rfl) (Ev.rfl' rfl)) (JL_1 rfl (op_assign rfl) (JL_nil (JQ_then ?_))))
  refine JC_cond (Ev.rfl' rfl) (fun h9 => ?_) (fun h9 => ?_)
  · exact absurd h9 (by simp [hkd])
  refine JC_region (JL_1 rfl (op_eql (Ev.rfl' rfl) (Ev.rfl' rfl)) (JL_1 rfl (op_assign rfl) (JL_nil (JQ_then ?_))))
  refine JC_cond (Ev.rfl' rfl) (fun h10 => ?_) (fun h10 => ?_)
  · exact absurd h10 (by simp [hkd])
  refine JC_seq (JC_seq ?_)
  refine JC_region (JL_1 rfl (op_eql (Ev.rfl' rfl) (Ev.rfl' rfl)) (JL_1 rfl (op_assign rfl) (JL_nil (JQ_then ?_))))
  refine JC_cond (Ev.rfl' rfl) (fun h20 => ?_) (fun h20 => ?_)
  · refine JC_skip (JQ_then ?_)
    refine JC_cond (Ev.rfl' rfl) (fun h20 => ?_) (fun h20 => ?_)
    · refine JC_seq (JC_region (JL_1 rfl (op_move rfl) (JL_1 rfl (op_move rfl) (JL_1 rfl (op_buildN (qs := [(0, _), (1, _)]) rfl rfl rfl rfl ⟨⟨rfl, _, (Ev.rfl' rfl), cellsT⟩, ⟨⟨rfl, _, (Ev.rfl' rfl), cellsT⟩, trivial⟩⟩ (by rfl) nrmT) ?_))))
      (refine JL_s rfl (op_callM (Drops.cons drop1A (Drops.cons drop1A (Drops.cons drop1A (Drops.nil _)))) Tryz.call19 (hrun) ⟨evS, ⟨evS, trivial⟩⟩) ?_; intro i146)
      refine JL_1 rfl (op_move rfl) (JL_1 rfl (op_extract (Ev.rfl' rfl) rfl) (JL_1 rfl (op_extract (Ev.rfl' rfl) rfl) ?_))
      (refine JL_n rfl (op_allocN rfl nrmT rfl) ?_; intro i15)
      refine JL_s0 (op_storeN (Ev.rfl' rfl) (Ev.rfl' rfl) cellsT replT nrmT (by rfl) (by rfl) (by rfl)) ?_
      refine JL_1 rfl (op_assign rfl) (JL_nil ?_)
      refine JQ_then (JC_seq (JC_seq ?_))
      refine JC_region (JL_1 rfl (op_assign rfl) (JL_nil ?_))
      refine JQ_then (JC_block ?_)
      refine JC_loopP (fun k : Nat => k ≤ 6 ∧ ∀ j, j < k → late a j = false) (fun k => [(0, Is (.pointer (some ⟨bw, 0, none⟩))), (15, Is (.pointer (some ⟨i15, 0, none⟩))), (16, Is (.bool true)), (17, Is (.int .i64 (k : Nat)))]) (fun k => [blk i15 81 (outC out), blk bw 36 (wldC hp (pinI a) z1 z2 tos (a.g : Int)), blk hp 58 (heapC (slV (8 + 16 * n) z0) (104 + 16 * (n : Int))), buf (slV (8 + 16 * n) z0) 51 tPg (ws.foldl comP H), buf (slV 12 z1) 3 tI64 (retL a), buf (slV 12 z2) 4 tBool (freL a)]) (fun k => 6 - k) 0 ⟨Nat.zero_le _, fun j hj => absurd hj (Nat.not_lt_zero _)⟩ esubT lessT ?_
      rintro k ⟨hk, hno⟩
      refine JC_seq (JC_seq ?_)
      refine JC_region (JL_1 rfl (op_move rfl) (JL_1 rfl (op_lss (Ev.rfl' rfl) (Ev.rfl' rfl)) (JL_nil (JQ_then ?_))))
      refine JC_cond (Ev.rfl' rfl) (fun h24 => ?_) (fun h24 => ?_)
      · have hlt : k < 6 := by have := of_decide_eq_true h24; omega
        clear h24
        have hpr := pinI_rng h.I k
        have hsub : IntKind.i64.wrap (pinI a k - 1) = pinI a k - 1 := wI64 (by omega)
        have hlp := late_pin a k
        refine JC_skip (JQ_then (JC_seq (JC_block (JC_seq ?_))))
        refine JC_dr rfl (by kernel_rfl) ?_
        refine JD_stretch 21 (by kernel_rfl) ?_
        refine JW_1 (op_move rfl) (JW_1 (op_move rfl) (JW_1 (by exact op_nilCheck (Ev.rfl' rfl)) ?_))
        refine JW_1 (by exact op_fieldPtr (k := 1) (Ev.rfl' rfl) rfl rfl rfl rfl) ?_
        refine JW_1 (op_indexArr (k := k) (sz := 1) (Ev.rfl' rfl) (Ev.rfl' rfl) rfl rfl idxT (by omega)) ?_
        refine JW_1 (op_loadPtr (Ev.rfl' rfl) memT rfl rfl (pin_at _ _ _ _ _ _ hlt)) ?_
        refine JW_1 (op_gtr (Ev.rfl' rfl) (Ev.rfl' rfl)) (JW_1 (op_move rfl) ?_)
        (refine JW_i0 rfl rfl (fun hg => (by have hg0 := hg; (try simp at hg); exact op_moveE (Ev.rfl' rfl))) ?_)
        (refine JW_i0 rfl rfl (fun hg => (by have hg0 := hg; (try simp at hg); exact op_moveE (Ev.rfl' rfl))) ?_)
        (refine JW_i0 rfl rfl (fun hg => (by have hg0 := hg; (try simp at hg); exact op_nilCheck evG)) ?_)
        (refine JW_i0 rfl rfl (fun hg => (by have hg0 := hg; (try simp at hg); exact op_fieldPtr (k := 1) evG rfl rfl rfl rfl)) ?_)
        (refine JW_i0 rfl rfl (fun hg => (by have hg0 := hg; (try simp at hg); exact op_indexArr (k := k) (sz := 1) evG evG rfl rfl idxT (by omega))) ?_)
        (refine JW_i0 rfl rfl (fun hg => (by have hg0 := hg; (try simp at hg); exact op_loadPtr evG2 memT rfl rfl (pin_at _ _ _ _ _ _ hlt))) ?_)
        (refine JW_i0 rfl rfl (fun hg => (by have hg0 := hg; (try simp at hg); exact op_sub evG2 evG2 hsub)) ?_)
        (refine JW_i0 rfl rfl (fun hg => (by have hg0 := hg; (try simp at hg); exact op_moveE (Ev.rfl' rfl))) ?_)
        (refine JW_i0 rfl rfl (fun hg => (by have hg0 := hg; (try simp at hg); exact op_nilCheck evG)) ?_)
        (refine JW_i0 rfl rfl (fun hg => (by have hg0 := hg; (try simp at hg); exact op_fieldPtr (k := 10) evG rfl rfl rfl rfl)) ?_)
        (refine JW_i0 rfl rfl (fun hg => (by have hg0 := hg; (try simp at hg); exact op_loadPtr evG memT (by rfl) (by rfl) (by rfl))) ?_)
        (refine JW_i0 rfl rfl (fun hg => (by have hg0 := hg; (try simp at hg); exact op_neq evG evG)) ?_)
        refine JW_1 (op_and (Ev.rfl' rfl) rfl (fun h => by exact SubL.iteT (by (rw [h]; rfl)) SubL.rfl')) ?_
        refine ⟨rfl, ?_⟩
        refine JD_end (JQ_then ?_)
        refine JC_cond (Ev.rfl' rfl) (fun h26 => ?_) (fun h26 => ?_)
        · have hll : late a k = true := by rw [← hlp]; exact h26
          obtain ⟨q1, q2, q3⟩ := hl1 k hlt hll hno
          refine JC_seq (JC_region (JL_1 rfl (op_move rfl) (JL_1 rfl (op_move rfl) ?_)))
          (refine JL_i0 rfl rfl rfl (fun hg => (by have hg0 := hg; (try simp at hg); exact op_fieldPtr (k := 0) evG rfl rfl rfl rfl)) ?_)
          (refine JL_i0 rfl rfl rfl (fun hg => (by have hg0 := hg; (try simp at hg); exact op_loadPtr evG memT (by rfl) (by rfl) (by rfl))) ?_)
          (refine JL_i0 rfl rfl rfl (fun hg => (by have hg0 := hg; (try simp at hg); exact op_eql evG evG)) ?_)
          refine JL_1 rfl (op_and (Ev.rfl' rfl) rfl (fun h => by exact SubL.rfl')) ?_
          refine JL_1 rfl (op_move rfl) ?_
          (refine JL_i0 rfl rfl rfl (fun hg => (by have hg0 := hg; (try simp at hg); exact op_fieldPtr (k := 2) evG rfl rfl rfl rfl)) ?_)
          (refine JL_i0 rfl rfl rfl (fun hg => (by have hg0 := hg; (try simp at hg); exact op_loadPtr evG memT (by rfl) (by rfl) (by rfl))) ?_)
          (refine JL_i0 rfl rfl rfl (fun hg => (by have hg0 := hg; (try simp at hg); exact op_moveE (Ev.rfl' rfl))) ?_)
          (refine JL_i0 rfl rfl rfl (fun hg => (by have hg0 := hg; (try simp at hg); exact op_eql evG evG)) ?_)
          refine JL_1 rfl (op_and (Ev.rfl' rfl) rfl (fun h => by exact SubL.iteT (by (rw [h]; rfl)) SubL.rfl')) ?_
          refine JL_1 rfl (op_assign rfl) (JL_nil ?_)
          refine JQ_then (JC_ret (JQ_block_ret (JQ_then_ret (JQ_then_ret (JQ_block_ret (JQ_then_ret (JQ_block_ret (JQ_then_ret ?_))))))))
          rw [show (true && out.code == 3 && out.blk == (k : Int)) = true by rw [q1, q2]; simp]
          exact JQ_retP (Bs := [Is (.bool true)]) Tryz.results7 ⟨⟨_, rfl, subT⟩, trivial⟩ ⟨_, hW'⟩ SubL.rfl' (by dsimp only [WL]; rw [q3]; exact lessT)
        have hll : late a k = false := by rw [← hlp]; exact h26
        refine JC_skip (JQ_block (JQ_then ?_))
        refine JC_region (JL_1 rfl (op_move rfl) (JL_1 rfl (op_add (Ev.rfl' rfl) (Ev.rfl' rfl) wrapT) ?_))
        refine JL_1 rfl (op_assign rfl) (JL_nil ?_)
        exact JQ_roundP (k + 1) ⟨by omega, fun j hj => by
          by_cases e : j = k
          · rw [e]; exact hll
          · exact hno j (by omega)⟩ (by omega) esubT lessT
      have hke : k = 6 := by have := of_decide_eq_false h24; omega
      clear h24
      subst hke
      obtain ⟨q1, q2, q3⟩ := hl2 hno
      have hadd : IntKind.i64.wrap ((a.g : Int) + 1) = (a.g : Int) + 1 := wI64 (by omega)
      have hga : ((a.adv.g : Nat) : Int) = (a.g : Int) + 1 := by show ((a.g + 1 : Nat) : Int) = _; omega
      refine JC_exit (JQ_then_exit (JQ_then_exit (JQ_hit (JQ_then (JC_seq ?_)))))
      refine JC_region (JL_1 rfl (op_move rfl) (JL_1 rfl (by exact op_nilCheck (Ev.rfl' rfl)) ?_))
      refine JL_1 rfl (by exact op_fieldPtr (k := 10) (Ev.rfl' rfl) rfl rfl rfl rfl) ?_
      refine JL_1 rfl (by exact op_loadPtr (Ev.rfl' rfl) memT (by rfl) (by rfl) (by rfl)) ?_
      refine JL_1 rfl (op_add (Ev.rfl' rfl) (Ev.rfl' rfl) wrapT) ?_
      refine JL_1 rfl (by exact op_nilCheck (Ev.rfl' rfl)) ?_
      refine JL_1 rfl (by exact op_fieldPtr (k := 10) (Ev.rfl' rfl) rfl rfl rfl rfl) ?_
      refine JL_s0 (op_storeN (Ev.rfl' rfl) (Ev.rfl' rfl) cellsT replT nrmT (by rfl) (by rfl) (by rfl)) ?_
      refine JL_nil ?_
      refine JQ_then (JC_seq ?_)
      refine JC_dr rfl (by kernel_rfl) ?_
      refine JD_stretch 17 (by kernel_rfl) ?_
      refine JW_1 (op_move rfl) (JW_1 (op_move rfl) ?_)
      (refine JW_i0 rfl rfl (fun hg => (by have hg0 := hg; (try simp at hg); exact op_fieldPtr (k := 0) evG rfl rfl rfl rfl)) ?_)
      (refine JW_i0 rfl rfl (fun hg => (by have hg0 := hg; (try simp at hg); exact op_loadPtr evG memT (by rfl) (by rfl) (by rfl))) ?_)
      (refine JW_i0 rfl rfl (fun hg => (by have hg0 := hg; (try simp at hg); exact op_eql evG evG)) ?_)
      refine JW_1 (op_and (Ev.rfl' rfl) rfl (fun h => by exact SubL.rfl')) ?_
      refine JW_1 (op_move rfl) ?_
      (refine JW_i0 rfl rfl (fun hg => (by have hg0 := hg; (try simp at hg); exact op_fieldPtr (k := 1) evG rfl rfl rfl rfl)) ?_)
      (refine JW_i0 rfl rfl (fun hg => (by have hg0 := hg; (try simp at hg); exact op_loadPtr evG memT (by rfl) (by rfl) (by rfl))) ?_)
      (refine JW_i0 rfl rfl (fun hg => (by have hg0 := hg; (try simp at hg); exact op_conv evG rfl rfl convT)) ?_)
      (refine JW_i0 rfl rfl (fun hg => (by have hg0 := hg; (try simp at hg); exact op_moveE (Ev.rfl' rfl))) ?_)
      (refine JW_i0 rfl rfl (fun hg => (by have hg0 := hg; (try simp at hg); exact op_nilCheck evG)) ?_)
      (refine JW_i0 rfl rfl (fun hg => (by have hg0 := hg; (try simp at hg); exact op_fieldPtr (k := 10) evG rfl rfl rfl rfl)) ?_)
      (refine JW_i0 rfl rfl (fun hg => (by have hg0 := hg; (try simp at hg); exact op_loadPtr evG memT (by rfl) (by rfl) (by rfl))) ?_)
      (refine JW_i0 rfl rfl (fun hg => (by have hg0 := hg; (try simp at hg); exact op_eql evG evG)) ?_)
      refine JW_1 (op_and (Ev.rfl' rfl) rfl (fun h => by exact SubL.iteT (by (rw [h]; rfl)) SubL.rfl')) ?_
      refine JW_1 (op_assign rfl) ?_
      refine ⟨rfl, ?_⟩
      refine JD_end ?_
      refine JQ_then (JC_ret (JQ_block_ret (JQ_then_ret ?_)))
      rw [show (true && out.code == 0 && UV out.ep == (a.g : Int) + 1) = true by rw [q1, q2]; simp]
      exact JQ_retP (Bs := [Is (.bool true)]) Tryz.results7 ⟨⟨_, rfl, subT⟩, trivial⟩ ⟨_, hW'⟩ SubL.rfl' (by dsimp only [WL]; rw [q3, hga]; exact lessT)
    exact absurd h20 (by simp [hkd])
  exact absurd h20 (by simp [hkd])
-- (*bodega/bodegalaw26.world).do: function 7
set_option maxHeartbeats 2000000 in
theorem do3_ok (bw hp n s0 G : Nat) (z0 z1 z2 : WA) (is : List Nat) (tos : List Pt) (a : AW) (H : List Pg) (m : Mw) (at_ : Int) (cl ot : Nat) (h : WI n s0 G is tos a H) (hG : G ≤ 900) (hcl : m.client % 6 = (cl : Int)) (hot : m.for_ % 6 = (ot : Int)) (hkd : m.kind % 8 = 3) :
    Fn Tryz.prog 7 [Is (.pointer (some ⟨bw, 0, none⟩)), IsMw m, Is (.int .i64 at_)] (WL bw hp n z0 z1 z2 tos a H) (fun _ : {H' : List Pg // WI n s0 (G + 1) is tos a.adv1 H'} => Is (.bool true)) (fun i => WL bw hp n z0 z1 z2 tos a.adv1 i.1) := by
  have hc : cl < 6 := by omega
  obtain ⟨N, hE, _⟩ := h.ei
  have hHl : H.length = 8 + 16 * n := hE.len
  have hn5 := h.S.n5
  have hgb := h.gb
  obtain ⟨ws, out, hnx, hgw, hcd, hW', hl1, hl2⟩ := adv_next h hG hc
  have hrun := run_ok bw hp (8 + 16 * n) z0 z1 z2 (104 + 16 * (n : Int)) (a.g : Int) (pinI a) tos (opAdv cl) H ws out hHl (by omega) (H_ne hHl) hnx hgw.no hgw.lo' hcd
  refine Fn.enterN Tryz.func7 Tryz.ntmps7 rfl rfl ?_
  intro c hX
  refine JC_seq (JC_region ?_)
  (refine JL_n rfl (op_box (Ev.rfl' rfl) cellsT) ?_; intro i4)
  refine JL_1 rfl (op_assign rfl) (JL_nil ?_)
  refine JQ_then (JC_seq ?_)
  refine JC_dr rfl (by kernel_rfl) ?_
  refine JD_stretch 8 (by kernel_rfl) ?_
  refine JW_1 (by exact op_fieldPtr (k := 1) (Ev.rfl' rfl) rfl rfl rfl rfl) ?_
  refine JW_1 (by exact op_loadPtr (Ev.rfl' rfl) memT (by rfl) (by rfl) (by rfl)) ?_
  refine JW_1 (by ((refine op_call Tryz.call18 (PickH_ok _ _ ?_ ?_) ⟨evS, ⟨evS, trivial⟩⟩); all_goals (omega))) ?_
  refine JW_1 (by exact op_fieldPtr (k := 2) (Ev.rfl' rfl) rfl rfl rfl rfl) ?_
  refine JW_1 (by exact op_loadPtr (Ev.rfl' rfl) memT (by rfl) (by rfl) (by rfl)) ?_
  refine JW_1 (by ((refine op_call Tryz.call18 (PickH_ok _ _ ?_ ?_) ⟨evS, ⟨evS, trivial⟩⟩); all_goals (omega))) ?_
  refine JW_1 (op_assign rfl) (JW_1 (op_assign rfl) ?_)
  refine ⟨rfl, ?_⟩
  refine JD_end ?_
  refine JQ_then (JC_seq (JC_seq ?_))
  rw [hcl, hot]
  refine JC_region (JL_1 rfl (by exact op_fieldPtr (k := 0) (Ev.rfl' rfl) rfl rfl rfl rfl) ?_)
  refine JL_1 rfl (by exact op_loadPtr (Ev.rfl' rfl) memT (by rfl) (by rfl) (by rfl)) ?_
  refine JL_1 rfl (by ((refine op_call Tryz.call18 (PickH_ok _ _ ?_ ?_) ⟨evS, ⟨evS, trivial⟩⟩); all_goals (omega))) ?_
  refine JL_nil ?_
  refine JQ_then (JC_block (JC_seq ?_))
  refine JC_region (JL_1 rfl (op_eql (Ev.rfl' rfl) (Ev.rfl' rfl)) (JL_1 rfl (op_assign rfl) (JL_nil (JQ_then ?_))))
  refine JC_cond (Ev.rfl' rfl) (fun h3 => ?_) (fun h3 => ?_)
  · exact absurd h3 (by simp [hkd])
  refine JC_seq (JC_seq ?_)
  refine JC_region (JL_1 rfl (op_eql (Ev.rfl' rfl) (Ev.rfl' rfl)) (JL_1 rfl (op_assign rfl) (JL_nil (JQ_then ?_))))
  refine JC_cond (Ev.rfl' rfl) (fun h9 => ?_) (fun h9 => ?_)
  · exact absurd h9 (by simp [hkd])
  refine JC_region (JL_1 rfl (op_eql (Ev.rfl' rfl) (Ev.rfl' rfl)) (JL_1 rfl (op_assign rfl) (JL_nil (JQ_then ?_))))
  refine JC_cond (Ev.rfl' rfl) (fun h10 => ?_) (fun h10 => ?_)
  · exact absurd h10 (by simp [hkd])
  refine JC_seq (JC_seq ?_)
  refine JC_region (JL_1 rfl (op_eql (Ev.rfl' rfl) (Ev.rfl' rfl)) (JL_1 rfl (op_assign rfl) (JL_nil (JQ_then ?_))))
  refine JC_cond (Ev.rfl' rfl) (fun h20 => ?_) (fun h20 => ?_)
  · exact absurd h20 (by simp [hkd])
  refine JC_region (JL_1 rfl (op_eql (Ev.rfl' rfl) (Ev.rfl' rfl)) (JL_1 rfl (op_assign rfl) (JL_nil (JQ_then ?_))))
  refine JC_cond (Ev.rfl' rfl) (fun h21 => ?_) (fun h21 => ?_)
  · refine JC_seq (JC_region (JL_1 rfl (op_move rfl) (JL_1 rfl (op_move rfl) (JL_1 rfl (op_buildN (qs := [(0, _), (1, _)]) rfl rfl rfl rfl ⟨⟨rfl, _, (Ev.rfl' rfl), cellsT⟩, ⟨⟨rfl, _, (Ev.rfl' rfl), cellsT⟩, trivial⟩⟩ (by rfl) nrmT) ?_))))
    (refine JL_s rfl (op_callM (Drops.cons drop1A (Drops.cons drop1A (Drops.cons drop1A (Drops.nil _)))) Tryz.call19 (hrun) ⟨evS, ⟨evS, trivial⟩⟩) ?_; intro i146)
    refine JL_1 rfl (op_move rfl) (JL_1 rfl (op_extract (Ev.rfl' rfl) rfl) (JL_1 rfl (op_extract (Ev.rfl' rfl) rfl) ?_))
    (refine JL_n rfl (op_allocN rfl nrmT rfl) ?_; intro i15)
    refine JL_s0 (op_storeN (Ev.rfl' rfl) (Ev.rfl' rfl) cellsT replT nrmT (by rfl) (by rfl) (by rfl)) ?_
    refine JL_1 rfl (op_assign rfl) (JL_nil ?_)
    refine JQ_then (JC_seq (JC_seq ?_))
    refine JC_region (JL_1 rfl (op_assign rfl) (JL_nil ?_))
    refine JQ_then (JC_block ?_)
    refine JC_loopP (fun k : Nat => k ≤ 6 ∧ ∀ j, j < k → late a j = false) (fun k => [(0, Is (.pointer (some ⟨bw, 0, none⟩))), (15, Is (.pointer (some ⟨i15, 0, none⟩))), (16, Is (.bool true)), (17, Is (.int .i64 (k : Nat)))]) (fun k => [blk i15 81 (outC out), blk bw 36 (wldC hp (pinI a) z1 z2 tos (a.g : Int)), blk hp 58 (heapC (slV (8 + 16 * n) z0) (104 + 16 * (n : Int))), buf (slV (8 + 16 * n) z0) 51 tPg (ws.foldl comP H), buf (slV 12 z1) 3 tI64 (retL a), buf (slV 12 z2) 4 tBool (freL a)]) (fun k => 6 - k) 0 ⟨Nat.zero_le _, fun j hj => absurd hj (Nat.not_lt_zero _)⟩ esubT lessT ?_
    rintro k ⟨hk, hno⟩
    refine JC_seq (JC_seq ?_)
    refine JC_region (JL_1 rfl (op_move rfl) (JL_1 rfl (op_lss (Ev.rfl' rfl) (Ev.rfl' rfl)) (JL_nil (JQ_then ?_))))
    refine JC_cond (Ev.rfl' rfl) (fun h24 => ?_) (fun h24 => ?_)
    · have hlt : k < 6 := by have := of_decide_eq_true h24; omega
      clear h24
      have hpr := pinI_rng h.I k
      have hsub : IntKind.i64.wrap (pinI a k - 1) = pinI a k - 1 := wI64 (by omega)
      have hlp := late_pin a k
      refine JC_skip (JQ_then (JC_seq (JC_block (JC_seq ?_))))
      refine JC_dr rfl (by kernel_rfl) ?_
      refine JD_stretch 21 (by kernel_rfl) ?_
      refine JW_1 (op_move rfl) (JW_1 (op_move rfl) (JW_1 (by exact op_nilCheck (Ev.rfl' rfl)) ?_))
      refine JW_1 (by exact op_fieldPtr (k := 1) (Ev.rfl' rfl) rfl rfl rfl rfl) ?_
      refine JW_1 (op_indexArr (k := k) (sz := 1) (Ev.rfl' rfl) (Ev.rfl' rfl) rfl rfl idxT (by omega)) ?_
      refine JW_1 (op_loadPtr (Ev.rfl' rfl) memT rfl rfl (pin_at _ _ _ _ _ _ hlt)) ?_
      refine JW_1 (op_gtr (Ev.rfl' rfl) (Ev.rfl' rfl)) (JW_1 (op_move rfl) ?_)
      (refine JW_i0 rfl rfl (fun hg => (by have hg0 := hg; (try simp at hg); exact op_moveE (Ev.rfl' rfl))) ?_)
      (refine JW_i0 rfl rfl (fun hg => (by have hg0 := hg; (try simp at hg); exact op_moveE (Ev.rfl' rfl))) ?_)
      (refine JW_i0 rfl rfl (fun hg => (by have hg0 := hg; (try simp at hg); exact op_nilCheck evG)) ?_)
      (refine JW_i0 rfl rfl (fun hg => (by have hg0 := hg; (try simp at hg); exact op_fieldPtr (k := 1) evG rfl rfl rfl rfl)) ?_)
      (refine JW_i0 rfl rfl (fun hg => (by have hg0 := hg; (try simp at hg); exact op_indexArr (k := k) (sz := 1) evG evG rfl rfl idxT (by omega))) ?_)
      (refine JW_i0 rfl rfl (fun hg => (by have hg0 := hg; (try simp at hg); exact op_loadPtr evG2 memT rfl rfl (pin_at _ _ _ _ _ _ hlt))) ?_)
      (refine JW_i0 rfl rfl (fun hg => (by have hg0 := hg; (try simp at hg); exact op_sub evG2 evG2 hsub)) ?_)
      (refine JW_i0 rfl rfl (fun hg => (by have hg0 := hg; (try simp at hg); exact op_moveE (Ev.rfl' rfl))) ?_)
      (refine JW_i0 rfl rfl (fun hg => (by have hg0 := hg; (try simp at hg); exact op_nilCheck evG)) ?_)
      (refine JW_i0 rfl rfl (fun hg => (by have hg0 := hg; (try simp at hg); exact op_fieldPtr (k := 10) evG rfl rfl rfl rfl)) ?_)
      (refine JW_i0 rfl rfl (fun hg => (by have hg0 := hg; (try simp at hg); exact op_loadPtr evG memT (by rfl) (by rfl) (by rfl))) ?_)
      (refine JW_i0 rfl rfl (fun hg => (by have hg0 := hg; (try simp at hg); exact op_neq evG evG)) ?_)
      refine JW_1 (op_and (Ev.rfl' rfl) rfl (fun h => by exact SubL.iteT (by (rw [h]; rfl)) SubL.rfl')) ?_
      refine ⟨rfl, ?_⟩
      refine JD_end (JQ_then ?_)
      refine JC_cond (Ev.rfl' rfl) (fun h26 => ?_) (fun h26 => ?_)
      · have hll : late a k = true := by rw [← hlp]; exact h26
        obtain ⟨q1, q2, q3⟩ := hl1 k hlt hll hno
        refine JC_seq (JC_region (JL_1 rfl (op_move rfl) (JL_1 rfl (op_move rfl) ?_)))
        (refine JL_i0 rfl rfl rfl (fun hg => (by have hg0 := hg; (try simp at hg); exact op_fieldPtr (k := 0) evG rfl rfl rfl rfl)) ?_)
        (refine JL_i0 rfl rfl rfl (fun hg => (by have hg0 := hg; (try simp at hg); exact op_loadPtr evG memT (by rfl) (by rfl) (by rfl))) ?_)
        (refine JL_i0 rfl rfl rfl (fun hg => (by have hg0 := hg; (try simp at hg); exact op_eql evG evG)) ?_)
        refine JL_1 rfl (op_and (Ev.rfl' rfl) rfl (fun h => by exact SubL.rfl')) ?_
        refine JL_1 rfl (op_move rfl) ?_
        (refine JL_i0 rfl rfl rfl (fun hg => (by have hg0 := hg; (try simp at hg); exact op_fieldPtr (k := 2) evG rfl rfl rfl rfl)) ?_)
        (refine JL_i0 rfl rfl rfl (fun hg => (by have hg0 := hg; (try simp at hg); exact op_loadPtr evG memT (by rfl) (by rfl) (by rfl))) ?_)
        (refine JL_i0 rfl rfl rfl (fun hg => (by have hg0 := hg; (try simp at hg); exact op_moveE (Ev.rfl' rfl))) ?_)
        (refine JL_i0 rfl rfl rfl (fun hg => (by have hg0 := hg; (try simp at hg); exact op_eql evG evG)) ?_)
        refine JL_1 rfl (op_and (Ev.rfl' rfl) rfl (fun h => by exact SubL.iteT (by (rw [h]; rfl)) SubL.rfl')) ?_
        refine JL_1 rfl (op_assign rfl) (JL_nil ?_)
        refine JQ_then (JC_ret (JQ_block_ret (JQ_then_ret (JQ_then_ret (JQ_block_ret (JQ_then_ret (JQ_block_ret (JQ_then_ret ?_))))))))
        rw [show (true && out.code == 3 && out.blk == (k : Int)) = true by rw [q1, q2]; simp]
        exact JQ_retP (Bs := [Is (.bool true)]) Tryz.results7 ⟨⟨_, rfl, subT⟩, trivial⟩ ⟨_, hW'⟩ SubL.rfl' (by dsimp only [WL]; rw [q3]; exact lessT)
      have hll : late a k = false := by rw [← hlp]; exact h26
      refine JC_skip (JQ_block (JQ_then ?_))
      refine JC_region (JL_1 rfl (op_move rfl) (JL_1 rfl (op_add (Ev.rfl' rfl) (Ev.rfl' rfl) wrapT) ?_))
      refine JL_1 rfl (op_assign rfl) (JL_nil ?_)
      exact JQ_roundP (k + 1) ⟨by omega, fun j hj => by
        by_cases e : j = k
        · rw [e]; exact hll
        · exact hno j (by omega)⟩ (by omega) esubT lessT
    have hke : k = 6 := by have := of_decide_eq_false h24; omega
    clear h24
    subst hke
    obtain ⟨q1, q2, q3⟩ := hl2 hno
    have hadd : IntKind.i64.wrap ((a.g : Int) + 1) = (a.g : Int) + 1 := wI64 (by omega)
    have hga : ((a.adv.g : Nat) : Int) = (a.g : Int) + 1 := by show ((a.g + 1 : Nat) : Int) = _; omega
    refine JC_exit (JQ_then_exit (JQ_then_exit (JQ_hit (JQ_then (JC_seq ?_)))))
    refine JC_region (JL_1 rfl (op_move rfl) (JL_1 rfl (by exact op_nilCheck (Ev.rfl' rfl)) ?_))
    refine JL_1 rfl (by exact op_fieldPtr (k := 10) (Ev.rfl' rfl) rfl rfl rfl rfl) ?_
    refine JL_1 rfl (by exact op_loadPtr (Ev.rfl' rfl) memT (by rfl) (by rfl) (by rfl)) ?_
    refine JL_1 rfl (op_add (Ev.rfl' rfl) (Ev.rfl' rfl) wrapT) ?_
    refine JL_1 rfl (by exact op_nilCheck (Ev.rfl' rfl)) ?_
    refine JL_1 rfl (by exact op_fieldPtr (k := 10) (Ev.rfl' rfl) rfl rfl rfl rfl) ?_
    refine JL_s0 (op_storeN (Ev.rfl' rfl) (Ev.rfl' rfl) cellsT replT nrmT (by rfl) (by rfl) (by rfl)) ?_
    refine JL_nil ?_
    refine JQ_then (JC_seq ?_)
    refine JC_dr rfl (by kernel_rfl) ?_
    refine JD_stretch 17 (by kernel_rfl) ?_
    refine JW_1 (op_move rfl) (JW_1 (op_move rfl) ?_)
    (refine JW_i0 rfl rfl (fun hg => (by have hg0 := hg; (try simp at hg); exact op_fieldPtr (k := 0) evG rfl rfl rfl rfl)) ?_)
    (refine JW_i0 rfl rfl (fun hg => (by have hg0 := hg; (try simp at hg); exact op_loadPtr evG memT (by rfl) (by rfl) (by rfl))) ?_)
    (refine JW_i0 rfl rfl (fun hg => (by have hg0 := hg; (try simp at hg); exact op_eql evG evG)) ?_)
    refine JW_1 (op_and (Ev.rfl' rfl) rfl (fun h => by exact SubL.rfl')) ?_
    refine JW_1 (op_move rfl) ?_
    (refine JW_i0 rfl rfl (fun hg => (by have hg0 := hg; (try simp at hg); exact op_fieldPtr (k := 1) evG rfl rfl rfl rfl)) ?_)
    (refine JW_i0 rfl rfl (fun hg => (by have hg0 := hg; (try simp at hg); exact op_loadPtr evG memT (by rfl) (by rfl) (by rfl))) ?_)
    (refine JW_i0 rfl rfl (fun hg => (by have hg0 := hg; (try simp at hg); exact op_conv evG rfl rfl convT)) ?_)
    (refine JW_i0 rfl rfl (fun hg => (by have hg0 := hg; (try simp at hg); exact op_moveE (Ev.rfl' rfl))) ?_)
    (refine JW_i0 rfl rfl (fun hg => (by have hg0 := hg; (try simp at hg); exact op_nilCheck evG)) ?_)
    (refine JW_i0 rfl rfl (fun hg => (by have hg0 := hg; (try simp at hg); exact op_fieldPtr (k := 10) evG rfl rfl rfl rfl)) ?_)
    (refine JW_i0 rfl rfl (fun hg => (by have hg0 := hg; (try simp at hg); exact op_loadPtr evG memT (by rfl) (by rfl) (by rfl))) ?_)
    (refine JW_i0 rfl rfl (fun hg => (by have hg0 := hg; (try simp at hg); exact op_eql evG evG)) ?_)
    refine JW_1 (op_and (Ev.rfl' rfl) rfl (fun h => by exact SubL.iteT (by (rw [h]; rfl)) SubL.rfl')) ?_
    refine JW_1 (op_assign rfl) ?_
    refine ⟨rfl, ?_⟩
    refine JD_end ?_
    refine JQ_then (JC_ret (JQ_block_ret (JQ_then_ret ?_)))
    rw [show (true && out.code == 0 && UV out.ep == (a.g : Int) + 1) = true by rw [q1, q2]; simp]
    exact JQ_retP (Bs := [Is (.bool true)]) Tryz.results7 ⟨⟨_, rfl, subT⟩, trivial⟩ ⟨_, hW'⟩ SubL.rfl' (by dsimp only [WL]; rw [q3, hga]; exact lessT)
  exact absurd h21 (by simp [hkd])
end Go.Proofs.YtfkmbdpnjcgimaaGreat

/- Contracts: a move of the statements' world: retire. Own work. -/
namespace Go.Proofs.YtfkmbdpnjcgimaaGreat
open Go.RowKit
set_option linter.unusedVariables false
set_option linter.unusedSimpArgs false
set_option maxRecDepth 100000
theorem retL_at (a : AW) {k : Nat} (hk : k < 12) : (retL a)[k]? = some (retI a k) := by
  unfold retL; rw [List.getElem?_map, List.getElem?_range hk]; rfl
theorem freL_at (a : AW) {k : Nat} (hk : k < 12) : (freL a)[k]? = some (a.fre k) := by
  unfold freL; rw [List.getElem?_map, List.getElem?_range hk]; rfl
theorem retI_rng {a : AW} (hI : AI a) (k : Nat) : -1 ≤ retI a k ∧ retI a k ≤ (a.g : Int) := by
  unfold retI
  cases hv : a.ret k with
  | none => dsimp only; omega
  | some e => have := hI.r1 k e hv; dsimp only; omega
theorem retI_ge (a : AW) (k : Nat) : decide (retI a k ≥ 0) = (a.ret k).isSome := by
  unfold retI
  cases a.ret k with
  | none => rfl
  | some e => rw [Bool.eq_iff_iff]; simp
theorem retL_set (a : AW) (c j : Nat) {k : Nat} (hk : k < 12) : (retL a).set k (a.g : Int) = retL (a.retire c j k) := by
  apply List.ext_getElem?
  intro i
  rcases Nat.lt_or_ge i 12 with hi | hi
  · rw [List.getElem?_set, retL_at _ hi, retL_at _ hi, retL_len]
    by_cases e : k = i
    · subst e
      rw [if_pos rfl, if_pos hk]
      unfold retI AW.retire
      simp
    · rw [if_neg e]
      unfold retI AW.retire
      dsimp only
      rw [if_neg (fun h => e h.symm)]
  · rw [List.getElem?_eq_none (by rw [List.length_set, retL_len]; exact hi), List.getElem?_eq_none (by rw [retL_len]; exact hi)]
-- (*bodega/bodegalaw26.world).do: function 7
set_option maxHeartbeats 2000000 in
theorem do4_ok (bw hp n s0 G : Nat) (z0 z1 z2 : WA) (is : List Nat) (tos : List Pt) (a : AW) (H : List Pg) (m : Mw) (t cl ot : Nat) (h : WI n s0 G is tos a H) (hG : G ≤ 900) (ht : t ≤ 1000) (hcl : m.client % 6 = (cl : Int)) (hot : m.for_ % 6 = (ot : Int)) (hkd : m.kind % 8 = 4) :
    Fn Tryz.prog 7 [Is (.pointer (some ⟨bw, 0, none⟩)), IsMw m, Is (.int .i64 (t : Nat))] (WL bw hp n z0 z1 z2 tos a H) (fun _ : {H' : List Pg // WI n s0 (G + 1) is tos (a.ret1 cl (t % 12)) H'} => Is (.bool true)) (fun i => WL bw hp n z0 z1 z2 tos (a.ret1 cl (t % 12)) i.1) := by
  have hc : cl < 6 := by omega
  obtain ⟨N, hE, _⟩ := h.ei
  have hHl : H.length = 8 + 16 * n := hE.len
  have hn5 := h.S.n5
  have hgb := h.gb
  have htl := h.tl
  obtain ⟨k, hk0⟩ : ∃ k, t % 12 = k := ⟨_, rfl⟩
  have hk : k < 12 := by omega
  have hrem : Int.tmod (t : Int) (tos.length : Int) = (k : Int) := by
    rw [htl, Int.tmod_eq_emod_of_nonneg (by omega)]; omega
  rw [hk0]
  have hrng := retI_rng h.I k
  have hz1 := retL_at a hk
  have hz2 := freL_at a hk
  have hrl := retL_len a
  have hfl := freL_len a
  have hge := retI_ge a k
  have hx : tos[k]? = some (tos.getD k Pt.nil) := by
    rw [List.getD_eq_getElem?_getD, List.getElem?_eq_getElem (by omega)]; rfl
  refine Fn.enterN Tryz.func7 Tryz.ntmps7 rfl rfl ?_
  intro c hX
  refine JC_seq (JC_region ?_)
  (refine JL_n rfl (op_box (Ev.rfl' rfl) cellsT) ?_; intro i4)
  refine JL_1 rfl (op_assign rfl) (JL_nil ?_)
  refine JQ_then (JC_seq ?_)
  refine JC_dr rfl (by kernel_rfl) ?_
  refine JD_stretch 8 (by kernel_rfl) ?_
  refine JW_1 (by exact op_fieldPtr (k := 1) (Ev.rfl' rfl) rfl rfl rfl rfl) ?_
  refine JW_1 (by exact op_loadPtr (Ev.rfl' rfl) memT (by rfl) (by rfl) (by rfl)) ?_
  refine JW_1 (by ((refine op_call Tryz.call18 (PickH_ok _ _ ?_ ?_) ⟨evS, ⟨evS, trivial⟩⟩); all_goals (omega))) ?_
  refine JW_1 (by exact op_fieldPtr (k := 2) (Ev.rfl' rfl) rfl rfl rfl rfl) ?_
  refine JW_1 (by exact op_loadPtr (Ev.rfl' rfl) memT (by rfl) (by rfl) (by rfl)) ?_
  refine JW_1 (by ((refine op_call Tryz.call18 (PickH_ok _ _ ?_ ?_) ⟨evS, ⟨evS, trivial⟩⟩); all_goals (omega))) ?_
  refine JW_1 (op_assign rfl) (JW_1 (op_assign rfl) ?_)
  refine ⟨rfl, ?_⟩
  refine JD_end ?_
  refine JQ_then (JC_seq (JC_seq ?_))
  rw [hcl, hot]
  refine JC_region (JL_1 rfl (by exact op_fieldPtr (k := 0) (Ev.rfl' rfl) rfl rfl rfl rfl) ?_)
  refine JL_1 rfl (by exact op_loadPtr (Ev.rfl' rfl) memT (by rfl) (by rfl) (by rfl)) ?_
  refine JL_1 rfl (by ((refine op_call Tryz.call18 (PickH_ok _ _ ?_ ?_) ⟨evS, ⟨evS, trivial⟩⟩); all_goals (omega))) ?_
  refine JL_nil ?_
  refine JQ_then (JC_block (JC_seq ?_))
  refine JC_region (JL_1 rfl (op_eql (Ev.rfl' rfl) (Ev.rfl' rfl)) (JL_1 rfl (op_assign rfl) (JL_nil (JQ_then ?_))))
  refine JC_cond (Ev.rfl' rfl) (fun h3 => ?_) (fun h3 => ?_)
  · exact absurd h3 (by simp [hkd])
  refine JC_seq (JC_seq ?_)
  refine JC_region (JL_1 rfl (op_eql (Ev.rfl' rfl) (Ev.rfl' rfl)) (JL_1 rfl (op_assign rfl) (JL_nil (JQ_then ?_))))
  refine JC_cond (Ev.rfl' rfl) (fun h9 => ?_) (fun h9 => ?_)
  · exact absurd h9 (by simp [hkd])
  refine JC_region (JL_1 rfl (op_eql (Ev.rfl' rfl) (Ev.rfl' rfl)) (JL_1 rfl (op_assign rfl) (JL_nil (JQ_then ?_))))
  refine JC_cond (Ev.rfl' rfl) (fun h10 => ?_) (fun h10 => ?_)
  · exact absurd h10 (by simp [hkd])
  refine JC_seq (JC_seq ?_)
  refine JC_region (JL_1 rfl (op_eql (Ev.rfl' rfl) (Ev.rfl' rfl)) (JL_1 rfl (op_assign rfl) (JL_nil (JQ_then ?_))))
  refine JC_cond (Ev.rfl' rfl) (fun h20 => ?_) (fun h20 => ?_)
  · exact absurd h20 (by simp [hkd])
  refine JC_region (JL_1 rfl (op_eql (Ev.rfl' rfl) (Ev.rfl' rfl)) (JL_1 rfl (op_assign rfl) (JL_nil (JQ_then ?_))))
  refine JC_cond (Ev.rfl' rfl) (fun h21 => ?_) (fun h21 => ?_)
  · exact absurd h21 (by simp [hkd])
  refine JC_seq (JC_seq ?_)
  refine JC_region (JL_1 rfl (op_eql (Ev.rfl' rfl) (Ev.rfl' rfl)) (JL_1 rfl (op_assign rfl) (JL_nil (JQ_then ?_))))
  refine JC_cond (Ev.rfl' rfl) (fun h30 => ?_) (fun h30 => ?_)
  · refine JC_skip (JQ_then ?_)
    refine JC_cond (Ev.rfl' rfl) (fun h30 => ?_) (fun h30 => ?_)
    · refine JC_seq (JC_region (JL_1 rfl (op_move rfl) (JL_1 rfl (op_move rfl) (JL_1 rfl (by exact op_nilCheck (Ev.rfl' rfl)) ?_))))
      refine JL_1 rfl (by exact op_fieldPtr (k := 8) (Ev.rfl' rfl) rfl rfl rfl rfl) ?_
      refine JL_1 rfl (by exact op_loadPtr (Ev.rfl' rfl) memT (by rfl) (by rfl) (by rfl)) ?_
      refine JL_1 rfl (by exact op_len (Ev.rfl' rfl) rfl) ?_
      refine JL_1 rfl (op_rem (Ev.rfl' rfl) (Ev.rfl' rfl) (by omega) hrem) ?_
      refine JL_1 rfl (op_assign rfl) (JL_nil ?_)
      refine JQ_then (JC_seq (JC_seq ?_))
      refine JC_region (JL_1 rfl (op_move rfl) (JL_1 rfl (by exact op_nilCheck (Ev.rfl' rfl)) ?_))
      refine JL_1 rfl (by exact op_fieldPtr (k := 7) (Ev.rfl' rfl) rfl rfl rfl rfl) ?_
      refine JL_1 rfl (by exact op_loadPtr (Ev.rfl' rfl) memT (by rfl) (by rfl) (by rfl)) ?_
      refine JL_1 rfl (op_move rfl) (JL_1 rfl (by exact op_indexBuf (k := k) (Ev.rfl' rfl) memT (Ev.rfl' rfl) rfl rfl idxT lenT) ?_)
      refine JL_1 rfl (by exact op_loadBuf0 (Ev.rfl' rfl) memT hz1 rfl rfl (by rfl)) ?_
      refine JL_1 rfl (op_geq (Ev.rfl' rfl) (Ev.rfl' rfl)) (JL_1 rfl (op_move rfl) ?_)
      (refine JL_i0 rfl rfl rfl (fun hg => (by have hg0 := hg; (try simp at hg); exact op_moveE (Ev.rfl' rfl))) ?_)
      (refine JL_i0 rfl rfl rfl (fun hg => (by have hg0 := hg; (try simp at hg); exact op_nilCheck evG)) ?_)
      (refine JL_i0 rfl rfl rfl (fun hg => (by have hg0 := hg; (try simp at hg); exact op_fieldPtr (k := 9) evG rfl rfl rfl rfl)) ?_)
      (refine JL_i0 rfl rfl rfl (fun hg => (by have hg0 := hg; (try simp at hg); exact op_loadPtr evG memT (by rfl) (by rfl) (by rfl))) ?_)
      (refine JL_i0 rfl rfl rfl (fun hg => (by have hg0 := hg; (try simp at hg); exact op_moveE (Ev.rfl' rfl))) ?_)
      (refine JL_i0 rfl rfl rfl (fun hg => (by have hg0 := hg; (try simp at hg); exact op_indexBuf (k := k) evG memT evG rfl rfl idxT lenT)) ?_)
      (refine JL_i0 rfl rfl rfl (fun hg => (by have hg0 := hg; (try simp at hg); exact op_loadBuf0 evG memT hz2 rfl rfl (by rfl))) ?_)
      refine JL_1 rfl (op_or (Ev.rfl' rfl) rfl (fun h => by exact SubL.iteT (by (rw [h]; rfl)) SubL.rfl')) ?_
      refine JL_nil (JQ_then ?_)
      refine JC_cond (Ev.rfl' rfl) (fun h33 => ?_) (fun h33 => ?_)
      · have hb : ((a.ret k).isSome || a.fre k) = true := by rw [← hge]; exact h33
        have ha : a.ret1 cl k = a := by unfold AW.ret1; rw [if_pos hb]
        have hW1 : WI n s0 (G + 1) is tos (a.ret1 cl k) H := by rw [ha]; exact ⟨h.S, h.tl, h.to, h.I, h.B, by omega, h.ei⟩
        refine JC_seq (JC_region (JL_1 rfl (op_assign rfl) (JL_nil ?_)))
        refine JQ_then (JC_ret (JQ_then_ret (JQ_block_ret (JQ_then_ret ?_))))
        exact JQ_retP (Bs := [Is (.bool true)]) Tryz.results7 ⟨⟨_, rfl, subT⟩, trivial⟩ ⟨_, hW1⟩ SubL.rfl' (by dsimp only [WL]; rw [ha]; exact lessT)
      have hb : ((a.ret k).isSome || a.fre k) = false := by rw [← hge]; exact h33
      have hrk : a.ret k = none := by
        cases hv : a.ret k with
        | none => rfl
        | some e => rw [hv] at hb; cases hb
      have hfk : a.fre k = false := by rw [hrk] at hb; simpa using hb
      obtain ⟨ws, out, hnx, hgw, hcd, hW, h0⟩ := ret_next h hG hc hk hrk hfk
      have hrun := run_ok bw hp (8 + 16 * n) z0 z1 z2 (104 + 16 * (n : Int)) (a.g : Int) (pinI a) tos (opRet cl (tos.getD k Pt.nil)) H ws out hHl (by omega) (H_ne hHl) hnx hgw.no hgw.lo' hcd
      have hW' : WI n s0 (G + 1) is tos (a.ret1 cl k) (ws.foldl comP H) := ⟨hW.S, hW.tl, hW.to, hW.I, hW.B, by have := hW.gb; omega, hW.ei⟩
      refine JC_skip (JQ_then (JC_seq ?_))
      refine JC_region (JL_1 rfl (op_move rfl) (JL_1 rfl (op_move rfl) (JL_1 rfl (op_move rfl) (JL_1 rfl (by exact op_nilCheck (Ev.rfl' rfl)) ?_))))
      refine JL_1 rfl (by exact op_fieldPtr (k := 8) (Ev.rfl' rfl) rfl rfl rfl rfl) ?_
      refine JL_1 rfl (by exact op_loadPtr (Ev.rfl' rfl) memT (by rfl) (by rfl) (by rfl)) ?_
      refine JL_1 rfl (op_move rfl) (JL_1 rfl (by exact op_index (j := k) (Ev.rfl' rfl) (Ev.rfl' rfl) rfl rfl (by rfl) hx) ?_)
      refine JL_1 rfl (by exact op_loadRefsN (n := 2) (Ev.rfl' rfl) rfl rfl rfl (by rfl) nrmT) ?_
      refine JL_1 rfl (op_buildSlice (size := 2) (qs := [(0, _)]) rfl rfl rfl ⟨⟨rfl, _, (Ev.rfl' rfl), cellsT⟩, trivial⟩ (by rfl) (by rfl)) ?_
      refine JL_set 246 (IsSl tPt [tos.getD k Pt.nil]) rfl (SubL.row (xs := [tos.getD k Pt.nil]) (by rfl) (by rfl) subsT) ?_
      refine JL_1 rfl (op_buildN (qs := [(0, _), (1, _), (5, _)]) rfl rfl rfl rfl ⟨⟨rfl, _, (Ev.rfl' rfl), cellsT⟩, ⟨⟨rfl, _, (Ev.rfl' rfl), cellsT⟩, ⟨⟨rfl, _, (Ev.rfl' rfl), cellsT⟩, trivial⟩⟩⟩ (by rfl) nrmT) ?_
      (refine JL_s rfl (op_callM (Drops.cons drop1A (Drops.cons drop1A (Drops.cons drop1A (Drops.nil _)))) Tryz.call19 (hrun) ⟨evS, ⟨evS, trivial⟩⟩) ?_; intro i248)
      refine JL_1 rfl (op_move rfl) (JL_1 rfl (op_extract (Ev.rfl' rfl) rfl) (JL_1 rfl (op_extract (Ev.rfl' rfl) rfl) ?_))
      (refine JL_n rfl (op_allocN rfl nrmT rfl) ?_; intro i19)
      refine JL_s0 (op_storeN (Ev.rfl' rfl) (Ev.rfl' rfl) cellsT replT nrmT (by rfl) (by rfl) (by rfl)) ?_
      refine JL_1 rfl (op_assign rfl) (JL_nil ?_)
      refine JQ_then (JC_seq (JC_seq ?_))
      refine JC_region (JL_1 rfl (op_move rfl) (JL_1 rfl (op_move rfl) ?_))
      (refine JL_i0 rfl rfl rfl (fun hg => (by have hg0 := hg; (try simp at hg); exact op_fieldPtr (k := 0) evG rfl rfl rfl rfl)) ?_)
      (refine JL_i0 rfl rfl rfl (fun hg => (by have hg0 := hg; (try simp at hg); exact op_loadPtr evG memT (by rfl) (by rfl) (by rfl))) ?_)
      (refine JL_i0 rfl rfl rfl (fun hg => (by have hg0 := hg; (try simp at hg); exact op_eql evG evG)) ?_)
      refine JL_1 rfl (op_and (Ev.rfl' rfl) rfl (fun h => by exact SubL.rfl')) ?_
      refine JL_nil (JQ_then ?_)
      refine JC_cond (Ev.rfl' rfl) (fun h36 => ?_) (fun h36 => ?_)
      · have hoc : out.code = 0 := by simpa using h36
        obtain ⟨_, _, j, hj⟩ : out.code = 0 ∧ (a.ret1 cl k).ret k = some a.g ∧ ∃ j, a.ret1 cl k = a.retire cl j k := by
          rcases h0 with q | ⟨q, _⟩
          · exact q
          · rw [hoc] at q; cases q
        have hrs := retL_set a cl j hk
        refine JC_seq (JC_dr rfl (by kernel_rfl) ?_)
        refine JD_stretch 10 (by kernel_rfl) ?_
        refine JW_1 (op_move rfl) (JW_1 (by exact op_nilCheck (Ev.rfl' rfl)) ?_)
        refine JW_1 (by exact op_fieldPtr (k := 7) (Ev.rfl' rfl) rfl rfl rfl rfl) ?_
        refine JW_1 (by exact op_loadPtr (Ev.rfl' rfl) memT (by rfl) (by rfl) (by rfl)) ?_
        refine JW_1 (op_move rfl) (JW_1 (op_move rfl) (JW_1 (by exact op_nilCheck (Ev.rfl' rfl)) ?_))
        refine JW_1 (by exact op_fieldPtr (k := 10) (Ev.rfl' rfl) rfl rfl rfl rfl) ?_
        refine JW_1 (by exact op_loadPtr (Ev.rfl' rfl) memT (by rfl) (by rfl) (by rfl)) ?_
        refine JW_1 (by exact op_indexBuf (k := k) (Ev.rfl' rfl) memT (Ev.rfl' rfl) rfl rfl idxT lenT) ?_
        refine ⟨rfl, ?_⟩
        refine JD_s0 (by kernel_rfl) rfl (by exact op_storeBuf0 (z' := (a.g : Int)) (Ev.rfl' rfl) (Ev.rfl' rfl) cellsT replT hz1 rfl (by rfl) (by rfl)) ?_
        refine JD_end ?_
        refine JQ_then (JC_seq ?_)
        refine JC_region (JL_1 rfl (op_assign rfl) (JL_nil ?_))
        refine JQ_then (JC_ret (JQ_then_ret (JQ_block_ret (JQ_then_ret ?_))))
        exact JQ_retP (Bs := [Is (.bool true)]) Tryz.results7 ⟨⟨_, rfl, subT⟩, trivial⟩ ⟨_, hW'⟩ SubL.rfl' (by dsimp only [WL]; rw [hj, ← hrs]; exact lessT)
      have hoc : ¬ out.code = 0 := by simpa using h36
      obtain ⟨q1, q2⟩ : out.code = 12 ∧ a.ret1 cl k = a := by
        rcases h0 with ⟨q, _⟩ | q
        · exact absurd q hoc
        · exact q
      refine JC_skip (JQ_then (JC_seq ?_))
      refine JC_region (JL_1 rfl (op_move rfl) (JL_1 rfl (op_move rfl) ?_))
      (refine JL_i0 rfl rfl rfl (fun hg => (by have hg0 := hg; (try simp at hg); exact op_fieldPtr (k := 0) evG rfl rfl rfl rfl)) ?_)
      (refine JL_i0 rfl rfl rfl (fun hg => (by have hg0 := hg; (try simp at hg); exact op_loadPtr evG memT (by rfl) (by rfl) (by rfl))) ?_)
      (refine JL_i0 rfl rfl rfl (fun hg => (by have hg0 := hg; (try simp at hg); exact op_eql evG evG)) ?_)
      refine JL_1 rfl (op_and (Ev.rfl' rfl) rfl (fun h => by exact SubL.rfl')) ?_
      refine JL_1 rfl (op_assign rfl) (JL_nil ?_)
      refine JQ_then (JC_ret (JQ_block_ret (JQ_then_ret ?_)))
      rw [show (true && out.code == 12) = true by rw [q1]; rfl]
      exact JQ_retP (Bs := [Is (.bool true)]) Tryz.results7 ⟨⟨_, rfl, subT⟩, trivial⟩ ⟨_, hW'⟩ SubL.rfl' (by dsimp only [WL]; rw [q2]; exact lessT)
    exact absurd h30 (by simp [hkd])
  exact absurd h30 (by simp [hkd])
-- (*bodega/bodegalaw26.world).do: function 7
set_option maxHeartbeats 2000000 in
theorem do5_ok (bw hp n s0 G : Nat) (z0 z1 z2 : WA) (is : List Nat) (tos : List Pt) (a : AW) (H : List Pg) (m : Mw) (t cl ot : Nat) (h : WI n s0 G is tos a H) (hG : G ≤ 900) (ht : t ≤ 1000) (hcl : m.client % 6 = (cl : Int)) (hot : m.for_ % 6 = (ot : Int)) (hkd : m.kind % 8 = 5) :
    Fn Tryz.prog 7 [Is (.pointer (some ⟨bw, 0, none⟩)), IsMw m, Is (.int .i64 (t : Nat))] (WL bw hp n z0 z1 z2 tos a H) (fun _ : {H' : List Pg // WI n s0 (G + 1) is tos (a.ret1 cl (t % 12)) H'} => Is (.bool true)) (fun i => WL bw hp n z0 z1 z2 tos (a.ret1 cl (t % 12)) i.1) := by
  have hc : cl < 6 := by omega
  obtain ⟨N, hE, _⟩ := h.ei
  have hHl : H.length = 8 + 16 * n := hE.len
  have hn5 := h.S.n5
  have hgb := h.gb
  have htl := h.tl
  obtain ⟨k, hk0⟩ : ∃ k, t % 12 = k := ⟨_, rfl⟩
  have hk : k < 12 := by omega
  have hrem : Int.tmod (t : Int) (tos.length : Int) = (k : Int) := by
    rw [htl, Int.tmod_eq_emod_of_nonneg (by omega)]; omega
  rw [hk0]
  have hrng := retI_rng h.I k
  have hz1 := retL_at a hk
  have hz2 := freL_at a hk
  have hrl := retL_len a
  have hfl := freL_len a
  have hge := retI_ge a k
  have hx : tos[k]? = some (tos.getD k Pt.nil) := by
    rw [List.getD_eq_getElem?_getD, List.getElem?_eq_getElem (by omega)]; rfl
  refine Fn.enterN Tryz.func7 Tryz.ntmps7 rfl rfl ?_
  intro c hX
  refine JC_seq (JC_region ?_)
  (refine JL_n rfl (op_box (Ev.rfl' rfl) cellsT) ?_; intro i4)
  refine JL_1 rfl (op_assign rfl) (JL_nil ?_)
  refine JQ_then (JC_seq ?_)
  refine JC_dr rfl (by kernel_rfl) ?_
  refine JD_stretch 8 (by kernel_rfl) ?_
  refine JW_1 (by exact op_fieldPtr (k := 1) (Ev.rfl' rfl) rfl rfl rfl rfl) ?_
  refine JW_1 (by exact op_loadPtr (Ev.rfl' rfl) memT (by rfl) (by rfl) (by rfl)) ?_
  refine JW_1 (by ((refine op_call Tryz.call18 (PickH_ok _ _ ?_ ?_) ⟨evS, ⟨evS, trivial⟩⟩); all_goals (omega))) ?_
  refine JW_1 (by exact op_fieldPtr (k := 2) (Ev.rfl' rfl) rfl rfl rfl rfl) ?_
  refine JW_1 (by exact op_loadPtr (Ev.rfl' rfl) memT (by rfl) (by rfl) (by rfl)) ?_
  refine JW_1 (by ((refine op_call Tryz.call18 (PickH_ok _ _ ?_ ?_) ⟨evS, ⟨evS, trivial⟩⟩); all_goals (omega))) ?_
  refine JW_1 (op_assign rfl) (JW_1 (op_assign rfl) ?_)
  refine ⟨rfl, ?_⟩
  refine JD_end ?_
  refine JQ_then (JC_seq (JC_seq ?_))
  rw [hcl, hot]
  refine JC_region (JL_1 rfl (by exact op_fieldPtr (k := 0) (Ev.rfl' rfl) rfl rfl rfl rfl) ?_)
  refine JL_1 rfl (by exact op_loadPtr (Ev.rfl' rfl) memT (by rfl) (by rfl) (by rfl)) ?_
  refine JL_1 rfl (by ((refine op_call Tryz.call18 (PickH_ok _ _ ?_ ?_) ⟨evS, ⟨evS, trivial⟩⟩); all_goals (omega))) ?_
  refine JL_nil ?_
  refine JQ_then (JC_block (JC_seq ?_))
  refine JC_region (JL_1 rfl (op_eql (Ev.rfl' rfl) (Ev.rfl' rfl)) (JL_1 rfl (op_assign rfl) (JL_nil (JQ_then ?_))))
  refine JC_cond (Ev.rfl' rfl) (fun h3 => ?_) (fun h3 => ?_)
  · exact absurd h3 (by simp [hkd])
  refine JC_seq (JC_seq ?_)
  refine JC_region (JL_1 rfl (op_eql (Ev.rfl' rfl) (Ev.rfl' rfl)) (JL_1 rfl (op_assign rfl) (JL_nil (JQ_then ?_))))
  refine JC_cond (Ev.rfl' rfl) (fun h9 => ?_) (fun h9 => ?_)
  · exact absurd h9 (by simp [hkd])
  refine JC_region (JL_1 rfl (op_eql (Ev.rfl' rfl) (Ev.rfl' rfl)) (JL_1 rfl (op_assign rfl) (JL_nil (JQ_then ?_))))
  refine JC_cond (Ev.rfl' rfl) (fun h10 => ?_) (fun h10 => ?_)
  · exact absurd h10 (by simp [hkd])
  refine JC_seq (JC_seq ?_)
  refine JC_region (JL_1 rfl (op_eql (Ev.rfl' rfl) (Ev.rfl' rfl)) (JL_1 rfl (op_assign rfl) (JL_nil (JQ_then ?_))))
  refine JC_cond (Ev.rfl' rfl) (fun h20 => ?_) (fun h20 => ?_)
  · exact absurd h20 (by simp [hkd])
  refine JC_region (JL_1 rfl (op_eql (Ev.rfl' rfl) (Ev.rfl' rfl)) (JL_1 rfl (op_assign rfl) (JL_nil (JQ_then ?_))))
  refine JC_cond (Ev.rfl' rfl) (fun h21 => ?_) (fun h21 => ?_)
  · exact absurd h21 (by simp [hkd])
  refine JC_seq (JC_seq ?_)
  refine JC_region (JL_1 rfl (op_eql (Ev.rfl' rfl) (Ev.rfl' rfl)) (JL_1 rfl (op_assign rfl) (JL_nil (JQ_then ?_))))
  refine JC_cond (Ev.rfl' rfl) (fun h30 => ?_) (fun h30 => ?_)
  · exact absurd h30 (by simp [hkd])
  refine JC_region (JL_1 rfl (op_eql (Ev.rfl' rfl) (Ev.rfl' rfl)) (JL_1 rfl (op_assign rfl) (JL_nil (JQ_then ?_))))
  refine JC_cond (Ev.rfl' rfl) (fun h31 => ?_) (fun h31 => ?_)
  · refine JC_seq (JC_region (JL_1 rfl (op_move rfl) (JL_1 rfl (op_move rfl) (JL_1 rfl (by exact op_nilCheck (Ev.rfl' rfl)) ?_))))
    refine JL_1 rfl (by exact op_fieldPtr (k := 8) (Ev.rfl' rfl) rfl rfl rfl rfl) ?_
    refine JL_1 rfl (by exact op_loadPtr (Ev.rfl' rfl) memT (by rfl) (by rfl) (by rfl)) ?_
    refine JL_1 rfl (by exact op_len (Ev.rfl' rfl) rfl) ?_
    refine JL_1 rfl (op_rem (Ev.rfl' rfl) (Ev.rfl' rfl) (by omega) hrem) ?_
    refine JL_1 rfl (op_assign rfl) (JL_nil ?_)
    refine JQ_then (JC_seq (JC_seq ?_))
    refine JC_region (JL_1 rfl (op_move rfl) (JL_1 rfl (by exact op_nilCheck (Ev.rfl' rfl)) ?_))
    refine JL_1 rfl (by exact op_fieldPtr (k := 7) (Ev.rfl' rfl) rfl rfl rfl rfl) ?_
    refine JL_1 rfl (by exact op_loadPtr (Ev.rfl' rfl) memT (by rfl) (by rfl) (by rfl)) ?_
    refine JL_1 rfl (op_move rfl) (JL_1 rfl (by exact op_indexBuf (k := k) (Ev.rfl' rfl) memT (Ev.rfl' rfl) rfl rfl idxT lenT) ?_)
    refine JL_1 rfl (by exact op_loadBuf0 (Ev.rfl' rfl) memT hz1 rfl rfl (by rfl)) ?_
    refine JL_1 rfl (op_geq (Ev.rfl' rfl) (Ev.rfl' rfl)) (JL_1 rfl (op_move rfl) ?_)
    (refine JL_i0 rfl rfl rfl (fun hg => (by have hg0 := hg; (try simp at hg); exact op_moveE (Ev.rfl' rfl))) ?_)
    (refine JL_i0 rfl rfl rfl (fun hg => (by have hg0 := hg; (try simp at hg); exact op_nilCheck evG)) ?_)
    (refine JL_i0 rfl rfl rfl (fun hg => (by have hg0 := hg; (try simp at hg); exact op_fieldPtr (k := 9) evG rfl rfl rfl rfl)) ?_)
    (refine JL_i0 rfl rfl rfl (fun hg => (by have hg0 := hg; (try simp at hg); exact op_loadPtr evG memT (by rfl) (by rfl) (by rfl))) ?_)
    (refine JL_i0 rfl rfl rfl (fun hg => (by have hg0 := hg; (try simp at hg); exact op_moveE (Ev.rfl' rfl))) ?_)
    (refine JL_i0 rfl rfl rfl (fun hg => (by have hg0 := hg; (try simp at hg); exact op_indexBuf (k := k) evG memT evG rfl rfl idxT lenT)) ?_)
    (refine JL_i0 rfl rfl rfl (fun hg => (by have hg0 := hg; (try simp at hg); exact op_loadBuf0 evG memT hz2 rfl rfl (by rfl))) ?_)
    refine JL_1 rfl (op_or (Ev.rfl' rfl) rfl (fun h => by exact SubL.iteT (by (rw [h]; rfl)) SubL.rfl')) ?_
    refine JL_nil (JQ_then ?_)
    refine JC_cond (Ev.rfl' rfl) (fun h33 => ?_) (fun h33 => ?_)
    · have hb : ((a.ret k).isSome || a.fre k) = true := by rw [← hge]; exact h33
      have ha : a.ret1 cl k = a := by unfold AW.ret1; rw [if_pos hb]
      have hW1 : WI n s0 (G + 1) is tos (a.ret1 cl k) H := by rw [ha]; exact ⟨h.S, h.tl, h.to, h.I, h.B, by omega, h.ei⟩
      refine JC_seq (JC_region (JL_1 rfl (op_assign rfl) (JL_nil ?_)))
      refine JQ_then (JC_ret (JQ_then_ret (JQ_block_ret (JQ_then_ret ?_))))
      exact JQ_retP (Bs := [Is (.bool true)]) Tryz.results7 ⟨⟨_, rfl, subT⟩, trivial⟩ ⟨_, hW1⟩ SubL.rfl' (by dsimp only [WL]; rw [ha]; exact lessT)
    have hb : ((a.ret k).isSome || a.fre k) = false := by rw [← hge]; exact h33
    have hrk : a.ret k = none := by
      cases hv : a.ret k with
      | none => rfl
      | some e => rw [hv] at hb; cases hb
    have hfk : a.fre k = false := by rw [hrk] at hb; simpa using hb
    obtain ⟨ws, out, hnx, hgw, hcd, hW, h0⟩ := ret_next h hG hc hk hrk hfk
    have hrun := run_ok bw hp (8 + 16 * n) z0 z1 z2 (104 + 16 * (n : Int)) (a.g : Int) (pinI a) tos (opRet cl (tos.getD k Pt.nil)) H ws out hHl (by omega) (H_ne hHl) hnx hgw.no hgw.lo' hcd
    have hW' : WI n s0 (G + 1) is tos (a.ret1 cl k) (ws.foldl comP H) := ⟨hW.S, hW.tl, hW.to, hW.I, hW.B, by have := hW.gb; omega, hW.ei⟩
    refine JC_skip (JQ_then (JC_seq ?_))
    refine JC_region (JL_1 rfl (op_move rfl) (JL_1 rfl (op_move rfl) (JL_1 rfl (op_move rfl) (JL_1 rfl (by exact op_nilCheck (Ev.rfl' rfl)) ?_))))
    refine JL_1 rfl (by exact op_fieldPtr (k := 8) (Ev.rfl' rfl) rfl rfl rfl rfl) ?_
    refine JL_1 rfl (by exact op_loadPtr (Ev.rfl' rfl) memT (by rfl) (by rfl) (by rfl)) ?_
    refine JL_1 rfl (op_move rfl) (JL_1 rfl (by exact op_index (j := k) (Ev.rfl' rfl) (Ev.rfl' rfl) rfl rfl (by rfl) hx) ?_)
    refine JL_1 rfl (by exact op_loadRefsN (n := 2) (Ev.rfl' rfl) rfl rfl rfl (by rfl) nrmT) ?_
    refine JL_1 rfl (op_buildSlice (size := 2) (qs := [(0, _)]) rfl rfl rfl ⟨⟨rfl, _, (Ev.rfl' rfl), cellsT⟩, trivial⟩ (by rfl) (by rfl)) ?_
    refine JL_set 246 (IsSl tPt [tos.getD k Pt.nil]) rfl (SubL.row (xs := [tos.getD k Pt.nil]) (by rfl) (by rfl) subsT) ?_
    refine JL_1 rfl (op_buildN (qs := [(0, _), (1, _), (5, _)]) rfl rfl rfl rfl ⟨⟨rfl, _, (Ev.rfl' rfl), cellsT⟩, ⟨⟨rfl, _, (Ev.rfl' rfl), cellsT⟩, ⟨⟨rfl, _, (Ev.rfl' rfl), cellsT⟩, trivial⟩⟩⟩ (by rfl) nrmT) ?_
    (refine JL_s rfl (op_callM (Drops.cons drop1A (Drops.cons drop1A (Drops.cons drop1A (Drops.nil _)))) Tryz.call19 (hrun) ⟨evS, ⟨evS, trivial⟩⟩) ?_; intro i248)
    refine JL_1 rfl (op_move rfl) (JL_1 rfl (op_extract (Ev.rfl' rfl) rfl) (JL_1 rfl (op_extract (Ev.rfl' rfl) rfl) ?_))
    (refine JL_n rfl (op_allocN rfl nrmT rfl) ?_; intro i19)
    refine JL_s0 (op_storeN (Ev.rfl' rfl) (Ev.rfl' rfl) cellsT replT nrmT (by rfl) (by rfl) (by rfl)) ?_
    refine JL_1 rfl (op_assign rfl) (JL_nil ?_)
    refine JQ_then (JC_seq (JC_seq ?_))
    refine JC_region (JL_1 rfl (op_move rfl) (JL_1 rfl (op_move rfl) ?_))
    (refine JL_i0 rfl rfl rfl (fun hg => (by have hg0 := hg; (try simp at hg); exact op_fieldPtr (k := 0) evG rfl rfl rfl rfl)) ?_)
    (refine JL_i0 rfl rfl rfl (fun hg => (by have hg0 := hg; (try simp at hg); exact op_loadPtr evG memT (by rfl) (by rfl) (by rfl))) ?_)
    (refine JL_i0 rfl rfl rfl (fun hg => (by have hg0 := hg; (try simp at hg); exact op_eql evG evG)) ?_)
    refine JL_1 rfl (op_and (Ev.rfl' rfl) rfl (fun h => by exact SubL.rfl')) ?_
    refine JL_nil (JQ_then ?_)
    refine JC_cond (Ev.rfl' rfl) (fun h36 => ?_) (fun h36 => ?_)
    · have hoc : out.code = 0 := by simpa using h36
      obtain ⟨_, _, j, hj⟩ : out.code = 0 ∧ (a.ret1 cl k).ret k = some a.g ∧ ∃ j, a.ret1 cl k = a.retire cl j k := by
        rcases h0 with q | ⟨q, _⟩
        · exact q
        · rw [hoc] at q; cases q
      have hrs := retL_set a cl j hk
      refine JC_seq (JC_dr rfl (by kernel_rfl) ?_)
      refine JD_stretch 10 (by kernel_rfl) ?_
      refine JW_1 (op_move rfl) (JW_1 (by exact op_nilCheck (Ev.rfl' rfl)) ?_)
      refine JW_1 (by exact op_fieldPtr (k := 7) (Ev.rfl' rfl) rfl rfl rfl rfl) ?_
      refine JW_1 (by exact op_loadPtr (Ev.rfl' rfl) memT (by rfl) (by rfl) (by rfl)) ?_
      refine JW_1 (op_move rfl) (JW_1 (op_move rfl) (JW_1 (by exact op_nilCheck (Ev.rfl' rfl)) ?_))
      refine JW_1 (by exact op_fieldPtr (k := 10) (Ev.rfl' rfl) rfl rfl rfl rfl) ?_
      refine JW_1 (by exact op_loadPtr (Ev.rfl' rfl) memT (by rfl) (by rfl) (by rfl)) ?_
      refine JW_1 (by exact op_indexBuf (k := k) (Ev.rfl' rfl) memT (Ev.rfl' rfl) rfl rfl idxT lenT) ?_
      refine ⟨rfl, ?_⟩
      refine JD_s0 (by kernel_rfl) rfl (by exact op_storeBuf0 (z' := (a.g : Int)) (Ev.rfl' rfl) (Ev.rfl' rfl) cellsT replT hz1 rfl (by rfl) (by rfl)) ?_
      refine JD_end ?_
      refine JQ_then (JC_seq ?_)
      refine JC_region (JL_1 rfl (op_assign rfl) (JL_nil ?_))
      refine JQ_then (JC_ret (JQ_then_ret (JQ_block_ret (JQ_then_ret ?_))))
      exact JQ_retP (Bs := [Is (.bool true)]) Tryz.results7 ⟨⟨_, rfl, subT⟩, trivial⟩ ⟨_, hW'⟩ SubL.rfl' (by dsimp only [WL]; rw [hj, ← hrs]; exact lessT)
    have hoc : ¬ out.code = 0 := by simpa using h36
    obtain ⟨q1, q2⟩ : out.code = 12 ∧ a.ret1 cl k = a := by
      rcases h0 with ⟨q, _⟩ | q
      · exact absurd q hoc
      · exact q
    refine JC_skip (JQ_then (JC_seq ?_))
    refine JC_region (JL_1 rfl (op_move rfl) (JL_1 rfl (op_move rfl) ?_))
    (refine JL_i0 rfl rfl rfl (fun hg => (by have hg0 := hg; (try simp at hg); exact op_fieldPtr (k := 0) evG rfl rfl rfl rfl)) ?_)
    (refine JL_i0 rfl rfl rfl (fun hg => (by have hg0 := hg; (try simp at hg); exact op_loadPtr evG memT (by rfl) (by rfl) (by rfl))) ?_)
    (refine JL_i0 rfl rfl rfl (fun hg => (by have hg0 := hg; (try simp at hg); exact op_eql evG evG)) ?_)
    refine JL_1 rfl (op_and (Ev.rfl' rfl) rfl (fun h => by exact SubL.rfl')) ?_
    refine JL_1 rfl (op_assign rfl) (JL_nil ?_)
    refine JQ_then (JC_ret (JQ_block_ret (JQ_then_ret ?_)))
    rw [show (true && out.code == 12) = true by rw [q1]; rfl]
    exact JQ_retP (Bs := [Is (.bool true)]) Tryz.results7 ⟨⟨_, rfl, subT⟩, trivial⟩ ⟨_, hW'⟩ SubL.rfl' (by dsimp only [WL]; rw [q2]; exact lessT)
  exact absurd h31 (by simp [hkd])
end Go.Proofs.YtfkmbdpnjcgimaaGreat

/- Contracts: a move of the statements' world: collect. Own work. -/
namespace Go.Proofs.YtfkmbdpnjcgimaaGreat
open Go.RowKit
set_option linter.unusedVariables false
set_option linter.unusedSimpArgs false
set_option maxRecDepth 100000
def frI (a : AW) (ks : List Nat) (i : Nat) : List Bool := (List.range 12).map fun k => a.fre k || decide (k ∈ ks.take i)
theorem frI_len (a : AW) (ks : List Nat) (i : Nat) : (frI a ks i).length = 12 := by unfold frI; simp
theorem frI_at (a : AW) (ks : List Nat) (i : Nat) {k : Nat} (hk : k < 12) : (frI a ks i)[k]? = some (a.fre k || decide (k ∈ ks.take i)) := by
  unfold frI; rw [List.getElem?_map, List.getElem?_range hk]; rfl
theorem frI_zero (a : AW) (ks : List Nat) : frI a ks 0 = freL a := by
  unfold frI freL
  refine List.map_congr_left fun k _ => ?_
  simp
theorem frI_set {a : AW} {ks : List Nat} {i x : Nat} (hx : ks[i]? = some x) (h12 : x < 12) : (frI a ks i).set x true = frI a ks (i + 1) := by
  apply List.ext_getElem?
  intro j
  rcases Nat.lt_or_ge j 12 with hj | hj
  · rw [List.getElem?_set, frI_at _ _ _ hj, frI_at _ _ _ hj, frI_len, List.take_add_one, hx]
    by_cases e : x = j
    · subst e
      rw [if_pos rfl, if_pos h12]
      simp
    · rw [if_neg e]
      have : ¬ j = x := fun h => e h.symm
      simp [this]
  · rw [List.getElem?_eq_none (by rw [List.length_set, frI_len]; exact hj), List.getElem?_eq_none (by rw [frI_len]; exact hj)]
theorem frI_all {a : AW} {ks : List Nat} {c : Nat} (h : ∀ k, (a.col c).fre k = true ↔ a.fre k = true ∨ k ∈ ks) : frI a ks ks.length = freL (a.col c) := by
  unfold frI freL
  refine List.map_congr_left fun k _ => ?_
  rw [List.take_length, Bool.eq_iff_iff, h k]
  simp
-- (*bodega/bodegalaw26.world).do: function 7
set_option maxHeartbeats 4000000 in
theorem do6_ok (bw hp n s0 G : Nat) (z0 z1 z2 : WA) (is : List Nat) (tos : List Pt) (a : AW) (H : List Pg) (m : Mw) (at_ : Int) (cl ot : Nat) (h : WI n s0 G is tos a H) (hG : G ≤ 900) (hcl : m.client % 6 = (cl : Int)) (hot : m.for_ % 6 = (ot : Int)) (hkd : m.kind % 8 = 6) :
    Fn Tryz.prog 7 [Is (.pointer (some ⟨bw, 0, none⟩)), IsMw m, Is (.int .i64 at_)] (WL bw hp n z0 z1 z2 tos a H) (fun _ : {H' : List Pg // WI n s0 (G + 1) is tos (a.col ot) H'} => Is (.bool true)) (fun i => WL bw hp n z0 z1 z2 tos (a.col ot) i.1) := by
  have hc : cl < 6 := by omega
  have ho6 : ot < 6 := by omega
  obtain ⟨N, hE, _⟩ := h.ei
  have hHl : H.length = 8 + 16 * n := hE.len
  have hn5 := h.S.n5
  have hgb := h.gb
  have htl := h.tl
  obtain ⟨ws, out, hnx, hgw, hcd, hW, hres⟩ := col_next h hG hc ho6
  have hrun := run_ok bw hp (8 + 16 * n) z0 z1 z2 (104 + 16 * (n : Int)) (a.g : Int) (pinI a) tos (opCol n cl ot) H ws out hHl (by omega) (H_ne hHl) hnx hgw.no hgw.lo' hcd
  have hW' : WI n s0 (G + 1) is tos (a.col ot) (ws.foldl comP H) := ⟨hW.S, hW.tl, hW.to, hW.I, hW.B, by have := hW.gb; omega, hW.ei⟩
  refine Fn.enterN Tryz.func7 Tryz.ntmps7 rfl rfl ?_
  intro c hX
  refine JC_seq (JC_region ?_)
  (refine JL_n rfl (op_box (Ev.rfl' rfl) cellsT) ?_; intro i4)
  refine JL_1 rfl (op_assign rfl) (JL_nil ?_)
  refine JQ_then (JC_seq ?_)
  refine JC_dr rfl (by kernel_rfl) ?_
  refine JD_stretch 8 (by kernel_rfl) ?_
  refine JW_1 (by exact op_fieldPtr (k := 1) (Ev.rfl' rfl) rfl rfl rfl rfl) ?_
  refine JW_1 (by exact op_loadPtr (Ev.rfl' rfl) memT (by rfl) (by rfl) (by rfl)) ?_
  refine JW_1 (by ((refine op_call Tryz.call18 (PickH_ok _ _ ?_ ?_) ⟨evS, ⟨evS, trivial⟩⟩); all_goals (omega))) ?_
  refine JW_1 (by exact op_fieldPtr (k := 2) (Ev.rfl' rfl) rfl rfl rfl rfl) ?_
  refine JW_1 (by exact op_loadPtr (Ev.rfl' rfl) memT (by rfl) (by rfl) (by rfl)) ?_
  refine JW_1 (by ((refine op_call Tryz.call18 (PickH_ok _ _ ?_ ?_) ⟨evS, ⟨evS, trivial⟩⟩); all_goals (omega))) ?_
  refine JW_1 (op_assign rfl) (JW_1 (op_assign rfl) ?_)
  refine ⟨rfl, ?_⟩
  refine JD_end ?_
  refine JQ_then (JC_seq (JC_seq ?_))
  rw [hcl, hot]
  refine JC_region (JL_1 rfl (by exact op_fieldPtr (k := 0) (Ev.rfl' rfl) rfl rfl rfl rfl) ?_)
  refine JL_1 rfl (by exact op_loadPtr (Ev.rfl' rfl) memT (by rfl) (by rfl) (by rfl)) ?_
  refine JL_1 rfl (by ((refine op_call Tryz.call18 (PickH_ok _ _ ?_ ?_) ⟨evS, ⟨evS, trivial⟩⟩); all_goals (omega))) ?_
  refine JL_nil ?_
  refine JQ_then (JC_block (JC_seq ?_))
  refine JC_region (JL_1 rfl (op_eql (Ev.rfl' rfl) (Ev.rfl' rfl)) (JL_1 rfl (op_assign rfl) (JL_nil (JQ_then ?_))))
  refine JC_cond (Ev.rfl' rfl) (fun h3 => ?_) (fun h3 => ?_)
  · exact absurd h3 (by simp [hkd])
  refine JC_seq (JC_seq ?_)
  refine JC_region (JL_1 rfl (op_eql (Ev.rfl' rfl) (Ev.rfl' rfl)) (JL_1 rfl (op_assign rfl) (JL_nil (JQ_then ?_))))
  refine JC_cond (Ev.rfl' rfl) (fun h9 => ?_) (fun h9 => ?_)
  · exact absurd h9 (by simp [hkd])
  refine JC_region (JL_1 rfl (op_eql (Ev.rfl' rfl) (Ev.rfl' rfl)) (JL_1 rfl (op_assign rfl) (JL_nil (JQ_then ?_))))
  refine JC_cond (Ev.rfl' rfl) (fun h10 => ?_) (fun h10 => ?_)
  · exact absurd h10 (by simp [hkd])
  refine JC_seq (JC_seq ?_)
  refine JC_region (JL_1 rfl (op_eql (Ev.rfl' rfl) (Ev.rfl' rfl)) (JL_1 rfl (op_assign rfl) (JL_nil (JQ_then ?_))))
  refine JC_cond (Ev.rfl' rfl) (fun h20 => ?_) (fun h20 => ?_)
  · exact absurd h20 (by simp [hkd])
  refine JC_region (JL_1 rfl (op_eql (Ev.rfl' rfl) (Ev.rfl' rfl)) (JL_1 rfl (op_assign rfl) (JL_nil (JQ_then ?_))))
  refine JC_cond (Ev.rfl' rfl) (fun h21 => ?_) (fun h21 => ?_)
  · exact absurd h21 (by simp [hkd])
  refine JC_seq (JC_seq ?_)
  refine JC_region (JL_1 rfl (op_eql (Ev.rfl' rfl) (Ev.rfl' rfl)) (JL_1 rfl (op_assign rfl) (JL_nil (JQ_then ?_))))
  refine JC_cond (Ev.rfl' rfl) (fun h30 => ?_) (fun h30 => ?_)
  · exact absurd h30 (by simp [hkd])
  refine JC_region (JL_1 rfl (op_eql (Ev.rfl' rfl) (Ev.rfl' rfl)) (JL_1 rfl (op_assign rfl) (JL_nil (JQ_then ?_))))
  refine JC_cond (Ev.rfl' rfl) (fun h31 => ?_) (fun h31 => ?_)
  · exact absurd h31 (by simp [hkd])
  refine JC_skip (JQ_block (JQ_then (JC_seq ?_)))
  refine JC_region (JL_1 rfl (op_move rfl) (JL_1 rfl (op_move rfl) (JL_1 rfl (op_move rfl) (JL_1 rfl (op_move rfl) (JL_1 rfl (by exact op_nilCheck (Ev.rfl' rfl)) ?_)))))
  refine JL_1 rfl (by exact op_fieldPtr (k := 0) (Ev.rfl' rfl) rfl rfl rfl rfl) ?_
  refine JL_1 rfl (by exact op_loadPtr (Ev.rfl' rfl) memT (by rfl) (by rfl) (by rfl)) ?_
  refine JL_1 rfl (by exact op_nilCheck (Ev.rfl' rfl)) ?_
  refine JL_1 rfl (by exact op_fieldPtr (k := 1) (Ev.rfl' rfl) rfl rfl rfl rfl) ?_
  refine JL_1 rfl (by exact op_loadPtr (Ev.rfl' rfl) memT (by rfl) (by rfl) (by rfl)) ?_
  refine JL_1 rfl (op_buildN (qs := [(0, _), (1, _), (4, _), (3, _)]) rfl rfl rfl rfl ⟨⟨rfl, _, (Ev.rfl' rfl), cellsT⟩, ⟨⟨rfl, _, (Ev.rfl' rfl), cellsT⟩, ⟨⟨rfl, _, (Ev.rfl' rfl), cellsT⟩, ⟨⟨rfl, _, (Ev.rfl' rfl), cellsT⟩, trivial⟩⟩⟩⟩ (by rfl) nrmT) ?_
  (refine JL_s rfl (op_callM (Drops.cons drop1A (Drops.cons drop1A (Drops.cons drop1A (Drops.nil _)))) Tryz.call19 (hrun) ⟨evS, ⟨evS, trivial⟩⟩) ?_; intro i285)
  refine JL_1 rfl (op_move rfl) (JL_1 rfl (op_extract (Ev.rfl' rfl) rfl) (JL_1 rfl (op_extract (Ev.rfl' rfl) rfl) ?_))
  (refine JL_n rfl (op_allocN rfl nrmT rfl) ?_; intro i21)
  refine JL_s0 (op_storeN (Ev.rfl' rfl) (Ev.rfl' rfl) cellsT replT nrmT (by rfl) (by rfl) (by rfl)) ?_
  refine JL_1 rfl (op_assign rfl) (JL_nil ?_)
  refine JQ_then (JC_seq (JC_seq ?_))
  refine JC_region (JL_1 rfl (op_move rfl) (JL_1 rfl (op_not (Ev.rfl' rfl)) (JL_1 rfl (op_move rfl) ?_)))
  (refine JL_i0 rfl rfl rfl (fun hg => (by have hg0 := hg; (try simp at hg); exact op_fieldPtr (k := 0) evG rfl rfl rfl rfl)) ?_)
  (refine JL_i0 rfl rfl rfl (fun hg => (by have hg0 := hg; (try simp at hg); exact op_loadPtr evG memT (by rfl) (by rfl) (by rfl))) ?_)
  (refine JL_i0 rfl rfl rfl (fun hg => (by have hg0 := hg; (try simp at hg); exact op_neq evG evG)) ?_)
  refine JL_1 rfl (op_or (Ev.rfl' rfl) rfl (fun h => by exact SubL.rfl')) ?_
  refine JL_nil (JQ_then ?_)
  refine JC_cond (Ev.rfl' rfl) (fun h41 => ?_) (fun h41 => ?_)
  · have hoc : ¬ out.code = 0 := by simpa using h41
    obtain ⟨q1, q2, q3⟩ : out.code = 16 ∧ out.freed = [] ∧ a.col ot = a := by
      rcases hres with q | ⟨q, _⟩
      · exact q
      · exact absurd q hoc
    refine JC_seq (JC_region (JL_1 rfl (op_move rfl) (JL_1 rfl (op_move rfl) ?_)))
    (refine JL_i0 rfl rfl rfl (fun hg => (by have hg0 := hg; (try simp at hg); exact op_fieldPtr (k := 0) evG rfl rfl rfl rfl)) ?_)
    (refine JL_i0 rfl rfl rfl (fun hg => (by have hg0 := hg; (try simp at hg); exact op_loadPtr evG memT (by rfl) (by rfl) (by rfl))) ?_)
    (refine JL_i0 rfl rfl rfl (fun hg => (by have hg0 := hg; (try simp at hg); exact op_eql evG evG)) ?_)
    refine JL_1 rfl (op_and (Ev.rfl' rfl) rfl (fun h => by exact SubL.rfl')) ?_
    refine JL_1 rfl (op_move rfl) ?_
    (refine JL_i0 rfl rfl rfl (fun hg => (by have hg0 := hg; (try simp at hg); exact op_fieldPtr (k := 3) evG rfl rfl rfl rfl)) ?_)
    (refine JL_i0 rfl rfl rfl (fun hg => (by have hg0 := hg; (try simp at hg); exact op_loadPtr evG memT (by rfl) (by rfl) (by rfl))) ?_)
    (refine JL_i0 rfl rfl rfl (fun hg => (by have hg0 := hg; (try simp at hg); exact op_len evG rfl)) ?_)
    (refine JL_i0 rfl rfl rfl (fun hg => (by have hg0 := hg; (try simp at hg); exact op_eql evG evG)) ?_)
    refine JL_1 rfl (op_and (Ev.rfl' rfl) rfl (fun h => by exact SubL.iteT (by (rw [h]; rfl)) SubL.rfl')) ?_
    refine JL_1 rfl (op_assign rfl) (JL_nil ?_)
    refine JQ_then (JC_ret (JQ_then_ret ?_))
    rw [show (true && out.code == 16 && ((out.freed.length : Nat) : Int) == 0) = true by rw [q1, q2]; rfl]
    exact JQ_retP (Bs := [Is (.bool true)]) Tryz.results7 ⟨⟨_, rfl, subT⟩, trivial⟩ ⟨_, hW'⟩ SubL.rfl' (by dsimp only [WL]; rw [q3]; exact lessT)
  have hoc : out.code = 0 := by simpa using h41
  obtain ⟨ks, hfr, k1, k2, knd, kf, hfre⟩ : ∃ ks : List Nat, out.freed = ks.map (fun k => tos.getD k Pt.nil) ∧ 1 ≤ ks.length ∧ ks.length ≤ 2 ∧ ks.Nodup ∧ (∀ k, k ∈ ks → k < 12 ∧ a.fre k = false ∧ ∃ e, a.ret k = some e ∧ e + 2 ≤ a.g) ∧ ∀ k, (a.col ot).fre k = true ↔ a.fre k = true ∨ k ∈ ks := by
    rcases hres with ⟨q, _⟩ | ⟨_, q⟩
    · rw [hoc] at q; cases q
    · exact q
  have hfl : out.freed.length = ks.length := by rw [hfr, List.length_map]
  have hall := frI_all (a := a) hfre
  refine JC_skip (JQ_then (JC_seq (JC_seq ?_)))
  refine JC_region (JL_1 rfl (by exact op_fieldPtr (k := 3) (Ev.rfl' rfl) rfl rfl rfl rfl) ?_)
  refine JL_1 rfl (by exact op_loadPtr (Ev.rfl' rfl) memT (by rfl) (by rfl) (by rfl)) ?_
  refine JL_1 rfl (by exact op_len (Ev.rfl' rfl) rfl) ?_
  refine JL_1 rfl (op_eql (Ev.rfl' rfl) (Ev.rfl' rfl)) (JL_1 rfl (op_move rfl) ?_)
  (refine JL_i0 rfl rfl rfl (fun hg => (by have hg0 := hg; (try simp at hg); exact op_fieldPtr (k := 3) evG rfl rfl rfl rfl)) ?_)
  (refine JL_i0 rfl rfl rfl (fun hg => (by have hg0 := hg; (try simp at hg); exact op_loadPtr evG memT (by rfl) (by rfl) (by rfl))) ?_)
  (refine JL_i0 rfl rfl rfl (fun hg => (by have hg0 := hg; (try simp at hg); exact op_len evG rfl)) ?_)
  (refine JL_i0 rfl rfl rfl (fun hg => (by have hg0 := hg; (try simp at hg); exact op_gtr evG evG)) ?_)
  refine JL_1 rfl (op_or (Ev.rfl' rfl) rfl (fun h => by exact SubL.iteT (by (rw [h]; rfl)) SubL.rfl')) ?_
  refine JL_nil (JQ_then ?_)
  refine JC_cond (Ev.rfl' rfl) (fun h43 => ?_) (fun h43 => ?_)
  · exact absurd h43 (by rw [hfl, show (((ks.length : Nat) : Int) == 0) = false from beq_eq_false_iff_ne.2 (by omega), show decide (((ks.length : Nat) : Int) > 2) = false from decide_eq_false (by omega)]; simp)
  refine JC_skip (JQ_then (JC_seq (JC_seq ?_)))
  refine JC_region (JL_1 rfl (op_assign rfl) (JL_nil ?_))
  refine JQ_then (JC_block ?_)
  refine JC_loopP (fun i : Nat => i ≤ ks.length) (fun i => [(0, Is (.pointer (some ⟨bw, 0, none⟩))), (21, Is (.pointer (some ⟨i21, 0, none⟩))), (23, Is (.int .i64 (i : Nat)))]) (fun i => [blk i21 81 (outC out), blk bw 36 (wldC hp (pinI a) z1 z2 tos (a.g : Int)), blk hp 58 (heapC (slV (8 + 16 * n) z0) (104 + 16 * (n : Int))), buf (slV (8 + 16 * n) z0) 51 tPg (ws.foldl comP H), buf (slV 12 z1) 3 tI64 (retL a), buf (slV 12 z2) 4 tBool (frI a ks i)]) (fun i => ks.length - i) 0 (Nat.zero_le _) esubT (by rw [frI_zero]; exact lessT) ?_
  intro i hi
  refine JC_seq (JC_seq ?_)
  refine JC_region (JL_1 rfl (op_move rfl) (JL_1 rfl (by exact op_fieldPtr (k := 3) (Ev.rfl' rfl) rfl rfl rfl rfl) ?_))
  refine JL_1 rfl (by exact op_loadPtr (Ev.rfl' rfl) memT (by rfl) (by rfl) (by rfl)) ?_
  refine JL_1 rfl (by exact op_len (Ev.rfl' rfl) rfl) ?_
  refine JL_1 rfl (op_lss (Ev.rfl' rfl) (Ev.rfl' rfl)) (JL_nil (JQ_then ?_))
  refine JC_cond (Ev.rfl' rfl) (fun h46 => ?_) (fun h46 => ?_)
  · have hlt : i < ks.length := by have := of_decide_eq_true h46; omega
    clear h46
    obtain ⟨x, hx⟩ : ∃ x, ks[i]? = some x := ⟨_, List.getElem?_eq_getElem hlt⟩
    obtain ⟨x12, xf, e0, xr, xe⟩ := kf x (List.mem_of_getElem? hx)
    have hfi : out.freed[i]? = some (tos.getD x Pt.nil) := by rw [hfr, List.getElem?_map, hx]; rfl
    have hnx' : ¬ x ∈ ks.take i := fun hm => by
      obtain ⟨j, hj⟩ := List.getElem?_of_mem hm
      have hji : j < i := by
        have := (List.getElem?_eq_some_iff.1 hj).1
        rw [List.length_take] at this; omega
      rw [List.getElem?_take_of_lt hji] at hj
      have := (List.getElem?_inj (List.getElem?_eq_some_iff.1 hj).1 knd).1 (hj.trans hx.symm)
      omega
    have hset := frI_set (a := a) hx x12
    refine JC_skip (JQ_then (JC_seq (JC_block (JC_seq ?_))))
    refine JC_region (JL_1 rfl (op_assign rfl) (JL_nil ?_))
    refine JQ_then (JC_seq (JC_seq ?_))
    refine JC_region (JL_1 rfl (op_assign rfl) (JL_nil ?_))
    refine JQ_then (JC_block ?_)
    refine JC_loopP (fun q : Nat => q ≤ 12) (fun q => [(0, Is (.pointer (some ⟨bw, 0, none⟩))), (21, Is (.pointer (some ⟨i21, 0, none⟩))), (23, Is (.int .i64 (i : Nat))), (24, Is (.bool (decide (x < q)))), (25, Is (.int .i64 (q : Nat)))]) (fun q => [blk i21 81 (outC out), blk bw 36 (wldC hp (pinI a) z1 z2 tos (a.g : Int)), blk hp 58 (heapC (slV (8 + 16 * n) z0) (104 + 16 * (n : Int))), buf (slV (8 + 16 * n) z0) 51 tPg (ws.foldl comP H), buf (slV 12 z1) 3 tI64 (retL a), buf (slV 12 z2) 4 tBool (if x < q then frI a ks (i + 1) else frI a ks i)]) (fun q => 12 - q) 0 (Nat.zero_le _) (by rw [show decide (x < 0) = false by simp]; exact esubT) (by rw [if_neg (Nat.not_lt_zero _)]; exact lessT) ?_
    intro q hq
    refine JC_seq (JC_seq ?_)
    refine JC_region (JL_1 rfl (op_move rfl) (JL_1 rfl (op_move rfl) (JL_1 rfl (by exact op_nilCheck (Ev.rfl' rfl)) ?_)))
    refine JL_1 rfl (by exact op_fieldPtr (k := 8) (Ev.rfl' rfl) rfl rfl rfl rfl) ?_
    refine JL_1 rfl (by exact op_loadPtr (Ev.rfl' rfl) memT (by rfl) (by rfl) (by rfl)) ?_
    refine JL_1 rfl (by exact op_len (Ev.rfl' rfl) rfl) ?_
    refine JL_1 rfl (op_lss (Ev.rfl' rfl) (Ev.rfl' rfl)) (JL_nil (JQ_then ?_))
    refine JC_cond (Ev.rfl' rfl) (fun h50 => ?_) (fun h50 => ?_)
    · have hq12 : q < 12 := by have := of_decide_eq_true h50; omega
      clear h50
      have hqx : tos[q]? = some (tos.getD q Pt.nil) := by
        rw [List.getD_eq_getElem?_getD, List.getElem?_eq_getElem (by omega)]; rfl
      refine JC_skip (JQ_then (JC_seq (JC_block (JC_seq ?_))))
      refine JC_dr rfl (by kernel_rfl) ?_
      refine JD_stretch 13 (by kernel_rfl) ?_
      refine JW_1 (op_move rfl) (JW_1 (by exact op_nilCheck (Ev.rfl' rfl)) ?_)
      refine JW_1 (by exact op_fieldPtr (k := 8) (Ev.rfl' rfl) rfl rfl rfl rfl) ?_
      refine JW_1 (by exact op_loadPtr (Ev.rfl' rfl) memT (by rfl) (by rfl) (by rfl)) ?_
      refine JW_1 (op_move rfl) (JW_1 (by exact op_index (j := q) (Ev.rfl' rfl) (Ev.rfl' rfl) rfl rfl (by rfl) hqx) ?_)
      refine JW_1 (by exact op_loadRefsN (n := 2) (Ev.rfl' rfl) rfl rfl rfl (by rfl) nrmT) ?_
      refine JW_1 (by exact op_fieldPtr (k := 3) (Ev.rfl' rfl) rfl rfl rfl rfl) ?_
      refine JW_1 (by exact op_loadPtr (Ev.rfl' rfl) memT (by rfl) (by rfl) (by rfl)) ?_
      refine JW_1 (op_move rfl) (JW_1 (by exact op_index (j := i) (Ev.rfl' rfl) (Ev.rfl' rfl) rfl rfl (by rfl) hfi) ?_)
      refine JW_1 (by exact op_loadRefsN (n := 2) (Ev.rfl' rfl) rfl rfl rfl (by rfl) nrmT) ?_
      refine JW_1 (op_cmpA (vs := Pt.cells (tos.getD q Pt.nil)) (ws := Pt.cells (tos.getD x Pt.nil)) evS evS (eqPt_guard _ _ _ (tos.getD q Pt.nil) (tos.getD x Pt.nil)) (eqPt_eql (tos.getD q Pt.nil) (tos.getD x Pt.nil))) ?_
      refine ⟨rfl, ?_⟩
      refine JD_end (JQ_then ?_)
      refine JC_cond (Ev.rfl' rfl) (fun h52 => ?_) (fun h52 => ?_)
      · have hqe : q = x := h.inj hq12 x12 (of_decide_eq_true h52)
        subst hqe
        rw [if_neg (Nat.lt_irrefl _)]
        have hz1 := retL_at a hq12
        have hz2 : (frI a ks i)[q]? = some false := by rw [frI_at _ _ _ hq12, xf, decide_eq_false hnx']; rfl
        have hrl := retL_len a
        have hfl2 := frI_len a ks i
        have hrv : retI a q = (e0 : Int) := by unfold retI; rw [xr]
        have hadd : IntKind.i64.wrap (retI a q + 2) = retI a q + 2 := by rw [hrv]; exact wI64 (by omega)
        have hfnd : (!false && decide (retI a q ≥ 0) && decide (retI a q + 2 ≤ (a.g : Int))) = true := by rw [hrv]; simp; omega
        refine JC_seq (JC_dr rfl (by kernel_rfl) ?_)
        refine JD_stretch 34 (by kernel_rfl) ?_
        refine JW_1 (op_move rfl) (JW_1 (by exact op_nilCheck (Ev.rfl' rfl)) ?_)
        refine JW_1 (by exact op_fieldPtr (k := 9) (Ev.rfl' rfl) rfl rfl rfl rfl) ?_
        refine JW_1 (by exact op_loadPtr (Ev.rfl' rfl) memT (by rfl) (by rfl) (by rfl)) ?_
        refine JW_1 (op_move rfl) (JW_1 (by exact op_indexBuf (k := q) (Ev.rfl' rfl) memT (Ev.rfl' rfl) rfl rfl idxT lenT) ?_)
        refine JW_1 (by exact op_loadBuf0 (Ev.rfl' rfl) memT hz2 rfl rfl (by rfl)) ?_
        refine JW_1 (op_not (Ev.rfl' rfl)) (JW_1 (op_move rfl) ?_)
        (refine JW_i0 rfl rfl (fun hg => (by have hg0 := hg; (try simp at hg); exact op_moveE (Ev.rfl' rfl))) ?_)
        (refine JW_i0 rfl rfl (fun hg => (by have hg0 := hg; (try simp at hg); exact op_nilCheck evG)) ?_)
        (refine JW_i0 rfl rfl (fun hg => (by have hg0 := hg; (try simp at hg); exact op_fieldPtr (k := 7) evG rfl rfl rfl rfl)) ?_)
        (refine JW_i0 rfl rfl (fun hg => (by have hg0 := hg; (try simp at hg); exact op_loadPtr evG memT (by rfl) (by rfl) (by rfl))) ?_)
        (refine JW_i0 rfl rfl (fun hg => (by have hg0 := hg; (try simp at hg); exact op_moveE (Ev.rfl' rfl))) ?_)
        (refine JW_i0 rfl rfl (fun hg => (by have hg0 := hg; (try simp at hg); exact op_indexBuf (k := q) evG memT evG rfl rfl idxT lenT)) ?_)
        (refine JW_i0 rfl rfl (fun hg => (by have hg0 := hg; (try simp at hg); exact op_loadBuf0 evG memT hz1 rfl rfl (by rfl))) ?_)
        (refine JW_i0 rfl rfl (fun hg => (by have hg0 := hg; (try simp at hg); exact op_geq evG evG)) ?_)
        refine JW_1 (op_and (Ev.rfl' rfl) rfl (fun h => by exact SubL.rfl')) ?_
        refine JW_1 (op_move rfl) ?_
        (refine JW_i0 rfl rfl (fun hg => (by have hg0 := hg; (try simp at hg); exact op_moveE (Ev.rfl' rfl))) ?_)
        (refine JW_i0 rfl rfl (fun hg => (by have hg0 := hg; (try simp at hg); exact op_nilCheck evG)) ?_)
        (refine JW_i0 rfl rfl (fun hg => (by have hg0 := hg; (try simp at hg); exact op_fieldPtr (k := 7) evG rfl rfl rfl rfl)) ?_)
        (refine JW_i0 rfl rfl (fun hg => (by have hg0 := hg; (try simp at hg); exact op_loadPtr evG memT (by rfl) (by rfl) (by rfl))) ?_)
        (refine JW_i0 rfl rfl (fun hg => (by have hg0 := hg; (try simp at hg); exact op_moveE (Ev.rfl' rfl))) ?_)
        (refine JW_i0 rfl rfl (fun hg => (by have hg0 := hg; (try simp at hg); exact op_indexBuf (k := q) evG memT evG rfl rfl idxT lenT)) ?_)
        (refine JW_i0 rfl rfl (fun hg => (by have hg0 := hg; (try simp at hg); exact op_loadBuf0 evG memT hz1 rfl rfl (by rfl))) ?_)
        (refine JW_i0 rfl rfl (fun hg => (by have hg0 := hg; (try simp at hg); exact op_add evG2 evG2 hadd)) ?_)
        (refine JW_i0 rfl rfl (fun hg => (by have hg0 := hg; (try simp at hg); exact op_moveE (Ev.rfl' rfl))) ?_)
        (refine JW_i0 rfl rfl (fun hg => (by have hg0 := hg; (try simp at hg); exact op_nilCheck evG)) ?_)
        (refine JW_i0 rfl rfl (fun hg => (by have hg0 := hg; (try simp at hg); exact op_fieldPtr (k := 10) evG rfl rfl rfl rfl)) ?_)
        (refine JW_i0 rfl rfl (fun hg => (by have hg0 := hg; (try simp at hg); exact op_loadPtr evG memT (by rfl) (by rfl) (by rfl))) ?_)
        (refine JW_i0 rfl rfl (fun hg => (by have hg0 := hg; (try simp at hg); exact op_leq evG evG)) ?_)
        refine JW_1 (op_and (Ev.rfl' rfl) rfl (fun h => by exact SubL.iteT (by (rw [h]; rfl)) SubL.rfl')) ?_
        refine JW_1 (op_assign rfl) ?_
        refine ⟨rfl, ?_⟩
        refine JD_end (JQ_then ?_)
        rw [hfnd]
        refine JC_region (JL_1 rfl (op_move rfl) (JL_1 rfl (by exact op_nilCheck (Ev.rfl' rfl)) ?_))
        refine JL_1 rfl (by exact op_fieldPtr (k := 9) (Ev.rfl' rfl) rfl rfl rfl rfl) ?_
        refine JL_1 rfl (by exact op_loadPtr (Ev.rfl' rfl) memT (by rfl) (by rfl) (by rfl)) ?_
        refine JL_1 rfl (op_move rfl) (JL_1 rfl (by exact op_indexBuf (k := q) (Ev.rfl' rfl) memT (Ev.rfl' rfl) rfl rfl idxT lenT) ?_)
        refine JL_s0 (by exact op_storeBuf0 (z' := true) (Ev.rfl' rfl) (Ev.rfl' rfl) cellsT replT hz2 rfl (by rfl) (by rfl)) ?_
        refine JL_nil ?_
        refine JQ_block (JQ_then ?_)
        refine JC_region (JL_1 rfl (op_move rfl) (JL_1 rfl (op_add (Ev.rfl' rfl) (Ev.rfl' rfl) wrapT) ?_))
        refine JL_1 rfl (op_assign rfl) (JL_nil ?_)
        first
        | exact JQ_roundP (q + 1) (by omega) (by omega) (by rw [decide_eq_true (Nat.lt_succ_self q)]; exact esubT) (by rw [if_pos (Nat.lt_succ_self q), ← hset]; exact lessT)
        | exact JQ_roundP (q + 1) (by omega) (by omega) (by rw [hdx]; exact esubT) (by rw [hix]; exact lessT)
      have hqn : ¬ q = x := fun e => by rw [e] at h52; simp at h52
      have hdx : decide (x < q + 1) = decide (x < q) := by rw [Bool.eq_iff_iff]; simp; omega
      have hix : (if x < q + 1 then frI a ks (i + 1) else frI a ks i) = if x < q then frI a ks (i + 1) else frI a ks i := by
        by_cases e : x < q
        · rw [if_pos e, if_pos (by omega)]
        · rw [if_neg e, if_neg (by omega)]
      refine JC_skip (JQ_block (JQ_then ?_))
      refine JC_region (JL_1 rfl (op_move rfl) (JL_1 rfl (op_add (Ev.rfl' rfl) (Ev.rfl' rfl) wrapT) ?_))
      refine JL_1 rfl (op_assign rfl) (JL_nil ?_)
      first
      | exact JQ_roundP (q + 1) (by omega) (by omega) (by rw [decide_eq_true (Nat.lt_succ_self q)]; exact esubT) (by rw [if_pos (Nat.lt_succ_self q), ← hset]; exact lessT)
      | exact JQ_roundP (q + 1) (by omega) (by omega) (by rw [hdx]; exact esubT) (by rw [hix]; exact lessT)
    have hqe : q = 12 := by have := of_decide_eq_false h50; omega
    clear h50
    subst hqe
    rw [if_pos x12, decide_eq_true x12]
    refine JC_exit (JQ_then_exit (JQ_then_exit (JQ_hit (JQ_then (JC_seq ?_)))))
    refine JC_region (JL_1 rfl (op_move rfl) (JL_1 rfl (op_not (Ev.rfl' rfl)) (JL_nil (JQ_then ?_))))
    refine JC_cond (Ev.rfl' rfl) (fun h55 => ?_) (fun h55 => ?_)
    · exact absurd h55 (by simp)
    refine JC_skip (JQ_block (JQ_then ?_))
    refine JC_region (JL_1 rfl (op_move rfl) (JL_1 rfl (op_add (Ev.rfl' rfl) (Ev.rfl' rfl) wrapT) ?_))
    refine JL_1 rfl (op_assign rfl) (JL_nil ?_)
    exact JQ_roundP (i + 1) (by omega) (by omega) esubT lessT
  have hie : i = ks.length := by have := of_decide_eq_false h46; omega
  clear h46
  subst hie
  refine JC_exit (JQ_then_exit (JQ_then_exit (JQ_hit (JQ_then (JC_seq ?_)))))
  refine JC_region (JL_1 rfl (op_assign rfl) (JL_nil ?_))
  refine JQ_then (JC_ret ?_)
  exact JQ_retP (Bs := [Is (.bool true)]) Tryz.results7 ⟨⟨_, rfl, subT⟩, trivial⟩ ⟨_, hW'⟩ SubL.rfl' (by dsimp only [WL]; rw [← hall]; exact lessT)
end Go.Proofs.YtfkmbdpnjcgimaaGreat
