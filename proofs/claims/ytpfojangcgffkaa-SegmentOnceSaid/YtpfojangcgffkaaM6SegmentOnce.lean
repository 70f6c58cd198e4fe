/- Texts of this claim, laid together (part 6): walks of functions, what they compute, and plain laws of it. Own work. -/
import Derived.Test.YtpfojangcgffkaaM5SegmentOnce
/- Contracts: pages allocated. Own work. -/
namespace Go.Proofs.Ytpfojangcgffkaa
open Go.RowKit
set_option linter.unusedVariables false
set_option linter.unusedSimpArgs false
set_option maxRecDepth 100000
theorem LatestP_ok (xs : List Pg) (l : Int) : FnP Try.prog 86 [IsSl tPg xs, Is (.int .i64 l)] (IsTup [IsPg (latP xs l), Is (.bool (latB xs l))]) := Latest_ok xs l
theorem LockedB_ok (p : Pg) : FnP Try.prog 88 [IsPg p] (Is (.bool (lockB p))) := Locked_ok p
-- segment.missing: function 79
theorem missNil_ok (ks : List Pg) (ls : List Int) (hn : missV ks ls = []) : FnP Try.prog 79 [IsSl tPg ks, IsSl tI64 ls] (Is (.slice none 0 0)) := by
  refine FnP.enter Try.func79 Try.ntmps79 rfl rfl ?_
  intro c hX
  refine JC_len (t := 1) rfl (fun hlen => ?_)
  refine JC_seq ?_
  refine JC_region ?_
  refine JL_1 rfl (op_assign rfl) ?_
  refine JL_nil ?_
  refine JQ_then (JC_seq ?_)
  refine JC_region ?_
  refine JL_1 rfl (op_assign rfl) ?_
  refine JL_nil ?_
  refine JQ_then (JC_seq (JC_seq ?_))
  refine JC_region ?_
  refine JL_1 rfl (op_move rfl) ?_
  refine JL_1 rfl (by first | exact op_len (Ev.rfl' rfl) rfl | exact op_lenLit (Ev.rfl' rfl) rfl) ?_
  refine JL_1 rfl (op_move rfl) ?_
  refine JL_nil ?_
  refine JQ_then (JC_block ?_)
  refine JC_loopP (fun k : Nat => k ≤ ls.length) (fun k => [(0, IsSl tPg ks), (1, IsSl tI64 ls), (5, Is (.slice none 0 0)), (10, IsSl tI64 ls), (11, Is (.int .i64 (ls.length : Nat))), (12, Is (.int .i64 (k : Nat)))]) (fun _ => []) (fun k => ls.length - k) 0 (Nat.zero_le _) esubT lessT ?_
  rintro k hk
  refine JC_seq ?_
  refine JC_region ?_
  refine JL_1 rfl (op_lss (Ev.rfl' rfl) (Ev.rfl' rfl)) ?_
  refine JL_nil ?_
  refine JQ_then (JC_seq ?_)
  refine JC_cond (Ev.rfl' rfl) (fun h3 => ?_) (fun h3 => ?_)
  · have hlt : k < ls.length := by have := of_decide_eq_true h3; omega
    clear h3
    obtain ⟨l, hz⟩ : ∃ z, ls[k]? = some z := ⟨ls[k], List.getElem?_eq_getElem hlt⟩
    refine JC_skip (JQ_then (JC_seq (JC_block (JC_seq ?_))))
    refine JC_region ?_
    refine JL_1 rfl (by first | exact op_index (j := _) (Ev.rfl' rfl) (Ev.rfl' rfl) rfl rfl (by first | rfl | omega) hz | exact op_index (j := _) (Ev.rfl' rfl) (Ev.rfl' rfl) rfl rfl (by first | rfl | omega) (by assumption)) ?_
    refine JL_1 rfl (by first | exact op_loadRef (Ev.rfl' rfl) rfl rfl rfl | exact op_loadPtr (Ev.rfl' rfl) memT (by rfl) (by rfl) (by rfl)) ?_
    refine JL_1 rfl (op_assign rfl) ?_
    refine JL_nil ?_
    refine JQ_then (JC_seq ?_)
    refine JC_region ?_
    refine JL_1 rfl (op_move rfl) ?_
    refine JL_1 rfl (op_move rfl) ?_
    refine JL_1 rfl (op_call Try.call86 (Latest_ok _ _) ⟨evS, ⟨evS, trivial⟩⟩) ?_
    refine JL_1 rfl (op_move rfl) ?_
    refine JL_1 rfl (op_extract (Ev.rfl' rfl) rfl) ?_
    refine JL_1 rfl (op_extract (Ev.rfl' rfl) rfl) ?_
    (refine JL_n rfl (op_allocN rfl nrmT rfl) ?_; intro i8)
    refine JL_s0 (op_storeN (Ev.rfl' rfl) (Ev.rfl' rfl) cellsT replT nrmT (by rfl) (by rfl) (by rfl)) ?_
    refine JL_1 rfl (op_assign rfl) ?_
    refine JL_nil ?_
    refine JQ_then (JC_seq ?_)
    refine JC_region ?_
    refine JL_1 rfl (op_move rfl) ?_
    refine JL_1 rfl (op_not (Ev.rfl' rfl)) ?_
    refine JL_nil ?_
    refine JQ_then ?_
    refine JC_cond (Ev.rfl' rfl) (fun h6 => ?_) (fun h6 => ?_)
    · exact absurd (show l ∈ missV ks ls from List.mem_filter.2 ⟨List.mem_of_getElem? hz, by revert h6; cases latO ks l <;> simp⟩) (by rw [hn]; simp)
    refine JC_skip (JQ_block (JQ_then ?_))
    refine JC_region ?_
    refine JL_1 rfl (op_add (Ev.rfl' rfl) (Ev.rfl' rfl) wrapT) ?_
    refine JL_1 rfl (op_move rfl) ?_
    refine JL_nil ?_
    exact JQ_roundP (k + 1) (by omega) (by omega) esubT lessT
  refine JC_exit (JQ_then_exit (JQ_then_exit (JQ_hit (JQ_then (JC_seq ?_)))))
  refine JC_region ?_
  refine JL_1 rfl (op_move rfl) ?_
  refine JL_1 rfl (by first | ((refine op_call Try.call100 (SortI_ok 0 (none, 0) ?_) ⟨evS, trivial⟩); all_goals (first | decide))) ?_
  refine JL_nil ?_
  refine JQ_then (JC_seq ?_)
  refine JC_region ?_
  refine JL_1 rfl (op_move rfl) ?_
  refine JL_1 rfl (by first | ((refine op_call Try.call101 (CompactI_ok 0 (none, 0) ?_) ⟨evS, trivial⟩); all_goals (first | decide))) ?_
  refine JL_1 rfl (op_assign rfl) ?_
  refine JL_nil ?_
  refine JQ_then (JC_ret ?_)
  exact JQ_retP (Bs := [Is (.slice none 0 0)]) Try.results79 ⟨⟨_, rfl, subT⟩, trivial⟩ () SubL.rfl' lessT
section
variable {P : Program} {c : Ctx} {A : Nat → Option VP} {L : List Item} {d : Option Tmp} {ty : TypeId} {pos : String} {af : Array Edge} {g : Option (Nat × Bool)} {α : Type} {V : α → VP} {l : List (Int × α)} {b : Nat} {t kt et : TypeId} {x y : Operand}
theorem op_lookup2D {k : Int} {zv : Value} (z : α) (hz0 : ∀ φ, (V z).ok φ zv) (hx : Ev A L x (Is (.map (some b)))) (hL : mp b V l ∈ L) (hy : Ev A L y (Is (.int .i64 k))) (hu : P.underlying t = some (.map kt et)) (hk : P.underlying kt = some (.int .i64)) (hz : (P.info? et).map (·.zero) = some (some zv)) :
    OpP P c ⟨d, .lookup t x y true, ty, pos, af, g⟩ A L (IsTup [V ((mget l k).getD z), Is (.bool (mget l k).isSome)]) := by
  have h := op_lookup2 (P := P) (c := c) (d := d) (ty := ty) (pos := pos) (af := af) (g := g) hx hL hy hu hk hz
  intro φ a w K Q hm he hk'
  refine h φ a w K Q hm he fun φ' v w' hp hf => hk' φ' v w' hp ?_
  obtain ⟨vs, e, k1⟩ := hf
  refine ⟨vs, e, ?_⟩
  match vs, k1 with
  | [u1, u2], ⟨a1, a2, _⟩ =>
    refine ⟨?_, a2, trivial⟩
    cases hq : mget l k with
    | none =>
      rw [hq] at a1
      have a1' : u1 = zv := a1
      rw [a1']
      exact hz0 φ'
    | some v => rw [hq] at a1; exact a1
end
theorem hd_zero (φ : Fz) : (IsHd Hd.nil).ok φ (.agg #[.int .i64 0, .int .u32 0]) := ⟨[_, _], rfl, ⟨rfl, rfl, trivial⟩, ones_cons rfl (ones_cons rfl ones_nil)⟩
def srcR (ks : List Pg) (cnt : Nat) (S T : List Int) : List Int := match T.find? fun s => decide (vacV (hdS' ks s) ≥ (cnt : Int)) with
  | some s => [s]
  | none => S
theorem srcR_all (ks : List Pg) (cnt : Nat) (S : List Int) : srcV ks cnt S = srcR ks cnt S S := rfl
theorem src_sub {ks : List Pg} {cnt : Nat} {S : List Int} (hn : S.Nodup) : (srcV ks cnt S).Nodup ∧ ∀ s, s ∈ srcV ks cnt S → s ∈ S := by
  unfold srcV
  split
  · rename_i s h
    refine ⟨by simp, fun x hx => ?_⟩
    rw [List.mem_singleton.1 hx]
    exact List.mem_of_find?_eq_some h
  · exact ⟨hn, fun _ h => h⟩
theorem src_len {ks : List Pg} {cnt : Nat} {S : List Int} (h : S.length ≤ 9) : (srcV ks cnt S).length ≤ 9 := by
  unfold srcV
  split
  · simp
  · exact h
theorem drop_at {α : Type} {S : List α} {k : Nat} {s : α} (hz : S[k]? = some s) : S.drop k = s :: S.drop (k + 1) := by
  obtain ⟨hk, e⟩ := List.getElem?_eq_some_iff.1 hz
  rw [List.drop_eq_getElem_cons hk, e]
theorem inn_step {ks : List Pg} {s : Int} {cnt i ch : Nat} {u : BitVec 32} {q : List Nat} (hi : i < 16) (hc : ch < cnt) : inn ks s cnt (16 - i) i ch u q = if bitB u i = true then inn ks s cnt (16 - (i + 1)) (i + 1) ch u q
      else if pkV ks (lineV s + i) = -1 then inn ks s cnt (16 - (i + 1)) (i + 1) ch u q
      else if pkV ks (lineV s + i) = 0 then inn ks s cnt (16 - (i + 1)) (i + 1) (ch + 1) (u ||| BitVec.ofInt 32 1 <<< i) (q ++ [i])
      else .error (pkV ks (lineV s + i)) := by
  obtain ⟨m, e⟩ : ∃ m, 16 - i = m + 1 := ⟨15 - i, by omega⟩
  rw [e, show 16 - (i + 1) = m by omega]
  conv => lhs; unfold inn
  rw [if_pos hc]
theorem inn_stop {ks : List Pg} {s : Int} {cnt i ch : Nat} {u : BitVec 32} {q : List Nat} (h : ¬ (i < 16 ∧ ch < cnt)) : inn ks s cnt (16 - i) i ch u q = .ok q := by
  by_cases hi : i < 16
  · obtain ⟨m, e⟩ : ∃ m, 16 - i = m + 1 := ⟨15 - i, by omega⟩
    rw [e]
    unfold inn
    rw [if_neg (by omega)]
  · rw [show 16 - i = 0 by omega]
    rfl
-- segment.Allocate: function 40
set_option maxHeartbeats 1000000 in
theorem Allocate_ok (ks : List Pg) (cl cnt : Nat) (lines : Int) (pn : Pg) (nd : Nd) (R : Alo) (hc : cl < 6) (hz0 : sizeB lines = true) (hcnt : 1 ≤ cnt ∧ cnt ≤ 12) (hN : nodeV ks cl = (pn, nd, true, 0)) (hM0 : missV ks ((ownV nd.sg (countN lines)).map lineV) = []) (hR0 : aloH ks cl cnt (ownV nd.sg (countN lines)) (ownV nd.sg (countN lines)) = R) :
    Fn Try.prog 40 [IsAgg [Is (.int .i64 (cl : Nat)), Is (.int .i64 lines), Is (.int .i64 (cnt : Nat))], IsSl tPg ks] [] (fun i : (Option Addr × Nat) × (Option Addr × Nat) => IsTup [IsSl tI64 R.1, Is (slV R.2.1.length i.1), Is (slV R.2.2.1.length i.2), Is (.int .i64 R.2.2.2.1), Is (.bool R.2.2.2.2)])
      (fun i => [buf (slV R.2.1.length i.1) 25 tPg R.2.1, buf (slV R.2.2.1.length i.2) 25 tPg R.2.2.1]) := by
  have hcn := countN_le lines
  have hcb : clientB (cl : Nat) = true := by unfold clientB; simp; omega
  have hnode := node_ok ks cl (by omega)
  rw [hN] at hnode
  have hown := owned_ok nd.sg (countN lines) hcn
  have hSl := ownV_len nd.sg (countN lines)
  have hSn := ownV_nodup nd.sg (countN lines)
  obtain ⟨S, hS⟩ : ∃ S, ownV nd.sg (countN lines) = S := ⟨_, rfl⟩
  rw [hS] at hown hSl hSn hM0 hR0
  have hM := hM0
  have hR := hR0
  clear hM0 hR0 hN
  obtain ⟨Q, hQ⟩ : ∃ Q, srcV ks cnt S = Q := ⟨_, rfl⟩
  have hQs := src_sub (ks := ks) (cnt := cnt) hSn
  rw [hQ] at hQs
  refine Fn.enterN Try.func40 Try.ntmps40 rfl rfl ?_
  intro c hX
  refine JC_seq ?_
  refine JC_region ?_
  (refine JL_n rfl (op_box (Ev.rfl' rfl) cellsT) ?_; intro i2)
  refine JL_1 rfl (op_assign rfl) ?_
  refine JL_1 rfl (op_assign rfl) ?_
  refine JL_1 rfl (op_assign rfl) ?_
  refine JL_1 rfl (op_assign rfl) ?_
  refine JL_1 rfl (op_assign rfl) ?_
  refine JL_nil ?_
  refine JQ_then (JC_seq (JC_seq ?_))
  refine JC_freezeB hX (b := i2) replT ?_
  refine JC_set 2 (IsRef [Is (.int .i64 (cl : Nat)), Is (.int .i64 lines), Is (.int .i64 (cnt : Nat))]) rfl (SubL.fact memT) ?_
  refine JC_region ?_
  refine JL_1 rfl (by first | exact op_fieldPtr (k := 0) (Ev.rfl' rfl) rfl rfl rfl rfl | exact op_fieldRefN (k := 0) (Ev.rfl' rfl) rfl rfl rfl rfl nrmT) ?_
  refine JL_1 rfl (by first | exact op_loadRef (Ev.rfl' rfl) rfl rfl rfl | exact op_loadPtr (Ev.rfl' rfl) memT (by rfl) (by rfl) (by rfl)) ?_
  refine JL_1 rfl (op_call Try.call78 (isClient_ok _) ⟨evS, trivial⟩) ?_
  refine JL_1 rfl (op_not (Ev.rfl' rfl)) ?_
  refine JL_1 rfl (op_move rfl) ?_
  (first | refine JL_i0 rfl rfl rfl (fun hg => (by have hg0 := hg; (try simp at hg); first | exact op_fieldPtr (k := 1) evG rfl rfl rfl rfl | exact op_fieldRefN (k := 1) evG rfl rfl rfl rfl nrmT)) ?_ | refine JL_i rfl rfl rfl (fun hp hg => (by have hpg := Bool.and_eq_true_iff.2 ⟨hp, hg⟩; have hg0 := hg; (try simp at hg); first | exact op_fieldPtr (k := 1) evG rfl rfl rfl rfl | exact op_fieldRefN (k := 1) evG rfl rfl rfl rfl nrmT)) ?_)
  (first | refine JL_i0 rfl rfl rfl (fun hg => (by have hg0 := hg; (try simp at hg); first | exact op_loadRef evG rfl rfl rfl | exact op_loadPtr evG memT (by rfl) (by rfl) (by rfl))) ?_ | refine JL_i rfl rfl rfl (fun hp hg => (by have hpg := Bool.and_eq_true_iff.2 ⟨hp, hg⟩; have hg0 := hg; (try simp at hg); first | exact op_loadRef evG rfl rfl rfl | exact op_loadPtr evG memT (by rfl) (by rfl) (by rfl))) ?_)
  (first | refine JL_i0 rfl rfl rfl (fun hg => (by have hg0 := hg; (try simp at hg); exact op_call Try.call75 (isSize_ok _) ⟨evS, trivial⟩)) ?_ | refine JL_i rfl rfl rfl (fun hp hg => (by have hpg := Bool.and_eq_true_iff.2 ⟨hp, hg⟩; have hg0 := hg; (try simp at hg); exact op_call Try.call75 (isSize_ok _) ⟨evS, trivial⟩)) ?_)
  (first | refine JL_i0 rfl rfl rfl (fun hg => (by have hg0 := hg; (try simp at hg); exact op_not evG)) ?_ | refine JL_i rfl rfl rfl (fun hp hg => (by have hpg := Bool.and_eq_true_iff.2 ⟨hp, hg⟩; have hg0 := hg; (try simp at hg); exact op_not evG)) ?_)
  refine JL_1 rfl (op_or (Ev.rfl' rfl) rfl (fun h => by first | exact SubL.rfl' | exact SubL.iteT (by first | (rw [h]; rfl) | (simp_all; done)) SubL.rfl')) ?_
  refine JL_1 rfl (op_move rfl) ?_
  (first | refine JL_i0 rfl rfl rfl (fun hg => (by have hg0 := hg; (try simp at hg); first | exact op_fieldPtr (k := 2) evG rfl rfl rfl rfl | exact op_fieldRefN (k := 2) evG rfl rfl rfl rfl nrmT)) ?_ | refine JL_i rfl rfl rfl (fun hp hg => (by have hpg := Bool.and_eq_true_iff.2 ⟨hp, hg⟩; have hg0 := hg; (try simp at hg); first | exact op_fieldPtr (k := 2) evG rfl rfl rfl rfl | exact op_fieldRefN (k := 2) evG rfl rfl rfl rfl nrmT)) ?_)
  (first | refine JL_i0 rfl rfl rfl (fun hg => (by have hg0 := hg; (try simp at hg); first | exact op_loadRef evG rfl rfl rfl | exact op_loadPtr evG memT (by rfl) (by rfl) (by rfl))) ?_ | refine JL_i rfl rfl rfl (fun hp hg => (by have hpg := Bool.and_eq_true_iff.2 ⟨hp, hg⟩; have hg0 := hg; (try simp at hg); first | exact op_loadRef evG rfl rfl rfl | exact op_loadPtr evG memT (by rfl) (by rfl) (by rfl))) ?_)
  (first | refine JL_i0 rfl rfl rfl (fun hg => (by have hg0 := hg; (try simp at hg); exact op_lss evG evG)) ?_ | refine JL_i rfl rfl rfl (fun hp hg => (by have hpg := Bool.and_eq_true_iff.2 ⟨hp, hg⟩; have hg0 := hg; (try simp at hg); exact op_lss evG evG)) ?_)
  refine JL_1 rfl (op_or (Ev.rfl' rfl) rfl (fun h => by first | exact SubL.rfl' | exact SubL.iteT (by first | (rw [h]; rfl) | (simp_all; done)) SubL.rfl')) ?_
  refine JL_1 rfl (op_move rfl) ?_
  (first | refine JL_i0 rfl rfl rfl (fun hg => (by have hg0 := hg; (try simp at hg); first | exact op_fieldPtr (k := 2) evG rfl rfl rfl rfl | exact op_fieldRefN (k := 2) evG rfl rfl rfl rfl nrmT)) ?_ | refine JL_i rfl rfl rfl (fun hp hg => (by have hpg := Bool.and_eq_true_iff.2 ⟨hp, hg⟩; have hg0 := hg; (try simp at hg); first | exact op_fieldPtr (k := 2) evG rfl rfl rfl rfl | exact op_fieldRefN (k := 2) evG rfl rfl rfl rfl nrmT)) ?_)
  (first | refine JL_i0 rfl rfl rfl (fun hg => (by have hg0 := hg; (try simp at hg); first | exact op_loadRef evG rfl rfl rfl | exact op_loadPtr evG memT (by rfl) (by rfl) (by rfl))) ?_ | refine JL_i rfl rfl rfl (fun hp hg => (by have hpg := Bool.and_eq_true_iff.2 ⟨hp, hg⟩; have hg0 := hg; (try simp at hg); first | exact op_loadRef evG rfl rfl rfl | exact op_loadPtr evG memT (by rfl) (by rfl) (by rfl))) ?_)
  (first | refine JL_i0 rfl rfl rfl (fun hg => (by have hg0 := hg; (try simp at hg); exact op_gtr evG evG)) ?_ | refine JL_i rfl rfl rfl (fun hp hg => (by have hpg := Bool.and_eq_true_iff.2 ⟨hp, hg⟩; have hg0 := hg; (try simp at hg); exact op_gtr evG evG)) ?_)
  refine JL_1 rfl (op_or (Ev.rfl' rfl) rfl (fun h => by first | exact SubL.rfl' | exact SubL.iteT (by first | (rw [h]; rfl) | (simp_all; done)) SubL.rfl')) ?_
  refine JL_nil ?_
  refine JQ_then ?_
  refine JC_cond (Ev.rfl' rfl) (fun h1 => ?_) (fun h1 => ?_)
  · exact absurd h1 (by rw [hcb, hz0]; simp; omega)
  clear h1
  refine JC_skip (JQ_then (JC_seq ?_))
  refine JC_region ?_
  refine JL_1 rfl (op_move rfl) ?_
  refine JL_1 rfl (by first | exact op_fieldPtr (k := 0) (Ev.rfl' rfl) rfl rfl rfl rfl | exact op_fieldRefN (k := 0) (Ev.rfl' rfl) rfl rfl rfl rfl nrmT) ?_
  refine JL_1 rfl (by first | exact op_loadRef (Ev.rfl' rfl) rfl rfl rfl | exact op_loadPtr (Ev.rfl' rfl) memT (by rfl) (by rfl) (by rfl)) ?_
  refine JL_1 rfl (op_call Try.call80 (hnode) ⟨evS, ⟨evS, trivial⟩⟩) ?_
  refine JL_1 rfl (op_move rfl) ?_
  refine JL_1 rfl (op_extract (Ev.rfl' rfl) rfl) ?_
  refine JL_1 rfl (op_extract (Ev.rfl' rfl) rfl) ?_
  refine JL_1 rfl (op_extract (Ev.rfl' rfl) rfl) ?_
  refine JL_1 rfl (op_extract (Ev.rfl' rfl) rfl) ?_
  (refine JL_n rfl (op_allocN rfl nrmT rfl) ?_; intro i9)
  (refine JL_n rfl (op_allocN rfl nrmT rfl) ?_; intro i10)
  refine JL_s0 (op_storeN (Ev.rfl' rfl) (Ev.rfl' rfl) cellsT replT nrmT (by rfl) (by rfl) (by rfl)) ?_
  refine JL_s0 (op_storeN (Ev.rfl' rfl) (Ev.rfl' rfl) cellsT replT nrmT (by rfl) (by rfl) (by rfl)) ?_
  refine JL_1 rfl (op_assign rfl) ?_
  refine JL_1 rfl (op_assign rfl) ?_
  refine JL_nil ?_
  refine JQ_then (JC_seq (JC_seq ?_))
  refine JC_region ?_
  refine JL_1 rfl (op_move rfl) ?_
  refine JL_1 rfl (op_not (Ev.rfl' rfl)) ?_
  refine JL_nil ?_
  refine JQ_then ?_
  refine JC_cond (Ev.rfl' rfl) (fun h4 => ?_) (fun h4 => ?_)
  · exact absurd h4 (by simp)
  refine JC_skip (JQ_then (JC_seq (JC_seq ?_)))
  refine JC_region ?_
  refine JL_1 rfl (op_move rfl) ?_
  refine JL_1 rfl (op_neq (Ev.rfl' rfl) (Ev.rfl' rfl)) ?_
  refine JL_nil ?_
  refine JQ_then ?_
  refine JC_cond (Ev.rfl' rfl) (fun h6 => ?_) (fun h6 => ?_)
  · exact absurd h6 (by simp)
  refine JC_skip (JQ_then (JC_seq ?_))
  refine JC_dr rfl (by kernel_rfl) ?_
  refine JD_stretch 7 (by kernel_rfl) ?_
  refine JW_1 (by first | exact op_fieldPtr (k := 2) (Ev.rfl' rfl) rfl rfl rfl rfl | exact op_fieldRefN (k := 2) (Ev.rfl' rfl) rfl rfl rfl rfl nrmT) ?_
  refine JW_1 (by first | exact op_loadRef (Ev.rfl' rfl) rfl rfl rfl | exact op_loadPtr (Ev.rfl' rfl) memT (by rfl) (by rfl) (by rfl)) ?_
  refine JW_1 (by first | exact op_fieldPtr (k := 1) (Ev.rfl' rfl) rfl rfl rfl rfl | exact op_fieldRefN (k := 1) (Ev.rfl' rfl) rfl rfl rfl rfl nrmT) ?_
  refine JW_1 (by first | exact op_loadRef (Ev.rfl' rfl) rfl rfl rfl | exact op_loadPtr (Ev.rfl' rfl) memT (by rfl) (by rfl) (by rfl)) ?_
  refine JW_1 (op_call Try.call29 (CountN_ok _) ⟨evS, trivial⟩) ?_
  refine JW_1 (op_call Try.call82 (hown) ⟨evS, ⟨evS, trivial⟩⟩) ?_
  refine JW_1 (op_assign rfl) ?_
  refine ⟨rfl, ?_⟩
  refine JD_end ?_
  refine JQ_then (JC_seq (JC_seq ?_))
  refine JC_region ?_
  refine JL_1 rfl (op_move rfl) ?_
  refine JL_1 rfl (op_move rfl) ?_
  refine JL_1 rfl (by first | ((refine op_call Try.call81 (headerLines_ok _ ?_) ⟨evS, trivial⟩); all_goals (first | omega))) ?_
  refine JL_1 rfl (op_call Try.call79 (missNil_ok _ _ hM) ⟨evS, ⟨evS, trivial⟩⟩) ?_
  refine JL_1 rfl (op_assign rfl) ?_
  refine JL_nil ?_
  refine JQ_then (JC_seq ?_)
  refine JC_region ?_
  refine JL_1 rfl (op_move rfl) ?_
  refine JL_1 rfl (by first | exact op_len (Ev.rfl' rfl) rfl | exact op_lenLit (Ev.rfl' rfl) rfl) ?_
  refine JL_1 rfl (op_gtr (Ev.rfl' rfl) (Ev.rfl' rfl)) ?_
  refine JL_nil ?_
  refine JQ_then ?_
  refine JC_cond (Ev.rfl' rfl) (fun h10 => ?_) (fun h10 => ?_)
  · exact absurd h10 (by simp)
  refine JC_skip (JQ_then (JC_seq ?_))
  refine JC_region ?_
  (refine JL_n rfl (op_makeMap IsPg) ?_; intro i92)
  (refine JL_n rfl (op_makeMap IsHd) ?_; intro i93)
  refine JL_1 rfl (op_assign rfl) ?_
  refine JL_1 rfl (op_assign rfl) ?_
  refine JL_nil ?_
  refine JQ_then (JC_seq (JC_seq ?_))
  refine JC_region ?_
  refine JL_1 rfl (op_move rfl) ?_
  refine JL_1 rfl (by first | exact op_len (Ev.rfl' rfl) rfl | exact op_lenLit (Ev.rfl' rfl) rfl) ?_
  refine JL_1 rfl (op_move rfl) ?_
  refine JL_nil ?_
  refine JQ_then (JC_block ?_)
  refine JC_loopP (fun k : Nat => k ≤ S.length ∧ aloH ks cl cnt S (S.drop k) = R) (fun k => [(1, IsSl tPg ks), (2, IsRef [Is (.int .i64 (cl : Nat)), Is (.int .i64 lines), Is (.int .i64 (cnt : Nat))]), (4, Is (.slice none 0 0)), (5, Is (.slice none 0 0)), (6, Is (.slice none 0 0)), (12, IsSl tI64 S), (13, Is (.map (some i92))), (14, Is (.map (some i93))), (94, IsSl tI64 S), (95, Is (.int .i64 (S.length : Nat))), (96, Is (.int .i64 (k : Nat)))]) (fun k => [mp i92 IsPg ((S.take k).map fun s => (s, (headV ks s).1)), mp i93 IsHd ((S.take k).map fun s => (s, hdS' ks s))]) (fun k => S.length - k) 0 ⟨Nat.zero_le _, hR⟩ esubT lessT ?_
  rintro k ⟨hk, hs⟩
  refine JC_seq ?_
  refine JC_region ?_
  refine JL_1 rfl (op_lss (Ev.rfl' rfl) (Ev.rfl' rfl)) ?_
  refine JL_nil ?_
  refine JQ_then (JC_seq ?_)
  refine JC_cond (Ev.rfl' rfl) (fun h14 => ?_) (fun h14 => ?_)
  · have hlt : k < S.length := by have := of_decide_eq_true h14; omega
    clear h14
    obtain ⟨s, hz⟩ : ∃ z, S[k]? = some z := ⟨S[k], List.getElem?_eq_getElem hlt⟩
    have hp1 := mput_map (f := fun s => (headV ks s).1) hz hSn
    have hp2 := mput_map (f := fun s => hdS' ks s) hz hSn
    rw [drop_at hz] at hs
    refine JC_skip (JQ_then (JC_seq (JC_block (JC_seq ?_))))
    refine JC_region ?_
    refine JL_1 rfl (by first | exact op_index (j := _) (Ev.rfl' rfl) (Ev.rfl' rfl) rfl rfl (by first | rfl | omega) hz | exact op_index (j := _) (Ev.rfl' rfl) (Ev.rfl' rfl) rfl rfl (by first | rfl | omega) (by assumption)) ?_
    refine JL_1 rfl (by first | exact op_loadRef (Ev.rfl' rfl) rfl rfl rfl | exact op_loadPtr (Ev.rfl' rfl) memT (by rfl) (by rfl) (by rfl)) ?_
    refine JL_1 rfl (op_assign rfl) ?_
    refine JL_nil ?_
    refine JQ_then (JC_seq ?_)
    refine JC_region ?_
    refine JL_1 rfl (op_move rfl) ?_
    refine JL_1 rfl (op_move rfl) ?_
    refine JL_1 rfl (op_call Try.call84 (header_ok _ _) ⟨evS, ⟨evS, trivial⟩⟩) ?_
    refine JL_1 rfl (op_move rfl) ?_
    refine JL_1 rfl (op_extract (Ev.rfl' rfl) rfl) ?_
    refine JL_1 rfl (op_extract (Ev.rfl' rfl) rfl) ?_
    refine JL_1 rfl (op_extract (Ev.rfl' rfl) rfl) ?_
    refine JL_1 rfl (op_extract (Ev.rfl' rfl) rfl) ?_
    (refine JL_n rfl (op_allocN rfl nrmT rfl) ?_; intro i17)
    (refine JL_n rfl (op_allocN rfl nrmT rfl) ?_; intro i18)
    refine JL_s0 (op_storeN (Ev.rfl' rfl) (Ev.rfl' rfl) cellsT replT nrmT (by rfl) (by rfl) (by rfl)) ?_
    refine JL_s0 (op_storeN (Ev.rfl' rfl) (Ev.rfl' rfl) cellsT replT nrmT (by rfl) (by rfl) (by rfl)) ?_
    refine JL_1 rfl (op_assign rfl) ?_
    refine JL_1 rfl (op_assign rfl) ?_
    refine JL_nil ?_
    refine JQ_then (JC_seq (JC_block (JC_seq ?_)))
    refine JC_region ?_
    refine JL_1 rfl (op_move rfl) ?_
    refine JL_1 rfl (op_neq (Ev.rfl' rfl) (Ev.rfl' rfl)) ?_
    refine JL_1 rfl (op_assign rfl) ?_
    refine JL_nil ?_
    refine JQ_then ?_
    refine JC_cond (Ev.rfl' rfl) (fun h17 => ?_) (fun h17 => ?_)
    · have g : (headV ks s).2.2.2 ≠ 0 := by simpa using h17
      have e : R = errA (headV ks s).2.2.2 := by rw [← hs]; unfold aloH hdE; rw [if_pos g]
      subst e
      refine JC_seq ?_
      refine JC_region ?_
      refine JL_1 rfl (op_move rfl) ?_
      refine JL_1 rfl (op_assign rfl) ?_
      refine JL_1 rfl (op_assign rfl) ?_
      refine JL_1 rfl (op_assign rfl) ?_
      refine JL_1 rfl (op_assign rfl) ?_
      refine JL_1 rfl (op_assign rfl) ?_
      refine JL_nil ?_
      refine JQ_then (JC_ret (JQ_block_ret (JQ_then_ret (JQ_block_ret (JQ_then_ret (JQ_then_ret (JQ_block_ret (JQ_then_ret ?_))))))))
      refine JQ_buf0 25 tPg ?_
      refine JQ_buf0 25 tPg ?_
      exact JQ_retP (Bs := [IsSl tI64 [], Is (.slice none 0 0), Is (.slice none 0 0), Is (.int .i64 (headV ks s).2.2.2), Is (.bool true)]) Try.results40 ⟨⟨_, rfl, subT⟩, ⟨⟨_, rfl, subT⟩, ⟨⟨_, rfl, subT⟩, ⟨⟨_, rfl, subT⟩, ⟨⟨_, rfl, subT⟩, trivial⟩⟩⟩⟩⟩ ((none, 0), (none, 0)) SubL.rfl' lessT
    have g : ¬ (headV ks s).2.2.2 ≠ 0 := by simpa using h17
    clear h17
    refine JC_seq ?_
    refine JC_region ?_
    refine JL_1 rfl (by first | exact op_fieldPtr (k := 0) (Ev.rfl' rfl) rfl rfl rfl rfl | exact op_fieldRefN (k := 0) (Ev.rfl' rfl) rfl rfl rfl rfl nrmT) ?_
    refine JL_1 rfl (by first | exact op_loadRef (Ev.rfl' rfl) rfl rfl rfl | exact op_loadPtr (Ev.rfl' rfl) memT (by rfl) (by rfl) (by rfl)) ?_
    refine JL_1 rfl (by first | exact op_fieldPtr (k := 0) (Ev.rfl' rfl) rfl rfl rfl rfl | exact op_fieldRefN (k := 0) (Ev.rfl' rfl) rfl rfl rfl rfl nrmT) ?_
    refine JL_1 rfl (by first | exact op_loadRef (Ev.rfl' rfl) rfl rfl rfl | exact op_loadPtr (Ev.rfl' rfl) memT (by rfl) (by rfl) (by rfl)) ?_
    refine JL_1 rfl (op_neq (Ev.rfl' rfl) (Ev.rfl' rfl)) ?_
    refine JL_1 rfl (op_assign rfl) ?_
    refine JL_nil ?_
    refine JQ_then ?_
    refine JC_cond (Ev.rfl' rfl) (fun h19 => ?_) (fun h19 => ?_)
    · have g2 : (hdS' ks s).owner ≠ (cl : Int) := by unfold hdS'; simpa using h19
      have e : R = errA 11 := by rw [← hs]; unfold aloH hdE; rw [if_neg g, if_pos g2]
      subst e
      refine JC_seq ?_
      refine JC_region ?_
      refine JL_1 rfl (op_assign rfl) ?_
      refine JL_1 rfl (op_assign rfl) ?_
      refine JL_1 rfl (op_assign rfl) ?_
      refine JL_1 rfl (op_assign rfl) ?_
      refine JL_1 rfl (op_assign rfl) ?_
      refine JL_nil ?_
      refine JQ_then (JC_ret (JQ_block_ret (JQ_then_ret (JQ_block_ret (JQ_then_ret (JQ_then_ret (JQ_block_ret (JQ_then_ret ?_))))))))
      refine JQ_buf0 25 tPg ?_
      refine JQ_buf0 25 tPg ?_
      exact JQ_retP (Bs := [IsSl tI64 [], Is (.slice none 0 0), Is (.slice none 0 0), Is (.int .i64 11), Is (.bool true)]) Try.results40 ⟨⟨_, rfl, subT⟩, ⟨⟨_, rfl, subT⟩, ⟨⟨_, rfl, subT⟩, ⟨⟨_, rfl, subT⟩, ⟨⟨_, rfl, subT⟩, trivial⟩⟩⟩⟩⟩ ((none, 0), (none, 0)) SubL.rfl' lessT
    have g2 : ¬ (hdS' ks s).owner ≠ (cl : Int) := by unfold hdS'; simpa using h19
    clear h19
    have hs' : aloH ks cl cnt S (S.drop (k + 1)) = R := by
      rw [← hs]
      conv => rhs; unfold aloH hdE
      rw [if_neg g, if_neg g2]
      rfl
    refine JC_skip (JQ_block (JQ_then ?_))
    refine JC_dr rfl (by kernel_rfl) ?_
    refine JD_front (it := mp i93 IsHd _) (by repeat (first | exact Drop1.here _ _ | apply Drop1.next)) ?_
    refine JD_front (it := mp i92 IsPg _) (by repeat (first | exact Drop1.here _ _ | apply Drop1.next)) ?_
    refine JD_stretchG (its := [_, _]) 8 (by kernel_rfl) ?_
    refine JW_1 (op_move rfl) ?_
    refine JW_1 (op_move rfl) ?_
    refine JW_1 (op_move rfl) ?_
    refine JW_1 (op_move rfl) ?_
    refine JW_1 (by first | exact op_loadRefsN (n := 9) (Ev.rfl' rfl) rfl rfl rfl (by rfl) nrmT | exact op_loadPtrsN (n := 9) (Ev.rfl' rfl) memT (by rfl) (by rfl) (by rfl) (by rfl) nrmT) ?_
    refine JW_1 (by first | exact op_loadRefsN (n := 2) (Ev.rfl' rfl) rfl rfl rfl (by rfl) nrmT | exact op_loadPtrsN (n := 2) (Ev.rfl' rfl) memT (by rfl) (by rfl) (by rfl) (by rfl) nrmT) ?_
    refine JW_ghost (s := 254) rfl rfl rfl (by kernel_rfl) (fun c' => by exact op_mapPut (V := IsPg) (v := (headV ks s).1) (Ev.rfl' rfl) (Ev.rfl' rfl) evS replT rfl rfl) ?_
    refine JW_ghost (s := 255) rfl rfl rfl (by kernel_rfl) (fun c' => by exact op_mapPut (V := IsHd) (v := hdS' ks s) (Ev.rfl' rfl) (Ev.rfl' rfl) evS replT rfl rfl) ?_
    refine ⟨rfl, ?_⟩
    intro _ _
    refine JD_end ?_
    refine JQ_block (JQ_then ?_)
    refine JC_region ?_
    refine JL_1 rfl (op_add (Ev.rfl' rfl) (Ev.rfl' rfl) wrapT) ?_
    refine JL_1 rfl (op_move rfl) ?_
    refine JL_nil ?_
    rw [hp1, hp2]
    exact JQ_roundP (k + 1) ⟨by omega, hs'⟩ (by omega) esubT lessT
  have hke : k = S.length := by have := of_decide_eq_false h14; omega
  subst hke
  clear h14
  rw [List.drop_length] at hs
  have hs2 : excA ks cnt (outS ks cnt Q 0 []) = R := by rw [← hQ]; exact hs
  clear hs hR
  rw [List.take_length]
  refine JC_exit (JQ_then_exit (JQ_then_exit (JQ_hit (JQ_then (JC_seq ?_)))))
  refine JC_region ?_
  refine JL_1 rfl (op_move rfl) ?_
  refine JL_1 rfl (op_assign rfl) ?_
  refine JL_nil ?_
  refine JQ_then (JC_seq (JC_seq ?_))
  refine JC_region ?_
  refine JL_1 rfl (op_move rfl) ?_
  refine JL_1 rfl (by first | exact op_len (Ev.rfl' rfl) rfl | exact op_lenLit (Ev.rfl' rfl) rfl) ?_
  refine JL_1 rfl (op_move rfl) ?_
  refine JL_nil ?_
  refine JQ_then ?_
  refine JC_cutT (fun _ : Unit => True) (fun _ => [(1, IsSl tPg ks), (2, IsRef [Is (.int .i64 (cl : Nat)), Is (.int .i64 lines), Is (.int .i64 (cnt : Nat))]), (4, Is (.slice none 0 0)), (5, Is (.slice none 0 0)), (6, Is (.slice none 0 0)), (13, Is (.map (some i92))), (14, Is (.map (some i93))), (21, IsSl tI64 Q)]) (fun _ => [mp i92 IsPg (S.map fun s => (s, (headV ks s).1)), mp i93 IsHd (S.map fun s => (s, hdS' ks s))]) ?_ ?_
  rotate_left
  focus
    refine JC_block ?_
    refine JC_loopP (fun k : Nat => k ≤ S.length ∧ srcR ks cnt S (S.drop k) = Q) (fun k => [(1, IsSl tPg ks), (2, IsRef [Is (.int .i64 (cl : Nat)), Is (.int .i64 lines), Is (.int .i64 (cnt : Nat))]), (4, Is (.slice none 0 0)), (5, Is (.slice none 0 0)), (6, Is (.slice none 0 0)), (13, Is (.map (some i92))), (14, Is (.map (some i93))), (21, IsSl tI64 S), (126, IsSl tI64 S), (127, Is (.int .i64 (S.length : Nat))), (128, Is (.int .i64 (k : Nat)))]) (fun _ => [mp i92 IsPg (S.map fun s => (s, (headV ks s).1)), mp i93 IsHd (S.map fun s => (s, hdS' ks s))]) (fun k => S.length - k) 0 ⟨Nat.zero_le _, hQ⟩ esubT lessT ?_
    rintro k ⟨hk, hsr⟩
    refine JC_seq ?_
    refine JC_region ?_
    refine JL_1 rfl (op_lss (Ev.rfl' rfl) (Ev.rfl' rfl)) ?_
    refine JL_nil ?_
    refine JQ_then (JC_seq ?_)
    refine JC_cond (Ev.rfl' rfl) (fun h25 => ?_) (fun h25 => ?_)
    · have hlt : k < S.length := by have := of_decide_eq_true h25; omega
      clear h25
      obtain ⟨s, hz⟩ : ∃ z, S[k]? = some z := ⟨S[k], List.getElem?_eq_getElem hlt⟩
      have hmg := mget_map (f := fun s => hdS' ks s) (List.mem_of_getElem? hz)
      rw [drop_at hz] at hsr
      refine JC_skip (JQ_then (JC_seq (JC_block (JC_seq ?_))))
      refine JC_region ?_
      refine JL_1 rfl (by first | exact op_index (j := _) (Ev.rfl' rfl) (Ev.rfl' rfl) rfl rfl (by first | rfl | omega) hz | exact op_index (j := _) (Ev.rfl' rfl) (Ev.rfl' rfl) rfl rfl (by first | rfl | omega) (by assumption)) ?_
      refine JL_1 rfl (by first | exact op_loadRef (Ev.rfl' rfl) rfl rfl rfl | exact op_loadPtr (Ev.rfl' rfl) memT (by rfl) (by rfl) (by rfl)) ?_
      refine JL_1 rfl (op_assign rfl) ?_
      refine JL_nil ?_
      refine JQ_then (JC_seq ?_)
      refine JC_dr rfl (by kernel_rfl) ?_
      refine JD_stretch 7 (by kernel_rfl) ?_
      refine JW_1 (op_move rfl) ?_
      refine JW_1 (op_move rfl) ?_
      refine JW_1 (op_lookupS hmg (Ev.rfl' rfl) memT (Ev.rfl' rfl) rfl rfl rfl) ?_
      refine JW_1 (op_call Try.call85 (vacant_ok _) ⟨evS, trivial⟩) ?_
      refine JW_1 (by first | exact op_fieldPtr (k := 2) (Ev.rfl' rfl) rfl rfl rfl rfl | exact op_fieldRefN (k := 2) (Ev.rfl' rfl) rfl rfl rfl rfl nrmT) ?_
      refine JW_1 (by first | exact op_loadRef (Ev.rfl' rfl) rfl rfl rfl | exact op_loadPtr (Ev.rfl' rfl) memT (by rfl) (by rfl) (by rfl)) ?_
      refine JW_1 (op_geq (Ev.rfl' rfl) (Ev.rfl' rfl)) ?_
      refine ⟨rfl, ?_⟩
      refine JD_end ?_
      refine JQ_then ?_
      refine JC_cond (Ev.rfl' rfl) (fun h27 => ?_) (fun h27 => ?_)
      · have e : Q = [s] := by
          rw [← hsr]; unfold srcR
          simp only [List.find?_cons, h27]
        refine JC_seq ?_
        refine JC_region ?_
        refine JL_1 rfl (op_move rfl) ?_
        refine JL_1 rfl (op_buildSlice (size := 1) (qs := [(0, _)]) rfl rfl rfl ⟨⟨rfl, _, (Ev.rfl' rfl), cellsT⟩, trivial⟩ (by rfl) (by rfl)) ?_
        refine JL_1 rfl (op_assign rfl) ?_
        refine JL_nil ?_
        refine JQ_then (JC_exit (JQ_block_miss rfl (JQ_then_exit (JQ_then_exit (JQ_hit ?_)))))
        subst e
        exact JQ_meetP () trivial esubT lessT
      have e : srcR ks cnt S (S.drop (k + 1)) = Q := by
        rw [← hsr]; unfold srcR
        simp only [List.find?_cons, h27]
      clear h27
      refine JC_skip (JQ_block (JQ_then ?_))
      refine JC_region ?_
      refine JL_1 rfl (op_add (Ev.rfl' rfl) (Ev.rfl' rfl) wrapT) ?_
      refine JL_1 rfl (op_move rfl) ?_
      refine JL_nil ?_
      exact JQ_roundP (k + 1) ⟨by omega, e⟩ (by omega) esubT lessT
    have hke : k = S.length := by have := of_decide_eq_false h25; omega
    subst hke
    rw [List.drop_length] at hsr
    have e : Q = S := hsr.symm
    refine JC_exit (JQ_then_exit (JQ_then_exit (JQ_hit ?_)))
    subst e
    exact JQ_meetP () trivial esubT lessT
  rintro _ _
  have hQl := src_len (ks := ks) (cnt := cnt) (S := S) (by omega)
  rw [hQ] at hQl
  refine JC_seq ?_
  refine JC_region ?_
  (refine JL_n rfl (op_makeMap IsHd) ?_; intro i142)
  refine JL_1 rfl (op_assign rfl) ?_
  refine JL_1 rfl (op_assign rfl) ?_
  refine JL_nil ?_
  refine JQ_then (JC_seq (JC_seq ?_))
  refine JC_region ?_
  refine JL_1 rfl (op_move rfl) ?_
  refine JL_1 rfl (by first | exact op_len (Ev.rfl' rfl) rfl | exact op_lenLit (Ev.rfl' rfl) rfl) ?_
  refine JL_1 rfl (op_move rfl) ?_
  refine JL_nil ?_
  refine JQ_then (JC_block ?_)
  refine JC_buf0 3 tI64 ?_
  refine JC_buf0 25 tPg ?_
  refine JC_loopP (fun z : (Nat × Nat × Pk) × (Option Addr × Nat) × (Option Addr × Nat) => z.1.1 ≤ Q.length ∧ excA ks cnt (outS ks cnt (Q.drop z.1.1) z.1.2.1 z.1.2.2) = R ∧ z.1.2.2.map Prod.fst = Q.take z.1.1 ∧ z.1.2.1 = totP z.1.2.2 ∧ z.1.2.1 ≤ cnt) (fun z => [(1, IsSl tPg ks), (2, IsRef [Is (.int .i64 (cl : Nat)), Is (.int .i64 lines), Is (.int .i64 (cnt : Nat))]), (4, Is (slV (needP ks z.1.2.2).length z.2.1)), (5, Is (slV (freP ks z.1.2.2).length z.2.2)), (6, Is (.slice none 0 0)), (13, Is (.map (some i92))), (14, Is (.map (some i93))), (21, IsSl tI64 Q), (24, Is (.int .i64 (z.1.2.1 : Nat))), (25, Is (.map (some i142))), (143, IsSl tI64 Q), (144, Is (.int .i64 (Q.length : Nat))), (145, Is (.int .i64 (z.1.1 : Nat)))]) (fun z => [mp i92 IsPg (S.map fun s => (s, (headV ks s).1)), mp i93 IsHd (S.map fun s => (s, hdS' ks s)), mp i142 IsHd (chgP ks z.1.2.2), buf (slV (needP ks z.1.2.2).length z.2.1) 3 tI64 (needP ks z.1.2.2), buf (slV (freP ks z.1.2.2).length z.2.2) 25 tPg (freP ks z.1.2.2)]) (fun z => Q.length - z.1.1) ((0, 0, []), (none, 0), (none, 0)) ⟨Nat.zero_le _, hs2, rfl, rfl, Nat.zero_le _⟩ esubT lessT ?_
  rintro ⟨⟨k, ch, ps⟩, b1, b2⟩ ⟨hk, hs, hmp, hch, hcl⟩
  dsimp only at hk hs hmp hch hcl ⊢
  refine JC_seq ?_
  refine JC_region ?_
  refine JL_1 rfl (op_lss (Ev.rfl' rfl) (Ev.rfl' rfl)) ?_
  refine JL_nil ?_
  refine JQ_then (JC_seq ?_)
  refine JC_cond (Ev.rfl' rfl) (fun h32 => ?_) (fun h32 => ?_)
  · have hlt : k < Q.length := by have := of_decide_eq_true h32; omega
    clear h32
    obtain ⟨s, hz⟩ : ∃ z, Q[k]? = some z := ⟨Q[k], List.getElem?_eq_getElem hlt⟩
    have hmg := mget_map (f := fun s => hdS' ks s) (hQs.2 s (List.mem_of_getElem? hz))
    have hsn : s ∉ ps.map Prod.fst := by rw [hmp]; exact not_in_take hz hQs.1
    have hlv := line_rng s
    rw [drop_at hz, outS_step] at hs
    rw [← need_nil ks ps s, ← fre_nil ks ps s, ← chg_nil ks ps s]
    refine JC_skip (JQ_then (JC_seq (JC_block (JC_seq ?_))))
    refine JC_region ?_
    refine JL_1 rfl (by first | exact op_index (j := _) (Ev.rfl' rfl) (Ev.rfl' rfl) rfl rfl (by first | rfl | omega) hz | exact op_index (j := _) (Ev.rfl' rfl) (Ev.rfl' rfl) rfl rfl (by first | rfl | omega) (by assumption)) ?_
    refine JL_1 rfl (by first | exact op_loadRef (Ev.rfl' rfl) rfl rfl rfl | exact op_loadPtr (Ev.rfl' rfl) memT (by rfl) (by rfl) (by rfl)) ?_
    refine JL_1 rfl (op_assign rfl) ?_
    refine JL_nil ?_
    refine JQ_then (JC_seq ?_)
    refine JC_region ?_
    refine JL_1 rfl (op_move rfl) ?_
    refine JL_1 rfl (op_move rfl) ?_
    refine JL_1 rfl (op_lookupS hmg (Ev.rfl' rfl) memT (Ev.rfl' rfl) rfl rfl rfl) ?_
    (refine JL_n rfl (op_allocN rfl nrmT rfl) ?_; intro i28)
    refine JL_s0 (op_storeN (Ev.rfl' rfl) (Ev.rfl' rfl) cellsT replT nrmT (by rfl) (by rfl) (by rfl)) ?_
    refine JL_nil ?_
    refine JQ_then (JC_seq ?_)
    refine JC_region ?_
    refine JL_1 rfl (op_assign rfl) ?_
    refine JL_nil ?_
    refine JQ_then (JC_block ?_)
    refine JC_loopP (fun z : (Nat × Nat × List Nat) × (Option Addr × Nat) × (Option Addr × Nat) => (1 ≤ z.1.1 ∧ z.1.1 ≤ 16) ∧ innX ks cnt s (Q.drop (k + 1)) ch ps (inn ks s cnt (16 - z.1.1) z.1.1 z.1.2.1 (orb (hdS' ks s).used z.1.2.2) z.1.2.2) = R ∧ z.1.2.1 = ch + z.1.2.2.length ∧ z.1.2.1 ≤ cnt) (fun z => [(1, IsSl tPg ks), (2, IsRef [Is (.int .i64 (cl : Nat)), Is (.int .i64 lines), Is (.int .i64 (cnt : Nat))]), (4, Is (slV (needP ks (ps ++ [(s, z.1.2.2)])).length z.2.1)), (5, Is (slV (freP ks (ps ++ [(s, z.1.2.2)])).length z.2.2)), (6, Is (.slice none 0 0)), (13, Is (.map (some i92))), (14, Is (.map (some i93))), (21, IsSl tI64 Q), (24, Is (.int .i64 (z.1.2.1 : Nat))), (25, Is (.map (some i142))), (27, Is (.int .i64 s)), (28, Is (.pointer (some ⟨i28, 0, none⟩))), (29, Is (.int .i64 (z.1.1 : Nat))), (143, IsSl tI64 Q), (144, Is (.int .i64 (Q.length : Nat))), (145, Is (.int .i64 (k : Nat)))]) (fun z => [mp i92 IsPg (S.map fun s => (s, (headV ks s).1)), mp i93 IsHd (S.map fun s => (s, hdS' ks s)), mp i142 IsHd (chgP ks (ps ++ [(s, z.1.2.2)])), buf (slV (needP ks (ps ++ [(s, z.1.2.2)])).length z.2.1) 3 tI64 (needP ks (ps ++ [(s, z.1.2.2)])), buf (slV (freP ks (ps ++ [(s, z.1.2.2)])).length z.2.2) 25 tPg (freP ks (ps ++ [(s, z.1.2.2)])), blk i28 28 [Is (.int .i64 (hdS' ks s).owner), Is (.int .u32 (UV (orb (hdS' ks s).used z.1.2.2)))]]) (fun z => 16 - z.1.1) ((1, ch, []), b1, b2) ⟨⟨by dsimp only; omega, by dsimp only; omega⟩, hs, rfl, hcl⟩ esubT lessT ?_
    rintro ⟨⟨i, cj, q⟩, a1, a2⟩ ⟨⟨hi1, hi2⟩, hq, hcj, hcjl⟩
    dsimp only at hi1 hi2 hq hcj hcjl ⊢
    have htot := tot_snoc ps s q
    have hnl := need_le ks (ps ++ [(s, q)])
    have hfl := fre_le ks (ps ++ [(s, q)])
    refine JC_seq (JC_seq ?_)
    refine JC_region ?_
    refine JL_1 rfl (op_move rfl) ?_
    refine JL_1 rfl (op_lss (Ev.rfl' rfl) (Ev.rfl' rfl)) ?_
    refine JL_1 rfl (op_move rfl) ?_
    (first | refine JL_i0 rfl rfl rfl (fun hg => (by have hg0 := hg; (try simp at hg); first | exact op_moveE (Ev.sub rfl (SubL.iteT (by first | assumption | (simp; done) | (simp; omega) | (simp_all; done)) SubL.rfl')) | exact op_moveE (Ev.rfl' rfl))) ?_ | refine JL_i rfl rfl rfl (fun hp hg => (by have hpg := Bool.and_eq_true_iff.2 ⟨hp, hg⟩; have hg0 := hg; (try simp at hg); first | exact op_moveE (Ev.sub rfl (SubL.iteT (by first | assumption | (simp; done) | (simp; omega) | (simp_all; done)) SubL.rfl')) | exact op_moveE (Ev.rfl' rfl))) ?_)
    (first | refine JL_i0 rfl rfl rfl (fun hg => (by have hg0 := hg; (try simp at hg); first | exact op_fieldPtr (k := 2) evG rfl rfl rfl rfl | exact op_fieldRefN (k := 2) evG rfl rfl rfl rfl nrmT)) ?_ | refine JL_i rfl rfl rfl (fun hp hg => (by have hpg := Bool.and_eq_true_iff.2 ⟨hp, hg⟩; have hg0 := hg; (try simp at hg); first | exact op_fieldPtr (k := 2) evG rfl rfl rfl rfl | exact op_fieldRefN (k := 2) evG rfl rfl rfl rfl nrmT)) ?_)
    (first | refine JL_i0 rfl rfl rfl (fun hg => (by have hg0 := hg; (try simp at hg); first | exact op_loadRef evG rfl rfl rfl | exact op_loadPtr evG memT (by rfl) (by rfl) (by rfl))) ?_ | refine JL_i rfl rfl rfl (fun hp hg => (by have hpg := Bool.and_eq_true_iff.2 ⟨hp, hg⟩; have hg0 := hg; (try simp at hg); first | exact op_loadRef evG rfl rfl rfl | exact op_loadPtr evG memT (by rfl) (by rfl) (by rfl))) ?_)
    (first | refine JL_i0 rfl rfl rfl (fun hg => (by have hg0 := hg; (try simp at hg); exact op_lss evG evG)) ?_ | refine JL_i rfl rfl rfl (fun hp hg => (by have hpg := Bool.and_eq_true_iff.2 ⟨hp, hg⟩; have hg0 := hg; (try simp at hg); exact op_lss evG evG)) ?_)
    refine JL_1 rfl (op_and (Ev.rfl' rfl) rfl (fun h => by first | exact SubL.rfl' | exact SubL.iteT (by first | (rw [h]; rfl) | (simp_all; done)) SubL.rfl')) ?_
    refine JL_nil ?_
    refine JQ_then ?_
    refine JC_cond (Ev.rfl' rfl) (fun h36 => ?_) (fun h36 => ?_)
    · have hi : i < 16 ∧ cj < cnt := by simp at h36; omega
      clear h36
      rw [inn_step hi.1 hi.2] at hq
      refine JC_skip (JQ_then (JC_seq (JC_block (JC_seq (JC_seq ?_)))))
      refine JC_region ?_
      refine JL_1 rfl (by first | exact op_fieldPtr (k := 1) (Ev.rfl' rfl) rfl rfl rfl rfl | exact op_fieldRefN (k := 1) (Ev.rfl' rfl) rfl rfl rfl rfl nrmT) ?_
      refine JL_1 rfl (by first | exact op_loadRef (Ev.rfl' rfl) rfl rfl rfl | exact op_loadPtr (Ev.rfl' rfl) memT (by rfl) (by rfl) (by rfl)) ?_
      refine JL_1 rfl (op_move rfl) ?_
      refine JL_1 rfl (op_conv (Ev.rfl' rfl) rfl rfl convT) ?_
      refine JL_1 rfl (by first | exact op_shrU32 (k := i) ev32 (Ev.rfl' rfl) (by first | omega | exact UV_nonneg _) idxT | exact op_shr (Ev.rfl' rfl) (Ev.rfl' rfl) (by first | omega | exact UV_nonneg _) rfl) ?_
      refine JL_1 rfl (by first | exact op_bits ev32 ev32 (by simp) (and_u32 _ _) | exact op_bits (Ev.rfl' rfl) (Ev.rfl' rfl) (by simp) rfl) ?_
      refine JL_1 rfl (op_eql (Ev.rfl' rfl) (Ev.rfl' rfl)) ?_
      refine JL_nil ?_
      refine JQ_then ?_
      refine JC_cond (Ev.rfl' rfl) (fun h38 => ?_) (fun h38 => ?_)
      · have g : bitB (orb (hdS' ks s).used q) i = true := h38
        rw [if_pos g] at hq
        have hsk : True := trivial
        clear h38
        refine JC_exit (JQ_then_exit (JQ_hit (JQ_then ?_)))
        refine JC_region ?_
        refine JL_1 rfl (op_move rfl) ?_
        refine JL_1 rfl (op_add (Ev.rfl' rfl) (Ev.rfl' rfl) wrapT) ?_
        refine JL_1 rfl (op_assign rfl) ?_
        refine JL_nil ?_
        first
          | (have := hsk; exact JQ_roundP ((i + 1, cj, q), a1, a2) ⟨⟨by dsimp only; omega, by dsimp only; omega⟩, hq, hcj, hcjl⟩ (by dsimp only; omega) esubT lessT)
          | (rw [hw3, ← hw1, ← hw2]
             rw [← orb_snoc] at hq
             first
               | exact JQ_roundP ((i + 1, cj + 1, q ++ [i]), i193, a2) ⟨⟨by dsimp only; omega, by dsimp only; omega⟩, hq, by dsimp only; rw [List.length_append, List.length_singleton]; omega, by dsimp only; omega⟩ (by dsimp only; omega) esubT lessT
               | exact JQ_roundP ((i + 1, cj + 1, q ++ [i]), a1, i186) ⟨⟨by dsimp only; omega, by dsimp only; omega⟩, hq, by dsimp only; rw [List.length_append, List.length_singleton]; omega, by dsimp only; omega⟩ (by dsimp only; omega) esubT lessT)
      have g : ¬ bitB (orb (hdS' ks s).used q) i = true := fun e => Bool.noConfusion (show false = true from h38.symm.trans e)
      rw [if_neg g] at hq
      clear h38
      refine JC_skip (JQ_then (JC_seq ?_))
      refine JC_region ?_
      refine JL_1 rfl (op_move rfl) ?_
      refine JL_1 rfl (op_call Try.call31 (HeaderLine_ok _) ⟨evS, trivial⟩) ?_
      refine JL_1 rfl (op_move rfl) ?_
      refine JL_1 rfl (op_add (Ev.rfl' rfl) (Ev.rfl' rfl) wrapT) ?_
      refine JL_1 rfl (op_assign rfl) ?_
      refine JL_nil ?_
      refine JQ_then (JC_seq ?_)
      refine JC_region ?_
      refine JL_1 rfl (op_move rfl) ?_
      refine JL_1 rfl (op_move rfl) ?_
      refine JL_1 rfl (op_call Try.call86 (LatestP_ok _ _) ⟨evS, ⟨evS, trivial⟩⟩) ?_
      refine JL_1 rfl (op_move rfl) ?_
      refine JL_1 rfl (op_extract (Ev.rfl' rfl) rfl) ?_
      refine JL_1 rfl (op_extract (Ev.rfl' rfl) rfl) ?_
      (refine JL_n rfl (op_allocN rfl nrmT rfl) ?_; intro i31)
      refine JL_s0 (op_storeN (Ev.rfl' rfl) (Ev.rfl' rfl) cellsT replT nrmT (by rfl) (by rfl) (by rfl)) ?_
      refine JL_1 rfl (op_assign rfl) ?_
      refine JL_nil ?_
      refine JQ_then (JC_seq ?_)
      refine JC_region ?_
      refine JL_1 rfl (by first | exact op_fieldPtr (k := 2) (Ev.rfl' rfl) rfl rfl rfl rfl | exact op_fieldRefN (k := 2) (Ev.rfl' rfl) rfl rfl rfl rfl nrmT) ?_
      refine JL_1 rfl (op_indexArr (k := 0) (sz := 1) (Ev.rfl' rfl) (Ev.rfl' rfl) rfl rfl idxT (by first | decide | omega)) ?_
      refine JL_1 rfl (by first | exact op_loadRef (Ev.rfl' rfl) rfl rfl rfl | exact op_loadPtr (Ev.rfl' rfl) memT (by rfl) (by rfl) (by rfl)) ?_
      refine JL_1 rfl (op_call Try.call87 (UnpackTag_ok _) ⟨evS, trivial⟩) ?_
      (refine JL_n rfl (op_allocN rfl nrmT rfl) ?_; intro i33)
      refine JL_s0 (op_storeN (Ev.rfl' rfl) (Ev.rfl' rfl) cellsT replT nrmT (by rfl) (by rfl) (by rfl)) ?_
      refine JL_nil ?_
      refine JQ_then (JC_seq (JC_block (JC_seq ?_)))
      refine JC_region ?_
      refine JL_1 rfl (op_move rfl) ?_
      refine JL_1 rfl (op_not (Ev.rfl' rfl)) ?_
      refine JL_1 rfl (op_assign rfl) ?_
      refine JL_nil ?_
      refine JQ_then ?_
      refine JC_cond (Ev.rfl' rfl) (fun h43 => ?_) (fun h43 => ?_)
      · have hlb : latB ks (lineV s + (i : Int)) = false := by simpa using h43
        have hpk : pkV ks (lineV s + (i : Int)) = 0 := by unfold pkV; rw [if_neg (by rw [hlb]; simp)]
        rw [if_neg (by rw [hpk]; decide), if_pos hpk] at hq
        clear h43
        have hw1 := need_snoc0 (ps := ps) (q := q) hlb
        have hw2 := fre_snoc0 (ps := ps) (q := q) hlb
        have hw3 := chg_put (ks := ks) (q := q) (i := i) hsn
        refine JC_region ?_
        refine JL_1 rfl (op_move rfl) ?_
        refine JL_1 rfl (op_move rfl) ?_
        refine JL_1 rfl (op_buildSlice (size := 1) (qs := [(0, _)]) rfl rfl rfl ⟨⟨rfl, _, (Ev.rfl' rfl), cellsT⟩, trivial⟩ (by rfl) (by rfl)) ?_
        (refine JL_s rfl (op_app (Ev.rfl' rfl) (fun _ => replT) (by first | exact Ev.rfl' rfl | exact Ev.sub rfl (by first | exact SubL.row (xs := [lineV s + (i : Int)]) (by rfl) (by rfl) subsT | exact subT)) (by exact appT rfl rfl rfl) lenT) ?_; intro i193)
        refine JL_1 rfl (op_assign rfl) ?_
        refine JL_nil ?_
        refine JQ_block (JQ_then (JC_seq ?_))
        refine JC_region ?_
        refine JL_1 rfl (op_move rfl) ?_
        refine JL_1 rfl (op_add (Ev.rfl' rfl) (Ev.rfl' rfl) wrapT) ?_
        refine JL_1 rfl (op_assign rfl) ?_
        refine JL_nil ?_
        refine JQ_then (JC_seq ?_)
        refine JC_region ?_
        refine JL_1 rfl (by first | exact op_fieldPtr (k := 1) (Ev.rfl' rfl) rfl rfl rfl rfl | exact op_fieldRefN (k := 1) (Ev.rfl' rfl) rfl rfl rfl rfl nrmT) ?_
        refine JL_1 rfl (by first | exact op_loadRef (Ev.rfl' rfl) rfl rfl rfl | exact op_loadPtr (Ev.rfl' rfl) memT (by rfl) (by rfl) (by rfl)) ?_
        refine JL_1 rfl (op_move rfl) ?_
        refine JL_1 rfl (op_conv (Ev.rfl' rfl) rfl rfl convT) ?_
        refine JL_1 rfl (by first | exact op_shlU32 (k := i) ev32 (Ev.rfl' rfl) (by first | omega | exact UV_nonneg _) idxT | exact op_shl (Ev.rfl' rfl) (Ev.rfl' rfl) (by first | omega | exact UV_nonneg _) rfl) ?_
        refine JL_1 rfl (by first | exact op_bits ev32 ev32 (by simp) (or_u32 _ _) | exact op_bits (Ev.rfl' rfl) (Ev.rfl' rfl) (by simp) rfl) ?_
        refine JL_1 rfl (by first | exact op_fieldPtr (k := 1) (Ev.rfl' rfl) rfl rfl rfl rfl | exact op_fieldRefN (k := 1) (Ev.rfl' rfl) rfl rfl rfl rfl nrmT) ?_
        refine JL_s0 (op_storeN (Ev.rfl' rfl) (Ev.rfl' rfl) cellsT replT nrmT (by rfl) (by rfl) (by rfl)) ?_
        refine JL_nil ?_
        refine JQ_then ?_
        rw [← orb_snoc]
        refine JC_region ?_
        refine JL_1 rfl (op_move rfl) ?_
        refine JL_1 rfl (op_move rfl) ?_
        refine JL_1 rfl (by first | exact op_loadRefsN (n := 2) (Ev.rfl' rfl) rfl rfl rfl (by rfl) nrmT | exact op_loadPtrsN (n := 2) (Ev.rfl' rfl) memT (by rfl) (by rfl) (by rfl) (by rfl) nrmT) ?_
        refine JL_s0 (op_mapPut (V := IsHd) (v := newHd ks (s, q ++ [i])) (Ev.rfl' rfl) (Ev.rfl' rfl) evS replT rfl rfl) ?_
        refine JL_nil ?_
        refine JQ_block (JQ_then ?_)
        refine JC_region ?_
        refine JL_1 rfl (op_move rfl) ?_
        refine JL_1 rfl (op_add (Ev.rfl' rfl) (Ev.rfl' rfl) wrapT) ?_
        refine JL_1 rfl (op_assign rfl) ?_
        refine JL_nil ?_
        first
          | (have := hsk; exact JQ_roundP ((i + 1, cj, q), a1, a2) ⟨⟨by dsimp only; omega, by dsimp only; omega⟩, hq, hcj, hcjl⟩ (by dsimp only; omega) esubT lessT)
          | (rw [hw3, ← hw1, ← hw2]
             rw [← orb_snoc] at hq
             first
               | exact JQ_roundP ((i + 1, cj + 1, q ++ [i]), i193, a2) ⟨⟨by dsimp only; omega, by dsimp only; omega⟩, hq, by dsimp only; rw [List.length_append, List.length_singleton]; omega, by dsimp only; omega⟩ (by dsimp only; omega) esubT lessT
               | exact JQ_roundP ((i + 1, cj + 1, q ++ [i]), a1, i186) ⟨⟨by dsimp only; omega, by dsimp only; omega⟩, hq, by dsimp only; rw [List.length_append, List.length_singleton]; omega, by dsimp only; omega⟩ (by dsimp only; omega) esubT lessT)
      have hlb : latB ks (lineV s + (i : Int)) = true := by simpa using h43
      clear h43
      refine JC_seq ?_
      refine JC_region ?_
      refine JL_1 rfl (by first | exact op_loadRefsN (n := 9) (Ev.rfl' rfl) rfl rfl rfl (by rfl) nrmT | exact op_loadPtrsN (n := 9) (Ev.rfl' rfl) memT (by rfl) (by rfl) (by rfl) (by rfl) nrmT) ?_
      refine JL_1 rfl (op_call Try.call88 (LockedB_ok _) ⟨evS, trivial⟩) ?_
      refine JL_1 rfl (op_assign rfl) ?_
      refine JL_nil ?_
      refine JQ_then ?_
      refine JC_cond (Ev.rfl' rfl) (fun h45 => ?_) (fun h45 => ?_)
      · have hpk : pkV ks (lineV s + (i : Int)) = 3 := by unfold pkV; rw [if_pos hlb, if_pos h45]
        rw [if_neg (by rw [hpk]; decide), if_neg (by rw [hpk]; decide), hpk] at hq
        have e : R = errA 3 := hq.symm
        subst e
        refine JC_seq ?_
        refine JC_region ?_
        refine JL_1 rfl (op_assign rfl) ?_
        refine JL_1 rfl (op_assign rfl) ?_
        refine JL_1 rfl (op_assign rfl) ?_
        refine JL_1 rfl (op_assign rfl) ?_
        refine JL_1 rfl (op_assign rfl) ?_
        refine JL_nil ?_
        refine JQ_then (JC_ret (JQ_block_ret (JQ_then_ret (JQ_block_ret (JQ_then_ret (JQ_then_ret (JQ_block_ret (JQ_block_ret (JQ_then_ret (JQ_then_ret (JQ_block_ret (JQ_then_ret ?_))))))))))))
        refine JQ_buf0 25 tPg ?_
        refine JQ_buf0 25 tPg ?_
        exact JQ_retP (Bs := [IsSl tI64 [], Is (.slice none 0 0), Is (.slice none 0 0), Is (.int .i64 3), Is (.bool true)]) Try.results40 ⟨⟨_, rfl, subT⟩, ⟨⟨_, rfl, subT⟩, ⟨⟨_, rfl, subT⟩, ⟨⟨_, rfl, subT⟩, ⟨⟨_, rfl, subT⟩, trivial⟩⟩⟩⟩⟩ ((none, 0), (none, 0)) SubL.rfl' lessT
      have g2 : ¬ lockB (latP ks (lineV s + (i : Int))) = true := by rw [h45]; simp
      clear h45
      refine JC_seq ?_
      refine JC_region ?_
      refine JL_1 rfl (by first | exact op_fieldPtr (k := 0) (Ev.rfl' rfl) rfl rfl rfl rfl | exact op_fieldRefN (k := 0) (Ev.rfl' rfl) rfl rfl rfl rfl nrmT) ?_
      refine JL_1 rfl (by first | exact op_loadRef (Ev.rfl' rfl) rfl rfl rfl | exact op_loadPtr (Ev.rfl' rfl) memT (by rfl) (by rfl) (by rfl)) ?_
      refine JL_1 rfl (op_neq (Ev.rfl' rfl) (Ev.rfl' rfl)) ?_
      refine JL_1 rfl (op_assign rfl) ?_
      refine JL_nil ?_
      refine JQ_then ?_
      refine JC_cond (Ev.rfl' rfl) (fun h47 => ?_) (fun h47 => ?_)
      · have g3 : kindV (latP ks (lineV s + (i : Int))).d0 ≠ 0 := by simpa [unpackT] using h47
        have hpk : pkV ks (lineV s + (i : Int)) = 11 := by unfold pkV; rw [if_pos hlb, if_neg g2, if_pos g3]
        rw [if_neg (by rw [hpk]; decide), if_neg (by rw [hpk]; decide), hpk] at hq
        have e : R = errA 11 := hq.symm
        subst e
        refine JC_seq ?_
        refine JC_region ?_
        refine JL_1 rfl (op_assign rfl) ?_
        refine JL_1 rfl (op_assign rfl) ?_
        refine JL_1 rfl (op_assign rfl) ?_
        refine JL_1 rfl (op_assign rfl) ?_
        refine JL_1 rfl (op_assign rfl) ?_
        refine JL_nil ?_
        refine JQ_then (JC_ret (JQ_block_ret (JQ_then_ret (JQ_block_ret (JQ_then_ret (JQ_then_ret (JQ_block_ret (JQ_block_ret (JQ_then_ret (JQ_then_ret (JQ_block_ret (JQ_then_ret ?_))))))))))))
        refine JQ_buf0 25 tPg ?_
        refine JQ_buf0 25 tPg ?_
        exact JQ_retP (Bs := [IsSl tI64 [], Is (.slice none 0 0), Is (.slice none 0 0), Is (.int .i64 11), Is (.bool true)]) Try.results40 ⟨⟨_, rfl, subT⟩, ⟨⟨_, rfl, subT⟩, ⟨⟨_, rfl, subT⟩, ⟨⟨_, rfl, subT⟩, ⟨⟨_, rfl, subT⟩, trivial⟩⟩⟩⟩⟩ ((none, 0), (none, 0)) SubL.rfl' lessT
      have g3 : ¬ kindV (latP ks (lineV s + (i : Int))).d0 ≠ 0 := by simpa [unpackT] using h47
      clear h47
      refine JC_seq ?_
      refine JC_region ?_
      refine JL_1 rfl (by first | exact op_fieldPtr (k := 1) (Ev.rfl' rfl) rfl rfl rfl rfl | exact op_fieldRefN (k := 1) (Ev.rfl' rfl) rfl rfl rfl rfl nrmT) ?_
      refine JL_1 rfl (by first | exact op_loadRef (Ev.rfl' rfl) rfl rfl rfl | exact op_loadPtr (Ev.rfl' rfl) memT (by rfl) (by rfl) (by rfl)) ?_
      refine JL_1 rfl (op_eql (Ev.rfl' rfl) (Ev.rfl' rfl)) ?_
      refine JL_1 rfl (op_assign rfl) ?_
      refine JL_nil ?_
      refine JQ_then ?_
      refine JC_cond (Ev.rfl' rfl) (fun h49 => ?_) (fun h49 => ?_)
      · have g4 : genV (latP ks (lineV s + (i : Int))).d0 = 16777215 := by simpa [unpackT] using h49
        have hpk : pkV ks (lineV s + (i : Int)) = -1 := by unfold pkV; rw [if_pos hlb, if_neg g2, if_neg g3, if_pos g4]
        rw [if_pos hpk] at hq
        have hsk : True := trivial
        clear h49
        refine JC_exit (JQ_block_miss rfl (JQ_then_exit (JQ_hit (JQ_then ?_))))
        refine JC_region ?_
        refine JL_1 rfl (op_move rfl) ?_
        refine JL_1 rfl (op_add (Ev.rfl' rfl) (Ev.rfl' rfl) wrapT) ?_
        refine JL_1 rfl (op_assign rfl) ?_
        refine JL_nil ?_
        first
          | (have := hsk; exact JQ_roundP ((i + 1, cj, q), a1, a2) ⟨⟨by dsimp only; omega, by dsimp only; omega⟩, hq, hcj, hcjl⟩ (by dsimp only; omega) esubT lessT)
          | (rw [hw3, ← hw1, ← hw2]
             rw [← orb_snoc] at hq
             first
               | exact JQ_roundP ((i + 1, cj + 1, q ++ [i]), i193, a2) ⟨⟨by dsimp only; omega, by dsimp only; omega⟩, hq, by dsimp only; rw [List.length_append, List.length_singleton]; omega, by dsimp only; omega⟩ (by dsimp only; omega) esubT lessT
               | exact JQ_roundP ((i + 1, cj + 1, q ++ [i]), a1, i186) ⟨⟨by dsimp only; omega, by dsimp only; omega⟩, hq, by dsimp only; rw [List.length_append, List.length_singleton]; omega, by dsimp only; omega⟩ (by dsimp only; omega) esubT lessT)
      have g4 : ¬ genV (latP ks (lineV s + (i : Int))).d0 = 16777215 := by simpa [unpackT] using h49
      have hpk : pkV ks (lineV s + (i : Int)) = 0 := by unfold pkV; rw [if_pos hlb, if_neg g2, if_neg g3, if_neg g4]
      rw [if_neg (by rw [hpk]; decide), if_pos hpk] at hq
      clear h49
      have hw1 := need_snoc1 (ps := ps) (q := q) hlb
      have hw2 := fre_snoc1 (ps := ps) (q := q) hlb
      have hw3 := chg_put (ks := ks) (q := q) (i := i) hsn
      refine JC_region ?_
      refine JL_1 rfl (op_move rfl) ?_
      refine JL_1 rfl (by first | exact op_loadRefsN (n := 9) (Ev.rfl' rfl) rfl rfl rfl (by rfl) nrmT | exact op_loadPtrsN (n := 9) (Ev.rfl' rfl) memT (by rfl) (by rfl) (by rfl) (by rfl) nrmT) ?_
      refine JL_1 rfl (op_buildSlice (size := 9) (qs := [(0, _)]) rfl rfl rfl ⟨⟨rfl, _, (Ev.rfl' rfl), cellsT⟩, trivial⟩ (by rfl) (by rfl)) ?_
      (refine JL_s rfl (op_app (Ev.rfl' rfl) (fun _ => replT) (by first | exact Ev.rfl' rfl | exact Ev.sub rfl (by first | exact SubL.row (xs := [latP ks (lineV s + (i : Int))]) (by rfl) (by rfl) subsT | exact subT)) (by exact appT rfl rfl rfl) lenT) ?_; intro i186)
      refine JL_1 rfl (op_assign rfl) ?_
      refine JL_nil ?_
      refine JQ_block (JQ_then (JC_seq ?_))
      refine JC_region ?_
      refine JL_1 rfl (op_move rfl) ?_
      refine JL_1 rfl (op_add (Ev.rfl' rfl) (Ev.rfl' rfl) wrapT) ?_
      refine JL_1 rfl (op_assign rfl) ?_
      refine JL_nil ?_
      refine JQ_then (JC_seq ?_)
      refine JC_region ?_
      refine JL_1 rfl (by first | exact op_fieldPtr (k := 1) (Ev.rfl' rfl) rfl rfl rfl rfl | exact op_fieldRefN (k := 1) (Ev.rfl' rfl) rfl rfl rfl rfl nrmT) ?_
      refine JL_1 rfl (by first | exact op_loadRef (Ev.rfl' rfl) rfl rfl rfl | exact op_loadPtr (Ev.rfl' rfl) memT (by rfl) (by rfl) (by rfl)) ?_
      refine JL_1 rfl (op_move rfl) ?_
      refine JL_1 rfl (op_conv (Ev.rfl' rfl) rfl rfl convT) ?_
      refine JL_1 rfl (by first | exact op_shlU32 (k := i) ev32 (Ev.rfl' rfl) (by first | omega | exact UV_nonneg _) idxT | exact op_shl (Ev.rfl' rfl) (Ev.rfl' rfl) (by first | omega | exact UV_nonneg _) rfl) ?_
      refine JL_1 rfl (by first | exact op_bits ev32 ev32 (by simp) (or_u32 _ _) | exact op_bits (Ev.rfl' rfl) (Ev.rfl' rfl) (by simp) rfl) ?_
      refine JL_1 rfl (by first | exact op_fieldPtr (k := 1) (Ev.rfl' rfl) rfl rfl rfl rfl | exact op_fieldRefN (k := 1) (Ev.rfl' rfl) rfl rfl rfl rfl nrmT) ?_
      refine JL_s0 (op_storeN (Ev.rfl' rfl) (Ev.rfl' rfl) cellsT replT nrmT (by rfl) (by rfl) (by rfl)) ?_
      refine JL_nil ?_
      refine JQ_then ?_
      rw [← orb_snoc]
      refine JC_region ?_
      refine JL_1 rfl (op_move rfl) ?_
      refine JL_1 rfl (op_move rfl) ?_
      refine JL_1 rfl (by first | exact op_loadRefsN (n := 2) (Ev.rfl' rfl) rfl rfl rfl (by rfl) nrmT | exact op_loadPtrsN (n := 2) (Ev.rfl' rfl) memT (by rfl) (by rfl) (by rfl) (by rfl) nrmT) ?_
      refine JL_s0 (op_mapPut (V := IsHd) (v := newHd ks (s, q ++ [i])) (Ev.rfl' rfl) (Ev.rfl' rfl) evS replT rfl rfl) ?_
      refine JL_nil ?_
      refine JQ_block (JQ_then ?_)
      refine JC_region ?_
      refine JL_1 rfl (op_move rfl) ?_
      refine JL_1 rfl (op_add (Ev.rfl' rfl) (Ev.rfl' rfl) wrapT) ?_
      refine JL_1 rfl (op_assign rfl) ?_
      refine JL_nil ?_
      first
        | (have := hsk; exact JQ_roundP ((i + 1, cj, q), a1, a2) ⟨⟨by dsimp only; omega, by dsimp only; omega⟩, hq, hcj, hcjl⟩ (by dsimp only; omega) esubT lessT)
        | (rw [hw3, ← hw1, ← hw2]
           rw [← orb_snoc] at hq
           first
             | exact JQ_roundP ((i + 1, cj + 1, q ++ [i]), i193, a2) ⟨⟨by dsimp only; omega, by dsimp only; omega⟩, hq, by dsimp only; rw [List.length_append, List.length_singleton]; omega, by dsimp only; omega⟩ (by dsimp only; omega) esubT lessT
             | exact JQ_roundP ((i + 1, cj + 1, q ++ [i]), a1, i186) ⟨⟨by dsimp only; omega, by dsimp only; omega⟩, hq, by dsimp only; rw [List.length_append, List.length_singleton]; omega, by dsimp only; omega⟩ (by dsimp only; omega) esubT lessT)
    have hi : ¬ (i < 16 ∧ cj < cnt) := by simp at h36; omega
    clear h36
    rw [inn_stop hi] at hq
    have hq2 : excA ks cnt (outS ks cnt (Q.drop (k + 1)) cj (ps ++ [(s, q)])) = R := by rw [hcj]; exact hq
    refine JC_exit (JQ_then_exit (JQ_then_exit (JQ_hit (JQ_block (JQ_then ?_)))))
    refine JC_region ?_
    refine JL_1 rfl (op_add (Ev.rfl' rfl) (Ev.rfl' rfl) wrapT) ?_
    refine JL_1 rfl (op_move rfl) ?_
    refine JL_nil ?_
    exact JQ_roundP ((k + 1, cj, ps ++ [(s, q)]), a1, a2) ⟨by dsimp only; omega, hq2, by dsimp only; rw [List.map_append, hmp, List.take_add_one, hz]; rfl, by dsimp only; omega, hcjl⟩ (by dsimp only; omega) esubT lessT
  have hke : k = Q.length := by have := of_decide_eq_false h32; omega
  subst hke
  clear h32
  rw [List.drop_length] at hs
  rw [List.take_length] at hmp
  have hs3 : finA ks cnt ps = R := hs
  clear hs
  refine JC_exit (JQ_then_exit (JQ_then_exit (JQ_hit (JQ_then (JC_seq (JC_seq ?_))))))
  refine JC_region ?_
  refine JL_1 rfl (op_move rfl) ?_
  refine JL_1 rfl (by first | exact op_fieldPtr (k := 2) (Ev.rfl' rfl) rfl rfl rfl rfl | exact op_fieldRefN (k := 2) (Ev.rfl' rfl) rfl rfl rfl rfl nrmT) ?_
  refine JL_1 rfl (by first | exact op_loadRef (Ev.rfl' rfl) rfl rfl rfl | exact op_loadPtr (Ev.rfl' rfl) memT (by rfl) (by rfl) (by rfl)) ?_
  refine JL_1 rfl (op_lss (Ev.rfl' rfl) (Ev.rfl' rfl)) ?_
  refine JL_nil ?_
  refine JQ_then ?_
  refine JC_cond (Ev.rfl' rfl) (fun h54 => ?_) (fun h54 => ?_)
  · have g : totP ps < cnt := by have := of_decide_eq_true h54; omega
    have e : R = errA 12 := by rw [← hs3]; unfold finA; rw [if_pos g]
    subst e
    refine JC_seq ?_
    refine JC_region ?_
    refine JL_1 rfl (op_assign rfl) ?_
    refine JL_1 rfl (op_assign rfl) ?_
    refine JL_1 rfl (op_assign rfl) ?_
    refine JL_1 rfl (op_assign rfl) ?_
    refine JL_1 rfl (op_assign rfl) ?_
    refine JL_nil ?_
    refine JQ_then (JC_ret (JQ_then_ret ?_))
    refine JQ_buf0 25 tPg ?_
    refine JQ_buf0 25 tPg ?_
    exact JQ_retP (Bs := [IsSl tI64 [], Is (.slice none 0 0), Is (.slice none 0 0), Is (.int .i64 12), Is (.bool true)]) Try.results40 ⟨⟨_, rfl, subT⟩, ⟨⟨_, rfl, subT⟩, ⟨⟨_, rfl, subT⟩, ⟨⟨_, rfl, subT⟩, ⟨⟨_, rfl, subT⟩, trivial⟩⟩⟩⟩⟩ ((none, 0), (none, 0)) SubL.rfl' lessT
  have g : ¬ totP ps < cnt := by have := of_decide_eq_false h54; omega
  clear h54
  refine JC_skip (JQ_then (JC_seq (JC_seq ?_)))
  refine JC_region ?_
  refine JL_1 rfl (op_move rfl) ?_
  refine JL_1 rfl (by first | exact op_len (Ev.rfl' rfl) rfl | exact op_lenLit (Ev.rfl' rfl) rfl) ?_
  refine JL_1 rfl (op_gtr (Ev.rfl' rfl) (Ev.rfl' rfl)) ?_
  refine JL_nil ?_
  refine JQ_then ?_
  refine JC_cond (Ev.rfl' rfl) (fun h56 => ?_) (fun h56 => ?_)
  · have g2 : 0 < (needP ks ps).length := by have := of_decide_eq_true h56; omega
    have e : R = (needP ks ps, [], [], 0, false) := by rw [← hs3]; unfold finA; rw [if_neg g, if_pos g2]
    subst e
    refine JC_seq ?_
    refine JC_region ?_
    refine JL_1 rfl (op_move rfl) ?_
    refine JL_1 rfl (op_assign rfl) ?_
    refine JL_1 rfl (op_assign rfl) ?_
    refine JL_1 rfl (op_assign rfl) ?_
    refine JL_1 rfl (op_assign rfl) ?_
    refine JL_1 rfl (op_assign rfl) ?_
    refine JL_nil ?_
    refine JQ_then (JC_ret (JQ_then_ret ?_))
    refine JQ_freeze hX (v := slV (needP ks ps).length b1) replT ?_
    refine JQ_buf0 25 tPg ?_
    refine JQ_buf0 25 tPg ?_
    exact JQ_retP (Bs := [IsSl tI64 (needP ks ps), Is (.slice none 0 0), Is (.slice none 0 0), Is (.int .i64 0), Is (.bool false)]) Try.results40 ⟨⟨_, rfl, subT⟩, ⟨⟨_, rfl, subT⟩, ⟨⟨_, rfl, subT⟩, ⟨⟨_, rfl, subT⟩, ⟨⟨_, rfl, subT⟩, trivial⟩⟩⟩⟩⟩ ((none, 0), (none, 0)) SubL.rfl' lessT
  have g2 : ¬ 0 < (needP ks ps).length := by have := of_decide_eq_false h56; omega
  clear h56
  have e : R = ([], freP ks ps, wriP ks ps, 0, true) := by rw [← hs3]; unfold finA; rw [if_neg g, if_neg g2]
  subst e
  clear hs3
  have hpl : ps.length = Q.length := by rw [← hmp, List.length_map]
  have hnp : (ps.map Prod.fst).Nodup := by rw [hmp]; exact hQs.1
  have hfl := fre_le ks ps
  refine JC_skip (JQ_then (JC_seq (JC_seq ?_)))
  refine JC_region ?_
  refine JL_1 rfl (op_move rfl) ?_
  refine JL_1 rfl (by first | exact op_len (Ev.rfl' rfl) rfl | exact op_lenLit (Ev.rfl' rfl) rfl) ?_
  refine JL_1 rfl (op_move rfl) ?_
  refine JL_nil ?_
  refine JQ_then (JC_block ?_)
  refine JC_buf0 25 tPg ?_
  refine JC_loopP (fun z : Nat × (Option Addr × Nat) => z.1 ≤ Q.length) (fun z => [(5, Is (slV (freP ks ps).length b2)), (6, Is (slV (wriP ks (ps.take z.1)).length z.2)), (13, Is (.map (some i92))), (25, Is (.map (some i142))), (226, IsSl tI64 Q), (227, Is (.int .i64 (Q.length : Nat))), (228, Is (.int .i64 (z.1 : Nat)))]) (fun z => [mp i92 IsPg (S.map fun s => (s, (headV ks s).1)), mp i142 IsHd (chgP ks ps), buf (slV (freP ks ps).length b2) 25 tPg (freP ks ps), buf (slV (wriP ks (ps.take z.1)).length z.2) 25 tPg (wriP ks (ps.take z.1))]) (fun z => Q.length - z.1) (0, (none, 0)) (Nat.zero_le _) esubT lessT ?_
  rintro ⟨k, a3⟩ hk
  dsimp only at hk ⊢
  refine JC_seq ?_
  refine JC_region ?_
  refine JL_1 rfl (op_lss (Ev.rfl' rfl) (Ev.rfl' rfl)) ?_
  refine JL_nil ?_
  refine JQ_then (JC_seq ?_)
  refine JC_cond (Ev.rfl' rfl) (fun h59 => ?_) (fun h59 => ?_)
  · have hlt : k < Q.length := by have := of_decide_eq_true h59; omega
    clear h59
    obtain ⟨s, hz⟩ : ∃ z, Q[k]? = some z := ⟨Q[k], List.getElem?_eq_getElem hlt⟩
    have hmg := mget_map (f := fun s => (headV ks s).1) (hQs.2 s (List.mem_of_getElem? hz))
    obtain ⟨q, hzq⟩ : ∃ q, ps[k]? = some (s, q) := by
      have h1 : ps[k]? = some ps[k] := List.getElem?_eq_getElem (by omega)
      have h2 : (ps.map Prod.fst)[k]? = some s := by rw [hmp]; exact hz
      rw [List.getElem?_map, h1] at h2
      have h3 : ps[k].1 = s := Option.some.inj h2
      exact ⟨ps[k].2, by rw [h1, ← h3]⟩
    have hcg := chg_get (ks := ks) hnp hzq
    have hwt := wri_take (ks := ks) hzq
    have hwl : (wriP ks (ps.take k)).length ≤ 9 := by
      have h1 := wri_le ks (ps.take k)
      have h2 := List.length_take_le k ps
      omega
    refine JC_skip (JQ_then (JC_seq (JC_block (JC_seq ?_))))
    refine JC_region ?_
    refine JL_1 rfl (by first | exact op_index (j := _) (Ev.rfl' rfl) (Ev.rfl' rfl) rfl rfl (by first | rfl | omega) hz | exact op_index (j := _) (Ev.rfl' rfl) (Ev.rfl' rfl) rfl rfl (by first | rfl | omega) (by assumption)) ?_
    refine JL_1 rfl (by first | exact op_loadRef (Ev.rfl' rfl) rfl rfl rfl | exact op_loadPtr (Ev.rfl' rfl) memT (by rfl) (by rfl) (by rfl)) ?_
    refine JL_1 rfl (op_assign rfl) ?_
    refine JL_nil ?_
    refine JQ_then (JC_seq ?_)
    refine JC_region ?_
    refine JL_1 rfl (op_move rfl) ?_
    refine JL_1 rfl (op_move rfl) ?_
    refine JL_1 rfl (op_lookup2D Hd.nil hd_zero (Ev.rfl' rfl) memT (Ev.rfl' rfl) rfl rfl rfl) ?_
    refine JL_1 rfl (op_move rfl) ?_
    refine JL_1 rfl (op_extract (Ev.rfl' rfl) rfl) ?_
    refine JL_1 rfl (op_extract (Ev.rfl' rfl) rfl) ?_
    (refine JL_n rfl (op_allocN rfl nrmT rfl) ?_; intro i36)
    refine JL_s0 (op_storeN (Ev.rfl' rfl) (Ev.rfl' rfl) cellsT replT nrmT (by rfl) (by rfl) (by rfl)) ?_
    refine JL_1 rfl (op_assign rfl) ?_
    refine JL_nil ?_
    refine JQ_then (JC_seq ?_)
    refine JC_region ?_
    refine JL_1 rfl (op_move rfl) ?_
    refine JL_nil ?_
    refine JQ_then ?_
    refine JC_cond (Ev.rfl' rfl) (fun h62 => ?_) (fun h62 => ?_)
    · have hqn : ¬ q = [] := fun e => by rw [hcg, if_pos e] at h62; cases h62
      rw [if_neg hqn] at hcg hwt
      rw [hcg]
      clear h62
      refine JC_seq ?_
      refine JC_region ?_
      refine JL_1 rfl (op_move rfl) ?_
      refine JL_1 rfl (op_move rfl) ?_
      refine JL_1 rfl (op_lookupS hmg (Ev.rfl' rfl) memT (Ev.rfl' rfl) rfl rfl rfl) ?_
      refine JL_1 rfl (by first | exact op_loadRefsN (n := 2) (Ev.rfl' rfl) rfl rfl rfl (by rfl) nrmT | exact op_loadPtrsN (n := 2) (Ev.rfl' rfl) memT (by rfl) (by rfl) (by rfl) (by rfl) nrmT) ?_
      refine JL_1 rfl (op_call Try.call22 (WriteHeader_ok _ _) ⟨evS, ⟨evS, trivial⟩⟩) ?_
      refine JL_1 rfl (op_move rfl) ?_
      refine JL_1 rfl (op_extract (Ev.rfl' rfl) rfl) ?_
      refine JL_1 rfl (op_extract (Ev.rfl' rfl) rfl) ?_
      (refine JL_n rfl (op_allocN rfl nrmT rfl) ?_; intro i38)
      refine JL_s0 (op_storeN (Ev.rfl' rfl) (Ev.rfl' rfl) cellsT replT nrmT (by rfl) (by rfl) (by rfl)) ?_
      refine JL_1 rfl (op_assign rfl) ?_
      refine JL_nil ?_
      refine JQ_then ?_
      refine JC_region ?_
      refine JL_1 rfl (op_move rfl) ?_
      refine JL_1 rfl (by first | exact op_loadRefsN (n := 9) (Ev.rfl' rfl) rfl rfl rfl (by rfl) nrmT | exact op_loadPtrsN (n := 9) (Ev.rfl' rfl) memT (by rfl) (by rfl) (by rfl) (by rfl) nrmT) ?_
      refine JL_1 rfl (op_buildSlice (size := 9) (qs := [(0, _)]) rfl rfl rfl ⟨⟨rfl, _, (Ev.rfl' rfl), cellsT⟩, trivial⟩ (by rfl) (by rfl)) ?_
      (refine JL_s rfl (op_app (Ev.rfl' rfl) (fun _ => replT) (by first | exact Ev.rfl' rfl | exact Ev.sub rfl (by first | exact SubL.row (xs := [(writeH (headV ks s).1 (newHd ks (s, q))).1]) (by rfl) (by rfl) subsT | exact subT)) (by exact appT rfl rfl rfl) lenT) ?_; intro i250)
      refine JL_1 rfl (op_assign rfl) ?_
      refine JL_nil ?_
      refine JQ_block (JQ_then ?_)
      refine JC_region ?_
      refine JL_1 rfl (op_add (Ev.rfl' rfl) (Ev.rfl' rfl) wrapT) ?_
      refine JL_1 rfl (op_move rfl) ?_
      refine JL_nil ?_
      rw [← hwt]
      first | exact JQ_roundP (k + 1, i250) (by dsimp only; omega) (by dsimp only; omega) esubT lessT | exact JQ_roundP (k + 1, a3) (by dsimp only; omega) (by dsimp only; omega) esubT lessT
    have hqn : q = [] := Classical.byContradiction fun e => by rw [hcg, if_neg e] at h62; cases h62
    rw [if_pos hqn] at hwt
    clear h62
    refine JC_skip (JQ_block (JQ_then ?_))
    refine JC_region ?_
    refine JL_1 rfl (op_add (Ev.rfl' rfl) (Ev.rfl' rfl) wrapT) ?_
    refine JL_1 rfl (op_move rfl) ?_
    refine JL_nil ?_
    rw [← hwt]
    first | exact JQ_roundP (k + 1, i250) (by dsimp only; omega) (by dsimp only; omega) esubT lessT | exact JQ_roundP (k + 1, a3) (by dsimp only; omega) (by dsimp only; omega) esubT lessT
  have hke : k = ps.length := by have := of_decide_eq_false h59; omega
  subst hke
  clear h59
  rw [List.take_length]
  refine JC_exit (JQ_then_exit (JQ_then_exit (JQ_hit (JQ_then (JC_seq ?_)))))
  refine JC_region ?_
  refine JL_1 rfl (op_move rfl) ?_
  refine JL_1 rfl (op_move rfl) ?_
  refine JL_1 rfl (op_assign rfl) ?_
  refine JL_1 rfl (op_assign rfl) ?_
  refine JL_1 rfl (op_assign rfl) ?_
  refine JL_1 rfl (op_assign rfl) ?_
  refine JL_1 rfl (op_assign rfl) ?_
  refine JL_nil ?_
  refine JQ_then (JC_ret ?_)
  exact JQ_retP (Bs := [IsSl tI64 [], Is (slV (freP ks ps).length b2), Is (slV (wriP ks ps).length a3), Is (.int .i64 0), Is (.bool true)]) Try.results40 ⟨⟨_, rfl, subT⟩, ⟨⟨_, rfl, subT⟩, ⟨⟨_, rfl, subT⟩, ⟨⟨_, rfl, subT⟩, ⟨⟨_, rfl, subT⟩, trivial⟩⟩⟩⟩⟩ (b2, a3) SubL.rfl' lessT
end Go.Proofs.Ytpfojangcgffkaa

/- Contracts: a segment taken; the written pages are the caller's own. Own work. -/
namespace Go.Proofs.Ytpfojangcgffkaa
open Go.RowKit
set_option linter.unusedVariables false
set_option linter.unusedSimpArgs false
set_option maxRecDepth 100000
-- segment.Acquire: function 38
set_option maxHeartbeats 400000 in
theorem AcquireF_ok (ks : List Pg) (cl : Nat) (inc lines : Int) (hc : cl < 6) (hi : 1 ≤ inc ∧ inc ≤ 59) (hz : sizeB lines = true) (h2m : ¬ 0 < (missV ks [98 + (cl : Int)]).length → (missV ks (hdrL lines)).length ≤ 1)
    (hlt : sB ks cl (countN lines) = true → (mineW ks cl inc (sV ks cl (countN lines))).l < (headW ks cl (sV ks cl (countN lines))).l) :
    Fn Try.prog 38 [IsAgg [Is (.int .i64 (cl : Nat)), Is (.int .i64 inc), Is (.int .i64 lines), Is (.int .i64 (-1))], IsSl tPg ks] [] (fun i : Option Addr × Nat => IsTup [IsSl tI64 (acqV ks cl inc lines).1, Is (slV (acqV ks cl inc lines).2.1.length i), Is (.int .i64 ((acqV ks cl inc lines).2.2.1 : Nat)), Is (.int .i64 (acqV ks cl inc lines).2.2.2.1), Is (.bool (acqV ks cl inc lines).2.2.2.2)]) (fun i => [buf (slV (acqV ks cl inc lines).2.1.length i) 25 tPg (acqV ks cl inc lines).2.1]) := by
  have hcn := countN_le lines
  have hm1 := miss1 ks (98 + (cl : Int))
  have hol := ownV_len 511#32 (countN lines)
  have hcb : clientB (cl : Nat) = true := by unfold clientB; simp; omega
  refine Fn.enterN Try.func38 Try.ntmps38 rfl rfl ?_
  intro c hX
  refine JC_seq ?_
  refine JC_region ?_
  (refine JL_n rfl (op_box (Ev.rfl' rfl) cellsT) ?_; intro i2)
  refine JL_1 rfl (op_assign rfl) ?_
  refine JL_1 rfl (op_assign rfl) ?_
  refine JL_1 rfl (op_assign rfl) ?_
  refine JL_1 rfl (op_assign rfl) ?_
  refine JL_1 rfl (op_assign rfl) ?_
  refine JL_nil ?_
  refine JQ_then (JC_seq (JC_seq ?_))
  refine JC_region ?_
  refine JL_1 rfl (by first | exact op_fieldPtr (k := 0) (Ev.rfl' rfl) rfl rfl rfl rfl | exact op_fieldRefN (k := 0) (Ev.rfl' rfl) rfl rfl rfl rfl nrmT) ?_
  refine JL_1 rfl (by first | exact op_loadRef (Ev.rfl' rfl) rfl rfl rfl | exact op_loadPtr (Ev.rfl' rfl) memT (by rfl) (by rfl) (by rfl)) ?_
  refine JL_1 rfl (op_call Try.call78 (isClient_ok _) ⟨evS, trivial⟩) ?_
  refine JL_1 rfl (op_not (Ev.rfl' rfl)) ?_
  refine JL_1 rfl (op_move rfl) ?_
  (first | refine JL_i0 rfl rfl rfl (fun hg => (by have hg0 := hg; (try simp at hg); first | exact op_fieldPtr (k := 1) evG rfl rfl rfl rfl | exact op_fieldRefN (k := 1) evG rfl rfl rfl rfl nrmT)) ?_ | refine JL_i rfl rfl rfl (fun hp hg => (by have hpg := Bool.and_eq_true_iff.2 ⟨hp, hg⟩; have hg0 := hg; (try simp at hg); first | exact op_fieldPtr (k := 1) evG rfl rfl rfl rfl | exact op_fieldRefN (k := 1) evG rfl rfl rfl rfl nrmT)) ?_)
  (first | refine JL_i0 rfl rfl rfl (fun hg => (by have hg0 := hg; (try simp at hg); first | exact op_loadRef evG rfl rfl rfl | exact op_loadPtr evG memT (by rfl) (by rfl) (by rfl))) ?_ | refine JL_i rfl rfl rfl (fun hp hg => (by have hpg := Bool.and_eq_true_iff.2 ⟨hp, hg⟩; have hg0 := hg; (try simp at hg); first | exact op_loadRef evG rfl rfl rfl | exact op_loadPtr evG memT (by rfl) (by rfl) (by rfl))) ?_)
  (first | refine JL_i0 rfl rfl rfl (fun hg => (by have hg0 := hg; (try simp at hg); exact op_lss evG evG)) ?_ | refine JL_i rfl rfl rfl (fun hp hg => (by have hpg := Bool.and_eq_true_iff.2 ⟨hp, hg⟩; have hg0 := hg; (try simp at hg); exact op_lss evG evG)) ?_)
  refine JL_1 rfl (op_or (Ev.rfl' rfl) rfl (fun h => by first | exact SubL.rfl' | exact SubL.iteT (by first | (rw [h]; rfl) | (simp_all; done)) SubL.rfl')) ?_
  refine JL_1 rfl (op_move rfl) ?_
  (first | refine JL_i0 rfl rfl rfl (fun hg => (by have hg0 := hg; (try simp at hg); first | exact op_fieldPtr (k := 1) evG rfl rfl rfl rfl | exact op_fieldRefN (k := 1) evG rfl rfl rfl rfl nrmT)) ?_ | refine JL_i rfl rfl rfl (fun hp hg => (by have hpg := Bool.and_eq_true_iff.2 ⟨hp, hg⟩; have hg0 := hg; (try simp at hg); first | exact op_fieldPtr (k := 1) evG rfl rfl rfl rfl | exact op_fieldRefN (k := 1) evG rfl rfl rfl rfl nrmT)) ?_)
  (first | refine JL_i0 rfl rfl rfl (fun hg => (by have hg0 := hg; (try simp at hg); first | exact op_loadRef evG rfl rfl rfl | exact op_loadPtr evG memT (by rfl) (by rfl) (by rfl))) ?_ | refine JL_i rfl rfl rfl (fun hp hg => (by have hpg := Bool.and_eq_true_iff.2 ⟨hp, hg⟩; have hg0 := hg; (try simp at hg); first | exact op_loadRef evG rfl rfl rfl | exact op_loadPtr evG memT (by rfl) (by rfl) (by rfl))) ?_)
  (first | refine JL_i0 rfl rfl rfl (fun hg => (by have hg0 := hg; (try simp at hg); exact op_gtr evG evG)) ?_ | refine JL_i rfl rfl rfl (fun hp hg => (by have hpg := Bool.and_eq_true_iff.2 ⟨hp, hg⟩; have hg0 := hg; (try simp at hg); exact op_gtr evG evG)) ?_)
  refine JL_1 rfl (op_or (Ev.rfl' rfl) rfl (fun h => by first | exact SubL.rfl' | exact SubL.iteT (by first | (rw [h]; rfl) | (simp_all; done)) SubL.rfl')) ?_
  refine JL_1 rfl (op_move rfl) ?_
  (first | refine JL_i0 rfl rfl rfl (fun hg => (by have hg0 := hg; (try simp at hg); first | exact op_fieldPtr (k := 2) evG rfl rfl rfl rfl | exact op_fieldRefN (k := 2) evG rfl rfl rfl rfl nrmT)) ?_ | refine JL_i rfl rfl rfl (fun hp hg => (by have hpg := Bool.and_eq_true_iff.2 ⟨hp, hg⟩; have hg0 := hg; (try simp at hg); first | exact op_fieldPtr (k := 2) evG rfl rfl rfl rfl | exact op_fieldRefN (k := 2) evG rfl rfl rfl rfl nrmT)) ?_)
  (first | refine JL_i0 rfl rfl rfl (fun hg => (by have hg0 := hg; (try simp at hg); first | exact op_loadRef evG rfl rfl rfl | exact op_loadPtr evG memT (by rfl) (by rfl) (by rfl))) ?_ | refine JL_i rfl rfl rfl (fun hp hg => (by have hpg := Bool.and_eq_true_iff.2 ⟨hp, hg⟩; have hg0 := hg; (try simp at hg); first | exact op_loadRef evG rfl rfl rfl | exact op_loadPtr evG memT (by rfl) (by rfl) (by rfl))) ?_)
  (first | refine JL_i0 rfl rfl rfl (fun hg => (by have hg0 := hg; (try simp at hg); exact op_call Try.call75 (isSize_ok _) ⟨evS, trivial⟩)) ?_ | refine JL_i rfl rfl rfl (fun hp hg => (by have hpg := Bool.and_eq_true_iff.2 ⟨hp, hg⟩; have hg0 := hg; (try simp at hg); exact op_call Try.call75 (isSize_ok _) ⟨evS, trivial⟩)) ?_)
  (first | refine JL_i0 rfl rfl rfl (fun hg => (by have hg0 := hg; (try simp at hg); exact op_not evG)) ?_ | refine JL_i rfl rfl rfl (fun hp hg => (by have hpg := Bool.and_eq_true_iff.2 ⟨hp, hg⟩; have hg0 := hg; (try simp at hg); exact op_not evG)) ?_)
  refine JL_1 rfl (op_or (Ev.rfl' rfl) rfl (fun h => by first | exact SubL.rfl' | exact SubL.iteT (by first | (rw [h]; rfl) | (simp_all; done)) SubL.rfl')) ?_
  refine JL_1 rfl (op_move rfl) ?_
  (first | refine JL_i0 rfl rfl rfl (fun hg => (by have hg0 := hg; (try simp at hg); first | exact op_fieldPtr (k := 3) evG rfl rfl rfl rfl | exact op_fieldRefN (k := 3) evG rfl rfl rfl rfl nrmT)) ?_ | refine JL_i rfl rfl rfl (fun hp hg => (by have hpg := Bool.and_eq_true_iff.2 ⟨hp, hg⟩; have hg0 := hg; (try simp at hg); first | exact op_fieldPtr (k := 3) evG rfl rfl rfl rfl | exact op_fieldRefN (k := 3) evG rfl rfl rfl rfl nrmT)) ?_)
  (first | refine JL_i0 rfl rfl rfl (fun hg => (by have hg0 := hg; (try simp at hg); first | exact op_loadRef evG rfl rfl rfl | exact op_loadPtr evG memT (by rfl) (by rfl) (by rfl))) ?_ | refine JL_i rfl rfl rfl (fun hp hg => (by have hpg := Bool.and_eq_true_iff.2 ⟨hp, hg⟩; have hg0 := hg; (try simp at hg); first | exact op_loadRef evG rfl rfl rfl | exact op_loadPtr evG memT (by rfl) (by rfl) (by rfl))) ?_)
  (first | refine JL_i0 rfl rfl rfl (fun hg => (by have hg0 := hg; (try simp at hg); exact op_lss evG evG)) ?_ | refine JL_i rfl rfl rfl (fun hp hg => (by have hpg := Bool.and_eq_true_iff.2 ⟨hp, hg⟩; have hg0 := hg; (try simp at hg); exact op_lss evG evG)) ?_)
  refine JL_1 rfl (op_or (Ev.rfl' rfl) rfl (fun h => by first | exact SubL.rfl' | exact SubL.iteT (by first | (rw [h]; rfl) | (simp_all; done)) SubL.rfl')) ?_
  refine JL_1 rfl (op_move rfl) ?_
  (first | refine JL_i0 rfl rfl rfl (fun hg => (by have hg0 := hg; (try simp at hg); first | exact op_fieldPtr (k := 3) evG rfl rfl rfl rfl | exact op_fieldRefN (k := 3) evG rfl rfl rfl rfl nrmT)) ?_ | refine JL_i rfl rfl rfl (fun hp hg => (by have hpg := Bool.and_eq_true_iff.2 ⟨hp, hg⟩; have hg0 := hg; (try simp at hg); first | exact op_fieldPtr (k := 3) evG rfl rfl rfl rfl | exact op_fieldRefN (k := 3) evG rfl rfl rfl rfl nrmT)) ?_)
  (first | refine JL_i0 rfl rfl rfl (fun hg => (by have hg0 := hg; (try simp at hg); first | exact op_loadRef evG rfl rfl rfl | exact op_loadPtr evG memT (by rfl) (by rfl) (by rfl))) ?_ | refine JL_i rfl rfl rfl (fun hp hg => (by have hpg := Bool.and_eq_true_iff.2 ⟨hp, hg⟩; have hg0 := hg; (try simp at hg); first | exact op_loadRef evG rfl rfl rfl | exact op_loadPtr evG memT (by rfl) (by rfl) (by rfl))) ?_)
  (first | refine JL_i0 rfl rfl rfl (fun hg => (by have hg0 := hg; (try simp at hg); exact op_geq evG evG)) ?_ | refine JL_i rfl rfl rfl (fun hp hg => (by have hpg := Bool.and_eq_true_iff.2 ⟨hp, hg⟩; have hg0 := hg; (try simp at hg); exact op_geq evG evG)) ?_)
  refine JL_1 rfl (op_or (Ev.rfl' rfl) rfl (fun h => by first | exact SubL.rfl' | exact SubL.iteT (by first | (rw [h]; rfl) | (simp_all; done)) SubL.rfl')) ?_
  refine JL_1 rfl (op_move rfl) ?_
  (first | refine JL_i0 rfl rfl rfl (fun hg => (by have hg0 := hg; (try simp at hg); first | exact op_fieldPtr (k := 3) evG rfl rfl rfl rfl | exact op_fieldRefN (k := 3) evG rfl rfl rfl rfl nrmT)) ?_ | refine JL_i rfl rfl rfl (fun hp hg => (by have hpg := Bool.and_eq_true_iff.2 ⟨hp, hg⟩; have hg0 := hg; (try simp at hg); first | exact op_fieldPtr (k := 3) evG rfl rfl rfl rfl | exact op_fieldRefN (k := 3) evG rfl rfl rfl rfl nrmT)) ?_)
  (first | refine JL_i0 rfl rfl rfl (fun hg => (by have hg0 := hg; (try simp at hg); first | exact op_loadRef evG rfl rfl rfl | exact op_loadPtr evG memT (by rfl) (by rfl) (by rfl))) ?_ | refine JL_i rfl rfl rfl (fun hp hg => (by have hpg := Bool.and_eq_true_iff.2 ⟨hp, hg⟩; have hg0 := hg; (try simp at hg); first | exact op_loadRef evG rfl rfl rfl | exact op_loadPtr evG memT (by rfl) (by rfl) (by rfl))) ?_)
  (first | refine JL_i0 rfl rfl rfl (fun hg => (by have hg0 := hg; (try simp at hg); first | exact op_fieldPtr (k := 0) evG rfl rfl rfl rfl | exact op_fieldRefN (k := 0) evG rfl rfl rfl rfl nrmT)) ?_ | refine JL_i rfl rfl rfl (fun hp hg => (by have hpg := Bool.and_eq_true_iff.2 ⟨hp, hg⟩; have hg0 := hg; (try simp at hg); first | exact op_fieldPtr (k := 0) evG rfl rfl rfl rfl | exact op_fieldRefN (k := 0) evG rfl rfl rfl rfl nrmT)) ?_)
  (first | refine JL_i0 rfl rfl rfl (fun hg => (by have hg0 := hg; (try simp at hg); first | exact op_loadRef evG rfl rfl rfl | exact op_loadPtr evG memT (by rfl) (by rfl) (by rfl))) ?_ | refine JL_i rfl rfl rfl (fun hp hg => (by have hpg := Bool.and_eq_true_iff.2 ⟨hp, hg⟩; have hg0 := hg; (try simp at hg); first | exact op_loadRef evG rfl rfl rfl | exact op_loadPtr evG memT (by rfl) (by rfl) (by rfl))) ?_)
  (first | refine JL_i0 rfl rfl rfl (fun hg => (by have hg0 := hg; (try simp at hg); exact op_eql evG evG)) ?_ | refine JL_i rfl rfl rfl (fun hp hg => (by have hpg := Bool.and_eq_true_iff.2 ⟨hp, hg⟩; have hg0 := hg; (try simp at hg); exact op_eql evG evG)) ?_)
  refine JL_1 rfl (op_or (Ev.rfl' rfl) rfl (fun h => by first | exact SubL.rfl' | exact SubL.iteT (by first | (rw [h]; rfl) | (simp_all; done)) SubL.rfl')) ?_
  refine JL_nil ?_
  refine JQ_then ?_
  refine JC_cond (Ev.rfl' rfl) (fun h1 => ?_) (fun h1 => ?_)
  · exact absurd h1 (by rw [hcb, hz]; simp; omega)
  clear h1
  refine JC_skip (JQ_then (JC_seq ?_))
  refine JC_region ?_
  refine JL_1 rfl (by first | exact op_fieldPtr (k := 0) (Ev.rfl' rfl) rfl rfl rfl rfl | exact op_fieldRefN (k := 0) (Ev.rfl' rfl) rfl rfl rfl rfl nrmT) ?_
  refine JL_1 rfl (by first | exact op_loadRef (Ev.rfl' rfl) rfl rfl rfl | exact op_loadPtr (Ev.rfl' rfl) memT (by rfl) (by rfl) (by rfl)) ?_
  refine JL_1 rfl (op_add (Ev.rfl' rfl) (Ev.rfl' rfl) wrapT) ?_
  refine JL_1 rfl (op_buildSlice (size := 1) (qs := [(0, _)]) rfl rfl rfl ⟨⟨rfl, _, (Ev.rfl' rfl), cellsT⟩, trivial⟩ (by rfl) (by rfl)) ?_
  refine JL_1 rfl (op_assign rfl) ?_
  refine JL_nil ?_
  refine JQ_then (JC_seq (JC_seq ?_))
  refine JC_region ?_
  refine JL_1 rfl (by first | exact op_fieldPtr (k := 3) (Ev.rfl' rfl) rfl rfl rfl rfl | exact op_fieldRefN (k := 3) (Ev.rfl' rfl) rfl rfl rfl rfl nrmT) ?_
  refine JL_1 rfl (by first | exact op_loadRef (Ev.rfl' rfl) rfl rfl rfl | exact op_loadPtr (Ev.rfl' rfl) memT (by rfl) (by rfl) (by rfl)) ?_
  refine JL_1 rfl (op_neq (Ev.rfl' rfl) (Ev.rfl' rfl)) ?_
  refine JL_nil ?_
  refine JQ_then ?_
  refine JC_cond (Ev.rfl' rfl) (fun h4 => ?_) (fun h4 => ?_)
  · exact absurd h4 (by simp)
  refine JC_skip (JQ_then (JC_seq (JC_seq ?_)))
  refine JC_region ?_
  refine JL_1 rfl (op_move rfl) ?_
  refine JL_1 rfl (op_move rfl) ?_
  refine JL_1 rfl (op_call Try.call79 (missing_ok _ [98 + (cl : Int)] hm1) ⟨evS, ⟨evS, trivial⟩⟩) ?_
  refine JL_1 rfl (op_assign rfl) ?_
  refine JL_nil ?_
  refine JQ_then (JC_seq ?_)
  refine JC_region ?_
  refine JL_1 rfl (op_move rfl) ?_
  refine JL_1 rfl (by first | exact op_len (Ev.rfl' rfl) rfl | exact op_lenLit (Ev.rfl' rfl) rfl) ?_
  refine JL_1 rfl (op_gtr (Ev.rfl' rfl) (Ev.rfl' rfl)) ?_
  refine JL_nil ?_
  refine JQ_then ?_
  refine JC_cond (Ev.rfl' rfl) (fun h7 => ?_) (fun h7 => ?_)
  · have g : 0 < (missV ks [98 + (cl : Int)]).length := by have := of_decide_eq_true h7; omega
    have e : acqV ks cl inc lines = (missV ks [98 + (cl : Int)], [], 0, 0, false) := by unfold acqV; rw [if_pos g]
    rw [e]
    refine JC_seq ?_
    refine JC_region ?_
    refine JL_1 rfl (op_move rfl) ?_
    refine JL_1 rfl (op_assign rfl) ?_
    refine JL_1 rfl (op_assign rfl) ?_
    refine JL_1 rfl (op_assign rfl) ?_
    refine JL_1 rfl (op_assign rfl) ?_
    refine JL_1 rfl (op_assign rfl) ?_
    refine JL_nil ?_
    refine JQ_then (JC_ret (JQ_then_ret ?_))
    refine JQ_buf0 25 tPg ?_
    exact JQ_retP (Bs := [IsSl tI64 (missV ks [98 + (cl : Int)]), Is (.slice none 0 0), Is (.int .i64 (0 : Nat)), Is (.int .i64 0), Is (.bool false)]) Try.results38 ⟨⟨_, rfl, subT⟩, ⟨⟨_, rfl, subT⟩, ⟨⟨_, rfl, subT⟩, ⟨⟨_, rfl, subT⟩, ⟨⟨_, rfl, subT⟩, trivial⟩⟩⟩⟩⟩ (none, 0) SubL.rfl' lessT
  have g : ¬ 0 < (missV ks [98 + (cl : Int)]).length := by have := of_decide_eq_false h7; omega
  clear h7
  refine JC_skip (JQ_then (JC_seq ?_))
  refine JC_region ?_
  refine JL_1 rfl (op_move rfl) ?_
  refine JL_1 rfl (by first | exact op_fieldPtr (k := 0) (Ev.rfl' rfl) rfl rfl rfl rfl | exact op_fieldRefN (k := 0) (Ev.rfl' rfl) rfl rfl rfl rfl nrmT) ?_
  refine JL_1 rfl (by first | exact op_loadRef (Ev.rfl' rfl) rfl rfl rfl | exact op_loadPtr (Ev.rfl' rfl) memT (by rfl) (by rfl) (by rfl)) ?_
  refine JL_1 rfl (by first | ((refine op_call Try.call80 (node_ok _ _ ?_) ⟨evS, ⟨evS, trivial⟩⟩); all_goals (first | omega))) ?_
  refine JL_1 rfl (op_move rfl) ?_
  refine JL_1 rfl (op_extract (Ev.rfl' rfl) rfl) ?_
  refine JL_1 rfl (op_extract (Ev.rfl' rfl) rfl) ?_
  refine JL_1 rfl (op_extract (Ev.rfl' rfl) rfl) ?_
  refine JL_1 rfl (op_extract (Ev.rfl' rfl) rfl) ?_
  (refine JL_n rfl (op_allocN rfl nrmT rfl) ?_; intro i10)
  (refine JL_n rfl (op_allocN rfl nrmT rfl) ?_; intro i11)
  refine JL_s0 (op_storeN (Ev.rfl' rfl) (Ev.rfl' rfl) cellsT replT nrmT (by rfl) (by rfl) (by rfl)) ?_
  refine JL_s0 (op_storeN (Ev.rfl' rfl) (Ev.rfl' rfl) cellsT replT nrmT (by rfl) (by rfl) (by rfl)) ?_
  refine JL_1 rfl (op_assign rfl) ?_
  refine JL_1 rfl (op_assign rfl) ?_
  refine JL_nil ?_
  refine JQ_then (JC_seq (JC_seq ?_))
  refine JC_region ?_
  refine JL_1 rfl (op_move rfl) ?_
  refine JL_1 rfl (op_neq (Ev.rfl' rfl) (Ev.rfl' rfl)) ?_
  refine JL_nil ?_
  refine JQ_then ?_
  refine JC_cond (Ev.rfl' rfl) (fun h10 => ?_) (fun h10 => ?_)
  · have g2 : (nodeV ks cl).2.2.2 ≠ 0 := by simpa using h10
    have e : acqV ks cl inc lines = ([], [], 0, (nodeV ks cl).2.2.2, true) := by unfold acqV; rw [if_neg g, if_pos g2]
    rw [e]
    refine JC_seq ?_
    refine JC_region ?_
    refine JL_1 rfl (op_move rfl) ?_
    refine JL_1 rfl (op_assign rfl) ?_
    refine JL_1 rfl (op_assign rfl) ?_
    refine JL_1 rfl (op_assign rfl) ?_
    refine JL_1 rfl (op_assign rfl) ?_
    refine JL_1 rfl (op_assign rfl) ?_
    refine JL_nil ?_
    refine JQ_then (JC_ret (JQ_then_ret ?_))
    refine JQ_buf0 25 tPg ?_
    exact JQ_retP (Bs := [IsSl tI64 [], Is (.slice none 0 0), Is (.int .i64 (0 : Nat)), Is (.int .i64 (nodeV ks cl).2.2.2), Is (.bool true)]) Try.results38 ⟨⟨_, rfl, subT⟩, ⟨⟨_, rfl, subT⟩, ⟨⟨_, rfl, subT⟩, ⟨⟨_, rfl, subT⟩, ⟨⟨_, rfl, subT⟩, trivial⟩⟩⟩⟩⟩ (none, 0) SubL.rfl' lessT
  have g2 : ¬ (nodeV ks cl).2.2.2 ≠ 0 := by simpa using h10
  clear h10
  refine JC_skip (JQ_then (JC_seq ?_))
  refine JC_region ?_
  (refine JL_n rfl (op_allocN rfl nrmT rfl) ?_; intro i13)
  refine JL_nil ?_
  refine JQ_then (JC_seq ?_)
  refine JC_region ?_
  (refine JL_n rfl (op_allocN rfl nrmT rfl) ?_; intro i14)
  refine JL_nil ?_
  refine JQ_then (JC_seq (JC_seq ?_))
  refine JC_region ?_
  refine JL_1 rfl (by first | exact op_fieldPtr (k := 3) (Ev.rfl' rfl) rfl rfl rfl rfl | exact op_fieldRefN (k := 3) (Ev.rfl' rfl) rfl rfl rfl rfl nrmT) ?_
  refine JL_1 rfl (by first | exact op_loadRef (Ev.rfl' rfl) rfl rfl rfl | exact op_loadPtr (Ev.rfl' rfl) memT (by rfl) (by rfl) (by rfl)) ?_
  refine JL_1 rfl (op_neq (Ev.rfl' rfl) (Ev.rfl' rfl)) ?_
  refine JL_nil ?_
  refine JQ_then ?_
  refine JC_cond (Ev.rfl' rfl) (fun h14 => ?_) (fun h14 => ?_)
  · exact absurd h14 (by simp)
  refine JC_skip (JQ_then (JC_seq ?_))
  refine JC_region ?_
  refine JL_1 rfl (by first | exact op_fieldPtr (k := 2) (Ev.rfl' rfl) rfl rfl rfl rfl | exact op_fieldRefN (k := 2) (Ev.rfl' rfl) rfl rfl rfl rfl nrmT) ?_
  refine JL_1 rfl (by first | exact op_loadRef (Ev.rfl' rfl) rfl rfl rfl | exact op_loadPtr (Ev.rfl' rfl) memT (by rfl) (by rfl) (by rfl)) ?_
  refine JL_1 rfl (op_call Try.call29 (CountN_ok _) ⟨evS, trivial⟩) ?_
  refine JL_1 rfl (op_assign rfl) ?_
  refine JL_nil ?_
  refine JQ_then (JC_seq (JC_seq ?_))
  refine JC_region ?_
  refine JL_1 rfl (by first | exact op_fieldPtr (k := 3) (Ev.rfl' rfl) rfl rfl rfl rfl | exact op_fieldRefN (k := 3) (Ev.rfl' rfl) rfl rfl rfl rfl nrmT) ?_
  refine JL_1 rfl (by first | exact op_loadRef (Ev.rfl' rfl) rfl rfl rfl | exact op_loadPtr (Ev.rfl' rfl) memT (by rfl) (by rfl) (by rfl)) ?_
  refine JL_1 rfl (op_eql (Ev.rfl' rfl) (Ev.rfl' rfl)) ?_
  refine JL_nil ?_
  refine JQ_then ?_
  refine JC_cond (Ev.rfl' rfl) (fun h19 => ?_) (fun h19 => ?_)
  · refine JC_seq (JC_seq ?_)
    refine JC_region ?_
    refine JL_1 rfl (op_move rfl) ?_
    refine JL_1 rfl (op_move rfl) ?_
    refine JL_1 rfl (op_call Try.call82 (owned_ok (511#32) _ hcn) ⟨evS, ⟨evS, trivial⟩⟩) ?_
    refine JL_1 rfl (by first | ((refine op_call Try.call81 (headerLines_ok _ ?_) ⟨evS, trivial⟩); all_goals (first | omega))) ?_
    refine JL_1 rfl (op_call Try.call79 (missing_ok _ _ (h2m g)) ⟨evS, ⟨evS, trivial⟩⟩) ?_
    refine JL_1 rfl (op_assign rfl) ?_
    refine JL_nil ?_
    refine JQ_then (JC_seq ?_)
    refine JC_region ?_
    refine JL_1 rfl (op_move rfl) ?_
    refine JL_1 rfl (by first | exact op_len (Ev.rfl' rfl) rfl | exact op_lenLit (Ev.rfl' rfl) rfl) ?_
    refine JL_1 rfl (op_gtr (Ev.rfl' rfl) (Ev.rfl' rfl)) ?_
    refine JL_nil ?_
    refine JQ_then ?_
    refine JC_cond (Ev.rfl' rfl) (fun h21 => ?_) (fun h21 => ?_)
    · have g3 : 0 < (missV ks (hdrL lines)).length := by have := of_decide_eq_true h21; omega
      have e : acqV ks cl inc lines = (missV ks (hdrL lines), [], 0, 0, false) := by unfold acqV; rw [if_neg g, if_neg g2, if_pos g3]
      rw [e]
      refine JC_seq ?_
      refine JC_region ?_
      refine JL_1 rfl (op_move rfl) ?_
      refine JL_1 rfl (op_assign rfl) ?_
      refine JL_1 rfl (op_assign rfl) ?_
      refine JL_1 rfl (op_assign rfl) ?_
      refine JL_1 rfl (op_assign rfl) ?_
      refine JL_1 rfl (op_assign rfl) ?_
      refine JL_nil ?_
      refine JQ_then (JC_ret (JQ_then_ret (JQ_then_ret ?_)))
      refine JQ_buf0 25 tPg ?_
      exact JQ_retP (Bs := [IsSl tI64 (missV ks (hdrL lines)), Is (.slice none 0 0), Is (.int .i64 (0 : Nat)), Is (.int .i64 0), Is (.bool false)]) Try.results38 ⟨⟨_, rfl, subT⟩, ⟨⟨_, rfl, subT⟩, ⟨⟨_, rfl, subT⟩, ⟨⟨_, rfl, subT⟩, ⟨⟨_, rfl, subT⟩, trivial⟩⟩⟩⟩⟩ (none, 0) SubL.rfl' lessT
    have g3 : ¬ 0 < (missV ks (hdrL lines)).length := by have := of_decide_eq_false h21; omega
    clear h21
    refine JC_skip (JQ_then (JC_seq ?_))
    refine JC_region ?_
    refine JL_1 rfl (op_assign rfl) ?_
    refine JL_nil ?_
    refine JQ_then (JC_seq ?_)
    refine JC_region ?_
    refine JL_1 rfl (op_move rfl) ?_
    refine JL_1 rfl (by first | exact op_fieldPtr (k := 0) (Ev.rfl' rfl) rfl rfl rfl rfl | exact op_fieldRefN (k := 0) (Ev.rfl' rfl) rfl rfl rfl rfl nrmT) ?_
    refine JL_1 rfl (by first | exact op_loadRef (Ev.rfl' rfl) rfl rfl rfl | exact op_loadPtr (Ev.rfl' rfl) memT (by rfl) (by rfl) (by rfl)) ?_
    refine JL_1 rfl (op_move rfl) ?_
    refine JL_1 rfl (by first | ((refine op_call Try.call83 (unowned_ok _ _ _ ?_ hcn) ⟨evS, ⟨evS, ⟨evS, trivial⟩⟩⟩); all_goals (first | omega))) ?_
    refine JL_1 rfl (op_move rfl) ?_
    refine JL_1 rfl (op_extract (Ev.rfl' rfl) rfl) ?_
    refine JL_1 rfl (op_extract (Ev.rfl' rfl) rfl) ?_
    refine JL_1 rfl (op_assign rfl) ?_
    refine JL_1 rfl (op_assign rfl) ?_
    refine JL_nil ?_
    refine JQ_then (JC_seq ?_)
    refine JC_region ?_
    refine JL_1 rfl (op_move rfl) ?_
    refine JL_1 rfl (op_not (Ev.rfl' rfl)) ?_
    refine JL_nil ?_
    refine JQ_then ?_
    refine JC_cond (Ev.rfl' rfl) (fun h25 => ?_) (fun h25 => ?_)
    · have g4 : ¬ sB ks cl (countN lines) = true := by simpa using h25
      have e : acqV ks cl inc lines = ([], [], 0, 12, true) := by unfold acqV; rw [if_neg g, if_neg g2, if_neg g3, if_neg g4]
      rw [e]
      refine JC_seq ?_
      refine JC_region ?_
      refine JL_1 rfl (op_assign rfl) ?_
      refine JL_1 rfl (op_assign rfl) ?_
      refine JL_1 rfl (op_assign rfl) ?_
      refine JL_1 rfl (op_assign rfl) ?_
      refine JL_1 rfl (op_assign rfl) ?_
      refine JL_nil ?_
      refine JQ_then (JC_ret (JQ_then_ret ?_))
      refine JQ_buf0 25 tPg ?_
      exact JQ_retP (Bs := [IsSl tI64 [], Is (.slice none 0 0), Is (.int .i64 (0 : Nat)), Is (.int .i64 12), Is (.bool true)]) Try.results38 ⟨⟨_, rfl, subT⟩, ⟨⟨_, rfl, subT⟩, ⟨⟨_, rfl, subT⟩, ⟨⟨_, rfl, subT⟩, ⟨⟨_, rfl, subT⟩, trivial⟩⟩⟩⟩⟩ (none, 0) SubL.rfl' lessT
    have g4 : sB ks cl (countN lines) = true := by simpa using h25
    obtain ⟨hfr, hsn⟩ := sB_yes g4
    obtain ⟨q1, q2, q3⟩ := free_have hfr
    have hlt' := hlt g4
    have e : acqV ks cl inc lines = ([], [mineW ks cl inc (sV ks cl (countN lines)), headW ks cl (sV ks cl (countN lines))], sV ks cl (countN lines), 0, true) := by unfold acqV; rw [if_neg g, if_neg g2, if_neg g3, if_pos g4]
    rw [e]
    unfold mineW headW at hlt' ⊢
    obtain ⟨s, hs⟩ : ∃ s, sV ks cl (countN lines) = s := ⟨_, rfl⟩
    rw [hs] at hlt' q1 q2 q3 hsn
    rw [hs]
    clear h25
    refine JC_skip (JQ_then (JC_seq ?_))
    refine JC_region ?_
    refine JL_1 rfl (op_move rfl) ?_
    refine JL_1 rfl (op_move rfl) ?_
    refine JL_1 rfl (op_call Try.call84 (header_ok _ _) ⟨evS, ⟨evS, trivial⟩⟩) ?_
    refine JL_1 rfl (op_move rfl) ?_
    refine JL_1 rfl (op_extract (Ev.rfl' rfl) rfl) ?_
    refine JL_1 rfl (op_extract (Ev.rfl' rfl) rfl) ?_
    refine JL_1 rfl (op_extract (Ev.rfl' rfl) rfl) ?_
    refine JL_1 rfl (op_extract (Ev.rfl' rfl) rfl) ?_
    (refine JL_n rfl (op_allocN rfl nrmT rfl) ?_; intro i18)
    (refine JL_n rfl (op_allocN rfl nrmT rfl) ?_; intro i19)
    refine JL_s0 (op_storeN (Ev.rfl' rfl) (Ev.rfl' rfl) cellsT replT nrmT (by rfl) (by rfl) (by rfl)) ?_
    refine JL_s0 (op_storeN (Ev.rfl' rfl) (Ev.rfl' rfl) cellsT replT nrmT (by rfl) (by rfl) (by rfl)) ?_
    refine JL_1 rfl (op_assign rfl) ?_
    refine JL_1 rfl (op_assign rfl) ?_
    refine JL_nil ?_
    refine JQ_then (JC_seq (JC_block (JC_seq ?_)))
    refine JC_region ?_
    refine JL_1 rfl (op_move rfl) ?_
    refine JL_1 rfl (op_not (Ev.rfl' rfl)) ?_
    refine JL_1 rfl (op_assign rfl) ?_
    refine JL_nil ?_
    refine JQ_then ?_
    refine JC_cond (Ev.rfl' rfl) (fun h32 => ?_) (fun h32 => ?_)
    · exact absurd h32 (by rw [q1]; simp)
    refine JC_seq ?_
    refine JC_region ?_
    refine JL_1 rfl (op_move rfl) ?_
    refine JL_1 rfl (op_neq (Ev.rfl' rfl) (Ev.rfl' rfl)) ?_
    refine JL_1 rfl (op_assign rfl) ?_
    refine JL_nil ?_
    refine JQ_then ?_
    refine JC_cond (Ev.rfl' rfl) (fun h34 => ?_) (fun h34 => ?_)
    · exact absurd h34 (by rw [q2]; simp)
    refine JC_seq ?_
    refine JC_region ?_
    refine JL_1 rfl (by first | exact op_fieldPtr (k := 0) (Ev.rfl' rfl) rfl rfl rfl rfl | exact op_fieldRefN (k := 0) (Ev.rfl' rfl) rfl rfl rfl rfl nrmT) ?_
    refine JL_1 rfl (by first | exact op_loadRef (Ev.rfl' rfl) rfl rfl rfl | exact op_loadPtr (Ev.rfl' rfl) memT (by rfl) (by rfl) (by rfl)) ?_
    refine JL_1 rfl (by first | exact op_fieldPtr (k := 3) (Ev.rfl' rfl) rfl rfl rfl rfl | exact op_fieldRefN (k := 3) (Ev.rfl' rfl) rfl rfl rfl rfl nrmT) ?_
    refine JL_1 rfl (by first | exact op_loadRef (Ev.rfl' rfl) rfl rfl rfl | exact op_loadPtr (Ev.rfl' rfl) memT (by rfl) (by rfl) (by rfl)) ?_
    refine JL_1 rfl (op_neq (Ev.rfl' rfl) (Ev.rfl' rfl)) ?_
    refine JL_1 rfl (op_assign rfl) ?_
    refine JL_nil ?_
    refine JQ_then ?_
    refine JC_cond (Ev.rfl' rfl) (fun h36 => ?_) (fun h36 => ?_)
    · exact absurd h36 (by rw [q3]; simp)
    refine JC_skip (JQ_block (JQ_then (JC_seq ?_)))
    refine JC_region ?_
    refine JL_1 rfl (by first | exact op_fieldPtr (k := 2) (Ev.rfl' rfl) rfl rfl rfl rfl | exact op_fieldRefN (k := 2) (Ev.rfl' rfl) rfl rfl rfl rfl nrmT) ?_
    refine JL_1 rfl (by first | exact op_loadRef (Ev.rfl' rfl) rfl rfl rfl | exact op_loadPtr (Ev.rfl' rfl) memT (by rfl) (by rfl) (by rfl)) ?_
    refine JL_1 rfl (op_move rfl) ?_
    refine JL_1 rfl (op_conv (Ev.rfl' rfl) rfl rfl convT) ?_
    refine JL_1 rfl (by first | exact op_shlU32 (k := _) ev32 (Ev.rfl' rfl) (by first | omega | exact UV_nonneg _) idxT | exact op_shl (Ev.rfl' rfl) (Ev.rfl' rfl) (by first | omega | exact UV_nonneg _) rfl) ?_
    refine JL_1 rfl (by first | exact op_bits ev32 ev32 (by simp) (or_u32 _ _) | exact op_bits (Ev.rfl' rfl) (Ev.rfl' rfl) (by simp) rfl) ?_
    refine JL_1 rfl (by first | exact op_fieldPtr (k := 2) (Ev.rfl' rfl) rfl rfl rfl rfl | exact op_fieldRefN (k := 2) (Ev.rfl' rfl) rfl rfl rfl rfl nrmT) ?_
    refine JL_s0 (op_storeN (Ev.rfl' rfl) (Ev.rfl' rfl) cellsT replT nrmT (by rfl) (by rfl) (by rfl)) ?_
    refine JL_nil ?_
    refine JQ_then (JC_seq ?_)
    refine JC_region ?_
    refine JL_1 rfl (by first | exact op_fieldPtr (k := 1) (Ev.rfl' rfl) rfl rfl rfl rfl | exact op_fieldRefN (k := 1) (Ev.rfl' rfl) rfl rfl rfl rfl nrmT) ?_
    refine JL_1 rfl (by first | exact op_loadRef (Ev.rfl' rfl) rfl rfl rfl | exact op_loadPtr (Ev.rfl' rfl) memT (by rfl) (by rfl) (by rfl)) ?_
    refine JL_1 rfl (by first | exact op_fieldPtr (k := 3) (Ev.rfl' rfl) rfl rfl rfl rfl | exact op_fieldRefN (k := 3) (Ev.rfl' rfl) rfl rfl rfl rfl nrmT) ?_
    refine JL_s0 (op_storeN (Ev.rfl' rfl) (Ev.rfl' rfl) cellsT replT nrmT (by rfl) (by rfl) (by rfl)) ?_
    refine JL_nil ?_
    refine JQ_then (JC_seq ?_)
    refine JC_region ?_
    refine JL_1 rfl (by first | exact op_fieldPtr (k := 0) (Ev.rfl' rfl) rfl rfl rfl rfl | exact op_fieldRefN (k := 0) (Ev.rfl' rfl) rfl rfl rfl rfl nrmT) ?_
    refine JL_1 rfl (by first | exact op_loadRef (Ev.rfl' rfl) rfl rfl rfl | exact op_loadPtr (Ev.rfl' rfl) memT (by rfl) (by rfl) (by rfl)) ?_
    refine JL_1 rfl (by first | exact op_fieldPtr (k := 0) (Ev.rfl' rfl) rfl rfl rfl rfl | exact op_fieldRefN (k := 0) (Ev.rfl' rfl) rfl rfl rfl rfl nrmT) ?_
    refine JL_s0 (op_storeN (Ev.rfl' rfl) (Ev.rfl' rfl) cellsT replT nrmT (by rfl) (by rfl) (by rfl)) ?_
    refine JL_nil ?_
    refine JQ_then (JC_seq ?_)
    refine JC_region ?_
    refine JL_1 rfl (by first | exact op_loadRefsN (n := 9) (Ev.rfl' rfl) rfl rfl rfl (by rfl) nrmT | exact op_loadPtrsN (n := 9) (Ev.rfl' rfl) memT (by rfl) (by rfl) (by rfl) (by rfl) nrmT) ?_
    refine JL_1 rfl (by first | exact op_loadRefsN (n := 16) (Ev.rfl' rfl) rfl rfl rfl (by rfl) nrmT | exact op_loadPtrsN (n := 16) (Ev.rfl' rfl) memT (by rfl) (by rfl) (by rfl) (by rfl) nrmT) ?_
    refine JL_1 rfl (op_call Try.call24 (WriteNode_ok _ (ndS (nodeV ks cl).2.1 s inc)) ⟨evS, ⟨evS, trivial⟩⟩) ?_
    refine JL_1 rfl (op_move rfl) ?_
    refine JL_1 rfl (op_extract (Ev.rfl' rfl) rfl) ?_
    refine JL_1 rfl (op_extract (Ev.rfl' rfl) rfl) ?_
    refine JL_s0 (op_storeN (Ev.rfl' rfl) (Ev.rfl' rfl) cellsT replT nrmT (by rfl) (by rfl) (by rfl)) ?_
    refine JL_nil ?_
    refine JQ_then (JC_seq ?_)
    refine JC_region ?_
    refine JL_1 rfl (by first | exact op_loadRefsN (n := 9) (Ev.rfl' rfl) rfl rfl rfl (by rfl) nrmT | exact op_loadPtrsN (n := 9) (Ev.rfl' rfl) memT (by rfl) (by rfl) (by rfl) (by rfl) nrmT) ?_
    refine JL_1 rfl (by first | exact op_loadRefsN (n := 2) (Ev.rfl' rfl) rfl rfl rfl (by rfl) nrmT | exact op_loadPtrsN (n := 2) (Ev.rfl' rfl) memT (by rfl) (by rfl) (by rfl) (by rfl) nrmT) ?_
    refine JL_1 rfl (op_call Try.call22 (WriteHeader_ok _ (hdS (headV ks s).2.1 cl)) ⟨evS, ⟨evS, trivial⟩⟩) ?_
    refine JL_1 rfl (op_move rfl) ?_
    refine JL_1 rfl (op_extract (Ev.rfl' rfl) rfl) ?_
    refine JL_1 rfl (op_extract (Ev.rfl' rfl) rfl) ?_
    refine JL_s0 (op_storeN (Ev.rfl' rfl) (Ev.rfl' rfl) cellsT replT nrmT (by rfl) (by rfl) (by rfl)) ?_
    refine JL_nil ?_
    refine JQ_then (JC_seq ?_)
    obtain ⟨a, ha⟩ : ∃ a, (writeN (nodeV ks cl).1 (ndS (nodeV ks cl).2.1 s inc)).1 = a := ⟨_, rfl⟩
    rw [ha] at hlt' ⊢
    obtain ⟨b, hb⟩ : ∃ b, (writeH (headV ks s).1 (hdS (headV ks s).2.1 cl)).1 = b := ⟨_, rfl⟩
    rw [hb] at hlt' ⊢
    refine JC_region ?_
    refine JL_1 rfl (by first | exact op_loadRefsN (n := 9) (Ev.rfl' rfl) rfl rfl rfl (by rfl) nrmT | exact op_loadPtrsN (n := 9) (Ev.rfl' rfl) memT (by rfl) (by rfl) (by rfl) (by rfl) nrmT) ?_
    refine JL_1 rfl (by first | exact op_loadRefsN (n := 9) (Ev.rfl' rfl) rfl rfl rfl (by rfl) nrmT | exact op_loadPtrsN (n := 9) (Ev.rfl' rfl) memT (by rfl) (by rfl) (by rfl) (by rfl) nrmT) ?_
    (refine JL_n rfl (op_buildSliceO (T := tPg) ([a, b]) (size := 9) (Rs := [a, b].flatMap tPg.cells) (qs := [(0, tPg.cells a), (1, tPg.cells b)]) rfl rfl rfl ⟨⟨rfl, _, (Ev.rfl' rfl), cellsT⟩, ⟨⟨rfl, _, (Ev.rfl' rfl), cellsT⟩, trivial⟩⟩ (by rfl) (by rfl) SubLs.rfl') ?_; intro i191)
    refine JL_1 rfl (op_assign rfl) ?_
    refine JL_nil ?_
    refine JQ_then (JC_seq (JC_seq ?_))
    refine JC_region ?_
    refine JL_1 rfl (by first | exact op_fieldPtr (k := 3) (Ev.rfl' rfl) rfl rfl rfl rfl | exact op_fieldRefN (k := 3) (Ev.rfl' rfl) rfl rfl rfl rfl nrmT) ?_
    refine JL_1 rfl (by first | exact op_loadRef (Ev.rfl' rfl) rfl rfl rfl | exact op_loadPtr (Ev.rfl' rfl) memT (by rfl) (by rfl) (by rfl)) ?_
    refine JL_1 rfl (op_neq (Ev.rfl' rfl) (Ev.rfl' rfl)) ?_
    refine JL_nil ?_
    refine JQ_then ?_
    refine JC_cond (Ev.rfl' rfl) (fun h44 => ?_) (fun h44 => ?_)
    · exact absurd h44 (by simp)
    refine JC_skip (JQ_then (JC_seq ?_))
    refine JC_region ?_
    refine JL_1 rfl (op_move rfl) ?_
    (refine JL_s rfl (by first | ((refine op_callT drop1T Try.call77 (ascending_ok [a, b] 2 (some ⟨i191, 0, none⟩, 2) rfl ?_) ⟨evS, trivial⟩); all_goals (first | simp))) ?_; intro i213)
    refine JL_1 rfl (op_move rfl) ?_
    refine JL_1 rfl (op_assign rfl) ?_
    refine JL_1 rfl (op_assign rfl) ?_
    refine JL_1 rfl (op_assign rfl) ?_
    refine JL_1 rfl (op_assign rfl) ?_
    refine JL_1 rfl (op_assign rfl) ?_
    refine JL_nil ?_
    refine JQ_then (JC_ret ?_)
    obtain ⟨ys, hy1, hy2⟩ := i213
    dsimp only
    have hy := two_asc hlt' hy1 hy2
    subst hy
    exact JQ_retP (Bs := [IsSl tI64 [], Is (slV 2 (some ⟨i191, 0, none⟩, 2)), Is (.int .i64 (s : Nat)), Is (.int .i64 0), Is (.bool true)]) Try.results38 ⟨⟨_, rfl, subT⟩, ⟨⟨_, rfl, subT⟩, ⟨⟨_, rfl, subT⟩, ⟨⟨_, rfl, subT⟩, ⟨⟨_, rfl, subT⟩, trivial⟩⟩⟩⟩⟩ (some ⟨i191, 0, none⟩, 2) SubL.rfl' lessT
  exact absurd h19 (by simp)
end Go.Proofs.Ytpfojangcgffkaa

/- Plain laws: bits; the pages that are free; what is taken where nothing is in the way. Own work. -/
namespace Go.Proofs.Ytpfojangcgffkaa
open Go.RowKit
set_option linter.unusedVariables false
set_option linter.unusedSimpArgs false
set_option maxRecDepth 100000
theorem bit_num (u : BitVec 32) (i : Nat) : bitB u i = decide (UV u / 2 ^ i % 2 = 1) := by
  unfold bitB
  rw [UV_low 32 1 (u >>> i) _ rfl, UV_shr]
  rfl
theorem bit_lsb (u : BitVec 32) (i : Nat) : bitB u i = u.getLsbD i := by
  rw [bit_num, BitVec.getLsbD, Nat.testBit_eq_decide_div_mod_eq]
  unfold UV
  have e : ((u.toNat : Int) / 2 ^ i % 2 = 1) ↔ (u.toNat / 2 ^ i % 2 = 1) := by
    rw [show ((u.toNat : Int) / 2 ^ i % 2) = ((u.toNat / 2 ^ i % 2 : Nat) : Int) by push_cast; rfl]
    omega
  simp only [e]
theorem one_lsb (j i : Nat) (hj : j < 32) : (BitVec.ofInt 32 1 <<< j).getLsbD i = decide (i = j) := by
  rw [show BitVec.ofInt 32 1 = 1#32 from rfl, BitVec.getLsbD_shiftLeft]
  by_cases h : i = j
  · subst h; simp [hj]
  · simp only [h, decide_false]
    by_cases h1 : i < j
    · simp [h1]
    · have : i - j ≠ 0 := by omega
      rw [BitVec.getLsbD_one]
      simp [this]
theorem bit_or (u : BitVec 32) (j i : Nat) (hj : j < 32) : bitB (u ||| BitVec.ofInt 32 1 <<< j) i = (bitB u i || decide (i = j)) := by
  rw [bit_lsb, bit_lsb, BitVec.getLsbD_or, one_lsb j i hj]
theorem bit_clear (u : BitVec 32) (j i : Nat) (hj : j < 32) (hi : i < 32) : bitB (u &&& ~~~(BitVec.ofInt 32 1 <<< j)) i = (bitB u i && !decide (i = j)) := by
  rw [bit_lsb, bit_lsb, BitVec.getLsbD_and, BitVec.getLsbD_not, one_lsb j i hj]
  simp [hi]
theorem bit_orb (i : Nat) : ∀ (q : List Nat) (u : BitVec 32), (∀ j, j ∈ q → j < 32) → bitB (orb u q) i = (bitB u i || decide (i ∈ q))
  | [], u, _ => by simp [orb]
  | j :: q, u, h => by
    have e : orb u (j :: q) = orb (u ||| BitVec.ofInt 32 1 <<< j) q := rfl
    rw [e, bit_orb i q _ fun x hx => h x (List.mem_cons_of_mem _ hx), bit_or u j i (h j (List.mem_cons_self ..))]
    by_cases h1 : i = j <;> simp [h1]
/-- A header's bits: those of a segment's pages alone. -/
def usable (u : BitVec 32) : Prop := ∀ i, bitB u i = true → 1 ≤ i ∧ i ≤ 15
theorem usable_iff (u : BitVec 32) : usable u ↔ UV (u &&& ~~~BitVec.ofInt 32 65534) = 0 := by
  rw [uv0_iff]
  constructor
  · intro h
    apply BitVec.eq_of_getLsbD_eq
    intro i hi
    rw [BitVec.getLsbD_and, BitVec.getLsbD_not]
    simp only [hi, decide_true, Bool.true_and]
    cases hb : u.getLsbD i with
    | false => simp
    | true =>
      have h1 := h i (by rw [bit_lsb]; exact hb)
      have h2 : (BitVec.ofInt 32 65534).getLsbD i = true := by
        have : ∀ k : Fin 16, 1 ≤ k.val → (BitVec.ofInt 32 65534).getLsbD k.val = true := by decide +kernel
        exact this ⟨i, by omega⟩ h1.1
      rw [h2]; simp
  · intro h i hb
    rw [bit_lsb] at hb
    have hi : i < 32 := BitVec.lt_of_getLsbD hb
    have h1 := congrArg (fun x : BitVec 32 => x.getLsbD i) h
    simp only [BitVec.getLsbD_and, BitVec.getLsbD_not, hi, decide_true, Bool.true_and, hb] at h1
    have h2 : (BitVec.ofInt 32 65534).getLsbD i = true := by simpa using h1
    have h3 : ∀ k : Fin 32, (BitVec.ofInt 32 65534).getLsbD k.val = true → 1 ≤ k.val ∧ k.val ≤ 15 := by decide +kernel
    exact h3 ⟨i, hi⟩ h2
/-! ### The free pages of a segment -/
def frL (u : BitVec 32) : List Nat := (List.range' 1 15).filter fun i => !bitB u i
theorem mem_frL {u : BitVec 32} {i : Nat} : i ∈ frL u ↔ (1 ≤ i ∧ i ≤ 15) ∧ bitB u i = false := by
  unfold frL
  rw [List.mem_filter, List.mem_range']
  constructor
  · rintro ⟨⟨j, h1, h2⟩, h3⟩
    exact ⟨by omega, by simpa using h3⟩
  · rintro ⟨h1, h2⟩
    exact ⟨⟨i - 1, by omega, by omega⟩, by simp [h2]⟩
theorem frL_nodup (u : BitVec 32) : (frL u).Nodup := by
  unfold frL
  exact (List.nodup_range' (step := 1)).filter _
theorem pop8_bits : ∀ n : Fin 256, Lib.pop8 (n.val : Int) = ((n.val % 2 + n.val / 2 % 2 + n.val / 4 % 2 + n.val / 8 % 2 + n.val / 16 % 2 + n.val / 32 % 2 + n.val / 64 % 2 + n.val / 128 % 2 : Nat) : Int) := by decide +kernel
theorem pop8_sum {j : Int} (h0 : 0 ≤ j) (h1 : j ≤ 255) : Lib.pop8 j = j % 2 + j / 2 % 2 + j / 4 % 2 + j / 8 % 2 + j / 16 % 2 + j / 32 % 2 + j / 64 % 2 + j / 128 % 2 := by
  obtain ⟨n, rfl⟩ : ∃ n : Nat, j = n := ⟨j.toNat, by omega⟩
  have h : Lib.pop8 ((n : Nat) : Int) = _ := pop8_bits ⟨n, by omega⟩
  rw [h]
  push_cast
  rfl
theorem len_filter {α : Type} (p : α → Bool) : ∀ l : List α, ((l.filter p).length : Int) = (l.map fun x => if p x = true then (1 : Int) else 0).sum
  | [] => rfl
  | x :: l => by
    rw [List.filter_cons, List.map_cons, List.sum_cons, ← len_filter p l]
    by_cases h : p x = true
    · rw [if_pos h, if_pos h, List.length_cons]; omega
    · rw [if_neg h, if_neg h]; omega
theorem nb (x : Int) (i : Nat) : (if (!decide (x / 2 ^ i % 2 = 1)) = true then (1 : Int) else 0) = 1 - x / 2 ^ i % 2 := by
  have h : 0 ≤ x / 2 ^ i % 2 ∧ x / 2 ^ i % 2 < 2 := ⟨Int.emod_nonneg _ (by decide), Int.emod_lt_of_pos _ (by decide)⟩
  by_cases h1 : x / 2 ^ i % 2 = 1
  · simp [h1]
  · simp [h1]; omega
theorem bl1 (x : Int) : x / 2 ^ 1 % 2 = x % 256 / 2 % 2 := by omega
theorem bl2 (x : Int) : x / 2 ^ 2 % 2 = x % 256 / 4 % 2 := by omega
theorem bl3 (x : Int) : x / 2 ^ 3 % 2 = x % 256 / 8 % 2 := by omega
theorem bl4 (x : Int) : x / 2 ^ 4 % 2 = x % 256 / 16 % 2 := by omega
theorem bl5 (x : Int) : x / 2 ^ 5 % 2 = x % 256 / 32 % 2 := by omega
theorem bl6 (x : Int) : x / 2 ^ 6 % 2 = x % 256 / 64 % 2 := by omega
theorem bl7 (x : Int) : x / 2 ^ 7 % 2 = x % 256 / 128 % 2 := by omega
theorem bl8 (x : Int) : x / 2 ^ 8 % 2 = x / 256 % 2 := by omega
theorem bl9 (x : Int) : x / 2 ^ 9 % 2 = x / 256 / 2 % 2 := by omega
theorem bl10 (x : Int) : x / 2 ^ 10 % 2 = x / 256 / 4 % 2 := by omega
theorem bl11 (x : Int) : x / 2 ^ 11 % 2 = x / 256 / 8 % 2 := by omega
theorem bl12 (x : Int) : x / 2 ^ 12 % 2 = x / 256 / 16 % 2 := by omega
theorem bl13 (x : Int) : x / 2 ^ 13 % 2 = x / 256 / 32 % 2 := by omega
theorem bl14 (x : Int) : x / 2 ^ 14 % 2 = x / 256 / 64 % 2 := by omega
theorem bl15 (x : Int) : x / 2 ^ 15 % 2 = x / 256 / 128 % 2 := by omega
theorem frL_len {u : BitVec 32} (h : usable u) : ((frL u).length : Int) = 15 - popV u := by
  have hb : ∀ i, i < 32 → ¬ (1 ≤ i ∧ i ≤ 15) → UV u / 2 ^ i % 2 = 0 := fun i h32 hi => by
    have h1 : bitB u i = false := Bool.eq_false_iff.2 fun e => hi (h i e)
    rw [bit_num] at h1
    have h2 := of_decide_eq_false h1
    have h3 : 0 ≤ UV u / 2 ^ i % 2 ∧ UV u / 2 ^ i % 2 < 2 := ⟨Int.emod_nonneg _ (by decide), Int.emod_lt_of_pos _ (by decide)⟩
    omega
  have h0 := UV_nonneg u
  have hlt : UV u < 65536 := by
    have e := (usable_iff u).1 h
    have h16 : UV u / 65536 = 0 := by
      have e2 := (uv0_iff).1 e
      have e3 : u >>> 16 = 0#32 := by
        apply BitVec.eq_of_getLsbD_eq
        intro i hi
        rw [BitVec.getLsbD_ushiftRight]
        cases hb2 : u.getLsbD (16 + i) with
        | false => simp
        | true => have := h (16 + i) (by rw [bit_lsb]; exact hb2); omega
      have e4 := UV_shr 32 u 16
      rw [e3] at e4
      have e5 : UV (0#32) = 0 := rfl
      rw [e5] at e4
      exact e4.symm
    omega
  have b0 := hb 0 (by decide) (by decide)
  unfold frL
  rw [len_filter]
  simp only [bit_num, nb]
  unfold popV
  have w1 : UV (u >>> 24) = 0 := by rw [UV_shr]; omega
  have w2 : UV (u >>> 16 &&& BitVec.ofInt 32 255) = 0 := by rw [UV_low 32 8 _ _ rfl, UV_shr]; omega
  have w3 : UV (u >>> 8 &&& BitVec.ofInt 32 255) = UV u / 256 := by rw [UV_low 32 8 _ _ rfl, UV_shr]; omega
  have w4 : UV (u &&& BitVec.ofInt 32 255) = UV u % 256 := by rw [UV_low 32 8 _ _ rfl]; omega
  rw [w1, w2, w3, w4, pop8_sum (j := UV u / 256) (by omega) (by omega), pop8_sum (j := UV u % 256) (by omega) (by omega), pop8_sum (j := 0) (by decide) (by decide)]
  have hr : List.range' 1 15 = [1, 2, 3, 4, 5, 6, 7, 8, 9, 10, 11, 12, 13, 14, 15] := by decide
  rw [hr]
  have b1 : UV u % 256 % 2 = 0 := by clear hb h w1 w2 w3 w4 hr hlt h0; omega
  rw [b1]
  clear b0 b1 w1 w2 w3 w4 hb h
  generalize UV u = x at *
  have e1 := bl1 x
  have e2 := bl2 x
  have e3 := bl3 x
  have e4 := bl4 x
  have e5 := bl5 x
  have e6 := bl6 x
  have e7 := bl7 x
  have e8 := bl8 x
  have e9 := bl9 x
  have e10 := bl10 x
  have e11 := bl11 x
  have e12 := bl12 x
  have e13 := bl13 x
  have e14 := bl14 x
  have e15 := bl15 x
  simp only [List.map_cons, List.map_nil, List.sum_cons, List.sum_nil]
  rw [e1, e2, e3, e4, e5, e6, e7, e8, e9, e10, e11, e12, e13, e14, e15]
  clear e1 e2 e3 e4 e5 e6 e7 e8 e9 e10 e11 e12 e13 e14 e15 h0 hlt
  generalize x % 256 / 2 % 2 = a1
  generalize x % 256 / 4 % 2 = a2
  generalize x % 256 / 8 % 2 = a3
  generalize x % 256 / 16 % 2 = a4
  generalize x % 256 / 32 % 2 = a5
  generalize x % 256 / 64 % 2 = a6
  generalize x % 256 / 128 % 2 = a7
  generalize x / 256 / 128 % 2 = b15
  generalize x / 256 / 64 % 2 = b14
  generalize x / 256 / 32 % 2 = b13
  generalize x / 256 / 16 % 2 = b12
  generalize x / 256 / 8 % 2 = b11
  generalize x / 256 / 4 % 2 = b10
  generalize x / 256 / 2 % 2 = b9
  generalize x / 256 % 2 = b8
  omega
/-! ### What is taken -/
theorem filter_range_cons (p : Nat → Bool) (i f : Nat) : (List.range' i (f + 1)).filter p = if p i = true then i :: (List.range' (i + 1) f).filter p else (List.range' (i + 1) f).filter p := by
  rw [List.range'_succ, List.filter_cons]
theorem inn_all {ks : List Pg} {s : Int} {cnt : Nat} {u : BitVec 32} (hp : ∀ i : Nat, 1 ≤ i → i ≤ 15 → bitB u i = false → pkV ks (lineV s + i) = 0) :
    ∀ (f i ch : Nat) (q : List Nat), i + f = 16 → 1 ≤ i → (∀ j, j ∈ q → j < i) → inn ks s cnt f i ch (orb u q) q = .ok (q ++ (((List.range' i f).filter fun i => !bitB u i).take (cnt - ch)))
  | 0, i, ch, q, _, _, _ => by simp [inn]
  | f + 1, i, ch, q, he, h1, hq => by
    have hbit : bitB (orb u q) i = bitB u i := by
      rw [bit_orb i q u fun j hj => by have := hq j hj; omega]
      have : ¬ i ∈ q := fun hm => absurd (hq i hm) (by omega)
      simp [this]
    unfold inn
    rw [filter_range_cons, hbit]
    by_cases hc : ch < cnt
    · rw [if_pos hc]
      cases hb : bitB u i with
      | true =>
        simp only [if_true, Bool.not_true, Bool.false_eq_true, if_false]
        exact inn_all hp f (i + 1) ch q (by omega) (by omega) fun j hj => by have := hq j hj; omega
      | false =>
        have hpk := hp i h1 (by omega) hb
        simp only [Bool.false_eq_true, if_false, Bool.not_false, if_true, hpk]
        rw [if_neg (by decide), ← orb_snoc, inn_all hp f (i + 1) (ch + 1) (q ++ [i]) (by omega) (by omega) fun j hj => by
          rcases List.mem_append.1 hj with hj | hj
          · have := hq j hj; omega
          · have := List.mem_singleton.1 hj; omega]
        obtain ⟨m, hm⟩ : ∃ m, cnt - ch = m + 1 := ⟨cnt - ch - 1, by omega⟩
        rw [hm, show cnt - (ch + 1) = m by omega, List.take_succ_cons]
        simp
    · rw [if_neg hc, show cnt - ch = 0 by omega, List.take_zero, List.append_nil]
theorem inn_free {ks : List Pg} {s : Int} {cnt ch : Nat} {u : BitVec 32} (hp : ∀ i : Nat, 1 ≤ i → i ≤ 15 → bitB u i = false → pkV ks (lineV s + i) = 0) : inn ks s cnt 15 1 ch u [] = .ok ((frL u).take (cnt - ch)) :=
  inn_all hp 15 1 ch [] rfl (Nat.le_refl _) (fun j hj => by cases hj)
def frS (ks : List Pg) (T : List Int) : Nat := (T.map fun s => (frL (hdS' ks s).used).length).sum
theorem frS_cons (ks : List Pg) (s : Int) (T : List Int) : frS ks (s :: T) = (frL (hdS' ks s).used).length + frS ks T := by unfold frS; simp
theorem frS_mem {ks : List Pg} {s : Int} : ∀ {T : List Int}, s ∈ T → (frL (hdS' ks s).used).length ≤ frS ks T
  | t :: T, h => by
    rw [frS_cons]
    rcases List.mem_cons.1 h with h | h
    · subst h; omega
    · have := frS_mem (ks := ks) h; omega
def Free (ks : List Pg) (s : Int) : Prop := ∀ i : Nat, 1 ≤ i → i ≤ 15 → bitB (hdS' ks s).used i = false → latB ks (lineV s + i) = true ∧ pkV ks (lineV s + i) = 0
theorem outS_all {ks : List Pg} {cnt : Nat} : ∀ (T : List Int) (ch : Nat) (ps : Pk), (∀ s, s ∈ T → Free ks s) → ch ≤ cnt →
    ∃ rs : Pk, outS ks cnt T ch ps = .ok (ps ++ rs) ∧ rs.map Prod.fst = T ∧ (∀ x, x ∈ rs → ∃ m, x.2 = (frL (hdS' ks x.1).used).take m) ∧ ch + totP rs = min cnt (ch + frS ks T)
  | [], ch, ps, _, hc => ⟨[], by simp [outS], rfl, (fun x hx => by cases hx), by simp [totP, frS]; omega⟩
  | s :: T, ch, ps, hF, hc => by
    have hin := inn_free (ks := ks) (s := s) (cnt := cnt) (ch := ch) fun i h1 h2 h3 => (hF s (List.mem_cons_self ..) i h1 h2 h3).2
    have hl : ((frL (hdS' ks s).used).take (cnt - ch)).length = min (cnt - ch) (frL (hdS' ks s).used).length := List.length_take
    have hle : ch + ((frL (hdS' ks s).used).take (cnt - ch)).length ≤ cnt := by omega
    obtain ⟨rs, e1, e2, e3, e4⟩ := outS_all T (ch + ((frL (hdS' ks s).used).take (cnt - ch)).length) (ps ++ [(s, (frL (hdS' ks s).used).take (cnt - ch))]) (fun t ht => hF t (List.mem_cons_of_mem _ ht)) hle
    refine ⟨(s, (frL (hdS' ks s).used).take (cnt - ch)) :: rs, ?_, by simp [e2], fun x hx => ?_, ?_⟩
    · conv => lhs; unfold outS
      rw [hin]
      simp only
      rw [e1, List.append_assoc]
      rfl
    · rcases List.mem_cons.1 hx with hx | hx
      · subst hx; exact ⟨_, rfl⟩
      · exact e3 x hx
    · rw [frS_cons]
      have : totP ((s, (frL (hdS' ks s).used).take (cnt - ch)) :: rs) = ((frL (hdS' ks s).used).take (cnt - ch)).length + totP rs := by unfold totP; simp
      rw [this]
      omega
/-- Pages are allocated where nothing is in the way. -/
theorem alo_all {ks : List Pg} {cl : Int} {cnt : Nat} {S : List Int} (hn : S.Nodup) (hH : ∀ s, s ∈ S → (headV ks s).2.2.2 = 0 ∧ (hdS' ks s).owner = cl ∧ usable (hdS' ks s).used) (hF : ∀ s, s ∈ S → Free ks s) :
    (frS ks S < cnt ∧ aloH ks cl cnt S S = errA 12) ∨ (cnt ≤ frS ks S ∧ ∃ rs : Pk, (rs.map Prod.fst).Nodup ∧ (∀ x, x ∈ rs → x.1 ∈ S ∧ ∃ m, x.2 = (frL (hdS' ks x.1).used).take m) ∧ totP rs = cnt ∧ aloH ks cl cnt S S = ([], freP ks rs, wriP ks rs, 0, true)) := by
  have hE : ∀ T : List Int, (∀ s, s ∈ T → s ∈ S) → hdE ks cl T = none := fun T => by
    induction T with
    | nil => intro _; rfl
    | cons s T ih =>
      intro h
      obtain ⟨h1, h2, _⟩ := hH s (h s (List.mem_cons_self ..))
      unfold hdE
      rw [if_neg (by rw [h1]; simp), if_neg (by rw [h2]; simp)]
      exact ih fun t ht => h t (List.mem_cons_of_mem _ ht)
  have hvac : ∀ s, s ∈ S → vacV (hdS' ks s) = ((frL (hdS' ks s).used).length : Int) := fun s hs => (frL_len (hH s hs).2.2).symm
  have hal : aloH ks cl cnt S S = excA ks cnt (outS ks cnt (srcV ks cnt S) 0 []) := by
    unfold aloH
    rw [hE S fun _ h => h]
  obtain ⟨hsn, hss⟩ := src_sub (ks := ks) (cnt := cnt) hn
  obtain ⟨rs, e1, e2, e3, e4⟩ := outS_all (ks := ks) (cnt := cnt) (srcV ks cnt S) 0 [] (fun s hs => hF s (hss s hs)) (Nat.zero_le _)
  rw [List.nil_append] at e1
  rw [e1] at hal
  have hrs : ∀ x, x ∈ rs → x.1 ∈ S := fun x hx => hss _ (by rw [← e2]; exact List.mem_map.2 ⟨x, hx, rfl⟩)
  have hneed : needP ks rs = [] := by
    unfold needP
    rw [List.filter_eq_nil_iff]
    intro l hl
    unfold linP at hl
    obtain ⟨x, hx, hl⟩ := List.mem_flatMap.1 hl
    obtain ⟨i, hi, rfl⟩ := List.mem_map.1 hl
    obtain ⟨m, hm⟩ := e3 x hx
    rw [hm] at hi
    obtain ⟨h1, h2⟩ := mem_frL.1 (List.mem_of_mem_take hi)
    rw [(hF _ (hrs x hx) i h1.1 h1.2 h2).1]
    simp
  have hfin : ¬ totP rs < cnt → aloH ks cl cnt S S = ([], freP ks rs, wriP ks rs, 0, true) := fun h => by
    rw [hal]
    show finA ks cnt rs = _
    unfold finA
    rw [if_neg h, hneed, if_neg (by simp)]
  have hfull : totP rs < cnt → aloH ks cl cnt S S = errA 12 := fun h => by
    rw [hal]
    show finA ks cnt rs = _
    unfold finA
    rw [if_pos h]
  have hle : frS ks (srcV ks cnt S) ≤ frS ks S ∧ (frS ks S < cnt → frS ks (srcV ks cnt S) < cnt) ∧ (cnt ≤ frS ks S → cnt ≤ frS ks (srcV ks cnt S)) := by
    unfold srcV
    split
    · rename_i s hs
      have hm := List.mem_of_find?_eq_some hs
      have hv := List.find?_some hs
      have hv2 : vacV (hdS' ks s) ≥ (cnt : Int) := by simpa using hv
      rw [hvac s hm] at hv2
      have h1 := frS_mem (ks := ks) hm
      have h2 : frS ks [s] = (frL (hdS' ks s).used).length := by rw [frS_cons]; simp [frS]
      rw [h2]
      exact ⟨h1, fun h => by omega, fun h => by omega⟩
    · exact ⟨Nat.le_refl _, fun h => h, fun h => h⟩
  rcases Nat.lt_or_ge (frS ks S) cnt with h | h
  · exact .inl ⟨h, hfull (by have := hle.2.1 h; omega)⟩
  · refine .inr ⟨h, rs, by rw [e2]; exact hsn, fun x hx => ⟨hrs x hx, e3 x hx⟩, ?_, hfin ?_⟩
    · have := hle.2.2 h; omega
    · have := hle.2.2 h; omega
end Go.Proofs.Ytpfojangcgffkaa

/- Plain laws: a heap of which all pages are known; what stays true when pages are committed. Own work. -/
namespace Go.Proofs.Ytpfojangcgffkaa
open Go.RowKit
set_option linter.unusedVariables false
set_option linter.unusedSimpArgs false
set_option maxRecDepth 100000
def ndB (b : BitVec 32) (inc : Int) : Nd := ⟨false, 0#32, b, inc, Re.nil, Re.nil, Re.nil, Re.nil⟩
/-- What is said of a heap of n segments: B has the bitmaps of the compute nodes, A the owners and the bits of the segments, D the pages that are taken and not yet written. -/
structure Inv (n : Nat) (G : Int) (B : Nat → BitVec 32) (A : Nat → Int × BitVec 32) (D : List (Nat × Nat)) (H : List Pg) : Prop where
  len : H.length = 8 + 16 * n
  ln : ∀ (k : Nat) p, H[k]? = some p → p.l = 96 + (k : Int)
  un : ∀ (k : Nat) p, H[k]? = some p → lockB p = false
  nd : ∀ (c : Nat) p, c < 6 → H[2 + c]? = some p → ∃ inc, (0 ≤ inc ∧ inc ≤ 59) ∧ readN p = (ndB (B c) inc, 0)
  hd : ∀ (s : Nat) p, s < n → H[8 + 16 * s]? = some p → readH p = (⟨(A s).1, (A s).2⟩, 0)
  dp : ∀ (s i : Nat) p, s < n → 1 ≤ i → i ≤ 15 → H[8 + 16 * s + i]? = some p → (kindV p.d0 = 0 ↔ (bitB (A s).2 i = false ∨ (s, i) ∈ D)) ∧ genV p.d0 ≤ G
theorem com_set {H : List Pg} {w : Pg} {k : Nat} (hk : k < H.length) (hl : w.l = 96 + (k : Int)) : comP H w = H.set k { w with h := nextH (H.getD k Pg.nil).h } := by
  unfold comP
  rw [if_pos (by omega), show (w.l - 96).toNat = k by omega]
theorem nextH_un (w : Pg) (x : BitVec 64) : lockB { w with h := nextH x } = false := by
  unfold lockB
  have e : UV (nextH x &&& 255#64) = 0 := by
    rw [UV_low 64 8 _ _ rfl, ← nextH_eq, wrap_u64_mod]
    omega
  show (UV (nextH x &&& 255#64) != 0) = false
  rw [e]; rfl
theorem set_get {H : List Pg} {k j : Nat} {w p : Pg} (h : (H.set k w)[j]? = some p) : (j = k ∧ p = w) ∨ (j ≠ k ∧ H[j]? = some p) := by
  rw [List.getElem?_set] at h
  by_cases e : k = j
  · rw [if_pos e] at h
    split at h
    · exact .inl ⟨e.symm, (Option.some.inj h).symm⟩
    · cases h
  · rw [if_neg e] at h
    exact .inr ⟨fun e2 => e e2.symm, h⟩
section
variable {n : Nat} {G : Int} {B : Nat → BitVec 32} {A : Nat → Int × BitVec 32} {D : List (Nat × Nat)} {H : List Pg}
theorem Inv.at_ (h : Inv n G B A D H) {k : Nat} (hk : k < 8 + 16 * n) : ∃ p, H[k]? = some p := ⟨H[k]'(by rw [h.len]; exact hk), List.getElem?_eq_getElem _⟩
theorem Inv.lat (h : Inv n G B A D H) {k : Nat} {p : Pg} (hk : H[k]? = some p) : latO H (96 + (k : Int)) = some p :=
  lat_hit hk (h.ln k p hk) fun j q hj hq => by rw [h.ln j q hq]; omega
theorem Inv.lat2 (h : Inv n G B A D H) {k : Nat} {p : Pg} (hk : H[k]? = some p) : latP H (96 + (k : Int)) = p ∧ latB H (96 + (k : Int)) = true := by
  unfold latP latB
  rw [h.lat hk]
  exact ⟨rfl, rfl⟩
theorem Inv.miss (h : Inv n G B A D H) {ls : List Int} (hl : ∀ l, l ∈ ls → ∃ k : Nat, k < 8 + 16 * n ∧ l = 96 + (k : Int)) : missV H ls = [] := by
  unfold missV
  rw [List.filter_eq_nil_iff]
  intro l hm
  obtain ⟨k, hk, rfl⟩ := hl l hm
  obtain ⟨p, hp⟩ := h.at_ hk
  rw [h.lat hp]
  simp
theorem Inv.node (h : Inv n G B A D H) {c : Nat} (hc : c < 6) : ∃ p inc, H[2 + c]? = some p ∧ (0 ≤ inc ∧ inc ≤ 59) ∧ nodeV H c = (p, ndB (B c) inc, true, 0) := by
  obtain ⟨p, hp⟩ := h.at_ (k := 2 + c) (by omega)
  obtain ⟨inc, hi, hr⟩ := h.nd c p hc hp
  refine ⟨p, inc, hp, hi, ?_⟩
  obtain ⟨e1, e2⟩ := h.lat2 hp
  have e0 : (96 + ((2 + c : Nat) : Int)) = 98 + (c : Int) := by omega
  rw [e0] at e1 e2
  have e3 := h.un _ p hp
  unfold nodeV
  rw [if_pos e2, e1, if_neg (by rw [e3]; simp), hr]
theorem line_seg {s : Nat} (hs : s ≤ 8) : lineV (s : Int) = 96 + ((8 + 16 * s : Nat) : Int) := by unfold lineV; rw [if_pos (by omega)]; omega
theorem Inv.head (h : Inv n G B A D H) {s : Nat} (hs : s < n) (hn : n ≤ 9) : ∃ p, H[8 + 16 * s]? = some p ∧ headV H s = (p, ⟨(A s).1, (A s).2⟩, true, 0) := by
  obtain ⟨p, hp⟩ := h.at_ (k := 8 + 16 * s) (by omega)
  refine ⟨p, hp, ?_⟩
  obtain ⟨e1, e2⟩ := h.lat2 hp
  rw [← line_seg (by omega)] at e1 e2
  unfold headV
  rw [if_pos e2, e1, if_neg (by rw [h.un _ p hp]; simp), h.hd s p hs hp]
theorem Inv.page (h : Inv n G B A D H) {s i : Nat} (hs : s < n) (hn : n ≤ 9) (hi : i ≤ 15) : ∃ p, H[8 + 16 * s + i]? = some p ∧ latP H (lineV s + i) = p ∧ latB H (lineV s + i) = true := by
  obtain ⟨p, hp⟩ := h.at_ (k := 8 + 16 * s + i) (by omega)
  obtain ⟨e1, e2⟩ := h.lat2 hp
  rw [show (96 + ((8 + 16 * s + i : Nat) : Int)) = lineV s + i by rw [line_seg (by omega)]; omega] at e1 e2
  exact ⟨p, hp, e1, e2⟩
/-! ### Commits -/
theorem Inv.com (h : Inv n G B A D H) {k : Nat} {w : Pg} (hk : k < 8 + 16 * n) (hl : w.l = 96 + (k : Int)) :
    ∃ w', comP H w = H.set k w' ∧ w'.l = w.l ∧ lockB w' = false ∧ readN w' = readN w ∧ readH w' = readH w ∧ w'.d0 = w.d0 :=
  ⟨_, com_set (by rw [h.len]; exact hk) hl, rfl, nextH_un _ _, rfl, rfl, rfl⟩
theorem Inv.comNode (h : Inv n G B A D H) {c : Nat} {w : Pg} {b : BitVec 32} {inc : Int} (hc : c < 6) (hl : w.l = 98 + (c : Int)) (hi : 0 ≤ inc ∧ inc ≤ 59) (hw : readN w = (ndB b inc, 0)) :
    Inv n G (fun x => if x = c then b else B x) A D (comP H w) := by
  obtain ⟨w', e, l1, l2, l3, l4, l5⟩ := h.com (k := 2 + c) (w := w) (by omega) (by omega)
  rw [e]
  refine ⟨by rw [List.length_set, h.len], fun k p hp => ?_, fun k p hp => ?_, fun d p hd hp => ?_, fun s p hs hp => ?_, fun s i p hs h1 h2 hp => ?_⟩
  · rcases set_get hp with ⟨rfl, rfl⟩ | ⟨_, hp⟩
    · rw [l1, hl]; omega
    · exact h.ln k p hp
  · rcases set_get hp with ⟨rfl, rfl⟩ | ⟨_, hp⟩
    · exact l2
    · exact h.un k p hp
  · rcases set_get hp with ⟨e1, rfl⟩ | ⟨e1, hp⟩
    · have : d = c := by omega
      subst this
      rw [if_pos rfl]
      exact ⟨inc, hi, l3.trans hw⟩
    · rw [if_neg (by omega)]
      exact h.nd d p hd hp
  · rcases set_get hp with ⟨e1, rfl⟩ | ⟨e1, hp⟩
    · omega
    · exact h.hd s p hs hp
  · rcases set_get hp with ⟨e1, rfl⟩ | ⟨e1, hp⟩
    · omega
    · exact h.dp s i p hs h1 h2 hp
theorem Inv.comHead (h : Inv n G B A D H) {s : Nat} {w : Pg} {o : Int} {u : BitVec 32} {D' : List (Nat × Nat)} (hs : s < n) (hl : w.l = 104 + 16 * (s : Int)) (hw : readH w = (⟨o, u⟩, 0))
    (hD : ∀ i, 1 ≤ i → i ≤ 15 → ((bitB (A s).2 i = false ∨ (s, i) ∈ D) ↔ (bitB u i = false ∨ (s, i) ∈ D'))) (hD2 : ∀ t i, t ≠ s → ((t, i) ∈ D ↔ (t, i) ∈ D')) :
    Inv n G B (fun x => if x = s then (o, u) else A x) D' (comP H w) := by
  obtain ⟨w', e, l1, l2, l3, l4, l5⟩ := h.com (k := 8 + 16 * s) (w := w) (by omega) (by omega)
  rw [e]
  refine ⟨by rw [List.length_set, h.len], fun k p hp => ?_, fun k p hp => ?_, fun d p hd hp => ?_, fun t p ht hp => ?_, fun t i p ht h1 h2 hp => ?_⟩
  · rcases set_get hp with ⟨rfl, rfl⟩ | ⟨_, hp⟩
    · rw [l1, hl]; omega
    · exact h.ln k p hp
  · rcases set_get hp with ⟨rfl, rfl⟩ | ⟨_, hp⟩
    · exact l2
    · exact h.un k p hp
  · rcases set_get hp with ⟨e1, rfl⟩ | ⟨e1, hp⟩
    · omega
    · exact h.nd d p hd hp
  · rcases set_get hp with ⟨e1, rfl⟩ | ⟨e1, hp⟩
    · have : t = s := by omega
      subst this
      rw [if_pos rfl]
      exact l4.trans hw
    · rw [if_neg (by omega)]
      exact h.hd t p ht hp
  · rcases set_get hp with ⟨e1, rfl⟩ | ⟨e1, hp⟩
    · omega
    · have h3 := h.dp t i p ht h1 h2 hp
      by_cases e2 : t = s
      · subst e2
        rw [if_pos rfl, ← hD i h1 h2]
        exact h3
      · rw [if_neg e2, ← hD2 t i e2]
        exact h3
theorem Inv.comPage (h : Inv n G B A D H) {s i : Nat} {w : Pg} {G' : Int} {D' : List (Nat × Nat)} (hs : s < n) (hi : 1 ≤ i ∧ i ≤ 15) (hl : w.l = 104 + 16 * (s : Int) + i) (hG : G ≤ G') (hg : genV w.d0 ≤ G')
    (hk : kindV w.d0 = 0 ↔ (bitB (A s).2 i = false ∨ (s, i) ∈ D')) (hD : ∀ t j, (t, j) ≠ (s, i) → ((t, j) ∈ D ↔ (t, j) ∈ D')) :
    Inv n G' B A D' (comP H w) := by
  obtain ⟨w', e, l1, l2, l3, l4, l5⟩ := h.com (k := 8 + 16 * s + i) (w := w) (by omega) (by omega)
  rw [e]
  refine ⟨by rw [List.length_set, h.len], fun k p hp => ?_, fun k p hp => ?_, fun d p hd hp => ?_, fun t p ht hp => ?_, fun t j p ht h1 h2 hp => ?_⟩
  · rcases set_get hp with ⟨rfl, rfl⟩ | ⟨_, hp⟩
    · rw [l1, hl]; omega
    · exact h.ln k p hp
  · rcases set_get hp with ⟨rfl, rfl⟩ | ⟨_, hp⟩
    · exact l2
    · exact h.un k p hp
  · rcases set_get hp with ⟨e1, rfl⟩ | ⟨e1, hp⟩
    · omega
    · exact h.nd d p hd hp
  · rcases set_get hp with ⟨e1, rfl⟩ | ⟨e1, hp⟩
    · omega
    · exact h.hd t p ht hp
  · rcases set_get hp with ⟨e1, rfl⟩ | ⟨e1, hp⟩
    · have e2 : t = s := by omega
      have e3 : j = i := by omega
      subst e2 e3
      rw [l5]
      exact ⟨hk, hg⟩
    · obtain ⟨h3, h4⟩ := h.dp t j p ht h1 h2 hp
      rw [← hD t j (fun e2 => by injection e2 with e2 e3; omega)]
      exact ⟨h3, by omega⟩
end
/-! ### Written pages are read -/
theorem sg_le {b : BitVec 32} (h : ∀ i, bitB b i = true → i < 9) : UV b ≤ 511 := by
  have e3 : b >>> 9 = 0#32 := by
    apply BitVec.eq_of_getLsbD_eq
    intro i hi
    rw [BitVec.getLsbD_ushiftRight]
    cases hb : b.getLsbD (9 + i) with
    | false => simp
    | true => have := h (9 + i) (by rw [bit_lsb]; exact hb); omega
  have e4 := UV_shr 32 b 9
  rw [e3] at e4
  have e5 : UV (0#32) = 0 := rfl
  rw [e5] at e4
  have := UV_nonneg b
  omega
theorem write_nd {p : Pg} {b : BitVec 32} {inc : Int} (hl : 98 ≤ p.l ∧ p.l < 104) (hb : ∀ i, bitB b i = true → i < 9) (hi : 0 ≤ inc ∧ inc ≤ 59) : (writeN p (ndB b inc)).2 = 0 := by
  have h := sg_le hb
  have e : badW p (ndB b inc) = false := by
    unfold badW ownB ndB
    simp
    refine ⟨by omega, ?_⟩
    refine ⟨?_, by omega, by omega, by omega⟩
    rfl
  rw [writeN_0 e rfl]
theorem write_hd {p : Pg} {o : Int} {u : BitVec 32} (hl : hdrB p.l = true) (ho : -1 ≤ o ∧ o < 6) (hu : usable u) : (writeH p ⟨o, u⟩).2 = 0 := by
  have e : hdBad p ⟨o, u⟩ = false := by
    unfold hdBad
    rw [hl, (usable_iff u).1 hu]
    simp
    omega
  unfold writeH
  rw [if_neg (by rw [e]; simp)]
theorem hdr_seg {s : Nat} (hs : s ≤ 8) {l : Int} (hl : l = 104 + 16 * (s : Int)) : hdrB l = true := by
  unfold hdrB
  rw [decide_eq_true]
  omega
end Go.Proofs.Ytpfojangcgffkaa

/- Plain laws: a segment taken, pages allocated, a page written, on a heap of which all pages are known. Own work. -/
namespace Go.Proofs.Ytpfojangcgffkaa
open Go.RowKit
set_option linter.unusedVariables false
set_option linter.unusedSimpArgs false
set_option maxRecDepth 100000
/-! ### Tags -/
theorem m8 : ∀ i : Fin 64, (BitVec.ofInt 64 255).getLsbD i.val = decide (i.val < 8) := by decide +kernel
theorem m24 : ∀ i : Fin 64, (BitVec.ofInt 64 16777215).getLsbD i.val = decide (i.val < 24) := by decide +kernel
theorem kind_pack (t : Tg) (h : 0 ≤ t.kind ∧ t.kind < 256) : kindV (packT t) = t.kind := by
  have e : packT t &&& BitVec.ofInt 64 255 = BitVec.ofInt 64 t.kind &&& BitVec.ofInt 64 255 := by
    apply BitVec.eq_of_getLsbD_eq
    intro i hi
    have h1 := m8 ⟨i, hi⟩
    simp only at h1
    unfold packT
    simp only [BitVec.getLsbD_and, BitVec.getLsbD_or, BitVec.getLsbD_shiftLeft, h1]
    by_cases h8 : i < 8
    · simp [h8, show i < 32 by omega]
    · simp [h8]
  have e1 : kindV (packT t) = UV (packT t &&& BitVec.ofInt 64 255) := rfl
  rw [e1, e, UV_low 64 8 _ _ rfl, UV_ofInt64 (by omega)]
  omega
theorem gen_pack (t : Tg) (h : 0 ≤ t.gen ∧ t.gen ≤ 16777215) : genV (packT t) = t.gen := by
  have e : packT t >>> 8 &&& BitVec.ofInt 64 16777215 = BitVec.ofInt 64 t.gen &&& BitVec.ofInt 64 16777215 := by
    apply BitVec.eq_of_getLsbD_eq
    intro i hi
    have h1 := m24 ⟨i, hi⟩
    simp only at h1
    unfold packT
    simp only [BitVec.getLsbD_and, BitVec.getLsbD_or, BitVec.getLsbD_shiftLeft, BitVec.getLsbD_ushiftRight, h1]
    by_cases h8 : i < 24
    · have h2 : (BitVec.ofInt 64 255).getLsbD (8 + i) = false := by
        have := m8 ⟨8 + i, by omega⟩
        simp only at this
        rw [this]; simp
      have e1 : 8 + i - 8 = i := by omega
      have d1 : decide (8 + i < 64) = true := decide_eq_true (by omega)
      have d2 : decide (8 + i < 8) = false := decide_eq_false (by omega)
      have d3 : decide (8 + i < 32) = true := decide_eq_true (by omega)
      have d4 : decide (i < 24) = true := decide_eq_true h8
      simp only [h2, e1, h1, d1, d2, d3, d4, Bool.and_true, Bool.and_false, Bool.false_or, Bool.not_false, Bool.true_and, Bool.not_true, Bool.false_and, Bool.or_false]
    · simp [h8]
  have e1 : genV (packT t) = UV (packT t >>> 8 &&& BitVec.ofInt 64 16777215) := rfl
  rw [e1, e, UV_low 64 24 _ _ rfl, UV_ofInt64 (by omega)]
  omega
/-! ### Who owns what -/
theorem mem_ownV {b : BitVec 32} {x : Int} : ∀ {n : Nat}, x ∈ ownV b n ↔ ∃ s : Nat, s < n ∧ x = (s : Int) ∧ bitB b s = true
  | 0 => ⟨(fun h => by cases h), fun ⟨s, h, _⟩ => absurd h (Nat.not_lt_zero _)⟩
  | n + 1 => by
    unfold ownV
    by_cases hb : bitB b n = true
    · rw [if_pos hb, List.mem_append, mem_ownV]
      constructor
      · rintro (⟨s, h1, h2, h3⟩ | h)
        · exact ⟨s, by omega, h2, h3⟩
        · exact ⟨n, by omega, List.mem_singleton.1 h, hb⟩
      · rintro ⟨s, h1, h2, h3⟩
        by_cases e : s = n
        · subst e; exact .inr (by rw [h2]; simp)
        · exact .inl ⟨s, by omega, h2, h3⟩
    · rw [if_neg hb, mem_ownV]
      constructor
      · rintro ⟨s, h1, h2, h3⟩
        exact ⟨s, by omega, h2, h3⟩
      · rintro ⟨s, h1, h2, h3⟩
        by_cases e : s = n
        · subst e; exact absurd h3 hb
        · exact ⟨s, by omega, h2, h3⟩
structure Coh (n : Nat) (B : Nat → BitVec 32) (A : Nat → Int × BitVec 32) : Prop where
  bn : ∀ c i : Nat, c < 6 → (bitB (B c) i = true ↔ i < n ∧ (A i).1 = (c : Int))
  ow : ∀ s : Nat, s < n → -1 ≤ (A s).1 ∧ (A s).1 < 6
  us : ∀ s : Nat, s < n → usable (A s).2
section
variable {n : Nat} {G : Int} {B : Nat → BitVec 32} {A : Nat → Int × BitVec 32} {D : List (Nat × Nat)} {H : List Pg}
theorem sV_none {ks : List Pg} {st n : Nat} (h : ¬ sB ks st n = true) : ∀ s, s < n → freeB ks s = false := fun s hs => by
  have h0 : unO ks st n = none := by
    unfold sB at h
    cases hq : unO ks st n with
    | none => rfl
    | some i => rw [hq] at h; simp at h
  have key : ∀ (f : Nat → Bool) (m k : Nat), fstF f k m = none → ∀ i, k ≤ i → i < k + m → f i = false := fun f m => by
    induction m with
    | zero => intro k _ i h1 h2; omega
    | succ m ih =>
      intro k hk i h1 h2
      unfold fstF at hk
      split at hk
      · cases hk
      · rename_i g
        by_cases e : i = k
        · subst e; simpa using g
        · exact ih (k + 1) hk i (by omega) (by omega)
  have hi : (st + (s + n - st % n) % n) % n = s := by
    have h1 : st % n < n := Nat.mod_lt _ (by omega)
    rw [Nat.add_mod, Nat.mod_mod]
    rcases Nat.lt_or_ge s (st % n) with h2 | h2
    · rw [Nat.mod_eq_of_lt (a := s + n - st % n) (by omega), show st % n + (s + n - st % n) = s + n by omega, Nat.add_mod_right, Nat.mod_eq_of_lt hs]
    · rw [show s + n - st % n = (s - st % n) + n by omega, Nat.add_mod_right, Nat.mod_eq_of_lt (a := s - st % n) (by omega), show st % n + (s - st % n) = s by omega, Nat.mod_eq_of_lt hs]
  have := key _ n 0 h0 ((s + n - st % n) % n) (Nat.zero_le _) (by have := Nat.mod_lt (s + n - st % n) (show 0 < n by omega); omega)
  rw [hi] at this
  exact this
theorem free_own (h : Inv n G B A D H) (hn : n ≤ 9) {s : Nat} (hs : s < n) : freeB H s = decide ((A s).1 = -1) := by
  obtain ⟨p, _, e⟩ := h.head hs hn
  unfold freeB
  rw [e]
  simp
  rfl
theorem count_n {n : Nat} (hn : n ≤ 9) : countN (104 + 16 * (n : Int)) = n := by
  unfold countN countV
  rw [if_pos (by omega)]
  omega
theorem Inv.hdr0 (h : Inv n G B A D H) (hn : n ≤ 9) (b : BitVec 32) : missV H ((ownV b n).map lineV) = [] := h.miss fun l hl => by
  obtain ⟨x, hx, rfl⟩ := List.mem_map.1 hl
  obtain ⟨s, h1, rfl, _⟩ := mem_ownV.1 hx
  exact ⟨8 + 16 * s, by omega, line_seg (by omega)⟩
def updA (A : Nat → Int × BitVec 32) (s : Nat) (x : Int × BitVec 32) : Nat → Int × BitVec 32 := fun t => if t = s then x else A t
def updB (B : Nat → BitVec 32) (c : Nat) (b : BitVec 32) : Nat → BitVec 32 := fun t => if t = c then b else B t
/-- A segment is taken. -/
theorem acq_step (h : Inv n G B A D H) (hC : Coh n B A) (hn : n ≤ 9) {c : Nat} (hc : c < 6) :
    (sB H c (countN (104 + 16 * (n : Int))) = true → (mineW H c 1 (sV H c (countN (104 + 16 * (n : Int))))).l < (headW H c (sV H c (countN (104 + 16 * (n : Int))))).l) ∧ missV H (hdrL (104 + 16 * (n : Int))) = [] ∧
    (((∀ s, s < n → (A s).1 ≠ -1) ∧ acqV H c 1 (104 + 16 * (n : Int)) = ([], [], 0, 12, true)) ∨
     (∃ s w1 w2, s < n ∧ (A s).1 = -1 ∧ acqV H c 1 (104 + 16 * (n : Int)) = ([], [w1, w2], s, 0, true) ∧ (w1.l = 98 + (c : Int) ∧ w2.l = 104 + 16 * (s : Int)) ∧
      Inv n G (updB B c (B c ||| BitVec.ofInt 32 1 <<< s)) (updA A s (c, (A s).2)) D (comP (comP H w1) w2) ∧ Coh n (updB B c (B c ||| BitVec.ofInt 32 1 <<< s)) (updA A s (c, (A s).2)))) := by
  rw [count_n hn]
  have hm0 : missV H (hdrL (104 + 16 * (n : Int))) = [] := by
    unfold hdrL
    rw [count_n hn]
    exact h.hdr0 hn _
  obtain ⟨pn, inc, hpn, hinc, hnode⟩ := h.node hc
  have hm1 : missV H [98 + (c : Int)] = [] := h.miss fun l hl => ⟨2 + c, by omega, by rw [List.mem_singleton.1 hl]; omega⟩
  have hpl := h.ln _ _ hpn
  by_cases g : sB H c n = true
  · obtain ⟨hfr, hsn⟩ := sB_yes g
    obtain ⟨s, hs⟩ : ∃ s, sV H c n = s := ⟨_, rfl⟩
    rw [hs] at hfr hsn
    have hown : (A s).1 = -1 := by
      have := free_own h hn hsn
      rw [hfr] at this
      exact of_decide_eq_true this.symm
    obtain ⟨ph, hph, hhead⟩ := h.head hsn hn
    have hphl := h.ln _ _ hph
    have hbits : ∀ i, bitB (B c ||| BitVec.ofInt 32 1 <<< s) i = true → i < 9 := fun i hi => by
      rw [bit_or _ _ _ (by omega)] at hi
      rcases (Bool.or_eq_true_iff.1 hi) with hi | hi
      · have := ((hC.bn c i hc).1 hi).1; omega
      · have := of_decide_eq_true hi; omega
    have e1 : mineW H c 1 s = (writeN pn (ndB (B c ||| BitVec.ofInt 32 1 <<< s) 1)).1 := by
      unfold mineW
      rw [hnode]
      rfl
    have e2 : headW H c s = (writeH ph ⟨(c : Int), (A s).2⟩).1 := by
      unfold headW
      rw [hhead]
    have w1 := back_node (write_nd (p := pn) (b := B c ||| BitVec.ofInt 32 1 <<< s) (inc := 1) (by omega) hbits (by decide))
    have w2 := back_header (write_hd (p := ph) (o := (c : Int)) (u := (A s).2) (hdr_seg (s := s) (by omega) (by omega)) (by omega) (hC.us s hsn))
    rw [← e1] at w1
    rw [← e2] at w2
    have l1 : (mineW H c 1 s).l = 98 + (c : Int) := by rw [w1.2.1]; omega
    have l2 : (headW H c s).l = 104 + 16 * (s : Int) := by rw [w2.2.1]; omega
    refine ⟨fun _ => by rw [hs, l1, l2]; omega, hm0, .inr ⟨s, mineW H c 1 s, headW H c s, hsn, hown, ?_, ⟨l1, l2⟩, ?_, ?_⟩⟩
    · unfold acqV
      rw [hm1, hm0, hnode, if_neg (by simp), if_neg (by simp), if_neg (by simp), count_n hn, if_pos g, hs]
    · have h1 := h.comNode (c := c) (w := mineW H c 1 s) hc l1 (by decide) w1.1
      have h2 := h1.comHead (s := s) (w := headW H c s) (D' := D) hsn l2 w2.1 (fun i _ _ => Iff.rfl) (fun t i _ => Iff.rfl)
      exact h2
    · refine ⟨fun d i hd => ?_, fun t ht => ?_, fun t ht => ?_⟩
      · unfold updB updA
        have hbs := hC.bn d i hd
        by_cases hdc : d = c
        · subst hdc
          rw [if_pos rfl, bit_or _ _ _ (by omega), Bool.or_eq_true, hbs, decide_eq_true_iff]
          by_cases his : i = s
          · rw [if_pos his]; subst his; simp [hsn]
          · rw [if_neg his]; simp [his]
        · rw [if_neg hdc, hbs]
          by_cases his : i = s
          · rw [if_pos his]
            subst his
            rw [hown]
            simp only
            omega
          · rw [if_neg his]
      · unfold updA
        by_cases hts : t = s
        · rw [if_pos hts]; simp only; omega
        · rw [if_neg hts]; exact hC.ow t ht
      · unfold updA
        by_cases hts : t = s
        · rw [if_pos hts]; subst hts; exact hC.us t ht
        · rw [if_neg hts]; exact hC.us t ht
  · refine ⟨fun e => absurd e g, hm0, .inl ⟨fun s hs e => ?_, ?_⟩⟩
    · have h1 := sV_none g s hs
      rw [free_own h hn hs, e] at h1
      simp at h1
    · unfold acqV
      rw [hm1, hm0, hnode, if_neg (by simp), if_neg (by simp), if_neg (by simp), count_n hn, if_neg g]
/-! ### Pages allocated -/
def pkl (rs : Pk) : List (Nat × Nat) := rs.flatMap fun x => x.2.map fun i => (x.1.toNat, i)
theorem pkl_cons (x : Int × List Nat) (rs : Pk) : pkl (x :: rs) = (x.2.map fun i => (x.1.toNat, i)) ++ pkl rs := by unfold pkl; simp
theorem pkl_len (rs : Pk) : (pkl rs).length = totP rs := by
  induction rs with
  | nil => rfl
  | cons x rs ih => rw [pkl_cons, List.length_append, ih]; unfold totP; simp
theorem mem_pkl {rs : Pk} {t i : Nat} : (t, i) ∈ pkl rs ↔ ∃ x, x ∈ rs ∧ x.1.toNat = t ∧ i ∈ x.2 := by
  unfold pkl
  rw [List.mem_flatMap]
  constructor
  · rintro ⟨x, h1, h2⟩
    obtain ⟨j, h3, h4⟩ := List.mem_map.1 h2
    injection h4 with h4 h5
    exact ⟨x, h1, h4, h5 ▸ h3⟩
  · rintro ⟨x, h1, h2, h3⟩
    exact ⟨x, h1, List.mem_map.2 ⟨i, h3, by rw [h2]⟩⟩
theorem pkl_nodup : ∀ {rs : Pk}, (rs.map Prod.fst).Nodup → (∀ x, x ∈ rs → 0 ≤ x.1 ∧ x.2.Nodup) → (pkl rs).Nodup
  | [], _, _ => List.nodup_nil
  | x :: rs, hn, hq => by
    rw [pkl_cons]
    rw [List.map_cons, List.nodup_cons] at hn
    refine List.nodup_append.2 ⟨?_, pkl_nodup hn.2 fun y hy => hq y (List.mem_cons_of_mem _ hy), fun a ha b hb e => ?_⟩
    · refine List.Pairwise.map _ (fun a b hab e => ?_) (hq x (List.mem_cons_self ..)).2
      injection e with e1 e2
      exact hab e2
    · obtain ⟨i, hi, rfl⟩ := List.mem_map.1 ha
      rw [← e] at hb
      obtain ⟨y, h1, h2, h3⟩ := mem_pkl.1 hb
      have h4 := (hq x (List.mem_cons_self ..)).1
      have h5 := (hq y (List.mem_cons_of_mem _ h1)).1
      exact hn.1 (List.mem_map.2 ⟨y, h1, by omega⟩)
theorem wri_cons (ks : List Pg) (x : Int × List Nat) (rs : Pk) : wriP ks (x :: rs) = if x.2 = [] then wriP ks rs else (writeH (headV ks x.1).1 (newHd ks x)).1 :: wriP ks rs := by
  unfold wriP
  cases h : x.2 with
  | nil => rw [if_pos rfl, List.filter_cons_of_neg (by rw [h]; simp)]
  | cons a q => rw [if_neg (by simp), List.filter_cons_of_pos (by rw [h]; simp)]; rfl
theorem heads_step (hn : n ≤ 9) {H0 : List Pg} {A0 : Nat → Int × BitVec 32} {B0 : Nat → BitVec 32} {D0 : List (Nat × Nat)} (h0 : Inv n G B0 A0 D0 H0) (hus : ∀ s : Nat, s < n → usable (A0 s).2) (how : ∀ s : Nat, s < n → -1 ≤ (A0 s).1 ∧ (A0 s).1 < 6) :
    ∀ (rs : Pk) (A : Nat → Int × BitVec 32) (D : List (Nat × Nat)) (H : List Pg), Inv n G B A D H → (rs.map Prod.fst).Nodup →
    (∀ x, x ∈ rs → ∃ s : Nat, s < n ∧ x.1 = (s : Int) ∧ A s = A0 s ∧ (∀ i, i ∈ x.2 → (1 ≤ i ∧ i ≤ 15) ∧ bitB (A0 s).2 i = false) ∧ ∀ i, (s, i) ∉ D) →
    (∀ w, w ∈ wriP H0 rs → ∃ t : Nat, t < n ∧ w.l = 104 + 16 * (t : Int)) ∧
    ∃ A' : Nat → Int × BitVec 32, (∀ s, (A' s).1 = (A s).1) ∧ (∀ s i, bitB (A' s).2 i = (bitB (A s).2 i || decide ((s, i) ∈ pkl rs))) ∧ Inv n G B A' (D ++ pkl rs) ((wriP H0 rs).foldl comP H)
  | [], A, D, H, h, _, _ => ⟨fun w hw => by simp [wriP] at hw, A, fun _ => rfl, fun s i => by simp [pkl], by simpa [pkl, wriP] using h⟩
  | x :: rs, A, D, H, h, hnd, hx => by
    obtain ⟨s, hs, hxs, hAs, hi, hD⟩ := hx x (List.mem_cons_self ..)
    rw [List.map_cons, List.nodup_cons] at hnd
    rw [wri_cons, pkl_cons, hxs, Int.toNat_natCast]
    by_cases hq : x.2 = []
    · rw [if_pos hq, hq, List.map_nil, List.nil_append]
      exact heads_step hn h0 hus how rs A D H h hnd.2 fun y hy => hx y (List.mem_cons_of_mem _ hy)
    · rw [if_neg hq]
      obtain ⟨ph, hph, hhead⟩ := h0.head hs hn
      have hphl := h0.ln _ _ hph
      have hlt : ∀ j, j ∈ x.2 → j < 32 := fun j hj => by have := (hi j hj).1; omega
      have hu : usable (orb (A0 s).2 x.2) := fun j hj => by
        rw [bit_orb j _ _ hlt] at hj
        rcases Bool.or_eq_true_iff.1 hj with hj | hj
        · exact hus s hs j hj
        · exact (hi j (of_decide_eq_true hj)).1
      have ew : (writeH (headV H0 (s : Int)).1 (newHd H0 x)).1 = (writeH ph ⟨(A0 s).1, orb (A0 s).2 x.2⟩).1 := by
        unfold newHd hdS'
        rw [hxs, hhead]
      have w2 := back_header (write_hd (p := ph) (o := (A0 s).1) (u := orb (A0 s).2 x.2) (hdr_seg (s := s) (by omega) (by omega)) (how s hs) hu)
      rw [ew]
      obtain ⟨w, hw⟩ : ∃ w, (writeH ph ⟨(A0 s).1, orb (A0 s).2 x.2⟩).1 = w := ⟨_, rfl⟩
      rw [hw] at w2 ⊢
      have hl : w.l = 104 + 16 * (s : Int) := by rw [w2.2.1]; omega
      have h1 := h.comHead (s := s) (w := w) (D' := D ++ x.2.map fun i => (s, i)) hs hl w2.1 (fun i h1 h2 => by
        rw [hAs, bit_orb i _ _ hlt]
        constructor
        · rintro (hb | hb)
          · by_cases hm : i ∈ x.2
            · exact .inr (List.mem_append_right _ (List.mem_map.2 ⟨i, hm, rfl⟩))
            · exact .inl (by rw [hb]; simp [hm])
          · exact absurd hb (hD i)
        · rintro (hb | hb)
          · exact .inl (by rw [Bool.or_eq_false_iff] at hb; exact hb.1)
          · rcases List.mem_append.1 hb with hb | hb
            · exact absurd hb (hD i)
            · obtain ⟨j, hj, e⟩ := List.mem_map.1 hb
              injection e with _ e
              exact .inl (e ▸ (hi j hj).2)) (fun t i ht => by
        constructor
        · exact fun hm => List.mem_append_left _ hm
        · intro hm
          rcases List.mem_append.1 hm with hm | hm
          · exact hm
          · obtain ⟨j, _, e⟩ := List.mem_map.1 hm
            injection e with e _
            exact absurd e.symm ht)
      obtain ⟨q1, A', q2, q3, q4⟩ := heads_step hn h0 hus how rs _ _ _ h1 hnd.2 fun y hy => by
        obtain ⟨t, ht, hyt, hAt, hti, hDt⟩ := hx y (List.mem_cons_of_mem _ hy)
        have hne : t ≠ s := fun e => hnd.1 (List.mem_map.2 ⟨y, hy, by rw [hyt, hxs, e]⟩)
        refine ⟨t, ht, hyt, by rw [if_neg hne]; exact hAt, hti, fun i hm => ?_⟩
        rcases List.mem_append.1 hm with hm | hm
        · exact hDt i hm
        · obtain ⟨j, _, e⟩ := List.mem_map.1 hm
          injection e with e _
          exact hne e.symm
      refine ⟨fun v hv => ?_, A', fun t => ?_, fun t i => ?_, ?_⟩
      · rcases List.mem_cons.1 hv with hv | hv
        · rw [hv]; exact ⟨s, hs, hl⟩
        · exact q1 v hv
      · rw [q2]
        by_cases e : t = s
        · rw [if_pos e, e, hAs]
        · rw [if_neg e]
      · rw [q3]
        by_cases e : t = s
        · subst e
          rw [if_pos rfl, bit_orb i _ _ hlt, hAs]
          by_cases hm : i ∈ x.2 <;> simp [hm]
        · rw [if_neg e]
          have : ¬ (t, i) ∈ x.2.map fun i => (s, i) := fun hm => by
            obtain ⟨j, _, e2⟩ := List.mem_map.1 hm
            injection e2 with e2 _
            exact e e2.symm
          rw [show decide ((t, i) ∈ (x.2.map fun i => (s, i)) ++ pkl rs) = decide ((t, i) ∈ pkl rs) by simp only [List.mem_append, this, false_or]]
      · rw [List.foldl_cons]
        rw [List.append_assoc] at q4
        exact q4
theorem Inv.free (h : Inv n G B A [] H) (hn : n ≤ 9) (hG : G < 16777215) {s : Nat} (hs : s < n) : Free H s := fun i h1 h2 h3 => by
  obtain ⟨ph, hph, hhead⟩ := h.head hs hn
  have e : (hdS' H s).used = (A s).2 := by unfold hdS'; rw [hhead]
  rw [e] at h3
  obtain ⟨p, hp, hp1, hp2⟩ := h.page (i := i) hs hn h2
  obtain ⟨h4, h5⟩ := h.dp s i p hs h1 h2 hp
  refine ⟨hp2, ?_⟩
  unfold pkV
  rw [if_pos hp2, hp1, if_neg (by rw [h.un _ p hp]; simp), if_neg (by rw [h4.2 (.inl h3)]; simp), if_neg (by omega)]
def freN (n : Nat) (A : Nat → Int × BitVec 32) (c : Nat) : Nat := ((List.range n).map fun s => if (A s).1 = (c : Int) then (frL (A s).2).length else 0).sum
theorem sum_own {f : Int → Nat} {b : BitVec 32} {g : Nat → Nat} : ∀ {n : Nat}, (∀ s : Nat, s < n → (if bitB b s = true then f s else 0) = g s) → ((ownV b n).map f).sum = ((List.range n).map g).sum
  | 0, _ => rfl
  | n + 1, h => by
    have ih := sum_own (f := f) (b := b) (g := g) (n := n) fun s hs => h s (by omega)
    have h1 := h n (by omega)
    unfold ownV
    rw [List.range_succ, List.map_append, List.sum_append]
    by_cases hb : bitB b n = true
    · rw [if_pos hb] at h1
      rw [if_pos hb, List.map_append, List.sum_append, ih]
      simp [h1]
    · rw [if_neg hb] at h1
      rw [if_neg hb, ih]
      simp [← h1]
theorem flatMap_cg {α β : Type} {f g : α → List β} : ∀ {l : List α}, (∀ x, x ∈ l → f x = g x) → l.flatMap f = l.flatMap g
  | [], _ => rfl
  | x :: l, h => by rw [List.flatMap_cons, List.flatMap_cons, h x (List.mem_cons_self ..), flatMap_cg fun y hy => h y (List.mem_cons_of_mem _ hy)]
theorem alo_step (h : Inv n G B A [] H) (hC : Coh n B A) (hn : n ≤ 9) {c cnt : Nat} (hc : c < 6) (hG : G < 16777215) :
    (freN n A c < cnt ∧ aloH H c cnt (ownV (B c) n) (ownV (B c) n) = errA 12) ∨
    (cnt ≤ freN n A c ∧ ∃ (pk : List (Nat × Nat)) (W : List Pg), pk.length = cnt ∧ pk.Nodup ∧ (∀ s i, (s, i) ∈ pk → s < n ∧ (1 ≤ i ∧ i ≤ 15) ∧ (A s).1 = (c : Int) ∧ bitB (A s).2 i = false) ∧
      aloH H c cnt (ownV (B c) n) (ownV (B c) n) = ([], pk.map (fun x => latP H (lineV (x.1 : Int) + (x.2 : Int))), W, 0, true) ∧ (∀ w, w ∈ W → ∃ t : Nat, t < n ∧ w.l = 104 + 16 * (t : Int)) ∧
      ∃ A' : Nat → Int × BitVec 32, (∀ s, (A' s).1 = (A s).1) ∧ (∀ s i, bitB (A' s).2 i = (bitB (A s).2 i || decide ((s, i) ∈ pk))) ∧ Inv n G B A' pk (W.foldl comP H)) := by
  have hS : ∀ x, x ∈ ownV (B c) n → ∃ s : Nat, s < n ∧ x = (s : Int) ∧ (A s).1 = (c : Int) ∧ headV H x = ((headV H x).1, ⟨(c : Int), (A s).2⟩, true, 0) := fun x hx => by
    obtain ⟨s, hs, rfl, hb⟩ := mem_ownV.1 hx
    obtain ⟨ph, hph, hhead⟩ := h.head hs hn
    have ho := ((hC.bn c s hc).1 hb).2
    exact ⟨s, hs, rfl, ho, by rw [hhead, ho]⟩
  have hfr : frS H (ownV (B c) n) = freN n A c := by
    unfold frS freN
    refine sum_own fun s hs => ?_
    obtain ⟨ph, hph, hhead⟩ := h.head hs hn
    have e : (hdS' H s).used = (A s).2 := by unfold hdS'; rw [hhead]
    rw [e]
    by_cases hb : (A s).1 = (c : Int)
    · rw [if_pos hb, if_pos ((hC.bn c s hc).2 ⟨hs, hb⟩)]
    · rw [if_neg hb, if_neg (fun hh => hb ((hC.bn c s hc).1 hh).2)]
  rw [← hfr]
  rcases alo_all (ks := H) (cl := (c : Int)) (cnt := cnt) (S := ownV (B c) n) (ownV_nodup _ _) (fun x hx => by
      obtain ⟨s, hs, rfl, ho, he⟩ := hS x hx
      unfold hdS'
      rw [he]
      exact ⟨rfl, rfl, hC.us s hs⟩) (fun x hx => by
      obtain ⟨s, hs, rfl, ho, he⟩ := hS x hx
      exact h.free hn hG hs) with ⟨h1, h2⟩ | ⟨h1, rs, r1, r2, r3, r4⟩
  · exact .inl ⟨h1, h2⟩
  · have r2' : ∀ x, x ∈ rs → ∃ s : Nat, s < n ∧ x.1 = (s : Int) ∧ (A s).1 = (c : Int) ∧ x.2.Nodup ∧ (∀ i, i ∈ x.2 → (1 ≤ i ∧ i ≤ 15) ∧ bitB (A s).2 i = false) := fun x hx => by
      obtain ⟨q1, m, q2⟩ := r2 x hx
      obtain ⟨s, hs, hxs, ho, he⟩ := hS _ q1
      have e : (hdS' H x.1).used = (A s).2 := by unfold hdS'; rw [he]
      rw [e] at q2
      refine ⟨s, hs, hxs, ho, ?_, fun i hi => ?_⟩
      · rw [q2]
        exact (List.take_sublist _ _).nodup (frL_nodup _)
      · rw [q2] at hi
        exact mem_frL.1 (List.mem_of_mem_take hi)
    obtain ⟨k1, A', k2, k3, k4⟩ := heads_step hn h hC.us hC.ow rs A [] H h r1 fun x hx => by
      obtain ⟨s, hs, hxs, ho, _, hi⟩ := r2' x hx
      exact ⟨s, hs, hxs, rfl, hi, fun i hm => by cases hm⟩
    refine .inr ⟨h1, pkl rs, wriP H rs, by rw [pkl_len, r3], pkl_nodup r1 fun x hx => ?_, fun s i hm => ?_, ?_, k1, A', k2, k3, by simpa using k4⟩
    · obtain ⟨s, hs, hxs, ho, hq, hi⟩ := r2' x hx
      exact ⟨by omega, hq⟩
    · obtain ⟨x, q1, q2, q3⟩ := mem_pkl.1 hm
      obtain ⟨t, hs, hxs, ho, hq, hi⟩ := r2' x q1
      have e : t = s := by omega
      subst e
      exact ⟨hs, (hi i q3).1, ho, (hi i q3).2⟩
    · rw [r4]
      have e : freP H rs = (pkl rs).map fun x => latP H (lineV (x.1 : Int) + (x.2 : Int)) := by
        have e1 : (linP rs).filter (fun l => latB H l) = linP rs := List.filter_eq_self.2 fun l hl => by
          unfold linP at hl
          obtain ⟨x, hx, hl⟩ := List.mem_flatMap.1 hl
          obtain ⟨i, hi, rfl⟩ := List.mem_map.1 hl
          obtain ⟨s, hs, hxs, ho, hq, hii⟩ := r2' x hx
          rw [hxs]
          obtain ⟨p, _, _, hp⟩ := h.page (i := i) hs hn (hii i hi).1.2
          exact hp
        unfold freP
        rw [e1]
        unfold linP pkl
        rw [List.map_flatMap, List.map_flatMap]
        refine flatMap_cg fun x hx => ?_
        obtain ⟨s, hs, hxs, _⟩ := r2' x hx
        rw [List.map_map, List.map_map]
        refine List.map_congr_left fun i hi => ?_
        simp only [Function.comp]
        rw [hxs]
        rfl
      rw [e]
/-! ### A page is written -/
theorem all_ok {p : Pg} {kind : Int} (h1 : 104 ≤ p.l ∧ p.l < 256) (h2 : lockB p = false) (h3 : kindV p.d0 = 0) (h4 : genV p.d0 < 16777215) : allP p kind 0#32 = (tagP p ⟨kind, genV p.d0 + 1, 0#32⟩, 0) := by
  unfold allP
  rw [if_pos (by unfold heapB; simp; omega), if_neg (by rw [h2]; simp), if_neg (by rw [h3]; simp), if_neg (by omega)]
theorem page_step {s i : Nat} (h : Inv n G B A ((s, i) :: D) H) {p : Pg} {kind : Int} (hs : s < n) (hi : 1 ≤ i ∧ i ≤ 15) (hb : bitB (A s).2 i = true) (hD : (s, i) ∉ D) (hl : p.l = 104 + 16 * (s : Int) + i) (hg : genV p.d0 + 1 ≤ G) (hG : G ≤ 16777215) (hk : 1 ≤ kind ∧ kind ≤ 4) :
    Inv n G B A D (comP H (tagP p ⟨kind, genV p.d0 + 1, 0#32⟩)) := by
  have h0 : 0 ≤ genV p.d0 := by rw [gen_eq]; omega
  have e1 : kindV (tagP p ⟨kind, genV p.d0 + 1, 0#32⟩).d0 = kind := kind_pack _ (by simp only; omega)
  have e2 : genV (tagP p ⟨kind, genV p.d0 + 1, 0#32⟩).d0 = genV p.d0 + 1 := gen_pack _ (by simp only; omega)
  refine h.comPage (s := s) (i := i) hs hi hl (Int.le_refl _) (by rw [e2]; exact hg) ?_ fun t j hne => ?_
  · rw [e1, hb]
    constructor
    · intro e; omega
    · rintro (e | e)
      · cases e
      · exact absurd e hD
  · constructor
    · intro hm
      rcases List.mem_cons.1 hm with e | hm
      · exact absurd e hne
      · exact hm
    · exact fun hm => List.mem_cons_of_mem _ hm
end
end Go.Proofs.Ytpfojangcgffkaa

/- A call to which own memory is lent and that hands back own memory. Own work. -/
namespace Go.Proofs.Ytpfojangcgffkaa
open Go.RowKit
set_option linter.unusedVariables false
set_option linter.unusedSimpArgs false
/-- A thing in memory that names no other memory. -/
def PureI (it : Item) : Prop := ∀ φ φ' o, it.ok φ o → it.ok φ' o
def PureIs : List Item → Prop
  | [] => True
  | it :: L => PureI it ∧ PureIs L
theorem PureIs.at_ : ∀ {L : List Item} {it : Item}, PureIs L → it ∈ L → PureI it
  | x :: L, it, ⟨h1, h2⟩, h => by
    rcases List.mem_cons.1 h with h | h
    · subst h; exact h1
    · exact PureIs.at_ h2 h
theorem flat_pure {α : Type} {T : Ty α} (hT : ∀ x, PureVs (T.cells x)) {φ φ' : Fz} : ∀ (ys : List α) (us : List Value), Alls φ (ys.flatMap T.cells) us → Alls φ' (ys.flatMap T.cells) us
  | [], us, hh => by
    match us, hh with
    | [], _ => trivial
  | y :: ys, us, hh => by
    rw [List.flatMap_cons] at hh ⊢
    have hl : (T.cells y).length = T.size := T.len y
    have e1 := hh.take T.size
    have e2 := hh.drop T.size
    rw [← hl, List.take_left] at e1
    rw [← hl, List.drop_left] at e2
    have e3 := (hT y).alls (φ' := φ') e1
    have e4 := flat_pure hT (φ' := φ') ys _ e2
    have := e3.append e4
    rwa [List.take_append_drop] at this
theorem pureI_buf {α : Type} {T : Ty α} {v : Value} {e : TypeId} {xs : List α} (hT : ∀ x, PureVs (T.cells x)) : PureI (buf v e T xs) := fun φ φ' o ⟨flat, h0, h1, h2, h3⟩ => ⟨flat, h0, flat_pure hT _ _ h1, h2, h3⟩
theorem pureI_blk {b : Nat} {t : TypeId} {As : List VP} (h : PureVs As) : PureI (blk b t As) := fun φ φ' o ⟨vs, e, k, k1⟩ => ⟨vs, e, h.alls k, k1⟩
theorem pure_top : PureV Top := fun _ _ _ _ => trivial
theorem HP.pure {φ φ1 φ' : Fz} {M : List Item} {w w' : World} (hb : ∀ b i v, φ b i = some v → w.cell? ⟨b, i, none⟩ = some v) (hle : Fle φ φ1) (h : HP ⟨w, φ1, [], []⟩ φ' M w') (hM : PureIs M) : HP ⟨w, φ, [], []⟩ φ M w' := by
  refine ⟨⟨fun b i v e => ?_, fun it hi => ?_, h.mem.sep⟩, h.kept, h.mine, fun _ _ _ => rfl⟩
  · exact h.mem.base b i v (by rw [h.old b i (cell_lt (hb b i v e))]; exact hle _ _ _ e)
  · obtain ⟨h1, h2⟩ := h.mem.items it hi
    refine ⟨hM.at_ hi _ _ _ h1, fun b hat => ⟨(h2 b hat).1, fun i => ?_⟩⟩
    rcases h.mine b (mem_names.2 ⟨it, hi, hat⟩) with h3 | h3
    · cases hq : φ b i with
      | none => rfl
      | some v => exact absurd (cell_lt (hb b i v hq)) (Nat.not_lt.2 h3)
    · cases h3
section
variable {P : Program} {c : Ctx} {A : Nat → Option VP} {L : List Item} {d : Option Tmp} {ty : TypeId} {pos : String} {af : Array Edge} {g : Option (Nat × Bool)}
theorem op_callLO {f : FuncId} {xs : List Operand} {ts : Array TypeId} {As : List VP} {L' : List Item} {ι : Type} {R : ι → VP} {M : ι → List Item} (hL : LendL L L') (hc : ∀ (args : Array Value) (w : World), (callFunc f args).run P w = .ok (.enter f args) w)
    (hF : Fn P f As [] R M) (ha : ArgsE A L' xs As) (hR : ∀ i, PureV (R i)) (hM : ∀ i, PureIs (M i)) : OpS P c ⟨d, .call { callee := .value (.func f), args := xs.toArray, argTypes := ts }, ty, pos, af, g⟩ A L R (fun i => M i ++ L) := by
  intro φ a w K Q hm he hk
  obtain ⟨φ1, hle, hm1⟩ := hL.mem [] φ w hm.mem
  rw [List.nil_append] at hm1
  have hv := ha.alls (φ := φ1) (a := a) fun x hx B hB => by
    obtain ⟨D, h1, h2⟩ := hB
    exact h2 φ1 _ hm1.facts (D.mono hle (he x (by simp [Op.operands, Call.operands, hx]) D (.rfl' h1)))
  unfold Oper.wp
  rw [run_enter hc]
  refine (hF φ1 w _ hv ⟨hm1.base, by simp, List.Pairwise.nil⟩).mono ?_
  rintro e w' ⟨i, v, φ', rfl, h1, h2⟩
  have h2' : HP ⟨w, φ1, [], []⟩ φ' (M i) w' := by simpa [names] using h2
  have h3 := HP.pure hm.mem.base hle h2' (hM i)
  exact hk i φ v w' Fle.rfl' (hR i _ _ _ h1) (hm.new h3)
end
section
variable {P : Program} {c : Ctx} {A : Nat → Option VP} {L : List Item} {d : Option Tmp} {ty : TypeId} {pos : String} {af : Array Edge} {g : Option (Nat × Bool)} {α : Type} {T : Ty α} {xs ys : List α}
/-- Append onto what the stretch itself has made, however it is told. -/
theorem op_appTV {s : Tmp} {y : Operand} {t e : TypeId} {κ : Type} {val : κ → Value} (hy : Ev A L y (IsSl T ys)) (hT : AppT P t e T.size) (hlen : xs.length + ys.length ≤ 1048576) :
    OpT P c ⟨d, .call { callee := .builtin .append, args := #[.tmp s, y], argTypes := #[t, t] }, ty, pos, af, g⟩ A L s val (fun i => buf (val i) e T xs) (slV (xs ++ ys).length) (fun i => buf (slV (xs ++ ys).length i) e T (xs ++ ys)) := by
  intro φ a w K Q i0 hm h1 he hk
  have h2 : (IsSl T ys).ok φ (a.eval y) := he y (by simp [Op.operands, Call.operands]) _ hy
  have hit := hm.mem.items _ (List.mem_cons_self ..)
  obtain ⟨flat, f1, f2, f3⟩ := buf_owns hit
  obtain ⟨i, w', flat', r1, r2, r3, r4, r5, r6⟩ := run_app2 (x := .tmp s) (d := d) (ty := ty) (pos := pos) (af := af) (g := g) hT hm.mem.base h1 f3 f1 f2 h2 hlen
  unfold Oper.wp
  rw [r1]
  have hm1 : HP ⟨w, φ, names [buf (val i0) e T xs], []⟩ φ [buf (val i0) e T xs] w := HP.start ⟨hm.mem.base, fun it hi => by rw [List.mem_singleton] at hi; subst hi; exact hit, List.pairwise_singleton _ _⟩
  exact hk i φ w' (hp_app (L := []) hm1 r2 r3 r4 r5 r6)
end
theorem Fn.weak {P : Program} {f : FuncId} {As : List VP} {L : List Item} {ι : Type} {R R' : ι → VP} {L' : ι → List Item} (h : Fn P f As L R L') (hs : ∀ i φ v, (R i).ok φ v → (R' i).ok φ v) : Fn P f As L R' L' := fun φ w vs ha hm =>
  (h φ w vs ha hm).mono fun e w' ⟨i, v, φ', h1, h2, h3⟩ => ⟨i, v, φ', h1, hs i _ _ h2, h3⟩
theorem tup_top {A : VP} {As : List VP} {φ : Fz} {v : Value} (h : (IsTup (A :: As)).ok φ v) : (IsTup (Top :: As)).ok φ v := by
  obtain ⟨vs, e, k⟩ := h
  match vs, k with
  | u :: us, ⟨_, k2⟩ => exact ⟨_, e, trivial, k2⟩
end Go.Proofs.Ytpfojangcgffkaa

/- The law SegmentWhole: a new heap; free pages counted; the walk. Own work. -/
namespace Go.Proofs.Ytpfojangcgffkaa
open Go.RowKit
set_option linter.unusedVariables false
set_option linter.unusedSimpArgs false
set_option maxRecDepth 100000
theorem pure_pg : ∀ p : Pg, PureVs (tPg.cells p) := fun p => ⟨pure_is, pure_is, pure_is, pure_is, pure_is, pure_is, pure_is, pure_is, pure_is, trivial⟩
theorem AcquireW_ok (ks : List Pg) (cl : Nat) (inc lines : Int) (hc : cl < 6) (hi : 1 ≤ inc ∧ inc ≤ 59) (hz : sizeB lines = true) (h2m : ¬ 0 < (missV ks [98 + (cl : Int)]).length → (missV ks (hdrL lines)).length ≤ 1)
    (hlt : sB ks cl (countN lines) = true → (mineW ks cl inc (sV ks cl (countN lines))).l < (headW ks cl (sV ks cl (countN lines))).l) (r : List Int × List Pg × Nat × Int × Bool) (hr : acqV ks cl inc lines = r) :
    Fn Try.prog 38 [IsAgg [Is (.int .i64 (cl : Nat)), Is (.int .i64 inc), Is (.int .i64 lines), Is (.int .i64 (-1))], IsSl tPg ks] [] (fun i : Option Addr × Nat => IsTup [Top, Is (slV r.2.1.length i), Is (.int .i64 (r.2.2.1 : Nat)), Is (.int .i64 r.2.2.2.1), Is (.bool r.2.2.2.2)]) (fun i => [buf (slV r.2.1.length i) 25 tPg r.2.1]) := by
  subst hr
  exact (AcquireF_ok ks cl inc lines hc hi hz h2m hlt).weak fun i φ v h => tup_top h
theorem AllocateW_ok (ks : List Pg) (cl cnt : Nat) (lines : Int) (pn : Pg) (nd : Nd) (R : Alo) (hc : cl < 6) (hz0 : sizeB lines = true) (hcnt : 1 ≤ cnt ∧ cnt ≤ 12) (hN : nodeV ks cl = (pn, nd, true, 0)) (hM0 : missV ks ((ownV nd.sg (countN lines)).map lineV) = []) (hR0 : aloH ks cl cnt (ownV nd.sg (countN lines)) (ownV nd.sg (countN lines)) = R) :
    Fn Try.prog 40 [IsAgg [Is (.int .i64 (cl : Nat)), Is (.int .i64 lines), Is (.int .i64 (cnt : Nat))], IsSl tPg ks] [] (fun i : (Option Addr × Nat) × (Option Addr × Nat) => IsTup [Top, Is (slV R.2.1.length i.1), Is (slV R.2.2.1.length i.2), Is (.int .i64 R.2.2.2.1), Is (.bool R.2.2.2.2)])
      (fun i => [buf (slV R.2.1.length i.1) 25 tPg R.2.1, buf (slV R.2.2.1.length i.2) 25 tPg R.2.2.1]) :=
  (Allocate_ok ks cl cnt lines pn nd R hc hz0 hcnt hN hM0 hR0).weak fun i φ v h => tup_top h
theorem pure_r1 {a b c d : Value} : PureV (IsTup [Top, Is a, Is b, Is c, Is d]) := pure_tup ⟨pure_top, pure_is, pure_is, pure_is, pure_is, trivial⟩
/-! ### A new heap -/
theorem newL_get : ∀ (n k : Nat) (p : Pg), (newL n)[k]? = some p → p = pgN k
  | 0, k, p, h => by simp [newL] at h
  | n + 1, k, p, h => by
    rw [newL_succ, List.getElem?_append] at h
    split at h
    · exact newL_get n k p h
    · rename_i hk
      rw [newL_len] at h hk
      have : k - n = 0 := by
        rcases Nat.eq_zero_or_pos (k - n) with e | e
        · exact e
        · rw [List.getElem?_eq_none (by simp; omega)] at h; cases h
      rw [this] at h
      simp at h
      rw [← h, show k = n by omega]
theorem bit0 (i : Nat) : bitB 0#32 i = false := by rw [bit_lsb]; simp
theorem usable0 : usable 0#32 := fun i h => by rw [bit0] at h; cases h
theorem new_inv (n : Nat) (hn : n ≤ 9) : Inv n 0 (fun _ => 0#32) (fun _ => (-1, 0#32)) [] (newL (8 + 16 * n)) ∧ Coh n (fun _ => 0#32) (fun _ => (-1, 0#32)) := by
  refine ⟨⟨newL_len _, fun k p h => by rw [newL_get _ _ _ h]; rfl, fun k p h => by rw [newL_get _ _ _ h]; show (UV (256#64 &&& 255#64) != 0) = false; decide +kernel, fun c p hc h => ?_, fun s p hs h => ?_, fun s i p hs h1 h2 h => ?_⟩, fun c i hc => ?_, fun s hs => by simp, fun s hs => usable0⟩
  · rw [newL_get _ _ _ h]
    refine ⟨0, by decide, ?_⟩
    match c, hc with
    | 0, _ => rfl
    | 1, _ => rfl
    | 2, _ => rfl
    | 3, _ => rfl
    | 4, _ => rfl
    | 5, _ => rfl
  · rw [newL_get _ _ _ h]
    unfold readH
    rw [if_pos (hdr_seg (s := s) (by omega) (by show (96 : Int) + ((8 + 16 * s : Nat) : Int) = _; omega)), if_neg (by show ¬ (useB (pgN 0) || !zB (pgN 0)) = true; decide +kernel)]
    show ((⟨UV 0#64 - 1, (0#64).setWidth 32⟩ : Hd), (0 : Int)) = _
    decide +kernel
  · rw [newL_get _ _ _ h]
    have e1 : kindV (pgN (8 + 16 * s + i)).d0 = 0 := by show kindV 0#64 = 0; decide +kernel
    have e2 : genV (pgN (8 + 16 * s + i)).d0 = 0 := by show genV 0#64 = 0; decide +kernel
    rw [e1, e2]
    exact ⟨⟨fun _ => .inl (bit0 i), fun _ => rfl⟩, Int.le_refl _⟩
  · rw [bit0]
    constructor
    · intro h; cases h
    · rintro ⟨_, h⟩
      have h' : (-1 : Int) = (c : Int) := h
      omega
/-! ### Sums -/
theorem sum_one {g g' : Nat → Nat} {s : Nat} : ∀ {n : Nat}, s < n → g' s + 1 = g s → (∀ t, t ≠ s → g' t = g t) → ((List.range n).map g').sum + 1 = ((List.range n).map g).sum
  | 0, h, _, _ => absurd h (Nat.not_lt_zero _)
  | n + 1, h, h1, h2 => by
    rw [List.range_succ, List.map_append, List.map_append, List.sum_append, List.sum_append]
    simp only [List.map_cons, List.map_nil, List.sum_cons, List.sum_nil]
    by_cases e : s = n
    · subst e
      have : (List.range s).map g' = (List.range s).map g := List.map_congr_left fun t ht => h2 t (by have := List.mem_range.1 ht; omega)
      rw [this]
      omega
    · have := sum_one (n := n) (by omega) h1 h2
      rw [h2 n (fun e2 => e e2.symm)]
      omega
theorem sum_zero {g : Nat → Nat} : ∀ {n : Nat}, ((List.range n).map g).sum = 0 → ∀ s, s < n → g s = 0
  | 0, _, s, h => absurd h (Nat.not_lt_zero _)
  | n + 1, h0, s, h => by
    rw [List.range_succ, List.map_append, List.sum_append] at h0
    simp only [List.map_cons, List.map_nil, List.sum_cons, List.sum_nil] at h0
    by_cases e : s = n
    · subst e; omega
    · exact sum_zero (n := n) (by omega) s (by omega)
theorem sum_const {g : Nat → Nat} {a : Nat} : ∀ {n : Nat}, (∀ s, s < n → g s = a) → ((List.range n).map g).sum = a * n
  | 0, _ => rfl
  | n + 1, h => by
    rw [List.range_succ, List.map_append, List.sum_append, sum_const fun s hs => h s (by omega)]
    simp only [List.map_cons, List.map_nil, List.sum_cons, List.sum_nil]
    rw [h n (by omega), Nat.mul_succ]; omega
def unN (n : Nat) (A : Nat → Int × BitVec 32) : Nat := ((List.range n).map fun s => if (A s).1 = -1 then 1 else 0).sum
theorem un_step {n s : Nat} {A : Nat → Int × BitVec 32} {o : Int} {u : BitVec 32} (hs : s < n) (h : (A s).1 = -1) (ho : o ≠ -1) : unN n (updA A s (o, u)) + 1 = unN n A := by
  unfold unN
  refine sum_one hs ?_ fun t ht => ?_
  · unfold updA; rw [if_pos rfl, if_pos h, if_neg ho]
  · unfold updA; rw [if_neg ht]
theorem frL_or {u : BitVec 32} {i : Nat} (h1 : 1 ≤ i ∧ i ≤ 15) (hb : bitB u i = false) : (frL (u ||| BitVec.ofInt 32 1 <<< i)).length + 1 = (frL u).length := by
  have hm : i ∈ frL u := mem_frL.2 ⟨h1, hb⟩
  have e : frL (u ||| BitVec.ofInt 32 1 <<< i) = (frL u).erase i := by
    rw [(frL_nodup u).erase_eq_filter]
    unfold frL
    rw [List.filter_filter]
    refine List.filter_congr fun j hj => ?_
    rw [bit_or _ _ _ (by omega)]
    cases bitB u j <;> by_cases e : j = i <;> simp [e]
  rw [e, List.length_erase_of_mem hm]
  have := List.length_pos_of_mem hm
  omega
theorem frL_ext {u v : BitVec 32} (h : ∀ i, bitB u i = bitB v i) : frL u = frL v := by
  unfold frL
  exact List.filter_congr fun i _ => by rw [h i]
theorem freN_ext {n c : Nat} {A A' : Nat → Int × BitVec 32} (h1 : ∀ s, (A' s).1 = (A s).1) (h2 : ∀ s i, s < n → bitB (A' s).2 i = bitB (A s).2 i) : freN n A' c = freN n A c := by
  unfold freN
  congr 1
  refine List.map_congr_left fun s hs => ?_
  rw [h1 s, frL_ext fun i => h2 s i (List.mem_range.1 hs)]
theorem freN_sub {n c : Nat} : ∀ {pk : List (Nat × Nat)} {A A' : Nat → Int × BitVec 32}, pk.Nodup → (∀ s i, (s, i) ∈ pk → s < n ∧ (1 ≤ i ∧ i ≤ 15) ∧ (A s).1 = (c : Int) ∧ bitB (A s).2 i = false) → (∀ s, (A' s).1 = (A s).1) → (∀ s i, bitB (A' s).2 i = (bitB (A s).2 i || decide ((s, i) ∈ pk))) → freN n A' c + pk.length = freN n A c
  | [], A, A', _, _, h1, h2 => by
    rw [freN_ext h1 fun s i _ => by rw [h2]; simp]
    rfl
  | (s, i) :: pk, A, A', hn, hp, h1, h2 => by
    obtain ⟨hs, hi, ho, hb⟩ := hp s i (List.mem_cons_self ..)
    rw [List.nodup_cons] at hn
    have ih := freN_sub (n := n) (c := c) (pk := pk) (A := updA A s ((A s).1, (A s).2 ||| BitVec.ofInt 32 1 <<< i)) (A' := A') hn.2 (fun t j hm => by
      obtain ⟨k1, k2, k3, k4⟩ := hp t j (List.mem_cons_of_mem _ hm)
      unfold updA
      by_cases e : t = s
      · subst e
        rw [if_pos rfl]
        refine ⟨k1, k2, k3, ?_⟩
        rw [bit_or _ _ _ (by omega), k4]
        have : ¬ j = i := fun e => hn.1 (e ▸ hm)
        simp [this]
      · rw [if_neg e]
        exact ⟨k1, k2, k3, k4⟩) (fun t => by
      rw [h1]
      unfold updA
      by_cases e : t = s
      · rw [if_pos e, e]
      · rw [if_neg e]) (fun t j => by
      rw [h2]
      unfold updA
      by_cases e : t = s
      · subst e
        rw [if_pos rfl, bit_or _ _ _ (by omega)]
        by_cases e2 : j = i <;> simp [e2]
      · rw [if_neg e]
        simp [e])
    have h3 : freN n (updA A s ((A s).1, (A s).2 ||| BitVec.ofInt 32 1 <<< i)) c + 1 = freN n A c := by
      unfold freN
      refine sum_one hs ?_ fun t ht => ?_
      · unfold updA
        rw [if_pos rfl, if_pos ho, if_pos ho]
        exact frL_or hi hb
      · unfold updA
        rw [if_neg ht]
    rw [List.length_cons]
    omega
theorem frL0 : (frL 0#32).length = 15 := by decide +kernel
end Go.Proofs.Ytpfojangcgffkaa

/- Contracts: one page freed. Own work. -/
namespace Go.Proofs.Ytpfojangcgffkaa
open Go.RowKit
set_option linter.unusedVariables false
set_option linter.unusedSimpArgs false
set_option maxRecDepth 100000
-- slices.IndexFunc[[]bodega/pointer.Pointer,bodega/pointer.Pointer]: function 118
theorem IndexPt0_ok : FnP Try.prog 118 [IsSl tPt [], Top] (Is (.int .i64 (-1))) := by
  refine FnP.enter Try.func118 Try.ntmps118 rfl rfl ?_
  intro c hX
  refine JC_seq ?_
  refine JC_region ?_
  refine JL_1 rfl (op_assign rfl) ?_
  refine JL_nil ?_
  refine JQ_then (JC_seq (JC_seq ?_))
  refine JC_region ?_
  refine JL_1 rfl (op_move rfl) ?_
  refine JL_1 rfl (by first | exact op_len (Ev.rfl' rfl) rfl | exact op_lenLit (Ev.rfl' rfl) rfl) ?_
  refine JL_1 rfl (op_move rfl) ?_
  refine JL_nil ?_
  refine JQ_then (JC_block ?_)
  refine JC_loopP (fun _ : Unit => True) (fun _ => [(7, Is (.int .i64 (0 : Nat))), (8, Is (.int .i64 (0 : Nat)))]) (fun _ => []) (fun _ => 0) () trivial esubT lessT ?_
  rintro _ _
  refine JC_seq ?_
  refine JC_region ?_
  refine JL_1 rfl (op_lss (Ev.rfl' rfl) (Ev.rfl' rfl)) ?_
  refine JL_nil ?_
  refine JQ_then (JC_seq ?_)
  refine JC_cond (Ev.rfl' rfl) (fun h2 => ?_) (fun h2 => ?_)
  · exact absurd h2 (by simp)
  refine JC_exit (JQ_then_exit (JQ_then_exit (JQ_hit (JQ_then (JC_seq ?_)))))
  refine JC_region ?_
  refine JL_1 rfl (op_assign rfl) ?_
  refine JL_nil ?_
  refine JQ_then (JC_ret ?_)
  refine JQ_ret1 Try.results118 rfl () (SubL.eq ?_) (List.nil_sublist _)
  rfl
-- slices.ContainsFunc[[]bodega/pointer.Pointer,bodega/pointer.Pointer]: function 92
theorem ContainsPt0_ok : FnP Try.prog 92 [IsSl tPt [], Top] (Is (.bool false)) := by
  refine FnP.enter Try.func92 Try.ntmps92 rfl rfl ?_
  intro c hX
  refine JC_seq ?_
  refine JC_region ?_
  refine JL_1 rfl (op_assign rfl) ?_
  refine JL_nil ?_
  refine JQ_then (JC_seq ?_)
  refine JC_region ?_
  refine JL_1 rfl (op_move rfl) ?_
  refine JL_1 rfl (op_move rfl) ?_
  refine JL_1 rfl (op_call Try.call118 (IndexPt0_ok) ⟨evS, ⟨evS, trivial⟩⟩) ?_
  refine JL_1 rfl (op_geq (Ev.rfl' rfl) (Ev.rfl' rfl)) ?_
  refine JL_1 rfl (op_assign rfl) ?_
  refine JL_nil ?_
  refine JQ_then (JC_ret ?_)
  refine JQ_ret1 Try.results92 rfl () (SubL.eq ?_) (List.nil_sublist _)
  rfl
theorem two_desc {a b : Pg} {ys : List Pg} (h : b.l < a.l) (hs : Srt Pg.l 0 2 ys) (hp : PI 0 2 [a, b] ys) : ys = [b, a] := by
  have hl : ys.length = 2 := hp.len
  have hd : (ys.map Pg.l).Nodup := ((hp.perm.map Pg.l).nodup_iff).2 (by simp; omega)
  exact asc_unique (key := Pg.l) (hp.perm.trans (List.Perm.swap b a [])) (srt_asc (by rw [hl]; exact hs) hd) (by simp [h])
theorem nod1 {S : List Nat} (hn : S.Nodup) (h : ∀ j, j ∈ S → j < 1) (h0 : 0 ∈ S) : S.length = 1 := by
  have h1 := nodup_len _ hn h
  have h2 := List.length_pos_of_mem h0
  omega
theorem bit_no {u : BitVec 32} {i : Nat} (h : bitB u i = true) : ¬ UV (u >>> i &&& BitVec.ofInt 32 1) = 0 := fun e => by
  unfold bitB at h
  rw [show (1#32 : BitVec 32) = BitVec.ofInt 32 1 from rfl, e] at h
  cases h
-- segment.Free: function 42
set_option maxHeartbeats 1000000 in
theorem Free1_ok (ks : List Pg) (lines : Int) (p : Pt) (s i : Nat) (q ph w wh : Pg) (o : Int) (u : BitVec 32) (hz0 : sizeB lines = true) (hs : s ≤ 8) (hi : i ≤ 15) (hloc : locV lines p.line = ((s : Int), (i : Int), true)) (hval : validP p = true) (hm : missV ks [p.line, lineV s] = [])
    (hq : latP ks p.line = q) (hql : lockB q = false) (hqk : kindV q.d0 ≠ 0) (hqg : genV q.d0 = p.gen) (hrel : relP q = (w, 0)) (hhd : headV ks s = (ph, ⟨o, u⟩, true, 0)) (hb : bitB u i = true) (hwh : (writeH ph ⟨o, u &&& ~~~(BitVec.ofInt 32 1 <<< i)⟩).1 = wh) (hlt : wh.l < w.l) :
    Fn Try.prog 42 [Is (.int .i64 lines), IsSl tPt [p], IsSl tPg ks] [] (fun i : Option Addr × Nat => IsTup [Top, Is (slV 2 i), Is (.int .i64 0), Is (.bool true)]) (fun i => [buf (slV 2 i) 25 tPg [wh, w]]) := by
  have hlocate := Locate_ok lines p.line
  rw [hloc] at hlocate
  (try dsimp only at hlocate)
  have hlatest := LatestP_ok ks p.line
  rw [hq] at hlatest
  have hheader := header_ok ks s
  rw [hhd] at hheader
  (try dsimp only at hheader)
  have hrelease := Release_ok q
  rw [hrel] at hrelease
  (try dsimp only at hrelease)
  have hlv := line_rng (s : Int)
  have hpl : ([p] : List Pt)[0]? = some p := rfl
  refine Fn.enterN Try.func42 Try.ntmps42 rfl rfl ?_
  intro c hX
  refine JC_seq ?_
  refine JC_region ?_
  refine JL_1 rfl (op_assign rfl) ?_
  refine JL_1 rfl (op_assign rfl) ?_
  refine JL_1 rfl (op_assign rfl) ?_
  refine JL_1 rfl (op_assign rfl) ?_
  refine JL_nil ?_
  refine JQ_then (JC_seq (JC_seq ?_))
  refine JC_region ?_
  refine JL_1 rfl (op_move rfl) ?_
  refine JL_1 rfl (op_call Try.call75 (isSize_ok _) ⟨evS, trivial⟩) ?_
  refine JL_1 rfl (op_not (Ev.rfl' rfl)) ?_
  refine JL_1 rfl (op_move rfl) ?_
  (first | refine JL_i0 rfl rfl rfl (fun hg => (by have hg0 := hg; (try simp at hg); first | exact op_moveE (Ev.sub rfl (SubL.iteT (by first | assumption | (simp; done) | (simp; omega) | (simp_all; done)) SubL.rfl')) | exact op_moveE (Ev.rfl' rfl))) ?_ | refine JL_i rfl rfl rfl (fun hp hg => (by have hpg := Bool.and_eq_true_iff.2 ⟨hp, hg⟩; have hg0 := hg; (try simp at hg); first | exact op_moveE (Ev.sub rfl (SubL.iteT (by first | assumption | (simp; done) | (simp; omega) | (simp_all; done)) SubL.rfl')) | exact op_moveE (Ev.rfl' rfl))) ?_)
  (first | refine JL_i0 rfl rfl rfl (fun hg => (by have hg0 := hg; (try simp at hg); first | exact op_len evG rfl | exact op_lenLit evG rfl)) ?_ | refine JL_i rfl rfl rfl (fun hp hg => (by have hpg := Bool.and_eq_true_iff.2 ⟨hp, hg⟩; have hg0 := hg; (try simp at hg); first | exact op_len evG rfl | exact op_lenLit evG rfl)) ?_)
  (first | refine JL_i0 rfl rfl rfl (fun hg => (by have hg0 := hg; (try simp at hg); exact op_lss evG evG)) ?_ | refine JL_i rfl rfl rfl (fun hp hg => (by have hpg := Bool.and_eq_true_iff.2 ⟨hp, hg⟩; have hg0 := hg; (try simp at hg); exact op_lss evG evG)) ?_)
  refine JL_1 rfl (op_or (Ev.rfl' rfl) rfl (fun h => by first | exact SubL.rfl' | exact SubL.iteT (by first | (rw [h]; rfl) | (simp_all; done)) SubL.rfl')) ?_
  refine JL_1 rfl (op_move rfl) ?_
  (first | refine JL_i0 rfl rfl rfl (fun hg => (by have hg0 := hg; (try simp at hg); first | exact op_moveE (Ev.sub rfl (SubL.iteT (by first | assumption | (simp; done) | (simp; omega) | (simp_all; done)) SubL.rfl')) | exact op_moveE (Ev.rfl' rfl))) ?_ | refine JL_i rfl rfl rfl (fun hp hg => (by have hpg := Bool.and_eq_true_iff.2 ⟨hp, hg⟩; have hg0 := hg; (try simp at hg); first | exact op_moveE (Ev.sub rfl (SubL.iteT (by first | assumption | (simp; done) | (simp; omega) | (simp_all; done)) SubL.rfl')) | exact op_moveE (Ev.rfl' rfl))) ?_)
  (first | refine JL_i0 rfl rfl rfl (fun hg => (by have hg0 := hg; (try simp at hg); first | exact op_len evG rfl | exact op_lenLit evG rfl)) ?_ | refine JL_i rfl rfl rfl (fun hp hg => (by have hpg := Bool.and_eq_true_iff.2 ⟨hp, hg⟩; have hg0 := hg; (try simp at hg); first | exact op_len evG rfl | exact op_lenLit evG rfl)) ?_)
  (first | refine JL_i0 rfl rfl rfl (fun hg => (by have hg0 := hg; (try simp at hg); exact op_gtr evG evG)) ?_ | refine JL_i rfl rfl rfl (fun hp hg => (by have hpg := Bool.and_eq_true_iff.2 ⟨hp, hg⟩; have hg0 := hg; (try simp at hg); exact op_gtr evG evG)) ?_)
  refine JL_1 rfl (op_or (Ev.rfl' rfl) rfl (fun h => by first | exact SubL.rfl' | exact SubL.iteT (by first | (rw [h]; rfl) | (simp_all; done)) SubL.rfl')) ?_
  refine JL_nil ?_
  refine JQ_then ?_
  refine JC_cond (Ev.rfl' rfl) (fun h1 => ?_) (fun h1 => ?_)
  · exact absurd h1 (by rw [hz0]; simp)
  clear h1
  refine JC_skip (JQ_then (JC_seq ?_))
  refine JC_region ?_
  refine JL_1 rfl (op_assign rfl) ?_
  refine JL_nil ?_
  refine JQ_then (JC_seq (JC_seq ?_))
  refine JC_region ?_
  refine JL_1 rfl (op_move rfl) ?_
  refine JL_1 rfl (by first | exact op_len (Ev.rfl' rfl) rfl | exact op_lenLit (Ev.rfl' rfl) rfl) ?_
  refine JL_1 rfl (op_move rfl) ?_
  refine JL_nil ?_
  refine JQ_then (JC_block ?_)
  refine JC_buf0 3 tI64 ?_
  refine JC_loopP (fun z : Nat × (Option Addr × Nat) => z.1 ≤ 1) (fun z => [(0, Is (.int .i64 lines)), (1, IsSl tPt [p]), (2, IsSl tPg ks), (7, Is (.slice none 0 0)), (10, Is (slV (([p.line, lineV s] : List Int).take (2 * z.1)).length z.2)), (50, IsSl tPt [p]), (51, Is (.int .i64 (1 : Nat))), (52, Is (.int .i64 (z.1 : Nat)))]) (fun z => [buf (slV (([p.line, lineV s] : List Int).take (2 * z.1)).length z.2) 3 tI64 (([p.line, lineV s] : List Int).take (2 * z.1))]) (fun z => 1 - z.1) (0, (none, 0)) (Nat.zero_le _) esubT lessT ?_
  rintro ⟨k, a1⟩ hk
  dsimp only at hk ⊢
  refine JC_seq ?_
  refine JC_region ?_
  refine JL_1 rfl (op_lss (Ev.rfl' rfl) (Ev.rfl' rfl)) ?_
  refine JL_nil ?_
  refine JQ_then (JC_seq ?_)
  refine JC_cond (Ev.rfl' rfl) (fun h5 => ?_) (fun h5 => ?_)
  · have hk0 : k = 0 := by have := of_decide_eq_true h5; omega
    subst hk0
    clear h5
    refine JC_skip (JQ_then (JC_seq (JC_block (JC_seq ?_))))
    refine JC_region ?_
    refine JL_1 rfl (op_move rfl) ?_
    refine JL_1 rfl (by first | exact op_index (j := _) (Ev.rfl' rfl) (Ev.rfl' rfl) rfl rfl (by first | rfl | omega) hpl | exact op_index (j := _) (Ev.rfl' rfl) (Ev.rfl' rfl) rfl rfl (by first | rfl | omega) (by assumption)) ?_
    refine JL_1 rfl (by first | exact op_loadRefsN (n := 2) (Ev.rfl' rfl) rfl rfl rfl (by rfl) nrmT | exact op_loadPtrsN (n := 2) (Ev.rfl' rfl) memT (by rfl) (by rfl) (by rfl) (by rfl) nrmT) ?_
    (refine JL_n rfl (op_allocN rfl nrmT rfl) ?_; intro i12)
    refine JL_1 rfl (op_assign rfl) ?_
    refine JL_s0 (op_storeN (Ev.rfl' rfl) (Ev.rfl' rfl) cellsT replT nrmT (by rfl) (by rfl) (by rfl)) ?_
    refine JL_nil ?_
    refine JQ_then (JC_seq ?_)
    refine JC_region ?_
    refine JL_1 rfl (op_move rfl) ?_
    refine JL_1 rfl (by first | exact op_fieldPtr (k := 0) (Ev.rfl' rfl) rfl rfl rfl rfl | exact op_fieldRefN (k := 0) (Ev.rfl' rfl) rfl rfl rfl rfl nrmT) ?_
    refine JL_1 rfl (by first | exact op_loadRef (Ev.rfl' rfl) rfl rfl rfl | exact op_loadPtr (Ev.rfl' rfl) memT (by rfl) (by rfl) (by rfl)) ?_
    refine JL_1 rfl (op_call Try.call27 (hlocate) ⟨evS, ⟨evS, trivial⟩⟩) ?_
    refine JL_1 rfl (op_move rfl) ?_
    refine JL_1 rfl (op_extract (Ev.rfl' rfl) rfl) ?_
    refine JL_1 rfl (op_extract (Ev.rfl' rfl) rfl) ?_
    refine JL_1 rfl (op_extract (Ev.rfl' rfl) rfl) ?_
    refine JL_1 rfl (op_assign rfl) ?_
    refine JL_1 rfl (op_assign rfl) ?_
    refine JL_1 rfl (op_assign rfl) ?_
    refine JL_nil ?_
    refine JQ_then (JC_seq ?_)
    refine JC_region ?_
    refine JL_1 rfl (op_move rfl) ?_
    refine JL_1 rfl (op_move rfl) ?_
    refine JL_1 rfl (op_slice (Ev.rfl' rfl) rfl rfl rfl ⟨_, _, (Ev.rfl' rfl), (show _ = ((0 : Nat) : Int) by first | rfl | omega)⟩ (by omega) (by omega)) ?_
    refine JL_1 rfl (op_makeFunc (Cs := [Is (.pointer (some ⟨i12, 0, none⟩))]) ⟨evS, trivial⟩) ?_
    refine JL_1 rfl (op_call Try.call92 (ContainsPt0_ok) ⟨evS, ⟨evS, trivial⟩⟩) ?_
    refine JL_1 rfl (op_assign rfl) ?_
    refine JL_nil ?_
    refine JQ_then (JC_seq (JC_seq ?_))
    refine JC_region ?_
    refine JL_1 rfl (by first | exact op_loadRefsN (n := 2) (Ev.rfl' rfl) rfl rfl rfl (by rfl) nrmT | exact op_loadPtrsN (n := 2) (Ev.rfl' rfl) memT (by rfl) (by rfl) (by rfl) (by rfl) nrmT) ?_
    refine JL_1 rfl (op_call Try.call72 (ValidP_ok _) ⟨evS, trivial⟩) ?_
    refine JL_1 rfl (op_not (Ev.rfl' rfl)) ?_
    refine JL_1 rfl (op_move rfl) ?_
    (first | refine JL_i0 rfl rfl rfl (fun hg => (by have hg0 := hg; (try simp at hg); first | exact op_moveE (Ev.sub rfl (SubL.iteT (by first | assumption | (simp; done) | (simp; omega) | (simp_all; done)) SubL.rfl')) | exact op_moveE (Ev.rfl' rfl))) ?_ | refine JL_i rfl rfl rfl (fun hp hg => (by have hpg := Bool.and_eq_true_iff.2 ⟨hp, hg⟩; have hg0 := hg; (try simp at hg); first | exact op_moveE (Ev.sub rfl (SubL.iteT (by first | assumption | (simp; done) | (simp; omega) | (simp_all; done)) SubL.rfl')) | exact op_moveE (Ev.rfl' rfl))) ?_)
    (first | refine JL_i0 rfl rfl rfl (fun hg => (by have hg0 := hg; (try simp at hg); exact op_not evG)) ?_ | refine JL_i rfl rfl rfl (fun hp hg => (by have hpg := Bool.and_eq_true_iff.2 ⟨hp, hg⟩; have hg0 := hg; (try simp at hg); exact op_not evG)) ?_)
    refine JL_1 rfl (op_or (Ev.rfl' rfl) rfl (fun h => by first | exact SubL.rfl' | exact SubL.iteT (by first | (rw [h]; rfl) | (simp_all; done)) SubL.rfl')) ?_
    refine JL_1 rfl (op_move rfl) ?_
    (first | refine JL_i0 rfl rfl rfl (fun hg => (by have hg0 := hg; (try simp at hg); first | exact op_moveE (Ev.sub rfl (SubL.iteT (by first | assumption | (simp; done) | (simp; omega) | (simp_all; done)) SubL.rfl')) | exact op_moveE (Ev.rfl' rfl))) ?_ | refine JL_i rfl rfl rfl (fun hp hg => (by have hpg := Bool.and_eq_true_iff.2 ⟨hp, hg⟩; have hg0 := hg; (try simp at hg); first | exact op_moveE (Ev.sub rfl (SubL.iteT (by first | assumption | (simp; done) | (simp; omega) | (simp_all; done)) SubL.rfl')) | exact op_moveE (Ev.rfl' rfl))) ?_)
    refine JL_1 rfl (op_or (Ev.rfl' rfl) rfl (fun h => by first | exact SubL.rfl' | exact SubL.iteT (by first | (rw [h]; rfl) | (simp_all; done)) SubL.rfl')) ?_
    refine JL_nil ?_
    refine JQ_then ?_
    refine JC_cond (Ev.rfl' rfl) (fun h9 => ?_) (fun h9 => ?_)
    · exact absurd h9 (by rw [hval]; simp)
    clear h9
    refine JC_skip (JQ_then ?_)
    refine JC_dr rfl (by kernel_rfl) ?_
    refine JD_stretch 6 (by kernel_rfl) ?_
    refine JW_1 (op_move rfl) ?_
    refine JW_1 (by first | exact op_fieldPtr (k := 0) (Ev.rfl' rfl) rfl rfl rfl rfl | exact op_fieldRefN (k := 0) (Ev.rfl' rfl) rfl rfl rfl rfl nrmT) ?_
    refine JW_1 (by first | exact op_loadRef (Ev.rfl' rfl) rfl rfl rfl | exact op_loadPtr (Ev.rfl' rfl) memT (by rfl) (by rfl) (by rfl)) ?_
    refine JW_1 (op_move rfl) ?_
    refine JW_1 (op_call Try.call31 (HeaderLine_ok _) ⟨evS, trivial⟩) ?_
    refine JW_1 (op_buildSlice (size := 1) (qs := [(0, _), (1, _)]) rfl rfl rfl ⟨⟨rfl, _, (Ev.rfl' rfl), cellsT⟩, ⟨⟨rfl, _, (Ev.rfl' rfl), cellsT⟩, trivial⟩⟩ (by rfl) (by rfl)) ?_
    refine ⟨rfl, ?_⟩
    (refine JD_s (by kernel_rfl) rfl rfl (op_app (Ev.rfl' rfl) (fun _ => replT) (by first | exact Ev.rfl' rfl | exact Ev.sub rfl (by first | exact SubL.row (xs := [p.line, lineV s]) (by rfl) (by rfl) subsT | exact subT)) (by exact appT rfl rfl rfl) lenT) ?_; intro i86)
    refine JD_1 (by kernel_rfl) rfl rfl (op_assign rfl) ?_
    refine JD_end ?_
    refine JQ_block (JQ_then ?_)
    refine JC_region ?_
    refine JL_1 rfl (op_add (Ev.rfl' rfl) (Ev.rfl' rfl) wrapT) ?_
    refine JL_1 rfl (op_move rfl) ?_
    refine JL_nil ?_
    exact JQ_roundP (1, i86) (by dsimp only; omega) (by dsimp only; omega) esubT lessT
  have hk1 : k = 1 := by have := of_decide_eq_false h5; omega
  subst hk1
  clear h5
  refine JC_freeze hX (v := slV 2 a1) replT ?_
  refine JC_set 10 (IsSl tI64 [p.line, lineV s]) rfl (SubL.fact memT) ?_
  refine JC_exit (JQ_then_exit (JQ_then_exit (JQ_hit (JQ_then (JC_seq (JC_seq ?_))))))
  refine JC_region ?_
  refine JL_1 rfl (op_move rfl) ?_
  refine JL_1 rfl (op_move rfl) ?_
  refine JL_1 rfl (op_call Try.call79 (missNil_ok _ _ hm) ⟨evS, ⟨evS, trivial⟩⟩) ?_
  refine JL_1 rfl (op_assign rfl) ?_
  refine JL_nil ?_
  refine JQ_then (JC_seq ?_)
  refine JC_region ?_
  refine JL_1 rfl (op_move rfl) ?_
  refine JL_1 rfl (by first | exact op_len (Ev.rfl' rfl) rfl | exact op_lenLit (Ev.rfl' rfl) rfl) ?_
  refine JL_1 rfl (op_gtr (Ev.rfl' rfl) (Ev.rfl' rfl)) ?_
  refine JL_nil ?_
  refine JQ_then ?_
  refine JC_cond (Ev.rfl' rfl) (fun h14 => ?_) (fun h14 => ?_)
  · exact absurd h14 (by simp)
  refine JC_skip (JQ_then (JC_seq ?_))
  refine JC_region ?_
  (refine JL_n rfl (op_makeMap IsPg) ?_; intro i95)
  (refine JL_n rfl (op_makeMap IsHd) ?_; intro i96)
  refine JL_1 rfl (op_assign rfl) ?_
  refine JL_1 rfl (op_assign rfl) ?_
  refine JL_nil ?_
  refine JQ_then (JC_seq (JC_seq ?_))
  refine JC_region ?_
  refine JL_1 rfl (op_move rfl) ?_
  refine JL_1 rfl (by first | exact op_len (Ev.rfl' rfl) rfl | exact op_lenLit (Ev.rfl' rfl) rfl) ?_
  refine JL_1 rfl (op_move rfl) ?_
  refine JL_nil ?_
  refine JQ_then (JC_block ?_)
  refine JC_buf0 25 tPg ?_
  refine JC_loopP (fun z : Nat × (Option Addr × Nat) => z.1 ≤ 1) (fun z => [(0, Is (.int .i64 lines)), (1, IsSl tPt [p]), (2, IsSl tPg ks), (7, Is (slV (([w] : List Pg).take z.1).length z.2)), (17, Is (.map (some i95))), (18, Is (.map (some i96))), (97, IsSl tPt [p]), (98, Is (.int .i64 (1 : Nat))), (99, Is (.int .i64 (z.1 : Nat)))]) (fun z => [mp i95 IsPg (([((s : Int), ph)] : List (Int × Pg)).take z.1), mp i96 IsHd (([((s : Int), ⟨o, u &&& ~~~(BitVec.ofInt 32 1 <<< i)⟩)] : List (Int × Hd)).take z.1), buf (slV (([w] : List Pg).take z.1).length z.2) 25 tPg (([w] : List Pg).take z.1)]) (fun z => 1 - z.1) (0, (none, 0)) (Nat.zero_le _) esubT lessT ?_
  rintro ⟨k, a1⟩ hk
  dsimp only at hk ⊢
  refine JC_seq ?_
  refine JC_region ?_
  refine JL_1 rfl (op_lss (Ev.rfl' rfl) (Ev.rfl' rfl)) ?_
  refine JL_nil ?_
  refine JQ_then (JC_seq ?_)
  refine JC_cond (Ev.rfl' rfl) (fun h18 => ?_) (fun h18 => ?_)
  · have hk0 : k = 0 := by have := of_decide_eq_true h18; omega
    subst hk0
    clear h18
    refine JC_skip (JQ_then (JC_seq (JC_block (JC_seq ?_))))
    refine JC_region ?_
    refine JL_1 rfl (by first | exact op_index (j := _) (Ev.rfl' rfl) (Ev.rfl' rfl) rfl rfl (by first | rfl | omega) hpl | exact op_index (j := _) (Ev.rfl' rfl) (Ev.rfl' rfl) rfl rfl (by first | rfl | omega) (by assumption)) ?_
    refine JL_1 rfl (by first | exact op_loadRefsN (n := 2) (Ev.rfl' rfl) rfl rfl rfl (by rfl) nrmT | exact op_loadPtrsN (n := 2) (Ev.rfl' rfl) memT (by rfl) (by rfl) (by rfl) (by rfl) nrmT) ?_
    (refine JL_n rfl (op_allocN rfl nrmT rfl) ?_; intro i20)
    refine JL_s0 (op_storeN (Ev.rfl' rfl) (Ev.rfl' rfl) cellsT replT nrmT (by rfl) (by rfl) (by rfl)) ?_
    refine JL_nil ?_
    refine JQ_then (JC_seq ?_)
    refine JC_region ?_
    refine JL_1 rfl (op_move rfl) ?_
    refine JL_1 rfl (by first | exact op_fieldPtr (k := 0) (Ev.rfl' rfl) rfl rfl rfl rfl | exact op_fieldRefN (k := 0) (Ev.rfl' rfl) rfl rfl rfl rfl nrmT) ?_
    refine JL_1 rfl (by first | exact op_loadRef (Ev.rfl' rfl) rfl rfl rfl | exact op_loadPtr (Ev.rfl' rfl) memT (by rfl) (by rfl) (by rfl)) ?_
    refine JL_1 rfl (op_call Try.call27 (hlocate) ⟨evS, ⟨evS, trivial⟩⟩) ?_
    refine JL_1 rfl (op_move rfl) ?_
    refine JL_1 rfl (op_extract (Ev.rfl' rfl) rfl) ?_
    refine JL_1 rfl (op_extract (Ev.rfl' rfl) rfl) ?_
    refine JL_1 rfl (op_extract (Ev.rfl' rfl) rfl) ?_
    refine JL_1 rfl (op_assign rfl) ?_
    refine JL_1 rfl (op_assign rfl) ?_
    refine JL_1 rfl (op_assign rfl) ?_
    refine JL_nil ?_
    refine JQ_then (JC_seq ?_)
    refine JC_region ?_
    refine JL_1 rfl (op_move rfl) ?_
    refine JL_1 rfl (by first | exact op_fieldPtr (k := 0) (Ev.rfl' rfl) rfl rfl rfl rfl | exact op_fieldRefN (k := 0) (Ev.rfl' rfl) rfl rfl rfl rfl nrmT) ?_
    refine JL_1 rfl (by first | exact op_loadRef (Ev.rfl' rfl) rfl rfl rfl | exact op_loadPtr (Ev.rfl' rfl) memT (by rfl) (by rfl) (by rfl)) ?_
    refine JL_1 rfl (op_call Try.call86 (hlatest) ⟨evS, ⟨evS, trivial⟩⟩) ?_
    refine JL_1 rfl (op_move rfl) ?_
    refine JL_1 rfl (op_extract (Ev.rfl' rfl) rfl) ?_
    refine JL_1 rfl (op_extract (Ev.rfl' rfl) rfl) ?_
    (refine JL_n rfl (op_allocN rfl nrmT rfl) ?_; intro i24)
    refine JL_s0 (op_storeN (Ev.rfl' rfl) (Ev.rfl' rfl) cellsT replT nrmT (by rfl) (by rfl) (by rfl)) ?_
    refine JL_1 rfl (op_assign rfl) ?_
    refine JL_nil ?_
    refine JQ_then (JC_seq ?_)
    refine JC_region ?_
    refine JL_1 rfl (by first | exact op_fieldPtr (k := 2) (Ev.rfl' rfl) rfl rfl rfl rfl | exact op_fieldRefN (k := 2) (Ev.rfl' rfl) rfl rfl rfl rfl nrmT) ?_
    refine JL_1 rfl (op_indexArr (k := 0) (sz := 1) (Ev.rfl' rfl) (Ev.rfl' rfl) rfl rfl idxT (by first | decide | omega)) ?_
    refine JL_1 rfl (by first | exact op_loadRef (Ev.rfl' rfl) rfl rfl rfl | exact op_loadPtr (Ev.rfl' rfl) memT (by rfl) (by rfl) (by rfl)) ?_
    refine JL_1 rfl (op_call Try.call87 (UnpackTag_ok _) ⟨evS, trivial⟩) ?_
    (refine JL_n rfl (op_allocN rfl nrmT rfl) ?_; intro i26)
    refine JL_s0 (op_storeN (Ev.rfl' rfl) (Ev.rfl' rfl) cellsT replT nrmT (by rfl) (by rfl) (by rfl)) ?_
    refine JL_nil ?_
    refine JQ_then (JC_seq (JC_seq ?_))
    refine JC_region ?_
    refine JL_1 rfl (by first | exact op_loadRefsN (n := 9) (Ev.rfl' rfl) rfl rfl rfl (by rfl) nrmT | exact op_loadPtrsN (n := 9) (Ev.rfl' rfl) memT (by rfl) (by rfl) (by rfl) (by rfl) nrmT) ?_
    refine JL_1 rfl (op_call Try.call88 (LockedB_ok _) ⟨evS, trivial⟩) ?_
    refine JL_nil ?_
    refine JQ_then ?_
    refine JC_cond (Ev.rfl' rfl) (fun h23 => ?_) (fun h23 => ?_)
    · exact absurd h23 (by rw [hql]; simp)
    refine JC_skip (JQ_then (JC_seq (JC_seq ?_)))
    refine JC_region ?_
    refine JL_1 rfl (by first | exact op_fieldPtr (k := 0) (Ev.rfl' rfl) rfl rfl rfl rfl | exact op_fieldRefN (k := 0) (Ev.rfl' rfl) rfl rfl rfl rfl nrmT) ?_
    refine JL_1 rfl (by first | exact op_loadRef (Ev.rfl' rfl) rfl rfl rfl | exact op_loadPtr (Ev.rfl' rfl) memT (by rfl) (by rfl) (by rfl)) ?_
    refine JL_1 rfl (op_eql (Ev.rfl' rfl) (Ev.rfl' rfl)) ?_
    refine JL_1 rfl (op_move rfl) ?_
    (first | refine JL_i0 rfl rfl rfl (fun hg => (by have hg0 := hg; (try simp at hg); first | exact op_fieldPtr (k := 1) evG rfl rfl rfl rfl | exact op_fieldRefN (k := 1) evG rfl rfl rfl rfl nrmT)) ?_ | refine JL_i rfl rfl rfl (fun hp hg => (by have hpg := Bool.and_eq_true_iff.2 ⟨hp, hg⟩; have hg0 := hg; (try simp at hg); first | exact op_fieldPtr (k := 1) evG rfl rfl rfl rfl | exact op_fieldRefN (k := 1) evG rfl rfl rfl rfl nrmT)) ?_)
    (first | refine JL_i0 rfl rfl rfl (fun hg => (by have hg0 := hg; (try simp at hg); first | exact op_loadRef evG rfl rfl rfl | exact op_loadPtr evG memT (by rfl) (by rfl) (by rfl))) ?_ | refine JL_i rfl rfl rfl (fun hp hg => (by have hpg := Bool.and_eq_true_iff.2 ⟨hp, hg⟩; have hg0 := hg; (try simp at hg); first | exact op_loadRef evG rfl rfl rfl | exact op_loadPtr evG memT (by rfl) (by rfl) (by rfl))) ?_)
    (first | refine JL_i0 rfl rfl rfl (fun hg => (by have hg0 := hg; (try simp at hg); first | exact op_fieldPtr (k := 1) evG rfl rfl rfl rfl | exact op_fieldRefN (k := 1) evG rfl rfl rfl rfl nrmT)) ?_ | refine JL_i rfl rfl rfl (fun hp hg => (by have hpg := Bool.and_eq_true_iff.2 ⟨hp, hg⟩; have hg0 := hg; (try simp at hg); first | exact op_fieldPtr (k := 1) evG rfl rfl rfl rfl | exact op_fieldRefN (k := 1) evG rfl rfl rfl rfl nrmT)) ?_)
    (first | refine JL_i0 rfl rfl rfl (fun hg => (by have hg0 := hg; (try simp at hg); first | exact op_loadRef evG rfl rfl rfl | exact op_loadPtr evG memT (by rfl) (by rfl) (by rfl))) ?_ | refine JL_i rfl rfl rfl (fun hp hg => (by have hpg := Bool.and_eq_true_iff.2 ⟨hp, hg⟩; have hg0 := hg; (try simp at hg); first | exact op_loadRef evG rfl rfl rfl | exact op_loadPtr evG memT (by rfl) (by rfl) (by rfl))) ?_)
    (first | refine JL_i0 rfl rfl rfl (fun hg => (by have hg0 := hg; (try simp at hg); exact op_neq evG evG)) ?_ | refine JL_i rfl rfl rfl (fun hp hg => (by have hpg := Bool.and_eq_true_iff.2 ⟨hp, hg⟩; have hg0 := hg; (try simp at hg); exact op_neq evG evG)) ?_)
    refine JL_1 rfl (op_or (Ev.rfl' rfl) rfl (fun h => by first | exact SubL.rfl' | exact SubL.iteT (by first | (rw [h]; rfl) | (simp_all; done)) SubL.rfl')) ?_
    refine JL_nil ?_
    refine JQ_then ?_
    refine JC_cond (Ev.rfl' rfl) (fun h25 => ?_) (fun h25 => ?_)
    · exact absurd h25 (by simp [unpackT]; exact ⟨hqk, hqg⟩)
    clear h25
    refine JC_skip (JQ_then (JC_seq ?_))
    refine JC_region ?_
    refine JL_1 rfl (op_move rfl) ?_
    refine JL_1 rfl (op_move rfl) ?_
    refine JL_1 rfl (op_call Try.call84 (hheader) ⟨evS, ⟨evS, trivial⟩⟩) ?_
    refine JL_1 rfl (op_move rfl) ?_
    refine JL_1 rfl (op_extract (Ev.rfl' rfl) rfl) ?_
    refine JL_1 rfl (op_extract (Ev.rfl' rfl) rfl) ?_
    refine JL_1 rfl (op_extract (Ev.rfl' rfl) rfl) ?_
    refine JL_1 rfl (op_extract (Ev.rfl' rfl) rfl) ?_
    (refine JL_n rfl (op_allocN rfl nrmT rfl) ?_; intro i27)
    (refine JL_n rfl (op_allocN rfl nrmT rfl) ?_; intro i28)
    refine JL_s0 (op_storeN (Ev.rfl' rfl) (Ev.rfl' rfl) cellsT replT nrmT (by rfl) (by rfl) (by rfl)) ?_
    refine JL_s0 (op_storeN (Ev.rfl' rfl) (Ev.rfl' rfl) cellsT replT nrmT (by rfl) (by rfl) (by rfl)) ?_
    refine JL_1 rfl (op_assign rfl) ?_
    refine JL_1 rfl (op_assign rfl) ?_
    refine JL_nil ?_
    refine JQ_then (JC_seq (JC_seq ?_))
    refine JC_region ?_
    refine JL_1 rfl (op_move rfl) ?_
    refine JL_1 rfl (op_neq (Ev.rfl' rfl) (Ev.rfl' rfl)) ?_
    refine JL_nil ?_
    refine JQ_then ?_
    refine JC_cond (Ev.rfl' rfl) (fun h28 => ?_) (fun h28 => ?_)
    · exact absurd h28 (by simp)
    refine JC_skip (JQ_then (JC_seq (JC_seq ?_)))
    refine JC_region ?_
    refine JL_1 rfl (by first | exact op_fieldPtr (k := 1) (Ev.rfl' rfl) rfl rfl rfl rfl | exact op_fieldRefN (k := 1) (Ev.rfl' rfl) rfl rfl rfl rfl nrmT) ?_
    refine JL_1 rfl (by first | exact op_loadRef (Ev.rfl' rfl) rfl rfl rfl | exact op_loadPtr (Ev.rfl' rfl) memT (by rfl) (by rfl) (by rfl)) ?_
    refine JL_1 rfl (op_move rfl) ?_
    refine JL_1 rfl (op_conv (Ev.rfl' rfl) rfl rfl convT) ?_
    refine JL_1 rfl (by first | exact op_shrU32 (k := i) ev32 (Ev.rfl' rfl) (by first | omega | exact UV_nonneg _) idxT | exact op_shr (Ev.rfl' rfl) (Ev.rfl' rfl) (by first | omega | exact UV_nonneg _) rfl) ?_
    refine JL_1 rfl (by first | exact op_bits ev32 ev32 (by simp) (and_u32 _ _) | exact op_bits (Ev.rfl' rfl) (Ev.rfl' rfl) (by simp) rfl) ?_
    refine JL_1 rfl (op_eql (Ev.rfl' rfl) (Ev.rfl' rfl)) ?_
    refine JL_nil ?_
    refine JQ_then ?_
    refine JC_cond (Ev.rfl' rfl) (fun h30 => ?_) (fun h30 => ?_)
    · exact absurd (by simpa using h30) (bit_no hb)
    clear h30
    refine JC_skip (JQ_then (JC_seq (JC_seq ?_)))
    refine JC_region ?_
    refine JL_1 rfl (op_move rfl) ?_
    refine JL_1 rfl (op_move rfl) ?_
    refine JL_1 rfl (op_lookup2D Hd.nil hd_zero (Ev.rfl' rfl) memT (Ev.rfl' rfl) rfl rfl rfl) ?_
    refine JL_1 rfl (op_move rfl) ?_
    refine JL_1 rfl (op_extract (Ev.rfl' rfl) rfl) ?_
    refine JL_1 rfl (op_extract (Ev.rfl' rfl) rfl) ?_
    (refine JL_n rfl (op_allocN rfl nrmT rfl) ?_; intro i31)
    refine JL_s0 (op_storeN (Ev.rfl' rfl) (Ev.rfl' rfl) cellsT replT nrmT (by rfl) (by rfl) (by rfl)) ?_
    refine JL_1 rfl (op_assign rfl) ?_
    refine JL_nil ?_
    refine JQ_then (JC_seq ?_)
    refine JC_region ?_
    refine JL_1 rfl (op_move rfl) ?_
    refine JL_nil ?_
    refine JQ_then ?_
    refine JC_cond (Ev.rfl' rfl) (fun h33 => ?_) (fun h33 => ?_)
    · exact absurd h33 (by simp [mget])
    refine JC_skip (JQ_then (JC_seq ?_))
    refine JC_region ?_
    refine JL_1 rfl (by first | exact op_fieldPtr (k := 1) (Ev.rfl' rfl) rfl rfl rfl rfl | exact op_fieldRefN (k := 1) (Ev.rfl' rfl) rfl rfl rfl rfl nrmT) ?_
    refine JL_1 rfl (by first | exact op_loadRef (Ev.rfl' rfl) rfl rfl rfl | exact op_loadPtr (Ev.rfl' rfl) memT (by rfl) (by rfl) (by rfl)) ?_
    refine JL_1 rfl (op_move rfl) ?_
    refine JL_1 rfl (op_conv (Ev.rfl' rfl) rfl rfl convT) ?_
    refine JL_1 rfl (by first | exact op_shlU32 (k := i) ev32 (Ev.rfl' rfl) (by first | omega | exact UV_nonneg _) idxT | exact op_shl (Ev.rfl' rfl) (Ev.rfl' rfl) (by first | omega | exact UV_nonneg _) rfl) ?_
    refine JL_1 rfl (by first | exact op_bits ev32 ev32 (by simp) (andNot_u32 _ _) | exact op_bits (Ev.rfl' rfl) (Ev.rfl' rfl) (by simp) rfl) ?_
    refine JL_1 rfl (by first | exact op_fieldPtr (k := 1) (Ev.rfl' rfl) rfl rfl rfl rfl | exact op_fieldRefN (k := 1) (Ev.rfl' rfl) rfl rfl rfl rfl nrmT) ?_
    refine JL_s0 (op_storeN (Ev.rfl' rfl) (Ev.rfl' rfl) cellsT replT nrmT (by rfl) (by rfl) (by rfl)) ?_
    refine JL_nil ?_
    refine JQ_then (JC_seq ?_)
    refine JC_dr rfl (by kernel_rfl) ?_
    refine JD_front (it := mp i96 IsHd _) (by repeat (first | exact Drop1.here _ _ | apply Drop1.next)) ?_
    refine JD_front (it := mp i95 IsPg _) (by repeat (first | exact Drop1.here _ _ | apply Drop1.next)) ?_
    refine JD_stretchG (its := [_, _]) 8 (by kernel_rfl) ?_
    refine JW_1 (op_move rfl) ?_
    refine JW_1 (op_move rfl) ?_
    refine JW_1 (op_move rfl) ?_
    refine JW_1 (op_move rfl) ?_
    refine JW_1 (by first | exact op_loadRefsN (n := 9) (Ev.rfl' rfl) rfl rfl rfl (by rfl) nrmT | exact op_loadPtrsN (n := 9) (Ev.rfl' rfl) memT (by rfl) (by rfl) (by rfl) (by rfl) nrmT) ?_
    refine JW_1 (by first | exact op_loadRefsN (n := 2) (Ev.rfl' rfl) rfl rfl rfl (by rfl) nrmT | exact op_loadPtrsN (n := 2) (Ev.rfl' rfl) memT (by rfl) (by rfl) (by rfl) (by rfl) nrmT) ?_
    refine JW_ghost (s := 204) rfl rfl rfl (by kernel_rfl) (fun c' => by exact op_mapPut (V := IsPg) (v := ph) (Ev.rfl' rfl) (Ev.rfl' rfl) evS replT rfl rfl) ?_
    refine JW_ghost (s := 205) rfl rfl rfl (by kernel_rfl) (fun c' => by exact op_mapPut (V := IsHd) (v := ⟨o, u &&& ~~~(BitVec.ofInt 32 1 <<< i)⟩) (Ev.rfl' rfl) (Ev.rfl' rfl) evS replT rfl rfl) ?_
    refine ⟨rfl, ?_⟩
    intro _ _
    refine JD_end ?_
    refine JQ_then (JC_seq ?_)
    refine JC_region ?_
    refine JL_1 rfl (by first | exact op_loadRefsN (n := 9) (Ev.rfl' rfl) rfl rfl rfl (by rfl) nrmT | exact op_loadPtrsN (n := 9) (Ev.rfl' rfl) memT (by rfl) (by rfl) (by rfl) (by rfl) nrmT) ?_
    refine JL_1 rfl (op_call Try.call94 (hrelease) ⟨evS, trivial⟩) ?_
    refine JL_1 rfl (op_move rfl) ?_
    refine JL_1 rfl (op_extract (Ev.rfl' rfl) rfl) ?_
    refine JL_1 rfl (op_extract (Ev.rfl' rfl) rfl) ?_
    refine JL_s0 (op_storeN (Ev.rfl' rfl) (Ev.rfl' rfl) cellsT replT nrmT (by rfl) (by rfl) (by rfl)) ?_
    refine JL_nil ?_
    refine JQ_then ?_
    refine JC_region ?_
    refine JL_1 rfl (op_move rfl) ?_
    refine JL_1 rfl (by first | exact op_loadRefsN (n := 9) (Ev.rfl' rfl) rfl rfl rfl (by rfl) nrmT | exact op_loadPtrsN (n := 9) (Ev.rfl' rfl) memT (by rfl) (by rfl) (by rfl) (by rfl) nrmT) ?_
    refine JL_1 rfl (op_buildSlice (size := 9) (qs := [(0, _)]) rfl rfl rfl ⟨⟨rfl, _, (Ev.rfl' rfl), cellsT⟩, trivial⟩ (by rfl) (by rfl)) ?_
    (refine JL_s rfl (op_app (Ev.rfl' rfl) (fun _ => replT) (by first | exact Ev.rfl' rfl | exact Ev.sub rfl (by first | exact SubL.row (xs := [w]) (by rfl) (by rfl) subsT | exact subT)) (by exact appT rfl rfl rfl) lenT) ?_; intro i181)
    refine JL_1 rfl (op_assign rfl) ?_
    refine JL_nil ?_
    refine JQ_block (JQ_then ?_)
    refine JC_region ?_
    refine JL_1 rfl (op_add (Ev.rfl' rfl) (Ev.rfl' rfl) wrapT) ?_
    refine JL_1 rfl (op_move rfl) ?_
    refine JL_nil ?_
    exact JQ_roundP (1, i181) (by dsimp only; omega) (by dsimp only; omega) esubT lessT
  have hk1 : k = 1 := by have := of_decide_eq_false h18; omega
  subst hk1
  clear h18
  have hmg : mget [((s : Int), ph)] (s : Int) = some ph := by simp [mget]
  have hej : ([((s : Int), (⟨o, u &&& ~~~(BitVec.ofInt 32 1 <<< i)⟩ : Hd))] : List (Int × Hd))[0]? = some ((s : Int), ⟨o, u &&& ~~~(BitVec.ofInt 32 1 <<< i)⟩) := rfl
  refine JC_exit (JQ_then_exit (JQ_then_exit (JQ_hit (JQ_then (JC_seq (JC_seq ?_))))))
  refine JC_region ?_
  refine JL_1 rfl (op_move rfl) ?_
  (refine JL_s rfl (op_range (Ev.rfl' rfl) (fun _ _ => replT) rfl) ?_; intro i184)
  refine JL_nil ?_
  refine JQ_then (JC_block ?_)
  refine JC_loopP (fun z : List Nat × (Option Addr × Nat) => z.1.Nodup ∧ ∀ j, j ∈ z.1 → j < 1) (fun z => [(7, Is (slV ([w] ++ z.1.map fun _ => wh).length z.2)), (17, Is (.map (some i95))), (184, Is (.pointer (some ⟨i184.1, 0, none⟩)))]) (fun z => [mp i95 IsPg [((s : Int), ph)], buf (slV ([w] ++ z.1.map fun _ => wh).length z.2) 25 tPg ([w] ++ z.1.map fun _ => wh), itr i184.1 i96 i184.2.1 i184.2.2 z.1, mpr i96 IsHd [((s : Int), ⟨o, u &&& ~~~(BitVec.ofInt 32 1 <<< i)⟩)] i184.2.1 i184.2.2]) (fun z => 1 - z.1.length) ([], a1) ⟨List.nodup_nil, fun j hj => by cases hj⟩ esubT lessT ?_
  rintro ⟨S, z2⟩ ⟨hnd, hS⟩
  dsimp only at hnd hS ⊢
  have hsl := nodup_len _ hnd hS
  refine JC_seq ?_
  refine JC_region ?_
  (refine JL_s rfl (op_next (Ev.rfl' rfl) memT (fun _ => replT) (by assumption)) ?_; intro i185)
  refine JL_1 rfl (by first | exact op_extract (Ev.rfl' rfl) rfl | exact op_extractHd (Ev.rfl' rfl)) ?_
  refine JL_nil ?_
  refine JQ_then (JC_seq ?_)
  obtain ⟨⟨more, Sf⟩, hst⟩ := i185
  dsimp only
  refine JC_cond (Ev.rfl' rfl) (fun h41 => ?_) (fun h41 => ?_)
  · subst h41
    obtain ⟨j, e1, hj, hjn⟩ : ∃ j, Sf = S ++ [j] ∧ j < 1 ∧ j ∉ S := hst
    subst e1
    have hj0 : j = 0 := by omega
    subst hj0
    have hSe : S = [] := by
      cases S with
      | nil => rfl
      | cons x S =>
        have := hS x (List.mem_cons_self ..)
        exact absurd (show 0 ∈ x :: S by rw [show x = 0 by omega]; exact List.mem_cons_self ..) hjn
    subst hSe
    refine JC_skip (JQ_then (JC_block (JC_seq ?_)))
    refine JC_region ?_
    refine JL_1 rfl (op_entry (Ev.rfl' rfl) memT memT hej) ?_
    refine JL_1 rfl (op_extract (Ev.rfl' rfl) rfl) ?_
    refine JL_1 rfl (op_extract (Ev.rfl' rfl) rfl) ?_
    (refine JL_n rfl (op_allocN rfl nrmT rfl) ?_; intro i34)
    refine JL_1 rfl (op_assign rfl) ?_
    refine JL_s0 (op_storeN (Ev.rfl' rfl) (Ev.rfl' rfl) cellsT replT nrmT (by rfl) (by rfl) (by rfl)) ?_
    refine JL_nil ?_
    refine JQ_then (JC_seq ?_)
    refine JC_region ?_
    refine JL_1 rfl (op_move rfl) ?_
    refine JL_1 rfl (op_move rfl) ?_
    refine JL_1 rfl (op_lookupS hmg (Ev.rfl' rfl) memT (Ev.rfl' rfl) rfl rfl rfl) ?_
    refine JL_1 rfl (by first | exact op_loadRefsN (n := 2) (Ev.rfl' rfl) rfl rfl rfl (by rfl) nrmT | exact op_loadPtrsN (n := 2) (Ev.rfl' rfl) memT (by rfl) (by rfl) (by rfl) (by rfl) nrmT) ?_
    refine JL_1 rfl (op_call Try.call22 (WriteHeader_ok ph ⟨o, u &&& ~~~(BitVec.ofInt 32 1 <<< i)⟩) ⟨evS, ⟨evS, trivial⟩⟩) ?_
    refine JL_1 rfl (op_move rfl) ?_
    refine JL_1 rfl (op_extract (Ev.rfl' rfl) rfl) ?_
    refine JL_1 rfl (op_extract (Ev.rfl' rfl) rfl) ?_
    (refine JL_n rfl (op_allocN rfl nrmT rfl) ?_; intro i35)
    refine JL_s0 (op_storeN (Ev.rfl' rfl) (Ev.rfl' rfl) cellsT replT nrmT (by rfl) (by rfl) (by rfl)) ?_
    refine JL_1 rfl (op_assign rfl) ?_
    refine JL_nil ?_
    refine JQ_then ?_
    rw [hwh]
    refine JC_region ?_
    refine JL_1 rfl (op_move rfl) ?_
    refine JL_1 rfl (by first | exact op_loadRefsN (n := 9) (Ev.rfl' rfl) rfl rfl rfl (by rfl) nrmT | exact op_loadPtrsN (n := 9) (Ev.rfl' rfl) memT (by rfl) (by rfl) (by rfl) (by rfl) nrmT) ?_
    refine JL_1 rfl (op_buildSlice (size := 9) (qs := [(0, _)]) rfl rfl rfl ⟨⟨rfl, _, (Ev.rfl' rfl), cellsT⟩, trivial⟩ (by rfl) (by rfl)) ?_
    (refine JL_s rfl (op_app (Ev.rfl' rfl) (fun _ => replT) (by first | exact Ev.rfl' rfl | exact Ev.sub rfl (by first | exact SubL.row (xs := [wh]) (by rfl) (by rfl) subsT | exact subT)) (by exact appT rfl rfl rfl) lenT) ?_; intro i201)
    refine JL_1 rfl (op_assign rfl) ?_
    refine JL_nil ?_
    refine JQ_block ?_
    exact JQ_roundP ([0], i201) ⟨by simp, by simp⟩ (by dsimp only; simp) esubT lessT
  subst h41
  obtain ⟨e1, hall⟩ : Sf = S ∧ ∀ j, j < 1 → j ∈ S := hst
  subst e1
  have hS1 := nod1 hnd hS (hall 0 (by decide))
  obtain ⟨x, hx⟩ : ∃ x, Sf = [x] := List.length_eq_one_iff.1 hS1
  subst hx
  refine JC_exit (JQ_then_exit (JQ_then_exit (JQ_hit (JQ_then (JC_seq ?_)))))
  refine JC_region ?_
  refine JL_1 rfl (op_move rfl) ?_
  (refine JL_s rfl (by first | ((refine op_callT drop1T Try.call77 (ascending_ok [w, wh] 2 z2 rfl ?_) ⟨evS, trivial⟩); all_goals (first | simp))) ?_; intro i203)
  refine JL_1 rfl (op_assign rfl) ?_
  refine JL_1 rfl (op_assign rfl) ?_
  refine JL_1 rfl (op_assign rfl) ?_
  refine JL_1 rfl (op_assign rfl) ?_
  refine JL_nil ?_
  refine JQ_then (JC_ret ?_)
  obtain ⟨ys, hy1, hy2⟩ := i203
  dsimp only
  have hy := two_desc hlt hy1 hy2
  subst hy
  exact JQ_retP (Bs := [Top, Is (slV 2 z2), Is (.int .i64 0), Is (.bool true)]) Try.results42 ⟨⟨_, rfl, subT⟩, ⟨⟨_, rfl, subT⟩, ⟨⟨_, rfl, subT⟩, ⟨⟨_, rfl, subT⟩, trivial⟩⟩⟩⟩ z2 SubL.rfl' lessT
end Go.Proofs.Ytpfojangcgffkaa

/- The law SegmentOnce: plain laws of its rounds. Own work. -/
namespace Go.Proofs.Ytpfojangcgffkaa
open Go.RowKit
set_option linter.unusedVariables false
set_option linter.unusedSimpArgs false
set_option maxRecDepth 100000
section
variable {n : Nat} {G : Int} {B : Nat → BitVec 32} {A : Nat → Int × BitVec 32} {D : List (Nat × Nat)} {H : List Pg}
theorem Inv.up' (h : Inv n G B A D H) {G' : Int} (hG : G ≤ G') : Inv n G' B A D H :=
  ⟨h.len, h.ln, h.un, h.nd, h.hd, fun s i p a b c d => ⟨(h.dp s i p a b c d).1, by have := (h.dp s i p a b c d).2; omega⟩⟩
theorem com_get {H : List Pg} {w : Pg} {k j : Nat} (hl : w.l = 96 + (k : Int)) (hj : j ≠ k) : (comP H w)[j]? = H[j]? := by
  unfold comP
  split
  · rw [show (w.l - 96).toNat = k by omega, List.getElem?_set, if_neg (fun e => hj e.symm)]
  · rfl
theorem com_comm {H : List Pg} {w v : Pg} {k j : Nat} (hk : k < H.length) (hj : j < H.length) (hw : w.l = 96 + (k : Int)) (hv : v.l = 96 + (j : Int)) (hne : j ≠ k) : comP (comP H w) v = comP (comP H v) w := by
  have e1 := com_set hk hw
  have e2 := com_set hj hv
  have e3 : comP (comP H w) v = (comP H w).set j { v with h := nextH ((comP H w).getD j Pg.nil).h } := com_set (by rw [comP_len]; exact hj) hv
  have e4 : comP (comP H v) w = (comP H v).set k { w with h := nextH ((comP H v).getD k Pg.nil).h } := com_set (by rw [comP_len]; exact hk) hw
  rw [e3, e4, List.getD_eq_getElem?_getD, List.getD_eq_getElem?_getD, com_get hw hne, com_get hv (fun e => hne e.symm), ← List.getD_eq_getElem?_getD, ← List.getD_eq_getElem?_getD, e1, e2, List.set_comm _ _ (fun e => hne e)]
theorem com_fold {s i : Nat} (hi : 1 ≤ i ∧ i ≤ 15) : ∀ {W : List Pg} {H : List Pg}, (∀ w, w ∈ W → ∃ t : Nat, t < n ∧ w.l = 104 + 16 * (t : Int)) → (W.foldl comP H)[8 + 16 * s + i]? = H[8 + 16 * s + i]?
  | [], H, _ => rfl
  | w :: W, H, h => by
    obtain ⟨t, _, ht⟩ := h w (List.mem_cons_self ..)
    rw [List.foldl_cons, com_fold hi fun v hv => h v (List.mem_cons_of_mem _ hv)]
    exact com_get (k := 8 + 16 * t) (by omega) (by omega)
def PtAt (n : Nat) (A : Nat → Int × BitVec 32) (D : List (Nat × Nat)) (H : List Pg) (x : Pt) (s i : Nat) : Prop :=
  s < n ∧ (1 ≤ i ∧ i ≤ 15) ∧ x.line = 104 + 16 * (s : Int) + i ∧ bitB (A s).2 i = true ∧ (s, i) ∉ D ∧ 1 ≤ x.gen ∧ ∃ q, H[8 + 16 * s + i]? = some q ∧ genV q.d0 = x.gen
def OutOK (n : Nat) (A : Nat → Int × BitVec 32) (D : List (Nat × Nat)) (H : List Pg) (out : List Pt) : Prop := (∀ x, x ∈ out → ∃ s i, PtAt n A D H x s i) ∧ (out.map Pt.line).Nodup
def OwOK (n : Nat) (A : Nat → Int × BitVec 32) (ow : List Int) : Prop := ow.length = 12 ∧ (∀ s : Nat, s < n → ow[s]? = some ((A s).1 + 1)) ∧ ∀ s : Nat, s < n → (A s).1 < 3
def On (n i : Nat) (ow : List Int) (out : List Pt) (H : List Pg) : Prop := ∃ B A, Inv n (i : Nat) B A [] H ∧ Coh n B A ∧ OwOK n A ow ∧ OutOK n A [] H out
def OnH (n i : Nat) (ow : List Int) (out : List Pt) (pk : List (Nat × Nat)) (H : List Pg) : Prop := ∃ B A, Inv n ((i + 1 : Nat) : Int) B A pk H ∧ Coh n B A ∧ OwOK n A ow ∧ OutOK n A pk H out ∧ ∀ x, x ∈ pk → x.1 < n ∧ (1 ≤ x.2 ∧ x.2 ≤ 15) ∧ bitB (A x.1).2 x.2 = true
theorem On.len {i : Nat} {ow : List Int} {out : List Pt} (h : On n i ow out H) : H.length = 8 + 16 * n := by
  obtain ⟨_, _, h1, _⟩ := h
  exact h1.len
theorem On.owl {i : Nat} {ow : List Int} {out : List Pt} (h : On n i ow out H) : ow.length = 12 := by
  obtain ⟨_, _, _, _, h1, _⟩ := h
  exact h1.1
theorem OnH.len {i : Nat} {ow : List Int} {out : List Pt} {pk : List (Nat × Nat)} (h : OnH n i ow out pk H) : H.length = 8 + 16 * n := by
  obtain ⟨_, _, h1, _⟩ := h
  exact h1.len
theorem on_new (hn : n ≤ 9) : On n 0 (List.replicate 12 0) [] (newL (8 + 16 * n)) := by
  obtain ⟨h1, h2⟩ := new_inv n hn
  refine ⟨_, _, h1, h2, ⟨rfl, fun s hs => ?_, fun s hs => by simp⟩, ⟨(fun x hx => by cases hx), List.nodup_nil⟩⟩
  rw [List.getElem?_replicate, if_pos (by omega)]
  rfl
theorem loc_seg (hn : n ≤ 9) {s i : Nat} (hs : s < n) (hi : 1 ≤ i ∧ i ≤ 15) {l : Int} (hl : l = 104 + 16 * (s : Int) + i) : locV (104 + 16 * (n : Int)) l = ((s : Int), (i : Int), true) := by
  have hc : countV (104 + 16 * (n : Int)) = n := by unfold countV; rw [if_pos (by omega)]; omega
  unfold locV
  rw [hc, if_pos (by omega)]
  rw [show (l - 104) / 16 = (s : Int) by omega, show (l - 104) % 16 = (i : Int) by omega]
theorem on_free {i k : Nat} {ow : List Int} {out : List Pt} {p : Pt} (h : On n i ow out H) (hn : n ≤ 9) (hi : i ≤ 100) (hk : out[k]? = some p) :
    ∃ (s j : Nat) (q ph w wh : Pg) (o : Int) (u : BitVec 32), s ≤ 8 ∧ j ≤ 15 ∧ locV (104 + 16 * (n : Int)) p.line = ((s : Int), (j : Int), true) ∧ validP p = true ∧ missV H [p.line, lineV s] = [] ∧ latP H p.line = q ∧ lockB q = false ∧ kindV q.d0 ≠ 0 ∧ genV q.d0 = p.gen ∧ relP q = (w, 0) ∧ headV H s = (ph, ⟨o, u⟩, true, 0) ∧ bitB u j = true ∧ (writeH ph ⟨o, u &&& ~~~(BitVec.ofInt 32 1 <<< j)⟩).1 = wh ∧ wh.l < w.l ∧ ((0 ≤ wh.l ∧ wh.l ≤ 300) ∧ (0 ≤ w.l ∧ w.l ≤ 300)) ∧
      On n (i + 1) ow (out.take k ++ out.drop (k + 1)) (comP (comP H wh) w) := by
  obtain ⟨B, A, h1, h2, h3, h4, h5⟩ := h
  obtain ⟨s, j, hs, hj, hl, hb, _, hg, q, hq, hqg⟩ := h4 p (List.mem_of_getElem? hk)
  obtain ⟨ph, hph, hhead⟩ := h1.head hs hn
  obtain ⟨q', hq', hlat, hlatB⟩ := h1.page (i := j) hs hn hj.2
  rw [hq] at hq'
  cases hq'
  have e0 : lineV (s : Int) + (j : Int) = p.line := by rw [line_seg (by omega)]; omega
  rw [e0] at hlat hlatB
  obtain ⟨d1, d2⟩ := h1.dp s j q hs hj.1 hj.2 hq
  have hkd : kindV q.d0 ≠ 0 := fun e => by
    rcases d1.1 e with e | e
    · rw [hb] at e; cases e
    · cases e
  have hql := h1.ln _ _ hq
  have hphl := h1.ln _ _ hph
  have hun := h1.un _ _ hq
  have hgn : 0 ≤ genV q.d0 := by rw [gen_eq]; omega
  have hu : usable ((A s).2 &&& ~~~(BitVec.ofInt 32 1 <<< j)) := fun t ht => by
    have ht32 : t < 32 := by rw [bit_lsb] at ht; exact BitVec.lt_of_getLsbD ht
    rw [bit_clear _ _ _ (by omega) ht32] at ht
    exact h2.us s hs t (by simpa using (Bool.and_eq_true_iff.1 ht).1)
  have w2 := back_header (write_hd (p := ph) (o := (A s).1) (u := (A s).2 &&& ~~~(BitVec.ofInt 32 1 <<< j)) (hdr_seg (s := s) (by omega) (by omega)) (h2.ow s hs) hu)
  obtain ⟨wh, hwh⟩ : ∃ wh, (writeH ph ⟨(A s).1, (A s).2 &&& ~~~(BitVec.ofInt 32 1 <<< j)⟩).1 = wh := ⟨_, rfl⟩
  rw [hwh] at w2
  have hwhl : wh.l = 104 + 16 * (s : Int) := by rw [w2.2.1]; omega
  have hrel : relP q = (tagP q ⟨0, genV q.d0, 0#32⟩, 0) := by
    unfold relP
    rw [if_pos (by unfold heapB; simp; omega), if_neg (by rw [hun]; simp), if_neg hkd]
  have hwl : (tagP q ⟨0, genV q.d0, 0#32⟩).l = 104 + 16 * (s : Int) + j := by show q.l = _; omega
  have k1 : kindV (tagP q ⟨0, genV q.d0, 0#32⟩).d0 = 0 := kind_pack _ (by simp)
  have k2 : genV (tagP q ⟨0, genV q.d0, 0#32⟩).d0 = genV q.d0 := gen_pack _ (by simp only; omega)
  refine ⟨s, j, q, ph, tagP q ⟨0, genV q.d0, 0#32⟩, wh, (A s).1, (A s).2, by omega, hj.2, loc_seg hn hs hj hl, ?_, ?_, hlat, hun, hkd, hqg, hrel, hhead, hb, hwh, by omega, by omega, ?_⟩
  · rw [validP_iff]; omega
  · refine h1.miss fun l hm => ?_
    rcases List.mem_cons.1 hm with e | hm
    · exact ⟨8 + 16 * s + j, by omega, by omega⟩
    · rw [List.mem_singleton.1 hm]
      exact ⟨8 + 16 * s, by omega, line_seg (by omega)⟩
  · rw [com_comm (k := 8 + 16 * s) (j := 8 + 16 * s + j) (by rw [h1.len]; omega) (by rw [h1.len]; omega) (by omega) (by omega) (by omega)]
    have i1 := h1.comPage (s := s) (i := j) (w := tagP q ⟨0, genV q.d0, 0#32⟩) (G' := ((i + 1 : Nat) : Int)) (D' := [(s, j)]) hs hj hwl (by omega) (by omega) (by rw [k1]; simp) (fun t m hne => by simp only [List.mem_singleton, List.not_mem_nil, hne])
    have i2 := i1.comHead (s := s) (w := wh) (D' := []) hs hwhl w2.1 (fun m m1 m2 => by
      rw [bit_clear _ _ _ (by omega) (by omega)]
      by_cases e : m = j
      · subst e; simp
      · simp [e]) (fun t m ht => by simp [ht])
    have hget : ∀ t m : Nat, t < n → (1 ≤ m ∧ m ≤ 15) → (t, m) ≠ (s, j) → (comP (comP H (tagP q ⟨0, genV q.d0, 0#32⟩)) wh)[8 + 16 * t + m]? = H[8 + 16 * t + m]? := fun t m ht hm hne => by
      have hk2 : 8 + 16 * t + m ≠ 8 + 16 * s + j := fun e => hne (by rw [show t = s by omega, show m = j by omega])
      rw [com_get (k := 8 + 16 * s) (by omega) (by omega), com_get (k := 8 + 16 * s + j) (by omega) hk2]
    have hsub : (out.take k ++ out.drop (k + 1)).Sublist out := by
      have e := drop_at hk
      have h6 : (out.take k ++ out.drop (k + 1)).Sublist (out.take k ++ out.drop k) := by
        rw [e]
        exact List.Sublist.append (List.Sublist.refl _) (List.sublist_cons_self _ _)
      rwa [List.take_append_drop] at h6
    refine ⟨B, _, i2, ⟨fun c t hc => ?_, fun t ht => ?_, fun t ht => ?_⟩, ⟨h3.1, fun t ht => ?_, fun t ht => ?_⟩, ⟨fun x hx => ?_, (hsub.map _).nodup h5⟩⟩
    · rw [h2.bn c t hc]
      by_cases e : t = s
      · rw [if_pos e, e]
      · rw [if_neg e]
    · by_cases e : t = s
      · rw [if_pos e]; exact h2.ow s hs
      · rw [if_neg e]; exact h2.ow t ht
    · by_cases e : t = s
      · rw [if_pos e]; exact hu
      · rw [if_neg e]; exact h2.us t ht
    · rw [h3.2.1 t ht]
      dsimp only
      by_cases e : t = s
      · rw [if_pos e, e]
      · rw [if_neg e]
    · dsimp only
      by_cases e : t = s
      · rw [if_pos e]; exact h3.2.2 s hs
      · rw [if_neg e]; exact h3.2.2 t ht
    · obtain ⟨t, m, a1, a2, a3, a4, a5, a6, v, a7, a8⟩ := h4 x (hsub.subset hx)
      have hne : (t, m) ≠ (s, j) := fun e => by
        injection e with e1 e2
        have hxl : x.line = p.line := by rw [a3, hl, e1, e2]
        have hnd : ((out.take k ++ out.drop k).map Pt.line).Nodup := by rw [List.take_append_drop]; exact h5
        rw [drop_at hk, List.map_append, List.map_cons] at hnd
        have hnd2 := List.nodup_append.1 hnd
        rcases List.mem_append.1 hx with hx | hx
        · exact hnd2.2.2 x.line (List.mem_map.2 ⟨x, hx, rfl⟩) p.line (List.mem_cons_self ..) hxl
        · exact (List.nodup_cons.1 hnd2.2.1).1 (List.mem_map.2 ⟨x, hx, hxl⟩)
      refine ⟨t, m, a1, a2, a3, ?_, (fun e => by cases e), a6, v, by rw [hget t m a1 a2 hne]; exact a7, a8⟩
      dsimp only
      by_cases e : t = s
      · subst e
        rw [if_pos rfl, bit_clear _ _ _ (by omega) (by omega), a4]
        have : ¬ m = j := fun e => hne (by rw [e])
        simp [this]
      · rw [if_neg e]; exact a4
theorem on_alloc {i c cnt : Nat} {ow : List Int} {out : List Pt} (h : On n i ow out H) (hn : n ≤ 9) (hi : i ≤ 100) (hc : c < 6) :
    ∃ pn nd R, nodeV H c = (pn, nd, true, 0) ∧ missV H ((ownV nd.sg (countN (104 + 16 * (n : Int)))).map lineV) = [] ∧ aloH H c cnt (ownV nd.sg (countN (104 + 16 * (n : Int)))) (ownV nd.sg (countN (104 + 16 * (n : Int)))) = R ∧
      (R = errA 12 ∨ (∃ (pk : List (Nat × Nat)) (P W : List Pg), R = ([], P, W, 0, true) ∧ pk.length = cnt ∧ pk.Nodup ∧ P.length = cnt ∧ (∀ (j s k : Nat), pk[j]? = some (s, k) → s < n ∧ (1 ≤ k ∧ k ≤ 15) ∧ ow[s]? = some ((c : Int) + 1) ∧ ∃ p, P[j]? = some p ∧ p.l = 104 + 16 * (s : Int) + k ∧ lockB p = false ∧ kindV p.d0 = 0 ∧ genV p.d0 ≤ i) ∧
        (∀ w, w ∈ W → 0 ≤ w.l ∧ w.l ≤ 300) ∧ OnH n i ow out pk (W.foldl comP H))) := by
  obtain ⟨B, A, h1, h2, h3, h4, h5⟩ := h
  obtain ⟨pn, inc, hpn, hinc, hnode⟩ := h1.node hc
  refine ⟨pn, _, _, hnode, ?_, rfl, ?_⟩
  · rw [count_n hn]
    exact h1.hdr0 hn _
  · rw [count_n hn]
    rcases alo_step (cnt := cnt) h1 h2 hn hc (by omega) with ⟨q1, q2⟩ | ⟨q1, pk, W, k1, k2, k3, k4, k5, A', k6, k7, k8⟩
    · exact .inl q2
    · refine .inr ⟨pk, _, W, k4, k1, k2, by rw [List.length_map, k1], fun j s k hj => ?_, (fun w hw => by obtain ⟨t, ht, e⟩ := k5 w hw; omega), B, A', k8.up' (by omega), ⟨fun d j hd => by rw [k6]; exact h2.bn d j hd, fun s hs => by rw [k6]; exact h2.ow s hs, fun s hs j hj => ?_⟩, ⟨h3.1, fun s hs => by rw [k6]; exact h3.2.1 s hs, fun s hs => by rw [k6]; exact h3.2.2 s hs⟩, ⟨fun x hx => ?_, h5⟩, ?_⟩
      · obtain ⟨a1, a2, a3, a4⟩ := k3 s k (List.mem_of_getElem? hj)
        obtain ⟨p, e1, e2, e3⟩ := h1.page (i := k) a1 hn a2.2
        refine ⟨a1, a2, by rw [h3.2.1 s a1, a3], p, by rw [List.getElem?_map, hj]; exact congrArg some e2, ?_, h1.un _ _ e1, ?_, (h1.dp s k p a1 a2.1 a2.2 e1).2⟩
        · rw [h1.ln _ _ e1]; omega
        · exact (h1.dp s k p a1 a2.1 a2.2 e1).1.2 (.inl a4)
      · rw [k7] at hj
        rcases Bool.or_eq_true_iff.1 hj with hj | hj
        · exact h2.us s hs j hj
        · exact (k3 s j (of_decide_eq_true hj)).2.1
      · obtain ⟨t, m, a1, a2, a3, a4, a5, a6, v, a7, a8⟩ := h4 x hx
        refine ⟨t, m, a1, a2, a3, by rw [k7, a4]; rfl, fun e => ?_, a6, v, by rw [com_fold a2 k5]; exact a7, a8⟩
        have := (k3 t m e).2.2.2
        rw [a4] at this; cases this
      · rintro ⟨s, k⟩ hx
        obtain ⟨a1, a2, a3, a4⟩ := k3 s k hx
        exact ⟨a1, a2, by rw [k7]; simp [hx]⟩
theorem on_page {i s k : Nat} {ow : List Int} {out : List Pt} {pk : List (Nat × Nat)} {p : Pg} {kind : Int} (h : OnH n i ow out ((s, k) :: pk) H) (hnd : (s, k) ∉ pk) (hl : p.l = 104 + 16 * (s : Int) + k) (hg : genV p.d0 ≤ i) (hi : i ≤ 100) (hk : 1 ≤ kind ∧ kind ≤ 4) :
    (∀ x, x ∈ out → x.line ≠ p.l) ∧ OnH n i ow (out ++ [⟨p.l, genV (tagP p ⟨kind, genV p.d0 + 1, 0#32⟩).d0⟩]) pk (comP H (tagP p ⟨kind, genV p.d0 + 1, 0#32⟩)) := by
  obtain ⟨B, A, h1, h2, h3, ⟨h4, h5⟩, h6⟩ := h
  obtain ⟨a1, a2, a3⟩ := h6 _ (List.mem_cons_self ..)
  have h0 : 0 ≤ genV p.d0 := by rw [gen_eq]; omega
  have e2 : genV (tagP p ⟨kind, genV p.d0 + 1, 0#32⟩).d0 = genV p.d0 + 1 := gen_pack _ (by simp only; omega)
  have hne : ∀ x, x ∈ out → x.line ≠ p.l := fun x hx e => by
    obtain ⟨t, m, b1, b2, b3, b4, b5, _⟩ := h4 x hx
    refine b5 ?_
    have e1 : t = s := by simp only at a1 a2; omega
    have e3 : m = k := by simp only at a1 a2; omega
    rw [e1, e3]
    exact List.mem_cons_self ..
  have hwl : (tagP p ⟨kind, genV p.d0 + 1, 0#32⟩).l = 96 + ((8 + 16 * s + k : Nat) : Int) := by show p.l = _; omega
  refine ⟨hne, B, A, page_step h1 a1 a2 a3 hnd hl (by omega) (by omega) hk, h2, h3, ⟨fun x hx => ?_, ?_⟩, fun x hx => h6 x (List.mem_cons_of_mem _ hx)⟩
  · rcases List.mem_append.1 hx with hx | hx
    · obtain ⟨t, m, b1, b2, b3, b4, b5, b6, v, b7, b8⟩ := h4 x hx
      refine ⟨t, m, b1, b2, b3, b4, fun e => b5 (List.mem_cons_of_mem _ e), b6, v, ?_, b8⟩
      rw [com_get hwl]
      · exact b7
      · intro e
        have := hne x hx
        simp only at a1 a2
        omega
    · rw [List.mem_singleton.1 hx]
      obtain ⟨w', c1, c2, c3, c4, c5, c6⟩ := h1.com (k := 8 + 16 * s + k) (w := tagP p ⟨kind, genV p.d0 + 1, 0#32⟩) (by simp only at a1 a2; omega) hwl
      refine ⟨s, k, a1, a2, hl, a3, hnd, by rw [e2]; dsimp only; omega, w', ?_, by rw [c6]⟩
      rw [c1, List.getElem?_set, if_pos rfl, if_pos (by rw [h1.len]; simp only at a1 a2; omega)]
  · rw [List.map_append]
    refine List.nodup_append.2 ⟨h5, by simp, fun a ha b hb e => ?_⟩
    obtain ⟨x, hx, rfl⟩ := List.mem_map.1 ha
    simp at hb
    exact hne x hx (e.trans hb)
theorem on_end {i : Nat} {ow : List Int} {out : List Pt} (h : OnH n i ow out [] H) : On n (i + 1) ow out H := by
  obtain ⟨B, A, h1, h2, h3, h4, _⟩ := h
  exact ⟨B, A, h1, h2, h3, h4⟩
theorem on_acq {i c : Nat} {ow : List Int} {out : List Pt} (h : On n i ow out H) (hn : n ≤ 9) (hc : c < 3) :
    (sB H c (countN (104 + 16 * (n : Int))) = true → (mineW H c 1 (sV H c (countN (104 + 16 * (n : Int))))).l < (headW H c (sV H c (countN (104 + 16 * (n : Int))))).l) ∧ missV H (hdrL (104 + 16 * (n : Int))) = [] ∧
    ∃ r, acqV H c 1 (104 + 16 * (n : Int)) = r ∧ ((r = ([], [], 0, 12, true) ∧ On n (i + 1) ow out H) ∨ ∃ s w1 w2, r = ([], [w1, w2], s, 0, true) ∧ s < n ∧ ow[s]? = some 0 ∧ ((0 ≤ w1.l ∧ w1.l ≤ 300) ∧ (0 ≤ w2.l ∧ w2.l ≤ 300)) ∧ On n (i + 1) (ow.set s ((c : Int) + 1)) out (comP (comP H w1) w2)) := by
  obtain ⟨B, A, h1, h2, h3, h4, h5⟩ := h
  obtain ⟨q1, q2, q⟩ := acq_step h1 h2 hn (show c < 6 by omega)
  refine ⟨q1, q2, _, rfl, ?_⟩
  rcases q with ⟨_, k⟩ | ⟨s, w1, w2, hs, ho, e, l, k1, k2⟩
  · exact .inl ⟨k, B, A, h1.up' (by omega), h2, h3, h4, h5⟩
  · refine .inr ⟨s, w1, w2, e, hs, by rw [h3.2.1 s hs, ho]; rfl, by omega, _, _, k1.up' (by omega), k2, ⟨by rw [List.length_set]; exact h3.1, fun t ht => ?_, fun t ht => ?_⟩, ⟨fun x hx => ?_, h5⟩⟩
    · unfold updA
      rw [List.getElem?_set]
      by_cases e : s = t
      · rw [if_pos e, if_pos (by rw [h3.1]; omega), if_pos e.symm]
      · rw [if_neg e, if_neg (fun e2 => e e2.symm)]; exact h3.2.1 t ht
    · unfold updA
      by_cases e : t = s
      · rw [if_pos e]; simp only; omega
      · rw [if_neg e]; exact h3.2.2 t ht
    · obtain ⟨t, m, a1, a2, a3, a4, a5, a6, v, a7, a8⟩ := h4 x hx
      refine ⟨t, m, a1, a2, a3, ?_, a5, a6, v, ?_, a8⟩
      · unfold updA
        by_cases e : t = s
        · rw [if_pos e, ← e]; exact a4
        · rw [if_neg e]; exact a4
      · rw [com_get (k := 8 + 16 * s) (by omega) (by omega), com_get (k := 2 + c) (by omega) (by omega)]
        exact a7
end
end Go.Proofs.Ytpfojangcgffkaa

/- Readers of the structs of this seat: printed by wip/rd3.py. Own work. -/

namespace Go.Proofs.Ytpfojangcgffkaa
open Go.RowKit Go.ChangeShapes Go.WideShapes Go.ChangeAt
set_option linter.unusedVariables false
set_option linter.unusedSimpArgs false
set_option maxRecDepth 100000
section
variable {H : Type} {enc : TypeId × Value → H} {w : World} {base : Nat} {sp : Nat → Bool} {held : Bool}
structure Mv where
  client : Int
  count : Int
  free : Bool
  at_ : Int
def tMv : Ty Mv := ⟨4, fun a => [Is (.int .i64 a.client), Is (.int .i64 a.count), Is (.bool a.free), Is (.int .i64 a.at_)], fun _ => rfl⟩
@[reducible] def IsMv (a : Mv) : VP := IsAgg (tMv.cells a)
def Mv.wf (a : Mv) : Prop := I64ok a.client ∧ I64ok a.count ∧ (fun _ => True) a.free ∧ I64ok a.at_
theorem cN_bodega_bodegalaw20_Move : Try.prog.cellsOf 96 = 4 := by kernel_rfl
theorem cN_intM : Try.prog.cellsOf 3 = 1 := by kernel_rfl
theorem cN_boolM : Try.prog.cellsOf 4 = 1 := by kernel_rfl
theorem rds_Mv : Rds enc Try.prog w base sp held 96 tMv Mv.wf := by
  intro fuel cs x h
  obtain ⟨xs, n, _, _, hlen, hxs, hf⟩ := DataW.trod_struct Try.underlying96 h
  rw [cN_bodega_bodegalaw20_Move] at hlen
  match cs, hlen with
  | [c0, c1, c2, c3], _ =>
    match xs, hxs with
    | [x0, x1, x2, x3], _ =>
      have f0 : DataW.trod enc Try.prog w base sp held n 3 (([c0, c1, c2, c3].drop 0).take (Try.prog.cellsOf 3)) = some x0 := hf 0 _ rfl
      rw [cN_intM] at f0
      obtain ⟨a0, g0, o0, w0⟩ := (rds_i64 Try.underlying3) _ _ _ f0
      have f1 : DataW.trod enc Try.prog w base sp held n 3 (([c0, c1, c2, c3].drop 1).take (Try.prog.cellsOf 3)) = some x1 := hf 1 _ rfl
      rw [cN_intM] at f1
      obtain ⟨a1, g1, o1, w1⟩ := (rds_i64 Try.underlying3) _ _ _ f1
      have f2 : DataW.trod enc Try.prog w base sp held n 4 (([c0, c1, c2, c3].drop 2).take (Try.prog.cellsOf 4)) = some x2 := hf 2 _ rfl
      rw [cN_boolM] at f2
      obtain ⟨a2, g2, o2, w2⟩ := (rds_bool Try.underlying4) _ _ _ f2
      have f3 : DataW.trod enc Try.prog w base sp held n 3 (([c0, c1, c2, c3].drop 3).take (Try.prog.cellsOf 3)) = some x3 := hf 3 _ rfl
      rw [cN_intM] at f3
      obtain ⟨a3, g3, o3, w3⟩ := (rds_i64 Try.underlying3) _ _ _ f3
      exact ⟨⟨a0, a1, a2, a3⟩, (((g0.append g1).append g2).append g3), (ones_app (ones_app (ones_app o0 o1) o2) o3), ⟨w0, w1, w2, w3⟩⟩
end
end Go.Proofs.Ytpfojangcgffkaa
