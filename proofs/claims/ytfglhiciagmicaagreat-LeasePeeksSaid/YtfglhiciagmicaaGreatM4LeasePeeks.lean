/- Texts of this claim, laid together (part 4): walks of functions, what they compute, and plain laws of it. Own work. -/
import Derived.Laws.OwnMore
import Derived.OwnWalk
import Derived.Deep.WholeRow
import Derived.Lib.SlBytesConst
import Derived.Deep.OwnRows
import Derived.Test.YtfglhiciagmicaaGreatM3LeasePeeks
/- Contracts: headers, locks, marks. Own work. -/
namespace Go.Proofs.YtfglhiciagmicaaGreat
open Go.RowKit
set_option linter.unusedVariables false
set_option linter.unusedSimpArgs false
set_option maxRecDepth 100000
/-- Is a header unlocked? -/
def unlocked (x : BitVec 64) : Bool := x &&& 255#64 == 0#64
-- bodegaref1.Unlocked: function 129
theorem UnlockedR_ok (x : BitVec 64) : FnP Tryz.prog 129 [Is (.int .u64 (UV x))] (Is (.bool (unlocked x))) := by
  refine FnP.enter Tryz.func129 Tryz.ntmps129 rfl rfl ?_
  intro c hX
  (refine JC_seq ?_)
  refine JC_region ?_
  refine JL_1 rfl (op_assign rfl) ?_
  refine JL_nil ?_
  (repeat with_reducible first | refine JC_seq ?_ | refine JQ_then ?_)
  (skip)
  refine JC_region ?_
  refine JL_1 rfl (op_move rfl) ?_
  refine JL_1 rfl (by exact op_bits ev64 ev64 (by simp) (and_u64 _ _)) ?_
  refine JL_1 rfl (op_eql (Ev.rfl' rfl) (Ev.rfl' rfl)) ?_
  refine JL_1 rfl (op_assign rfl) ?_
  refine JL_nil ?_
  (repeat with_reducible first | refine JQ_then ?_ | refine JC_ret ?_)
  exact JQ_ret1 Tryz.results129 rfl () (SubL.eq (by unfold unlocked; rw [← UV_beq]; rfl)) (List.nil_sublist _)
/-- The version of a header, and what follows it. -/
def ver (x : BitVec 64) : BitVec 64 := x >>> 8
def nextOk (x : BitVec 64) : Bool := decide (1 ≤ UV (ver x)) && decide (UV (ver x) ≤ 281474976710654)
def nextU (x : BitVec 64) : BitVec 64 := if nextOk x then (ver x + 1#64) <<< 8 else 0#64
def nextC (x : BitVec 64) : Int := if nextOk x then 0 else 2
theorem ver_lt (x : BitVec 64) : UV (ver x) < 72057594037927936 := by
  unfold ver UV
  rw [BitVec.toNat_ushiftRight, Nat.shiftRight_eq_div_pow]
  have := bv64 x
  omega
theorem ver_add (x : BitVec 64) : UV (ver x + 1#64) = UV (ver x) + 1 := by
  have h := ver_lt x
  unfold UV at *
  rw [BitVec.toNat_add]
  have : (1#64).toNat = 1 := rfl
  omega
-- bodegaref1.Next: function 128
theorem NextR_ok (x : BitVec 64) : FnP Tryz.prog 128 [Is (.int .u64 (UV x))] (IsTup [Is (.int .u64 (UV (nextU x))), Is (.int .i64 (nextC x))]) := by
  have hw : IntKind.u64.wrap (UV (ver x) + 1) = UV (ver x) + 1 := wU64 (by have := ver_lt x; have := UV_nonneg (ver x); omega)
  refine FnP.enter Tryz.func128 Tryz.ntmps128 rfl rfl ?_
  intro c hX
  (refine JC_seq ?_)
  refine JC_region ?_
  refine JL_1 rfl (op_assign rfl) ?_
  refine JL_1 rfl (op_assign rfl) ?_
  refine JL_nil ?_
  (repeat with_reducible first | refine JC_seq ?_ | refine JQ_then ?_)
  (skip)
  refine JC_region ?_
  refine JL_1 rfl (op_move rfl) ?_
  refine JL_1 rfl (by exact op_shrU (k := 8) ev64 (Ev.rfl' rfl) (by omega) idxT) ?_
  refine JL_1 rfl (op_assign rfl) ?_
  refine JL_nil ?_
  (repeat with_reducible first | refine JC_seq ?_ | refine JQ_then ?_)
  (skip)
  refine JC_region ?_
  refine JL_1 rfl (op_move rfl) ?_
  refine JL_1 rfl (op_lss (Ev.rfl' rfl) (Ev.rfl' rfl)) ?_
  refine JL_1 rfl (op_move rfl) ?_
  (refine JL_i0 rfl rfl rfl (fun hg => (by have hg0 := hg; (try simp at hg); exact op_moveE (Ev.rfl' rfl))) ?_)
  (refine JL_i0 rfl rfl rfl (fun hg => (by have hg0 := hg; (try simp at hg); exact op_binU ev64g ev64g (add_u64 _ _ _))) ?_)
  (refine JL_i0 rfl rfl rfl (fun hg => (by have hg0 := hg; (try simp at hg); exact op_geq evG evG)) ?_)
  refine JL_1 rfl (op_or (Ev.rfl' rfl) rfl (fun h => by exact SubL.iteT (by (rw [h]; rfl)) SubL.rfl')) ?_
  refine JL_nil ?_
  (refine JQ_then ?_)
  refine JC_cond (Ev.rfl' rfl) (fun h => ?_) (fun h => ?_)
  · have e : nextOk x = false := by
      have h2 : UV (x >>> 8) < 1 ∨ 281474976710656 ≤ UV (x >>> 8 + 1#64) := by simpa using h
      change UV (ver x) < 1 ∨ 281474976710656 ≤ UV (ver x + 1#64) at h2
      rw [ver_add] at h2
      simp [nextOk]; omega
    unfold nextU nextC
    rw [e]
    (refine JC_seq ?_)
    refine JC_region ?_
    refine JL_1 rfl (op_assign rfl) ?_
    refine JL_1 rfl (op_assign rfl) ?_
    refine JL_nil ?_
    (repeat with_reducible first | refine JQ_then ?_ | refine JQ_then_ret ?_ | refine JC_ret ?_)
    exact JQ_ret (Bs := [Is (.int .u64 (UV 0#64)), Is (.int .i64 2)]) Tryz.results128 ⟨⟨_, rfl, subT⟩, ⟨⟨_, rfl, subT⟩, trivial⟩⟩ () SubL.rfl' (List.nil_sublist _)
  · have e : nextOk x = true := by
      have h2 : 1 ≤ UV (x >>> 8) ∧ UV (x >>> 8 + 1#64) < 281474976710656 := by simpa using h
      change 1 ≤ UV (ver x) ∧ UV (ver x + 1#64) < 281474976710656 at h2
      rw [ver_add] at h2
      simp [nextOk]; omega
    unfold nextU nextC
    rw [e]
    (repeat with_reducible first | refine JC_seq ?_ | refine JQ_then ?_ | refine JC_skip ?_)
    refine JC_region ?_
    refine JL_1 rfl (op_move rfl) ?_
    refine JL_1 rfl (by exact op_binU ev64 ev64 (add_u64 _ _ _)) ?_
    refine JL_1 rfl (by exact op_shlU (k := 8) ev64 (Ev.rfl' rfl) (by omega) idxT) ?_
    refine JL_1 rfl (op_assign rfl) ?_
    refine JL_1 rfl (op_assign rfl) ?_
    refine JL_nil ?_
    (repeat with_reducible first | refine JQ_then ?_ | refine JC_ret ?_)
    exact JQ_ret (Bs := [Is (.int .u64 (UV ((ver x + 1#64) <<< 8))), Is (.int .i64 0)]) Tryz.results128 ⟨⟨_, rfl, subT⟩, ⟨⟨_, rfl, subT⟩, trivial⟩⟩ () SubL.rfl' (List.nil_sublist _)
def cliB (c : Int) : Bool := decide (c ≥ 0) && decide (c ≤ 5)
def lockU (x : BitVec 64) (c : Int) : BitVec 64 := if cliB c && unlocked x then x ||| BitVec.ofInt 64 (c + 1) else 0#64
def lockC (x : BitVec 64) (c : Int) : Int := if cliB c then (if unlocked x then 0 else 3) else 1
-- bodegaref1.Lock: function 126
theorem LockR_ok (x : BitVec 64) (cl : Int) : FnP Tryz.prog 126 [Is (.int .u64 (UV x)), Is (.int .i64 cl)] (IsTup [Is (.int .u64 (UV (lockU x cl))), Is (.int .i64 (lockC x cl))]) := by
  refine FnP.enter Tryz.func126 Tryz.ntmps126 rfl rfl ?_
  intro c hX
  (refine JC_seq ?_)
  refine JC_region ?_
  refine JL_1 rfl (op_assign rfl) ?_
  refine JL_1 rfl (op_assign rfl) ?_
  refine JL_nil ?_
  (repeat with_reducible first | refine JC_seq ?_ | refine JQ_then ?_)
  (skip)
  refine JC_region ?_
  refine JL_1 rfl (op_move rfl) ?_
  refine JL_1 rfl (op_call Tryz.call32 (ClientR_ok _) ⟨evS, trivial⟩) ?_
  refine JL_1 rfl (op_not (Ev.rfl' rfl)) ?_
  refine JL_nil ?_
  (refine JQ_then ?_)
  refine JC_cond (Ev.rfl' rfl) (fun h => ?_) (fun h => ?_)
  · have e : cliB cl = false := by simp [cliB]; simp at h; omega
    unfold lockU lockC
    rw [e]
    (refine JC_seq ?_)
    refine JC_region ?_
    refine JL_1 rfl (op_assign rfl) ?_
    refine JL_1 rfl (op_assign rfl) ?_
    refine JL_nil ?_
    (repeat with_reducible first | refine JQ_then ?_ | refine JQ_then_ret ?_ | refine JC_ret ?_)
    exact JQ_ret (Bs := [Is (.int .u64 (UV 0#64)), Is (.int .i64 1)]) Tryz.results126 ⟨⟨_, rfl, subT⟩, ⟨⟨_, rfl, subT⟩, trivial⟩⟩ () SubL.rfl' (List.nil_sublist _)
  have e : cliB cl = true := by simp [cliB]; simp at h; omega
  have hc : 0 ≤ cl ∧ cl ≤ 5 := by simp at h; omega
  clear h
  (repeat with_reducible first | refine JC_seq ?_ | refine JQ_then ?_ | refine JC_skip ?_)
  refine JC_region ?_
  refine JL_1 rfl (op_move rfl) ?_
  refine JL_1 rfl (op_call Tryz.call129 (UnlockedR_ok _) ⟨evS, trivial⟩) ?_
  refine JL_1 rfl (op_not (Ev.rfl' rfl)) ?_
  refine JL_nil ?_
  (refine JQ_then ?_)
  refine JC_cond (Ev.rfl' rfl) (fun h => ?_) (fun h => ?_)
  · have e2 : unlocked x = false := by simpa using h
    unfold lockU lockC
    rw [e, e2]
    (refine JC_seq ?_)
    refine JC_region ?_
    refine JL_1 rfl (op_assign rfl) ?_
    refine JL_1 rfl (op_assign rfl) ?_
    refine JL_nil ?_
    (repeat with_reducible first | refine JQ_then ?_ | refine JQ_then_ret ?_ | refine JC_ret ?_)
    exact JQ_ret (Bs := [Is (.int .u64 (UV 0#64)), Is (.int .i64 3)]) Tryz.results126 ⟨⟨_, rfl, subT⟩, ⟨⟨_, rfl, subT⟩, trivial⟩⟩ () SubL.rfl' (List.nil_sublist _)
  · have e2 : unlocked x = true := by simpa using h
    unfold lockU lockC
    rw [e, e2]
    (repeat with_reducible first | refine JC_seq ?_ | refine JQ_then ?_ | refine JC_skip ?_)
    refine JC_region ?_
    refine JL_1 rfl (op_move rfl) ?_
    refine JL_1 rfl (op_move rfl) ?_
    refine JL_1 rfl (op_add (Ev.rfl' rfl) (Ev.rfl' rfl) wrapT) ?_
    refine JL_1 rfl (op_conv (Ev.rfl' rfl) rfl rfl convT) ?_
    refine JL_1 rfl (by exact op_bits ev64 ev64 (by simp) (or_u64 _ _)) ?_
    refine JL_1 rfl (op_assign rfl) ?_
    refine JL_1 rfl (op_assign rfl) ?_
    refine JL_nil ?_
    (repeat with_reducible first | refine JQ_then ?_ | refine JC_ret ?_)
    exact JQ_ret (Bs := [Is (.int .u64 (UV (x ||| BitVec.ofInt 64 (cl + 1)))), Is (.int .i64 0)]) Tryz.results126 ⟨⟨_, rfl, subT⟩, ⟨⟨_, rfl, subT⟩, trivial⟩⟩ () SubL.rfl' (List.nil_sublist _)
def markB (n : Int) : Bool := decide (n ≥ 1) && decide (n ≤ 1073741823)
def markU (n : Int) : BitVec 64 := if markB n then BitVec.ofInt 64 n <<< 2 ||| 2#64 else 0#64
def markC (n : Int) : Int := if markB n then 0 else 2
-- bodegaref1.Mark: function 117
theorem MarkR_ok (n : Int) : FnP Tryz.prog 117 [Is (.int .i64 n)] (IsTup [Is (.int .u64 (UV (markU n))), Is (.int .i64 (markC n))]) := by
  refine FnP.enter Tryz.func117 Tryz.ntmps117 rfl rfl ?_
  intro c hX
  (refine JC_seq ?_)
  refine JC_region ?_
  refine JL_1 rfl (op_assign rfl) ?_
  refine JL_1 rfl (op_assign rfl) ?_
  refine JL_nil ?_
  (repeat with_reducible first | refine JC_seq ?_ | refine JQ_then ?_)
  (skip)
  refine JC_region ?_
  refine JL_1 rfl (op_move rfl) ?_
  refine JL_1 rfl (op_lss (Ev.rfl' rfl) (Ev.rfl' rfl)) ?_
  refine JL_1 rfl (op_move rfl) ?_
  (refine JL_i0 rfl rfl rfl (fun hg => (by have hg0 := hg; (try simp at hg); exact op_moveE (Ev.rfl' rfl))) ?_)
  (refine JL_i0 rfl rfl rfl (fun hg => (by have hg0 := hg; (try simp at hg); exact op_geq evG evG)) ?_)
  refine JL_1 rfl (op_or (Ev.rfl' rfl) rfl (fun h => by exact SubL.iteT (by (rw [h]; rfl)) SubL.rfl')) ?_
  refine JL_nil ?_
  (refine JQ_then ?_)
  refine JC_cond (Ev.rfl' rfl) (fun h => ?_) (fun h => ?_)
  · have e : markB n = false := by simp [markB]; simp at h; omega
    unfold markU markC
    rw [e]
    (refine JC_seq ?_)
    refine JC_region ?_
    refine JL_1 rfl (op_assign rfl) ?_
    refine JL_1 rfl (op_assign rfl) ?_
    refine JL_nil ?_
    (repeat with_reducible first | refine JQ_then ?_ | refine JQ_then_ret ?_ | refine JC_ret ?_)
    exact JQ_ret (Bs := [Is (.int .u64 (UV 0#64)), Is (.int .i64 2)]) Tryz.results117 ⟨⟨_, rfl, subT⟩, ⟨⟨_, rfl, subT⟩, trivial⟩⟩ () SubL.rfl' (List.nil_sublist _)
  have e : markB n = true := by simp [markB]; simp at h; omega
  have hc : 1 ≤ n ∧ n ≤ 1073741823 := by simp at h; omega
  clear h
  unfold markU markC
  rw [e]
  (repeat with_reducible first | refine JC_seq ?_ | refine JQ_then ?_ | refine JC_skip ?_)
  refine JC_region ?_
  refine JL_1 rfl (op_move rfl) ?_
  refine JL_1 rfl (op_conv (Ev.rfl' rfl) rfl rfl convT) ?_
  refine JL_1 rfl (by exact op_shlU (k := 2) ev64 (Ev.rfl' rfl) (by omega) idxT) ?_
  refine JL_1 rfl (by exact op_bits ev64 ev64 (by simp) (or_u64 _ _)) ?_
  refine JL_1 rfl (op_assign rfl) ?_
  refine JL_1 rfl (op_assign rfl) ?_
  refine JL_nil ?_
  (repeat with_reducible first | refine JQ_then ?_ | refine JC_ret ?_)
  exact JQ_ret (Bs := [Is (.int .u64 (UV (BitVec.ofInt 64 n <<< 2 ||| 2#64))), Is (.int .i64 0)]) Tryz.results117 ⟨⟨_, rfl, subT⟩, ⟨⟨_, rfl, subT⟩, trivial⟩⟩ () SubL.rfl' (List.nil_sublist _)
end Go.Proofs.YtfglhiciagmicaaGreat

/- Contract of the reference's ValidRecord. Own work. -/
namespace Go.Proofs.YtfglhiciagmicaaGreat
open Go.RowKit
set_option linter.unusedVariables false
set_option linter.unusedSimpArgs false
set_option maxRecDepth 100000
def outB (lines : Int) (p : Pg) : Bool := decide (p.l < 96) || decide (p.l ≥ lines)
def Pg.at (ms : List Pg) (k : Nat) : Pg := ms.getD k ⟨0, 0#64, 0#64, 0#64, 0#64, 0#64, 0#64, 0#64, 0#64⟩
theorem Pg.at_get (ms : List Pg) (k : Nat) (h : k < ms.length) : ms[k]? = some (Pg.at ms k) := by
  unfold Pg.at
  rw [List.getD_eq_getElem?_getD, List.getElem?_eq_getElem h]
  rfl
def AscP (ms : List Pg) (k : Nat) : Prop := 0 < k → (Pg.at ms (k - 1)).l < (Pg.at ms k).l
def headB (p : Pg) : Bool := nextC p.h == 0 && unlocked p.h
/-- Why a record is none of so many lines (0: it is one). -/
def okR1 (seq : Int) (ms : List Pg) : Prop := 1 ≤ seq ∧ seq < 1073741824 ∧ 1 ≤ ms.length ∧ ms.length ≤ 12
def okR2 (ms : List Pg) : Prop := (∀ k, k < ms.length → AscP ms k) ∧ ∀ k, k < ms.length → headB (Pg.at ms k) = true
instance (seq : Int) (ms : List Pg) : Decidable (okR1 seq ms) := by unfold okR1; infer_instance
noncomputable def validR (seq : Int) (ms : List Pg) (lines : Int) : Int :=
  if ¬ (98 ≤ lines ∧ lines ≤ 256) then 18 else if ¬ okR1 seq ms then 1 else if ms.any (outB lines) then 2
  else @ite _ (okR2 ms) (Classical.propDecidable _) 0 1
theorem validR_18 {seq lines : Int} {ms : List Pg} (h : ¬ (98 ≤ lines ∧ lines ≤ 256)) : validR seq ms lines = 18 := by unfold validR; rw [if_pos h]
theorem validR_1 {seq lines : Int} {ms : List Pg} (h : 98 ≤ lines ∧ lines ≤ 256) (h1 : ¬ okR1 seq ms) : validR seq ms lines = 1 := by unfold validR; rw [if_neg (not_not_intro h), if_pos h1]
theorem validR_2 {seq lines : Int} {ms : List Pg} (h : 98 ≤ lines ∧ lines ≤ 256) (h1 : okR1 seq ms) (h2 : ms.any (outB lines) = true) : validR seq ms lines = 2 := by unfold validR; rw [if_neg (not_not_intro h), if_neg (not_not_intro h1), if_pos h2]
theorem validR_3 {seq lines : Int} {ms : List Pg} (h : 98 ≤ lines ∧ lines ≤ 256) (h1 : okR1 seq ms) (h2 : ms.any (outB lines) = false) (h3 : ¬ okR2 ms) : validR seq ms lines = 1 := by unfold validR; rw [if_neg (not_not_intro h), if_neg (not_not_intro h1), if_neg (by rw [h2]; simp), if_neg h3]
theorem validR_0 {seq lines : Int} {ms : List Pg} (h : 98 ≤ lines ∧ lines ≤ 256) (h1 : okR1 seq ms) (h2 : ms.any (outB lines) = false) (h3 : okR2 ms) : validR seq ms lines = 0 := by unfold validR; rw [if_neg (not_not_intro h), if_neg (not_not_intro h1), if_neg (by rw [h2]; simp), if_pos h3]
theorem validR_ok {seq lines : Int} {ms : List Pg} (h : validR seq ms lines = 0) : (98 ≤ lines ∧ lines ≤ 256) ∧ okR1 seq ms ∧ ms.any (outB lines) = false ∧ okR2 ms := by
  by_cases g : 98 ≤ lines ∧ lines ≤ 256
  · by_cases g1 : okR1 seq ms
    · cases g2 : ms.any (outB lines) with
      | true => rw [validR_2 g g1 g2] at h; omega
      | false =>
        refine ⟨g, g1, rfl, Classical.byContradiction fun g3 => ?_⟩
        rw [validR_3 g g1 g2 g3] at h; omega
    · rw [validR_1 g g1] at h; omega
  · rw [validR_18 g] at h; omega
@[reducible] def IsRec (seq : Int) (ms : List Pg) : VP := IsAgg [Is (.int .i64 seq), IsSl tPg ms]
-- bodegaref1.InHeap: function 127
theorem InHeap_ok (n lines : Int) (hl : 98 ≤ lines ∧ lines ≤ 256) : FnP Tryz.prog 127 [Is (.int .i64 n), Is (.int .i64 lines)] (Is (.bool (!(decide (n < 96) || decide (n ≥ lines))))) := by
  refine FnP.enter Tryz.func127 Tryz.ntmps127 rfl rfl ?_
  intro c hX
  refine JC_seq ?_
  refine JC_region ?_
  refine JL_1 rfl (op_assign rfl) ?_
  refine JL_nil ?_
  refine JQ_then (JC_seq ?_)
  refine JC_region ?_
  refine JL_1 rfl (op_move rfl) ?_
  refine JL_1 rfl (op_geq (Ev.rfl' rfl) (Ev.rfl' rfl)) ?_
  refine JL_1 rfl (op_move rfl) ?_
  (refine JL_i0 rfl rfl rfl (fun hg => (by have hg0 := hg; (try simp at hg); exact op_moveE (Ev.rfl' rfl))) ?_)
  (refine JL_i0 rfl rfl rfl (fun hg => (by have hg0 := hg; (try simp at hg); exact op_leq evG evG)) ?_)
  refine JL_1 rfl (op_and (Ev.rfl' rfl) rfl (fun h => by exact SubL.iteT (by (rw [h]; rfl)) SubL.rfl')) ?_
  refine JL_1 rfl (op_move rfl) ?_
  (refine JL_i0 rfl rfl rfl (fun hg => (by have hg0 := hg; (try simp at hg); exact op_moveE (Ev.rfl' rfl))) ?_)
  (refine JL_i0 rfl rfl rfl (fun hg => (by have hg0 := hg; (try simp at hg); exact op_geq evG evG)) ?_)
  refine JL_1 rfl (op_and (Ev.rfl' rfl) rfl (fun h => by exact SubL.iteT (by (rw [h]; rfl)) SubL.rfl')) ?_
  refine JL_1 rfl (op_move rfl) ?_
  (refine JL_i0 rfl rfl rfl (fun hg => (by have hg0 := hg; (try simp at hg); exact op_moveE (Ev.rfl' rfl))) ?_)
  (refine JL_i0 rfl rfl rfl (fun hg => (by have hg0 := hg; (try simp at hg); exact op_moveE (Ev.rfl' rfl))) ?_)
  (refine JL_i0 rfl rfl rfl (fun hg => (by have hg0 := hg; (try simp at hg); exact op_lss evG evG)) ?_)
  refine JL_1 rfl (op_and (Ev.rfl' rfl) rfl (fun h => by exact SubL.iteT (by (rw [h]; rfl)) SubL.rfl')) ?_
  refine JL_1 rfl (op_assign rfl) ?_
  refine JL_nil ?_
  refine JQ_then (JC_ret ?_)
  refine JQ_ret1 Tryz.results127 rfl () (SubL.eq ?_) (List.nil_sublist _)
  congr 2
  rw [Bool.eq_iff_iff]
  simp
  omega
theorem any_of {q : Pg → Bool} {ms : List Pg} {k : Nat} {p : Pg} (h : ms[k]? = some p) (hq : q p = true) : ms.any q = true :=
  List.any_eq_true.2 ⟨p, List.mem_of_getElem? h, hq⟩
theorem any_none {q : Pg → Bool} {ms : List Pg} (h : ∀ k, k < ms.length → q (Pg.at ms k) = false) : ms.any q = false := by
  rw [List.any_eq_false]
  intro p hp
  obtain ⟨k, hk⟩ := List.mem_iff_getElem?.1 hp
  have hl : k < ms.length := (List.getElem?_eq_some_iff.1 hk).1
  have := h k hl
  rw [Pg.at_get ms k hl] at hk
  injection hk with hk
  rw [← hk, this]; simp
set_option maxHeartbeats 2000000 in
-- bodegaref4.ValidRecord: function 124
theorem ValidLR_ok (seq lines : Int) (ms : List Pg) : FnP Tryz.prog 124 [IsRec seq ms, Is (.int .i64 lines)] (Is (.int .i64 (validR seq ms lines))) := by
  refine FnP.enter Tryz.func124 Tryz.ntmps124 rfl rfl ?_
  intro c hX
  refine JC_lenV (t := 0) 1 rfl rfl (fun hlen => ?_)
  refine JC_seq ?_
  refine JC_region ?_
  (refine JL_n rfl (op_box (Ev.rfl' rfl) cellsT) ?_; intro i2)
  refine JL_1 rfl (op_assign rfl) ?_
  refine JL_nil ?_
  refine JQ_then (JC_seq (JC_seq ?_))
  refine JC_region ?_
  refine JL_1 rfl (op_move rfl) ?_
  refine JL_1 rfl (op_lss (Ev.rfl' rfl) (Ev.rfl' rfl)) ?_
  refine JL_1 rfl (op_move rfl) ?_
  (refine JL_i0 rfl rfl rfl (fun hg => (by have hg0 := hg; (try simp at hg); exact op_moveE (Ev.rfl' rfl))) ?_)
  (refine JL_i0 rfl rfl rfl (fun hg => (by have hg0 := hg; (try simp at hg); exact op_gtr evG evG)) ?_)
  refine JL_1 rfl (op_or (Ev.rfl' rfl) rfl (fun h => by exact SubL.iteT (by (rw [h]; rfl)) SubL.rfl')) ?_
  refine JL_nil ?_
  refine JQ_then ?_
  refine JC_cond (Ev.rfl' rfl) (fun h1 => ?_) (fun h1 => ?_)
  · have g1 : ¬ (98 ≤ lines ∧ lines ≤ 256) := by simp at h1; omega
    refine JC_seq ?_
    refine JC_region ?_
    refine JL_1 rfl (op_assign rfl) ?_
    refine JL_nil ?_
    refine JQ_then (JC_ret (JQ_then_ret ?_))
    refine JQ_ret1 Tryz.results124 rfl () (SubL.eq ?_) (List.nil_sublist _)
    rw [validR_18 g1]
  have g1 : 98 ≤ lines ∧ lines ≤ 256 := by simp at h1; omega
  clear h1
  refine JC_skip (JQ_then (JC_seq (JC_seq ?_)))
  refine JC_region ?_
  refine JL_1 rfl (by exact op_fieldPtr (k := 0) (Ev.rfl' rfl) rfl rfl rfl rfl) ?_
  refine JL_1 rfl (by exact op_loadPtr (Ev.rfl' rfl) memT (by rfl) (by rfl) (by rfl)) ?_
  refine JL_1 rfl (op_lss (Ev.rfl' rfl) (Ev.rfl' rfl)) ?_
  refine JL_1 rfl (op_move rfl) ?_
  (refine JL_i0 rfl rfl rfl (fun hg => (by have hg0 := hg; (try simp at hg); exact op_fieldPtr (k := 0) evG rfl rfl rfl rfl)) ?_)
  (refine JL_i0 rfl rfl rfl (fun hg => (by have hg0 := hg; (try simp at hg); exact op_loadPtr evG memT (by rfl) (by rfl) (by rfl))) ?_)
  (refine JL_i0 rfl rfl rfl (fun hg => (by have hg0 := hg; (try simp at hg); exact op_geq evG evG)) ?_)
  refine JL_1 rfl (op_or (Ev.rfl' rfl) rfl (fun h => by exact SubL.iteT (by (rw [h]; rfl)) SubL.rfl')) ?_
  refine JL_1 rfl (op_move rfl) ?_
  (refine JL_i0 rfl rfl rfl (fun hg => (by have hg0 := hg; (try simp at hg); exact op_fieldPtr (k := 1) evG rfl rfl rfl rfl)) ?_)
  (refine JL_i0 rfl rfl rfl (fun hg => (by have hg0 := hg; (try simp at hg); exact op_loadPtr evG memT (by rfl) (by rfl) (by rfl))) ?_)
  (refine JL_i0 rfl rfl rfl (fun hg => (by have hg0 := hg; (try simp at hg); exact op_len evG rfl)) ?_)
  (refine JL_i0 rfl rfl rfl (fun hg => (by have hg0 := hg; (try simp at hg); exact op_lss evG evG)) ?_)
  refine JL_1 rfl (op_or (Ev.rfl' rfl) rfl (fun h => by exact SubL.iteT (by (rw [h]; rfl)) SubL.rfl')) ?_
  refine JL_1 rfl (op_move rfl) ?_
  (refine JL_i0 rfl rfl rfl (fun hg => (by have hg0 := hg; (try simp at hg); exact op_fieldPtr (k := 1) evG rfl rfl rfl rfl)) ?_)
  (refine JL_i0 rfl rfl rfl (fun hg => (by have hg0 := hg; (try simp at hg); exact op_loadPtr evG memT (by rfl) (by rfl) (by rfl))) ?_)
  (refine JL_i0 rfl rfl rfl (fun hg => (by have hg0 := hg; (try simp at hg); exact op_len evG rfl)) ?_)
  (refine JL_i0 rfl rfl rfl (fun hg => (by have hg0 := hg; (try simp at hg); exact op_gtr evG evG)) ?_)
  refine JL_1 rfl (op_or (Ev.rfl' rfl) rfl (fun h => by exact SubL.iteT (by (rw [h]; rfl)) SubL.rfl')) ?_
  refine JL_nil ?_
  refine JQ_then ?_
  refine JC_cond (Ev.rfl' rfl) (fun h3 => ?_) (fun h3 => ?_)
  · have g2 : ¬ okR1 seq ms := by unfold okR1; simp at h3; omega
    refine JC_seq ?_
    refine JC_region ?_
    refine JL_1 rfl (op_assign rfl) ?_
    refine JL_nil ?_
    refine JQ_then (JC_ret (JQ_then_ret ?_))
    refine JQ_ret1 Tryz.results124 rfl () (SubL.eq ?_) (List.nil_sublist _)
    rw [validR_1 g1 g2]
  have g2 : okR1 seq ms := by unfold okR1; simp at h3; omega
  clear h3
  refine JC_skip (JQ_then (JC_seq (JC_seq ?_)))
  refine JC_region ?_
  refine JL_1 rfl (op_assign rfl) ?_
  refine JL_nil ?_
  refine JQ_then (JC_block ?_)
  refine JC_loopP (fun k : Nat => k ≤ ms.length ∧ ∀ j, j < k → outB lines (Pg.at ms j) = false) (fun i => [(1, Is (.int .i64 lines)), (2, Is (.pointer (some ⟨i2, 0, none⟩))), (5, Is (.int .i64 (i : Nat)))]) (fun _ => [blk i2 202 [Is (.int .i64 seq), IsSl tPg ms]]) (fun i => ms.length - i) 0 ⟨Nat.zero_le _, fun j h => by omega⟩ esubT lessT ?_
  rintro k ⟨hk, hs⟩
  refine JC_seq (JC_seq ?_)
  refine JC_region ?_
  refine JL_1 rfl (op_move rfl) ?_
  refine JL_1 rfl (by exact op_fieldPtr (k := 1) (Ev.rfl' rfl) rfl rfl rfl rfl) ?_
  refine JL_1 rfl (by exact op_loadPtr (Ev.rfl' rfl) memT (by rfl) (by rfl) (by rfl)) ?_
  refine JL_1 rfl (by exact op_len (Ev.rfl' rfl) rfl) ?_
  refine JL_1 rfl (op_lss (Ev.rfl' rfl) (Ev.rfl' rfl)) ?_
  refine JL_nil ?_
  refine JQ_then ?_
  refine JC_cond (Ev.rfl' rfl) (fun h6 => ?_) (fun h6 => ?_)
  · have h' : (k : Int) < ms.length := of_decide_eq_true h6
    have hz := Pg.at_get ms k (by omega)
    clear h6
    refine JC_skip (JQ_then (JC_seq (JC_block (JC_seq ?_))))
    refine JC_region ?_
    refine JL_1 rfl (by exact op_fieldPtr (k := 1) (Ev.rfl' rfl) rfl rfl rfl rfl) ?_
    refine JL_1 rfl (by exact op_loadPtr (Ev.rfl' rfl) memT (by rfl) (by rfl) (by rfl)) ?_
    refine JL_1 rfl (op_move rfl) ?_
    refine JL_1 rfl (by exact op_index (j := _) (Ev.rfl' rfl) (Ev.rfl' rfl) rfl rfl (by rfl) hz) ?_
    refine JL_1 rfl (by exact op_fieldRefN (k := 0) (Ev.rfl' rfl) rfl rfl rfl rfl nrmT) ?_
    refine JL_1 rfl (by exact op_loadRef (Ev.rfl' rfl) rfl rfl rfl) ?_
    refine JL_1 rfl (op_move rfl) ?_
    refine JL_1 rfl (by ((refine op_call Tryz.call127 (InHeap_ok _ _ ?_) ⟨evS, ⟨evS, trivial⟩⟩); all_goals (assumption))) ?_
    refine JL_1 rfl (op_not (Ev.rfl' rfl)) ?_
    refine JL_nil ?_
    refine JQ_then ?_
    refine JC_cond (Ev.rfl' rfl) (fun h8 => ?_) (fun h8 => ?_)
    · refine JC_seq ?_
      refine JC_region ?_
      refine JL_1 rfl (op_assign rfl) ?_
      refine JL_nil ?_
      refine JQ_then (JC_ret (JQ_block_ret (JQ_then_ret (JQ_then_ret (JQ_block_ret (JQ_then_ret ?_))))))
      refine JQ_ret1 Tryz.results124 rfl () (SubL.eq ?_) (List.nil_sublist _)
      rw [validR_2 g1 g2 (any_of hz (by unfold outB; simpa using h8))]
    refine JC_skip (JQ_block (JQ_then ?_))
    refine JC_region ?_
    refine JL_1 rfl (op_move rfl) ?_
    refine JL_1 rfl (op_add (Ev.rfl' rfl) (Ev.rfl' rfl) wrapT) ?_
    refine JL_1 rfl (op_assign rfl) ?_
    refine JL_nil ?_
    exact JQ_roundP (k + 1) ⟨by omega, fun j hj => by
      by_cases hjk : j = k
      · subst hjk; unfold outB; simpa using h8
      · exact hs j (by omega)⟩ (by omega) esubT lessT
  have hkl : k = ms.length := by have := of_decide_eq_false h6; omega
  subst hkl
  clear h6
  have g3 := any_none hs
  refine JC_exit (JQ_then_exit (JQ_then_exit (JQ_hit (JQ_then (JC_seq (JC_seq ?_))))))
  refine JC_region ?_
  refine JL_1 rfl (op_assign rfl) ?_
  refine JL_nil ?_
  refine JQ_then (JC_block ?_)
  refine JC_loopP (fun k : Nat => k ≤ ms.length ∧ ∀ j, j < k → (AscP ms j ∧ headB (Pg.at ms j) = true)) (fun i => [(2, Is (.pointer (some ⟨i2, 0, none⟩))), (6, Is (.int .i64 (i : Nat)))]) (fun _ => [blk i2 202 [Is (.int .i64 seq), IsSl tPg ms]]) (fun i => ms.length - i) 0 ⟨Nat.zero_le _, fun j h => by omega⟩ esubT lessT ?_
  rintro k ⟨hk, ht⟩
  refine JC_seq (JC_seq ?_)
  refine JC_region ?_
  refine JL_1 rfl (op_move rfl) ?_
  refine JL_1 rfl (by exact op_fieldPtr (k := 1) (Ev.rfl' rfl) rfl rfl rfl rfl) ?_
  refine JL_1 rfl (by exact op_loadPtr (Ev.rfl' rfl) memT (by rfl) (by rfl) (by rfl)) ?_
  refine JL_1 rfl (by exact op_len (Ev.rfl' rfl) rfl) ?_
  refine JL_1 rfl (op_lss (Ev.rfl' rfl) (Ev.rfl' rfl)) ?_
  refine JL_nil ?_
  refine JQ_then ?_
  refine JC_cond (Ev.rfl' rfl) (fun h11 => ?_) (fun h11 => ?_)
  · have h' : (k : Int) < ms.length := of_decide_eq_true h11
    have hz := Pg.at_get ms k (by omega)
    have hz1 : 0 < k → ms[k - 1]? = some (Pg.at ms (k - 1)) := fun h => Pg.at_get ms (k - 1) (by omega)
    clear h11
    refine JC_skip (JQ_then (JC_seq (JC_block (JC_seq ?_))))
    refine JC_region ?_
    refine JL_1 rfl (by exact op_fieldPtr (k := 1) (Ev.rfl' rfl) rfl rfl rfl rfl) ?_
    refine JL_1 rfl (by exact op_loadPtr (Ev.rfl' rfl) memT (by rfl) (by rfl) (by rfl)) ?_
    refine JL_1 rfl (op_move rfl) ?_
    refine JL_1 rfl (by exact op_index (j := _) (Ev.rfl' rfl) (Ev.rfl' rfl) rfl rfl (by rfl) hz) ?_
    refine JL_1 rfl (by exact op_fieldRefN (k := 1) (Ev.rfl' rfl) rfl rfl rfl rfl nrmT) ?_
    refine JL_1 rfl (by exact op_loadRef (Ev.rfl' rfl) rfl rfl rfl) ?_
    refine JL_1 rfl (op_call Tryz.call128 (NextR_ok _) ⟨evS, trivial⟩) ?_
    refine JL_1 rfl (op_move rfl) ?_
    refine JL_1 rfl (op_extract (Ev.rfl' rfl) rfl) ?_
    refine JL_1 rfl (op_extract (Ev.rfl' rfl) rfl) ?_
    refine JL_1 rfl (op_assign rfl) ?_
    refine JL_1 rfl (op_assign rfl) ?_
    refine JL_nil ?_
    refine JQ_then (JC_seq ?_)
    refine JC_dr rfl (by kernel_rfl) ?_
    refine JD_stretch 32 (by kernel_rfl) ?_
    refine JW_1 (op_move rfl) ?_
    refine JW_1 (op_gtr (Ev.rfl' rfl) (Ev.rfl' rfl)) ?_
    refine JW_1 (op_move rfl) ?_
    (refine JW_i0 rfl rfl (fun hg => (by have hg0 := hg; (try simp at hg); exact op_fieldPtr (k := 1) evG rfl rfl rfl rfl)) ?_)
    (refine JW_i0 rfl rfl (fun hg => (by have hg0 := hg; (try simp at hg); exact op_loadPtr evG memT (by rfl) (by rfl) (by rfl))) ?_)
    (refine JW_i0 rfl rfl (fun hg => (by have hg0 := hg; (try simp at hg); exact op_moveE (Ev.rfl' rfl))) ?_)
    (refine JW_i0 rfl rfl (fun hg => (by have hg0 := hg; (try simp at hg); exact op_sub evG evG wrapT)) ?_)
    (refine JW_i0 rfl rfl (fun hg => (by have hg0 := hg; (try simp at hg); exact op_index (j := _) evG evG rfl rfl (by omega) (hz1 (by omega)))) ?_)
    (refine JW_i0 rfl rfl (fun hg => (by have hg0 := hg; (try simp at hg); exact op_fieldRefN (k := 0) evG rfl rfl rfl rfl nrmT)) ?_)
    (refine JW_i0 rfl rfl (fun hg => (by have hg0 := hg; (try simp at hg); exact op_loadRef evG rfl rfl rfl)) ?_)
    (refine JW_i0 rfl rfl (fun hg => (by have hg0 := hg; (try simp at hg); exact op_fieldPtr (k := 1) evG rfl rfl rfl rfl)) ?_)
    (refine JW_i0 rfl rfl (fun hg => (by have hg0 := hg; (try simp at hg); exact op_loadPtr evG memT (by rfl) (by rfl) (by rfl))) ?_)
    (refine JW_i0 rfl rfl (fun hg => (by have hg0 := hg; (try simp at hg); exact op_moveE (Ev.rfl' rfl))) ?_)
    (refine JW_i0 rfl rfl (fun hg => (by have hg0 := hg; (try simp at hg); exact op_index (j := _) evG evG rfl rfl (by rfl) hz)) ?_)
    (refine JW_i0 rfl rfl (fun hg => (by have hg0 := hg; (try simp at hg); exact op_fieldRefN (k := 0) evG rfl rfl rfl rfl nrmT)) ?_)
    (refine JW_i0 rfl rfl (fun hg => (by have hg0 := hg; (try simp at hg); exact op_loadRef evG rfl rfl rfl)) ?_)
    (refine JW_i0 rfl rfl (fun hg => (by have hg0 := hg; (try simp at hg); exact op_geq evG evG)) ?_)
    refine JW_1 (op_and (Ev.rfl' rfl) rfl (fun h => by exact SubL.iteT (by (rw [h]; rfl)) SubL.rfl')) ?_
    refine JW_1 (op_move rfl) ?_
    (refine JW_i0 rfl rfl (fun hg => (by have hg0 := hg; (try simp at hg); exact op_fieldPtr (k := 1) evG rfl rfl rfl rfl)) ?_)
    (refine JW_i0 rfl rfl (fun hg => (by have hg0 := hg; (try simp at hg); exact op_loadPtr evG memT (by rfl) (by rfl) (by rfl))) ?_)
    (refine JW_i0 rfl rfl (fun hg => (by have hg0 := hg; (try simp at hg); exact op_moveE (Ev.rfl' rfl))) ?_)
    (refine JW_i0 rfl rfl (fun hg => (by have hg0 := hg; (try simp at hg); exact op_index (j := _) evG evG rfl rfl (by rfl) hz)) ?_)
    (refine JW_i0 rfl rfl (fun hg => (by have hg0 := hg; (try simp at hg); exact op_fieldRefN (k := 1) evG rfl rfl rfl rfl nrmT)) ?_)
    (refine JW_i0 rfl rfl (fun hg => (by have hg0 := hg; (try simp at hg); exact op_loadRef evG rfl rfl rfl)) ?_)
    (refine JW_i0 rfl rfl (fun hg => (by have hg0 := hg; (try simp at hg); exact op_call Tryz.call129 (UnlockedR_ok _) ⟨evS, trivial⟩)) ?_)
    (refine JW_i0 rfl rfl (fun hg => (by have hg0 := hg; (try simp at hg); exact op_not evG)) ?_)
    refine JW_1 (op_or (Ev.rfl' rfl) rfl (fun h => by exact SubL.iteT (by (rw [h]; rfl)) SubL.rfl')) ?_
    refine JW_1 (op_move rfl) ?_
    (refine JW_i0 rfl rfl (fun hg => (by have hg0 := hg; (try simp at hg); exact op_moveE (Ev.rfl' rfl))) ?_)
    (refine JW_i0 rfl rfl (fun hg => (by have hg0 := hg; (try simp at hg); exact op_neq evG evG)) ?_)
    refine JW_1 (op_or (Ev.rfl' rfl) rfl (fun h => by exact SubL.iteT (by (rw [h]; rfl)) SubL.rfl')) ?_
    refine ⟨rfl, ?_⟩
    refine JD_end ?_
    refine JQ_then ?_
    refine JC_cond (Ev.rfl' rfl) (fun h14 => ?_) (fun h14 => ?_)
    · have g4 : ¬ (AscP ms k ∧ headB (Pg.at ms k) = true) := fun h => by
        obtain ⟨h1, h2⟩ := h
        unfold AscP at h1
        simp [headB] at h2
        simp [h2] at h14
        have := h1 h14.1
        omega
      refine JC_seq ?_
      refine JC_region ?_
      refine JL_1 rfl (op_assign rfl) ?_
      refine JL_nil ?_
      refine JQ_then (JC_ret (JQ_block_ret (JQ_then_ret (JQ_then_ret (JQ_block_ret (JQ_then_ret ?_))))))
      refine JQ_ret1 Tryz.results124 rfl () (SubL.eq ?_) (List.nil_sublist _)
      rw [validR_3 g1 g2 g3 (fun h => g4 ⟨h.1 k (by omega), h.2 k (by omega)⟩)]
    have g4 : AscP ms k ∧ headB (Pg.at ms k) = true := by
      simp at h14
      refine ⟨fun h0 => ?_, ?_⟩
      · have := h14.1.1 h0; omega
      · simp [headB, h14.2, h14.1.2]
    refine JC_skip (JQ_block (JQ_then ?_))
    refine JC_region ?_
    refine JL_1 rfl (op_move rfl) ?_
    refine JL_1 rfl (op_add (Ev.rfl' rfl) (Ev.rfl' rfl) wrapT) ?_
    refine JL_1 rfl (op_assign rfl) ?_
    refine JL_nil ?_
    exact JQ_roundP (k + 1) ⟨by omega, fun j hj => by
      by_cases hjk : j = k
      · subst hjk; exact g4
      · exact ht j (by omega)⟩ (by omega) esubT lessT
  refine JC_exit (JQ_then_exit (JQ_then_exit (JQ_hit (JQ_then (JC_seq ?_)))))
  refine JC_region ?_
  refine JL_1 rfl (op_assign rfl) ?_
  refine JL_nil ?_
  refine JQ_then (JC_ret ?_)
  refine JQ_ret1 Tryz.results124 rfl () (SubL.eq ?_) (List.nil_sublist _)
  have hkl : k = ms.length := by have := of_decide_eq_false h11; omega
  subst hkl
  rw [validR_0 g1 g2 g3 ⟨fun j hj => (ht j hj).1, fun j hj => (ht j hj).2⟩]
end Go.Proofs.YtfglhiciagmicaaGreat

/- Plain laws of the checksum. Own work. -/
namespace Go.Proofs.YtfglhiciagmicaaGreat
set_option linter.unusedVariables false
set_option linter.unusedSimpArgs false
def stepB (r : BitVec 64) : BitVec 64 := if (r &&& 1#64 == 1#64) = true then r >>> 1 ^^^ 14514072000185962306#64 else r >>> 1
def stepN : Nat → BitVec 64 → BitVec 64
  | 0, r => r
  | n + 1, r => stepB (stepN n r)
/-- A byte more, bit by bit. -/
def byteR (r : BitVec 64) (b : BitVec 8) : BitVec 64 := stepN 8 (r ^^^ b.setWidth 64)
def runB (r : BitVec 64) (bs : List (BitVec 8)) : BitVec 64 := bs.foldl byteR r
def extB (s : BitVec 64) (bs : List (BitVec 8)) : BitVec 64 := ~~~ runB (~~~ s) bs

theorem runB_take (r : BitVec 64) (bs : List (BitVec 8)) (k : Nat) (h : k < bs.length) : runB r (bs.take (k + 1)) = byteR (runB r (bs.take k)) bs[k] := by
  unfold runB
  rw [List.take_succ_eq_append_getElem h, List.foldl_append]
  rfl
theorem runB_append (r : BitVec 64) (xs ys : List (BitVec 8)) : runB r (xs ++ ys) = runB (runB r xs) ys := by
  unfold runB; rw [List.foldl_append]
theorem extB_append (s : BitVec 64) (xs ys : List (BitVec 8)) : extB (extB s xs) ys = extB s (xs ++ ys) := by
  unfold extB; rw [BitVec.not_not, runB_append]
theorem extB_nil : extB 0#64 [] = 0#64 := by decide
/-- The first bytes of a word, the least significant one first. -/
def wbN : Nat → BitVec 64 → List (BitVec 8)
  | 0, _ => []
  | k + 1, x => wbN k x ++ [(x >>> (8 * k)).setWidth 8]
theorem wbN_length (k : Nat) (x : BitVec 64) : (wbN k x).length = k := by
  induction k with
  | zero => rfl
  | succ k ih => rw [wbN, List.length_append, ih]; rfl
theorem wbN_get (n j : Nat) (x : BitVec 64) (h : j < n) : (wbN n x)[j]? = some ((x >>> (8 * j)).setWidth 8) := by
  induction n with
  | zero => omega
  | succ n ih =>
    rw [wbN]
    by_cases hj : j < n
    · rw [List.getElem?_append_left (by rw [wbN_length]; exact hj)]; exact ih hj
    · have : j = n := by omega
      subst this
      rw [List.getElem?_append_right (by rw [wbN_length]; omega), wbN_length, Nat.sub_self]; rfl
/-- The bytes of words. -/
def wordBytes (l : List (BitVec 64)) : List (BitVec 8) := l.flatMap (wbN 8)
theorem wordBytes_take (l : List (BitVec 64)) (k : Nat) (h : k < l.length) : wordBytes (l.take (k + 1)) = wordBytes (l.take k) ++ wbN 8 l[k] := by
  unfold wordBytes
  rw [List.take_succ_eq_append_getElem h, List.flatMap_append, List.flatMap_singleton]
end Go.Proofs.YtfglhiciagmicaaGreat

/- append onto a row of the call's own, whatever the source. Own work, on the kit's laws. -/
namespace Go.Proofs.YtfglhiciagmicaaGreat
open Go.RowKit
set_option linter.unusedVariables false
set_option linter.unusedSimpArgs false
section
variable {P : Program} {w : World}
end
end Go.Proofs.YtfglhiciagmicaaGreat

/- The walks of the reference of package crc. Own work. -/
namespace Go.Proofs.YtfglhiciagmicaaGreat
open Go.RowKit
set_option linter.unusedVariables false
set_option linter.unusedSimpArgs false
set_option maxRecDepth 100000
theorem stepN_succ_y (m : Nat) (r : BitVec 64) (h : (stepN m r &&& 1#64 == 1#64) = true) : stepN (m + 1) r = stepN m r >>> 1 ^^^ 14514072000185962306#64 := by
  rw [stepN, stepB, if_pos h]
theorem stepN_succ_n (m : Nat) (r : BitVec 64) (h : (stepN m r &&& 1#64 == 1#64) = false) : stepN (m + 1) r = stepN m r >>> 1 := by
  rw [stepN, stepB, if_neg (by simp [h])]
def u8V (b : BitVec 8) : Value := .int .u8 (UV b)
theorem map_get {bs : List (BitVec 8)} {k : Nat} (h : k < bs.length) : (bs.map u8V)[k]? = some (.int .u8 (UV bs[k])) := by
  rw [List.getElem?_map, List.getElem?_eq_getElem h]; rfl
set_option maxHeartbeats 1000000 in
theorem ExtendR_any (s : BitVec 64) (v : Value) (bs : List (BitVec 8)) (w : World) (hs : Sl w v (bs.map u8V)) :
    Calls Tryz.prog 130 #[.int .u64 (UV s), v] w fun e w' => e = .returned (.int .u64 (UV (extB s bs))) ∧ w = w' := by
  rcases hs.cases with ⟨a0, c0, rfl, h0⟩ | ⟨b, o, c, rfl, hl, hm, hlt, hc⟩
  · have hn : bs = [] := by simpa using h0
    subst hn
    go_enter Tryz.func130, Tryz.ntmps130
    go_wp2
    go_loop [5, 6] (fun a i => a = .int .u64 (UV (~~~s)) ∧ i = .int .i64 0) (fun _ _ => 0)
    case atStart => exact ⟨rfl, rfl⟩
    case round =>
      obtain ⟨rfl, rfl⟩ := hrel
      go_wp2
      go_ret
      exact ⟨by simp [extB, runB], rfl⟩
  · rw [List.length_map] at hl ⊢
    unfold maxLen at hm
    have hcell : ∀ k (h : k < bs.length), w.cell? ⟨b, o + k, none⟩ = some (.int .u8 (UV bs[k])) := fun k h => hc k _ (map_get h)
    have HC := Lib.hid hcell
    have htk := Lib.hid (runB_take (~~~s) bs)
    have hall := Lib.hid (List.take_length (l := bs))
    clear hc hcell hs
    go_enter Tryz.func130, Tryz.ntmps130
    go_wp2
    go_loop [5, 6] (fun a i => ∃ k : Nat, k ≤ bs.length ∧ i = .int .i64 k ∧ a = .int .u64 (UV (runB (~~~s) (bs.take k)))) (fun _ i => bs.length - (intOf i).toNat)
    case atStart => exact ⟨0, by omega, rfl, rfl⟩
    case round =>
      obtain ⟨k, hk, rfl, rfl⟩ := hrel
      by_cases hlt2 : k < bs.length
      · have h1 := HC.out k hlt2
        have h2 := htk.out k hlt2
        generalize runB (~~~s) (bs.take k) = R at *
        generalize bs[k] = x at *
        have H2 := Lib.hid h2
        clear h2
        go_wp2
        go_loop [5, 7] (fun a j => ∃ m : Nat, m ≤ 8 ∧ j = .int .i64 m ∧ a = .int .u64 (UV (stepN m (R ^^^ x.setWidth 64)))) (fun _ j => 8 - (intOf j).toNat)
        case atStart => exact ⟨0, by omega, rfl, rfl⟩
        case round =>
          obtain ⟨m, hm, rfl, rfl⟩ := hrel
          by_cases hml : m < 8
          · rcases Bool.eq_false_or_eq_true (stepN m (R ^^^ x.setWidth 64) &&& 1#64 == 1#64) with hb1 | hb1
            · go_wp2
              go_round
              case rel => exact ⟨m + 1, by omega, by go_num, by rw [stepN_succ_y m _ hb1]⟩
              case measure => simp [intOf]; omega
            · go_wp2
              go_round
              case rel => exact ⟨m + 1, by omega, by go_num, by rw [stepN_succ_n m _ hb1]⟩
              case measure => simp [intOf]; omega
          · have h8 : m = 8 := by omega
            subst h8
            go_wp2
            go_round
            case rel => exact ⟨k + 1, by omega, by go_num, by rw [H2.out]; rfl⟩
            case measure => simp [intOf]; omega
      · have hkn : k = bs.length := by omega
        subst hkn
        go_wp2
        go_ret
        exact ⟨by rw [← hall.out]; simp [extB], rfl⟩
def u64V (b : BitVec 64) : Value := .int .u64 (UV b)
theorem u8_info : (Tryz.prog.info? 5).map (fun i => (i.zero, i.size, i.bytes)) = some (some (.int .u8 0), 1, 1) := by kernel_rfl
theorem lit0 : Value.int .u64 0 = Value.int .u64 (UV 0#64) := rfl
theorem get64 {l : List (BitVec 64)} {k : Nat} (h : k < l.length) : (l.map u64V)[k]? = some (.int .u64 (UV l[k])) := by
  rw [List.getElem?_map, List.getElem?_eq_getElem h]; rfl
set_option maxHeartbeats 4000000 in
theorem Little_any (x : BitVec 64) (w : World) :
    Calls Tryz.prog 131 #[.int .u64 (UV x)] w fun e w' => ∃ v, e = .returned v ∧ Sl w' v ((wbN 8 x).map u8V) ∧ Below w.heap.size w w' := by
  have hmk : ∀ W : World, (Instr.makeSlice 215 (.int .i64 8) (.int .i64 8)).run Tryz.prog W = .ok (.slice (some ⟨W.heap.size, 0, none⟩) 8 8) (W.alloc (.cells (madeCells #[.int .u8 0] 8) 5)) :=
    run_make_row' (P := Tryz.prog) 215 5 (.int .u8 0) 1 Tryz.underlying215 u8_info rfl .i64 .i64 8 (by omega) (by omega)
  go_enter Tryz.func131, Tryz.ntmps131
  go_wp2_with fail
  clear hmk
  go_loopw [4] (fun i wr => ∃ (k : Nat) (cs : Array Value), k ≤ 8 ∧ i = .int .i64 k ∧ Below w.heap.size w wr ∧ Blk wr w.heap.size 5 cs ∧ cs.size = 8 ∧
    ∀ j, j < k → cs[j]? = some (u8V ((x >>> (8 * j)).setWidth 8))) (fun i _ => 8 - (intOf i).toNat)
  case atStart => exact ⟨0, _, by omega, rfl, (Below.refl _ _).alloc (Nat.le_refl _) _, Blk.new _ _ _, by simp [size_madeCells], fun j hj => by omega⟩
  case round =>
    obtain ⟨k, cs, hk, rfl, hb, hblk, hsz, hcs⟩ := hrel
    have HB := Lib.hid hblk
    have HZ := Lib.hid hsz
    have HC := Lib.hid hcs
    clear hblk hsz hcs
    by_cases hlt : k < 8
    · have d3 := HB.out.cell k
      rw [Array.getElem?_eq_getElem (show k < cs.size by rw [HZ.out]; exact hlt)] at d3
      have d4 := HB.out.frozen k
      have hsh : shf (BitVec.ofInt 64 (8 * (k : Int))) = 8 * k := by rw [shf_int _ (by omega) (by omega)]; omega
      go_wp2_with fail
      go_roundw
      case rel =>
        refine ⟨k + 1, cs.setIfInBounds k (u8V ((x >>> (8 * k)).setWidth 8)), by omega, by go_num, hb.setCell (Nat.le_refl _) _, ?_, by rw [Array.size_setIfInBounds]; exact HZ.out, fun j hj => ?_⟩
        · exact HB.out.setSame k (u8V ((x >>> (8 * k)).setWidth 8))
        · rw [Array.getElem?_setIfInBounds]
          by_cases hjk : k = j
          · subst hjk
            rw [if_pos rfl, if_pos (by rw [HZ.out]; exact hlt)]
          · rw [if_neg hjk]; exact HC.out j (by omega)
      case measure => simp [intOf]; omega
    · have h8 : k = 8 := by omega
      subst h8
      go_wp2_with fail
      go_ret
      refine ⟨_, rfl, ?_, hb⟩
      refine ⟨by simp, ?_⟩
      rw [List.length_map, wbN_length]
      refine .inr ⟨_, _, 8, rfl, Nat.le_refl _, by decide, HB.out.lt, fun i u hu => ?_⟩
      rw [Nat.zero_add, HB.out.cell i]
      have hi : i < 8 := by
        rcases Nat.lt_or_ge i 8 with g | g
        · exact g
        · rw [List.getElem?_eq_none (by rw [List.length_map, wbN_length]; exact g)] at hu; cases hu
      rw [HC.out i hi, ← hu, List.getElem?_map, wbN_get 8 i x hi]
      rfl
set_option maxHeartbeats 4000000 in
theorem WordsR_any (v : Value) (l : List (BitVec 64)) (w : World) (hs : Sl w v (l.map u64V)) (hn : l.length ≤ 65536) :
    Calls Tryz.prog 125 #[v] w fun e w' => e = .returned (.int .u64 (UV (extB 0#64 (wordBytes l)))) ∧ Below w.heap.size w w' := by
  obtain ⟨a, n, c, rfl⟩ : ∃ a n c, v = .slice a n c := by
    rcases hs.cases with ⟨a, c, rfl, _⟩ | ⟨b, o, c, rfl, _⟩ <;> exact ⟨_, _, _, rfl⟩
  have hl : l.length = n := by have := hs.len; simpa using this
  have HS := Lib.hid hs
  have HL := Lib.hid hl
  rw [hl] at hn
  clear hs hl
  go_enter Tryz.func125, Tryz.ntmps125
  go_wp2_with fail
  simp only [lit0]
  go_loopw [3, 4] (fun s i wr => ∃ k : Nat, k ≤ n ∧ i = .int .i64 k ∧ s = .int .u64 (UV (extB 0#64 (wordBytes (l.take k)))) ∧ Below w.heap.size w wr) (fun _ i _ => n - (intOf i).toNat)
  case atStart => exact ⟨0, by omega, rfl, by rw [List.take_zero]; exact congrArg (fun x => Value.int .u64 (UV x)) extB_nil.symm, Below.refl _ _⟩
  case round =>
    obtain ⟨k, hk, rfl, rfl, hb⟩ := hrel
    by_cases hlt : k < n
    · obtain ⟨p, o, rfl, hp, hc⟩ := HS.out.at_ (k := k) (by omega)
      have hc1 := (hb.cell (p := ⟨p, o + k, none⟩) hp).trans (hc _ (get64 (by rw [HL.out]; exact hlt)))
      have hbt := wordBytes_take l k (by rw [HL.out]; exact hlt)
      generalize l[k]'(by rw [HL.out]; exact hlt) = x at *
      have Hbt := Lib.hid hbt
      clear hbt hc
      go_wp2_with fail
      refine (Little_any x _).mono ?_
      rintro e w1 ⟨v, rfl, hs1, hb1⟩
      have HS1 := Lib.hid hs1
      clear hs1
      have hb1' := hb.trans (hb1.mono hb.size)
      go_wp2_with fail
      refine (ExtendR_any _ v (wbN 8 x) _ HS1.out).mono ?_
      rintro e w' ⟨rfl, rfl⟩
      rw [extB_append, ← Hbt.out]
      go_wp2_with fail
      go_roundw
      case rel => exact ⟨k + 1, by omega, by go_num, rfl, hb1'⟩
      case measure => simp [intOf]; omega
    · have hkn : k = n := by omega
      subst hkn
      have hall : l.take k = l := List.take_of_length_le (by rw [HL.out]; exact Nat.le_refl _)
      have Hall := Lib.hid hall
      clear hall
      go_wp2_with fail
      go_ret
      exact ⟨by rw [← Hall.out]; simp [Hall.out], hb⟩
end Go.Proofs.YtfglhiciagmicaaGreat

/- Contracts: checksums of words; the words of a record. Own work. -/
namespace Go.Proofs.YtfglhiciagmicaaGreat
open Go.RowKit
set_option linter.unusedVariables false
set_option linter.unusedSimpArgs false
set_option maxRecDepth 100000
theorem sl_of_at {φ : Fz} {w : World} {a : Option Addr} {n c : Nat} {xs : List (BitVec 64)} (hm : Mem φ [] w) (h : SlAt tU64 φ a n c xs) : Sl w (.slice a n c) (xs.map u64V) := by
  obtain ⟨h1, h2, h3, h4⟩ := h
  refine ⟨by simp, ?_⟩
  rw [List.length_map]
  rcases h4 with h4 | ⟨b, o, rfl, h4⟩
  · exact .inl ⟨a, c, by rw [h4], by omega⟩
  · by_cases h0 : n = 0
    · exact .inl ⟨_, c, by rw [h0], by omega⟩
    · have key : ∀ i u, (xs.map u64V)[i]? = some u → w.cell? ⟨b, o + i, none⟩ = some u := fun i u hu => by
        rw [List.getElem?_map] at hu
        obtain ⟨x, hx, rfl⟩ := Option.map_eq_some_iff.1 hu
        obtain ⟨v, h5, h6, _⟩ := h4 i x hx 0 (Is (.int .u64 (UV x))) rfl
        have h7 := hm.base _ _ _ h5
        have h8 : i * tU64.size = i := Nat.mul_one i
        rw [h8] at h7
        rw [show v = _ from h6] at h7
        exact h7
      refine .inr ⟨b, o, c, by rw [h1], by omega, h3, ?_, key⟩
      obtain ⟨x, hx⟩ : ∃ x, xs[0]? = some x := ⟨xs[0]'(by omega), List.getElem?_eq_getElem (by omega)⟩
      exact cell_lt (key 0 (u64V x) (by rw [List.getElem?_map, hx]; rfl))
/-- The checksum of words. -/
def crcW (l : List (BitVec 64)) : BitVec 64 := extB 0#64 (wordBytes l)
theorem CrcWordsR_ok (l : List (BitVec 64)) (hn : l.length ≤ 65536) : FnP Tryz.prog 125 [IsSl tU64 l] (Is (.int .u64 (UV (crcW l)))) :=
  FnP.of_calls fun φ w vs hv hm => by
    match vs, hv with
    | [v], ⟨⟨a, n, cp, e, h⟩, _⟩ => subst e; exact WordsR_any _ l w (sl_of_at hm h) hn
/-- The data of a page, the words of a write, the words ahead of the checksum, the body. -/
@[reducible] def Pg.data (p : Pg) : List (BitVec 64) := [p.d0, p.d1, p.d2, p.d3, p.d4, p.d5, p.d6]
def pgW (p : Pg) : List (BitVec 64) := [BitVec.ofInt 64 p.l, p.h] ++ p.data
def bodyP (seq : Int) (ms : List Pg) (k : Nat) : List (BitVec 64) := [BitVec.ofInt 64 seq, BitVec.ofInt 64 ms.length] ++ (ms.take k).flatMap pgW
theorem bodyP_len (seq : Int) (ms : List Pg) (k : Nat) (h : k ≤ ms.length) : (bodyP seq ms k).length = 2 + 9 * k := by
  have : ∀ l : List Pg, (l.flatMap pgW).length = 9 * l.length := fun l => by
    induction l with
    | nil => rfl
    | cons p l ih => rw [List.flatMap_cons, List.length_append, ih]; simp [pgW]; omega
  unfold bodyP
  rw [List.length_append, this, List.length_take, Nat.min_eq_left h]; rfl
theorem bodyP_succ {seq : Int} {ms : List Pg} {k : Nat} {p : Pg} (h : ms[k]? = some p) : bodyP seq ms (k + 1) = bodyP seq ms k ++ [BitVec.ofInt 64 p.l, p.h] ++ p.data := by
  unfold bodyP
  rw [List.take_add_one, h]
  simp [pgW]
noncomputable def bodyW (seq : Int) (ms : List Pg) : List (BitVec 64) := if validR seq ms 256 = 0 then bodyP seq ms ms.length ++ [crcW (bodyP seq ms ms.length)] else []
theorem pure_u64 (x : BitVec 64) : PureVs (tU64.cells x) := ⟨pure_is, trivial⟩
theorem take_add1 {α : Type} {xs : List α} {k : Nat} {x : α} (h : xs[k]? = some x) : xs.take (k + 1) = xs.take k ++ [x] := by
  rw [List.take_add_one, h]; rfl
set_option maxHeartbeats 2000000 in
-- bodegaref4.Body: function 115
theorem BodyRO_ok (seq : Int) (ms : List Pg) : Fn Tryz.prog 115 [IsRec seq ms] [] (fun i : Option Addr × Nat => Is (slV (bodyW seq ms).length i)) (fun i => [buf (slV (bodyW seq ms).length i) 83 tU64 (bodyW seq ms)]) := by
  refine Fn.enterN Tryz.func115 Tryz.ntmps115 rfl rfl ?_
  intro c hX
  refine JC_lenV (t := 0) 1 rfl rfl (fun hlen => ?_)
  refine JC_seq ?_
  refine JC_region ?_
  (refine JL_n rfl (op_box (Ev.rfl' rfl) cellsT) ?_; intro i1)
  refine JL_1 rfl (op_assign rfl) ?_
  refine JL_nil ?_
  refine JQ_then (JC_seq (JC_seq ?_))
  refine JC_region ?_
  refine JL_1 rfl (by exact op_loadPtrsN (n := 2) (Ev.rfl' rfl) memT (by rfl) (by rfl) (by rfl) (by rfl) nrmT) ?_
  refine JL_1 rfl (op_call Tryz.call124 (ValidLR_ok _ _ _) ⟨evS, ⟨evS, trivial⟩⟩) ?_
  refine JL_1 rfl (op_neq (Ev.rfl' rfl) (Ev.rfl' rfl)) ?_
  refine JL_nil ?_
  refine JQ_then ?_
  refine JC_cond (Ev.rfl' rfl) (fun h1 => ?_) (fun h1 => ?_)
  · have g : ¬ validR seq ms 256 = 0 := by simpa using h1
    refine JC_seq ?_
    refine JC_region ?_
    refine JL_1 rfl (op_assign rfl) ?_
    refine JL_nil ?_
    refine JQ_then (JC_ret (JQ_then_ret ?_))
    refine JQ_buf0 83 tU64 ?_
    exact JQ_retP (Bs := [Is (slV 0 (none, 0))]) Tryz.results115 ⟨⟨_, rfl, subT⟩, trivial⟩ (none, 0) (SubL.eq (by rw [bodyW, if_neg g]; rfl)) (by rw [bodyW, if_neg g]; exact lessT)
  have g : validR seq ms 256 = 0 := by simpa using h1
  have hl : 1 ≤ ms.length ∧ ms.length ≤ 12 := ⟨(validR_ok g).2.1.2.2.1, (validR_ok g).2.1.2.2.2⟩
  clear h1
  refine JC_skip (JQ_then (JC_seq ?_))
  refine JC_region ?_
  refine JL_1 rfl (by exact op_fieldPtr (k := 0) (Ev.rfl' rfl) rfl rfl rfl rfl) ?_
  refine JL_1 rfl (by exact op_loadPtr (Ev.rfl' rfl) memT (by rfl) (by rfl) (by rfl)) ?_
  refine JL_1 rfl (op_conv (Ev.rfl' rfl) rfl rfl convT) ?_
  refine JL_1 rfl (by exact op_fieldPtr (k := 1) (Ev.rfl' rfl) rfl rfl rfl rfl) ?_
  refine JL_1 rfl (by exact op_loadPtr (Ev.rfl' rfl) memT (by rfl) (by rfl) (by rfl)) ?_
  refine JL_1 rfl (by exact op_len (Ev.rfl' rfl) rfl) ?_
  refine JL_1 rfl (op_conv (Ev.rfl' rfl) rfl rfl convT) ?_
  (refine JL_n rfl (op_buildSliceO (T := tU64) ([BitVec.ofInt 64 seq, BitVec.ofInt 64 ms.length]) (size := 1) (qs := [(0, _), (1, _)]) rfl rfl rfl ⟨⟨rfl, _, (Ev.rfl' rfl), cellsT⟩, ⟨⟨rfl, _, (Ev.rfl' rfl), cellsT⟩, trivial⟩⟩ (by rfl) (by rfl) subzT) ?_; intro i16)
  refine JL_1 rfl (op_assign rfl) ?_
  refine JL_nil ?_
  refine JQ_then (JC_seq (JC_seq ?_))
  refine JC_region ?_
  refine JL_1 rfl (op_assign rfl) ?_
  refine JL_nil ?_
  refine JQ_then (JC_block ?_)
  refine JC_loopP (fun i : Nat × (Option Addr × Nat) => i.1 ≤ ms.length) (fun i => [(1, Is (.pointer (some ⟨i1, 0, none⟩))), (4, Is (.int .i64 (i.1 : Nat))), (3, Is (slV (bodyP seq ms i.1).length i.2))]) (fun i => [buf (slV (bodyP seq ms i.1).length i.2) 83 tU64 (bodyP seq ms i.1), blk i1 202 [Is (.int .i64 seq), IsSl tPg ms]]) (fun i => ms.length - i.1) (0, (some ⟨i16, 0, none⟩, 2)) (Nat.zero_le _) esubT lessT ?_
  rintro ⟨k, i3⟩ hk
  dsimp only at hk ⊢
  refine JC_seq (JC_seq ?_)
  refine JC_region ?_
  refine JL_1 rfl (op_move rfl) ?_
  refine JL_1 rfl (by exact op_fieldPtr (k := 1) (Ev.rfl' rfl) rfl rfl rfl rfl) ?_
  refine JL_1 rfl (by exact op_loadPtr (Ev.rfl' rfl) memT (by rfl) (by rfl) (by rfl)) ?_
  refine JL_1 rfl (by exact op_len (Ev.rfl' rfl) rfl) ?_
  refine JL_1 rfl (op_lss (Ev.rfl' rfl) (Ev.rfl' rfl)) ?_
  refine JL_nil ?_
  refine JQ_then ?_
  refine JC_cond (Ev.rfl' rfl) (fun h5 => ?_) (fun h5 => ?_)
  · have h' : (k : Int) < ms.length := of_decide_eq_true h5
    have hz := Pg.at_get ms k (by omega)
    have hkl := bodyP_len seq ms k hk
    have hsu := bodyP_succ (seq := seq) hz
    generalize Pg.at ms k = p at *
    clear h5
    refine JC_skip (JQ_then (JC_seq (JC_block (JC_seq ?_))))
    refine JC_dr rfl (by kernel_rfl) ?_
    refine JD_stretch 15 (by kernel_rfl) ?_
    refine JW_1 (op_move rfl) ?_
    refine JW_1 (by exact op_fieldPtr (k := 1) (Ev.rfl' rfl) rfl rfl rfl rfl) ?_
    refine JW_1 (by exact op_loadPtr (Ev.rfl' rfl) memT (by rfl) (by rfl) (by rfl)) ?_
    refine JW_1 (op_move rfl) ?_
    refine JW_1 (by exact op_index (j := _) (Ev.rfl' rfl) (Ev.rfl' rfl) rfl rfl (by rfl) hz) ?_
    refine JW_1 (by exact op_fieldRefN (k := 0) (Ev.rfl' rfl) rfl rfl rfl rfl nrmT) ?_
    refine JW_1 (by exact op_loadRef (Ev.rfl' rfl) rfl rfl rfl) ?_
    refine JW_1 (op_conv (Ev.rfl' rfl) rfl rfl convT) ?_
    refine JW_1 (by exact op_fieldPtr (k := 1) (Ev.rfl' rfl) rfl rfl rfl rfl) ?_
    refine JW_1 (by exact op_loadPtr (Ev.rfl' rfl) memT (by rfl) (by rfl) (by rfl)) ?_
    refine JW_1 (op_move rfl) ?_
    refine JW_1 (by exact op_index (j := _) (Ev.rfl' rfl) (Ev.rfl' rfl) rfl rfl (by rfl) hz) ?_
    refine JW_1 (by exact op_fieldRefN (k := 1) (Ev.rfl' rfl) rfl rfl rfl rfl nrmT) ?_
    refine JW_1 (by exact op_loadRef (Ev.rfl' rfl) rfl rfl rfl) ?_
    refine JW_1 (op_buildSlice (size := 1) (qs := [(0, _), (1, _)]) rfl rfl rfl ⟨⟨rfl, _, (Ev.rfl' rfl), cellsT⟩, ⟨⟨rfl, _, (Ev.rfl' rfl), cellsT⟩, trivial⟩⟩ (by rfl) (by rfl)) ?_
    refine ⟨rfl, ?_⟩
    (refine JD_s (by kernel_rfl) rfl rfl (op_app (Ev.rfl' rfl) (fun _ => replT) (by exact Ev.sub rfl (by exact SubL.row (xs := [BitVec.ofInt 64 p.l, p.h]) (by rfl) (by rfl) subsT)) (by exact appT rfl rfl rfl) lenT) ?_; intro i39)
    refine JD_1 (by kernel_rfl) rfl rfl (op_assign rfl) ?_
    refine JD_end ?_
    refine JQ_then (JC_seq ?_)
    refine JC_region ?_
    refine JL_1 rfl (op_assign rfl) ?_
    refine JL_nil ?_
    refine JQ_then (JC_block ?_)
    refine JC_loopP (fun i : Nat × (Option Addr × Nat) => i.1 ≤ 7) (fun i => [(1, Is (.pointer (some ⟨i1, 0, none⟩))), (4, Is (.int .i64 (k : Nat))), (5, Is (.int .i64 (i.1 : Nat))), (3, Is (slV (bodyP seq ms k ++ [BitVec.ofInt 64 p.l, p.h] ++ p.data.take i.1).length i.2))]) (fun i => [buf (slV (bodyP seq ms k ++ [BitVec.ofInt 64 p.l, p.h] ++ p.data.take i.1).length i.2) 83 tU64 (bodyP seq ms k ++ [BitVec.ofInt 64 p.l, p.h] ++ p.data.take i.1), blk i1 202 [Is (.int .i64 seq), IsSl tPg ms]]) (fun i => 7 - i.1) (0, i39) (Nat.zero_le _) (by simp only [List.take_zero, List.append_nil]; exact esubT) (by simp only [List.take_zero, List.append_nil]; exact lessT) ?_
    rintro ⟨j, i4⟩ hj
    dsimp only at hj ⊢
    refine JC_seq (JC_seq ?_)
    refine JC_region ?_
    refine JL_1 rfl (op_move rfl) ?_
    refine JL_1 rfl (op_lss (Ev.rfl' rfl) (Ev.rfl' rfl)) ?_
    refine JL_nil ?_
    refine JQ_then ?_
    refine JC_cond (Ev.rfl' rfl) (fun h9 => ?_) (fun h9 => ?_)
    · have hj' : (j : Int) < 7 := of_decide_eq_true h9
      obtain ⟨x, hd⟩ : ∃ x, p.data[j]? = some x := ⟨p.data[j]'(by simp; omega), List.getElem?_eq_getElem _⟩
      have hts := take_add1 hd
      clear h9
      refine JC_skip (JQ_then (JC_seq (JC_block ?_)))
      refine JC_region ?_
      refine JL_1 rfl (op_move rfl) ?_
      refine JL_1 rfl (by exact op_fieldPtr (k := 1) (Ev.rfl' rfl) rfl rfl rfl rfl) ?_
      refine JL_1 rfl (by exact op_loadPtr (Ev.rfl' rfl) memT (by rfl) (by rfl) (by rfl)) ?_
      refine JL_1 rfl (op_move rfl) ?_
      refine JL_1 rfl (op_move rfl) ?_
      refine JL_1 rfl (by exact op_index (j := _) (Ev.rfl' rfl) (Ev.rfl' rfl) rfl rfl (by rfl) hz) ?_
      refine JL_1 rfl (by exact op_fieldRefN (k := 2) (Ev.rfl' rfl) rfl rfl rfl rfl nrmT) ?_
      refine JL_1 rfl (by exact op_indexRef (j := _) (T := tU64) (p.data) (Ev.rfl' rfl) (Ev.rfl' rfl) rfl rfl (by rfl) subsT (by rfl) hd) ?_
      refine JL_1 rfl (by exact op_loadRef (Ev.rfl' rfl) rfl rfl rfl) ?_
      refine JL_1 rfl (op_buildSlice (size := 1) (qs := [(0, _)]) rfl rfl rfl ⟨⟨rfl, _, (Ev.rfl' rfl), cellsT⟩, trivial⟩ (by rfl) (by rfl)) ?_
      (refine JL_s rfl (op_app (Ev.rfl' rfl) (fun _ => replT) (by exact Ev.sub rfl (by exact SubL.row (xs := [x]) (by rfl) (by rfl) subsT)) (by exact appT rfl rfl rfl) lenT) ?_; intro i54)
      refine JL_1 rfl (op_assign rfl) ?_
      refine JL_nil ?_
      refine JQ_block (JQ_then ?_)
      refine JC_region ?_
      refine JL_1 rfl (op_move rfl) ?_
      refine JL_1 rfl (op_add (Ev.rfl' rfl) (Ev.rfl' rfl) wrapT) ?_
      refine JL_1 rfl (op_assign rfl) ?_
      refine JL_nil ?_
      rw [List.append_assoc (bodyP seq ms k ++ [BitVec.ofInt 64 p.l, p.h]), ← hts]
      exact JQ_roundP (j + 1, i54) (by dsimp only; omega) (by dsimp only; omega) esubT lessT
    have hj7 : j = 7 := by have := of_decide_eq_false h9; omega
    subst hj7
    have hts : p.data.take 7 = p.data := rfl
    clear h9
    refine JC_exit (JQ_then_exit (JQ_then_exit (JQ_hit (JQ_block (JQ_then ?_)))))
    refine JC_region ?_
    refine JL_1 rfl (op_move rfl) ?_
    refine JL_1 rfl (op_add (Ev.rfl' rfl) (Ev.rfl' rfl) wrapT) ?_
    refine JL_1 rfl (op_assign rfl) ?_
    refine JL_nil ?_
    rw [hts, ← hsu]
    exact JQ_roundP (k + 1, i4) (by dsimp only; omega) (by dsimp only; omega) esubT lessT
  have hkl : k = ms.length := by have := of_decide_eq_false h5; omega
  subst hkl
  have hkl2 := bodyP_len seq ms ms.length (Nat.le_refl _)
  clear h5
  refine JC_exit (JQ_then_exit (JQ_then_exit (JQ_hit (JQ_then (JC_seq ?_)))))
  refine JC_region ?_
  refine JL_1 rfl (op_move rfl) ?_
  refine JL_1 rfl (op_move rfl) ?_
  refine JL_1 rfl (by ((refine op_callB lendT Tryz.call125 (CrcWordsR_ok _ ?_) ⟨evS, trivial⟩ pureT); all_goals (omega))) ?_
  refine JL_1 rfl (op_buildSlice (size := 1) (qs := [(0, _)]) rfl rfl rfl ⟨⟨rfl, _, (Ev.rfl' rfl), cellsT⟩, trivial⟩ (by rfl) (by rfl)) ?_
  (refine JL_s rfl (op_app (Ev.rfl' rfl) (fun _ => replT) (by exact Ev.sub rfl (by exact SubL.row (xs := [crcW (bodyP seq ms ms.length)]) (by rfl) (by rfl) subsT)) (by exact appT rfl rfl rfl) lenT) ?_; intro i59)
  refine JL_1 rfl (op_assign rfl) ?_
  refine JL_nil ?_
  refine JQ_then (JC_ret ?_)
  exact JQ_retP (Bs := [Is (slV (bodyP seq ms ms.length ++ [crcW (bodyP seq ms ms.length)]).length i59)]) Tryz.results115 ⟨⟨_, rfl, subT⟩, trivial⟩ i59 (SubL.eq (by rw [bodyW, if_pos g]; rfl)) (by rw [bodyW, if_pos g]; exact lessT)
theorem BodyRF_ok (seq : Int) (ms : List Pg) : FnF Tryz.prog 115 [IsRec seq ms] (fun B => FreshV B (IsSl tU64 (bodyW seq ms))) :=
  (BodyRO_ok seq ms).toF pure_u64 fun i B φ v h1 h2 => by rw [show v = _ from h2]; exact h1
theorem BodyR_ok (seq : Int) (ms : List Pg) : FnP Tryz.prog 115 [IsRec seq ms] (IsSl tU64 (bodyW seq ms)) := (BodyRF_ok seq ms).toP fun B φ v h => SubL.fresh (L := []) φ v (fun it hi => by cases hi) h
-- bodegaref4.Locked: function 119
theorem LockedR_ok (p : Pg) (cl : Int) : FnP Tryz.prog 119 [IsPg p, Is (.int .i64 cl)] (IsTup [Is (.int .u64 (UV (lockU p.h cl))), Is (.int .i64 (lockC p.h cl))]) := by
  refine FnP.enter Tryz.func119 Tryz.ntmps119 rfl rfl ?_
  intro c hX
  refine JC_seq ?_
  refine JC_region ?_
  (refine JL_n rfl (op_box (Ev.rfl' rfl) cellsT) ?_; intro i2)
  refine JL_1 rfl (op_assign rfl) ?_
  refine JL_1 rfl (op_assign rfl) ?_
  refine JL_nil ?_
  refine JQ_then (JC_seq ?_)
  refine JC_region ?_
  refine JL_1 rfl (by exact op_fieldPtr (k := 1) (Ev.rfl' rfl) rfl rfl rfl rfl) ?_
  refine JL_1 rfl (by exact op_loadPtr (Ev.rfl' rfl) memT (by rfl) (by rfl) (by rfl)) ?_
  refine JL_1 rfl (op_move rfl) ?_
  refine JL_1 rfl (op_call Tryz.call126 (LockR_ok _ _) ⟨evS, ⟨evS, trivial⟩⟩) ?_
  refine JL_1 rfl (op_extract (Ev.rfl' rfl) rfl) ?_
  refine JL_1 rfl (op_extract (Ev.rfl' rfl) rfl) ?_
  refine JL_1 rfl (op_assign rfl) ?_
  refine JL_1 rfl (op_assign rfl) ?_
  refine JL_nil ?_
  refine JQ_then (JC_ret ?_)
  refine JQ_ret (Bs := [_, _]) Tryz.results119 ⟨⟨_, rfl, subT⟩, ⟨⟨_, rfl, subT⟩, trivial⟩⟩ () ?_ (List.nil_sublist _)
  exact SubL.rfl'
end Go.Proofs.YtfglhiciagmicaaGreat

/- Contracts: numbers in range; pages and records made of raw numbers. Own work. -/
namespace Go.Proofs.YtfglhiciagmicaaGreat
open Go.RowKit
set_option linter.unusedVariables false
set_option linter.unusedSimpArgs false
set_option maxRecDepth 100000
/-- A page of which some data have been written. -/
def pgPart (l : Int) (h : BitVec 64) (ds : List (BitVec 64)) : List VP := Is (.int .i64 l) :: Is (.int .u64 (UV h)) :: (ds.map (fun x => Is (.int .u64 (UV x))) ++ List.replicate (7 - ds.length) (Is (.int .u64 0)))
theorem pgPart_len {l : Int} {h : BitVec 64} {ds : List (BitVec 64)} (hd : ds.length ≤ 7) : (pgPart l h ds).length = 9 := by
  simp [pgPart]; omega
theorem pgPart_set {l : Int} {h x : BitVec 64} {ds : List (BitVec 64)} {j : Nat} (hj : ds.length = j) (h7 : j < 7) : ovr (pgPart l h ds) (0 + 2 + j * 1) [Is (.int .u64 (UV x))] = pgPart l h (ds ++ [x]) := by
  subst hj
  unfold pgPart
  rw [show 0 + 2 + ds.length * 1 = ds.length + 1 + 1 by omega]
  simp only [ovr, List.set_cons_succ, List.map_append, List.length_append, List.length_singleton, List.map_cons, List.map_nil]
  rw [List.set_append_right _ _ (by simp), show 7 - ds.length = (7 - (ds.length + 1)) + 1 by omega, List.replicate_succ]
  simp
structure GoodPg (lines : Int) (p : Pg) : Prop where
  lo : 96 ≤ p.l
  hi : p.l < lines
  h : ∃ k : Nat, 1 ≤ k ∧ k ≤ 4 ∧ p.h = BitVec.ofNat 64 (k * 256)
theorem tdiv64 {n : Int} (h : I64ok n) : -9223372036854775808 ≤ n.tdiv 64 ∧ n.tdiv 64 ≤ 9223372036854775807 := by
  unfold I64ok at h
  rcases Int.le_total 0 n with g | g
  · rw [Int.tdiv_eq_ediv_of_nonneg g]; omega
  · have e : n.tdiv 64 = -((-n) / 64) := by
      rw [← Int.tdiv_eq_ediv_of_nonneg (show 0 ≤ -n by omega), Int.neg_tdiv, Int.neg_neg]
    rw [e]; omega
def shl8 (k : Int) : BitVec 64 := BitVec.ofInt 64 k <<< 8
theorem shl8_eq {k : Nat} (h : k ≤ 4) : shl8 (k : Int) = BitVec.ofNat 64 (k * 256) := by
  match k, h with
  | 0, _ => rfl
  | 1, _ => rfl
  | 2, _ => rfl
  | 3, _ => rfl
  | 4, _ => rfl
theorem data7 {ds : List (BitVec 64)} (h : ds.length = 7) : ∃ a b c d e f g, ds = [a, b, c, d, e, f, g] := by
  match ds, h with
  | [a, b, c, d, e, f, g], _ => exact ⟨a, b, c, d, e, f, g, rfl⟩
set_option maxHeartbeats 2000000 in
-- bodegahand.Page: function 98
theorem Page_ok (n lines : Int) (hn : I64ok n) (hl : 98 ≤ lines ∧ lines ≤ 256) : FnP Tryz.prog 98 [Is (.int .i64 n), Is (.int .i64 lines)] (VEx fun p : {p : Pg // GoodPg lines p} => IsPg p.1) := by
  have ht := tdiv64 hn
  have hq1 := Int.emod_nonneg n (show lines - 96 ≠ 0 by omega)
  have hq2 := Int.emod_lt_of_pos n (show 0 < lines - 96 by omega)
  have hr : 0 ≤ (n.tdiv 64) % 4 ∧ (n.tdiv 64) % 4 ≤ 3 := by omega
  unfold I64ok at hn
  refine FnP.enter Tryz.func98 Tryz.ntmps98 rfl rfl ?_
  intro c hX
  refine JC_seq ?_
  refine JC_region ?_
  (refine JL_n rfl (op_allocN rfl nrmT rfl) ?_; intro i4)
  refine JL_nil ?_
  refine JQ_then (JC_seq ?_)
  refine JC_region ?_
  refine JL_1 rfl (op_move rfl) ?_
  refine JL_1 rfl (op_move rfl) ?_
  refine JL_1 rfl (op_sub (Ev.rfl' rfl) (Ev.rfl' rfl) wrapT) ?_
  refine JL_1 rfl (by ((refine op_call Tryz.call7 (PickH_ok _ _ ?_ ?_) ⟨evS, ⟨evS, trivial⟩⟩); all_goals (omega))) ?_
  refine JL_1 rfl (op_add (Ev.rfl' rfl) (Ev.rfl' rfl) wrapT) ?_
  refine JL_1 rfl (op_move rfl) ?_
  refine JL_1 rfl (op_quo (Ev.rfl' rfl) (Ev.rfl' rfl) (by omega) wrapT) ?_
  refine JL_1 rfl (by ((refine op_call Tryz.call7 (PickH_ok _ _ ?_ ?_) ⟨evS, ⟨evS, trivial⟩⟩); all_goals (omega))) ?_
  refine JL_1 rfl (op_add (Ev.rfl' rfl) (Ev.rfl' rfl) wrapT) ?_
  refine JL_1 rfl (op_conv (Ev.rfl' rfl) rfl rfl convT) ?_
  refine JL_1 rfl (by exact op_shlU (k := 8) ev64 (Ev.rfl' rfl) (by omega) idxT) ?_
  refine JL_1 rfl (op_buildN (qs := [(0, _), (1, _)]) rfl rfl rfl rfl ⟨⟨rfl, _, (Ev.rfl' rfl), cellsT⟩, ⟨⟨rfl, _, (Ev.rfl' rfl), cellsT⟩, trivial⟩⟩ (by rfl) nrmT) ?_
  (refine JL_n rfl (op_allocN rfl nrmT rfl) ?_; intro i5)
  refine JL_s0 (op_storeN (Ev.rfl' rfl) (Ev.rfl' rfl) cellsT replT nrmT (by rfl) (by rfl) (by rfl)) ?_
  refine JL_nil ?_
  refine JQ_then (JC_seq (JC_seq ?_))
  refine JC_region ?_
  refine JL_1 rfl (op_assign rfl) ?_
  refine JL_nil ?_
  refine JQ_then (JC_block ?_)
  refine JC_loopP (fun i : Nat × List (BitVec 64) => i.1 ≤ 7 ∧ i.2.length = i.1) (fun i => [(0, Is (.int .i64 n)), (4, Is (.pointer (some ⟨i4, 0, none⟩))), (5, Is (.pointer (some ⟨i5, 0, none⟩))), (6, Is (.int .i64 (i.1 : Nat)))]) (fun i => [blk i5 183 (pgPart (96 + n % (lines - 96)) (shl8 ((n.tdiv 64) % 4 + 1)) i.2), blk i4 183 [Is (.int .i64 0), Is (.int .u64 0), Is (.int .u64 0), Is (.int .u64 0), Is (.int .u64 0), Is (.int .u64 0), Is (.int .u64 0), Is (.int .u64 0), Is (.int .u64 0)]]) (fun i => 7 - i.1) (0, []) ⟨Nat.zero_le _, rfl⟩ esubT lessT ?_
  rintro ⟨j, ds⟩ ⟨hj, hd⟩
  dsimp only at hj hd ⊢
  refine JC_seq (JC_seq ?_)
  refine JC_region ?_
  refine JL_1 rfl (op_move rfl) ?_
  refine JL_1 rfl (op_lss (Ev.rfl' rfl) (Ev.rfl' rfl)) ?_
  refine JL_nil ?_
  refine JQ_then ?_
  refine JC_cond (Ev.rfl' rfl) (fun h3 => ?_) (fun h3 => ?_)
  · have hj' : j < 7 := by have := of_decide_eq_true h3; omega
    clear h3
    have hst := pgPart_set (l := 96 + n % (lines - 96)) (h := shl8 ((n.tdiv 64) % 4 + 1)) (x := BitVec.ofInt 64 (n % 1048576) * BitVec.ofInt 64 ((j : Int) + 3)) (ds := ds) hd hj'
    have hpp := pgPart_len (l := 96 + n % (lines - 96)) (h := shl8 ((n.tdiv 64) % 4 + 1)) (ds := ds) (by omega)
    refine JC_skip (JQ_then (JC_seq (JC_block ?_)))
    refine JC_region ?_
    refine JL_1 rfl (op_move rfl) ?_
    refine JL_1 rfl (op_move rfl) ?_
    refine JL_1 rfl (by ((refine op_call Tryz.call7 (PickH_ok _ _ ?_ ?_) ⟨evS, ⟨evS, trivial⟩⟩); all_goals (omega))) ?_
    refine JL_1 rfl (op_conv (Ev.rfl' rfl) rfl rfl convT) ?_
    refine JL_1 rfl (op_move rfl) ?_
    refine JL_1 rfl (op_add (Ev.rfl' rfl) (Ev.rfl' rfl) wrapT) ?_
    refine JL_1 rfl (op_conv (Ev.rfl' rfl) rfl rfl convT) ?_
    refine JL_1 rfl (by exact op_binU ev64 ev64 (mul_u64 _ _ _)) ?_
    refine JL_1 rfl (by exact op_fieldPtr (k := 2) (Ev.rfl' rfl) rfl rfl rfl rfl) ?_
    refine JL_1 rfl (op_indexArr (k := j) (sz := 1) (Ev.rfl' rfl) (Ev.rfl' rfl) rfl rfl idxT (by omega)) ?_
    refine JL_s0 (op_storeA (n := 1) (Rs := pgPart (96 + n % (lines - 96)) (shl8 ((n.tdiv 64) % 4 + 1)) (ds ++ [BitVec.ofInt 64 (n % 1048576) * BitVec.ofInt 64 ((j : Int) + 3)])) (Ev.rfl' rfl) (Ev.rfl' rfl) cellsT replT hst (by rfl) (by rfl) (by (simp; omega))) ?_
    refine JL_nil ?_
    refine JQ_block (JQ_then ?_)
    refine JC_region ?_
    refine JL_1 rfl (op_move rfl) ?_
    refine JL_1 rfl (op_add (Ev.rfl' rfl) (Ev.rfl' rfl) wrapT) ?_
    refine JL_1 rfl (op_assign rfl) ?_
    refine JL_nil ?_
    exact JQ_roundP (j + 1, ds ++ [BitVec.ofInt 64 (n % 1048576) * BitVec.ofInt 64 ((j : Int) + 3)]) ⟨by dsimp only; omega, by simp; omega⟩ (by dsimp only; omega) esubT lessT
  have hj7 : j = 7 := by have := of_decide_eq_false h3; omega
  subst hj7
  clear h3
  obtain ⟨a, b, c', d, e, f, g, rfl⟩ := data7 hd
  have hgp : GoodPg lines ⟨96 + n % (lines - 96), shl8 ((n.tdiv 64) % 4 + 1), a, b, c', d, e, f, g⟩ := by
    refine ⟨by show 96 ≤ 96 + _; omega, by show 96 + _ < _; omega, (((n.tdiv 64) % 4).toNat + 1), by omega, by omega, ?_⟩
    show shl8 _ = _
    rw [← shl8_eq (by omega)]
    congr 1
    omega
  refine JC_exit (JQ_then_exit (JQ_then_exit (JQ_hit (JQ_then (JC_seq ?_)))))
  refine JC_blkEq (b := i5) (As' := tPg.cells ⟨96 + n % (lines - 96), shl8 ((n.tdiv 64) % 4 + 1), a, b, c', d, e, f, g⟩) replT (by rfl) ?_
  refine JC_region ?_
  refine JL_1 rfl (by exact op_loadPtrsN (n := 9) (Ev.rfl' rfl) memT (by rfl) (by rfl) (by rfl) (by rfl) nrmT) ?_
  refine JL_s0 (op_storeN (Ev.rfl' rfl) (Ev.rfl' rfl) cellsT replT nrmT (by rfl) (by rfl) (by rfl)) ?_
  refine JL_nil ?_
  refine JQ_then (JC_ret ?_)
  exact JQ_ret (Bs := [IsPg ⟨96 + n % (lines - 96), shl8 ((n.tdiv 64) % 4 + 1), a, b, c', d, e, f, g⟩]) Tryz.results98 ⟨⟨_, _, _, _, rfl, memT, rfl, .inr ⟨rfl, _, rfl, rfl, subT⟩⟩, trivial⟩ () (fun φ v hf h => ⟨⟨_, hgp⟩, h⟩) (List.nil_sublist _)
end Go.Proofs.YtfglhiciagmicaaGreat

/- Contracts: lists of pages, records, made of raw numbers. Own work. -/
namespace Go.Proofs.YtfglhiciagmicaaGreat
open Go.RowKit
set_option linter.unusedVariables false
set_option linter.unusedSimpArgs false
set_option maxRecDepth 100000
def GoodPgs (lines : Int) (ms : List Pg) : Prop := (∀ p, p ∈ ms → GoodPg lines p) ∧ ms.Pairwise (fun a b => a.l < b.l)
theorem good_nil {lines : Int} : GoodPgs lines [] := ⟨by simp, List.Pairwise.nil⟩
theorem pg_mem {ms : List Pg} {k : Nat} (h : k < ms.length) : Pg.at ms k ∈ ms := List.mem_of_getElem? (Pg.at_get ms k h)
theorem asc_at {ms : List Pg} (h : ms.Pairwise (fun a b => a.l < b.l)) {i j : Nat} (hij : i < j) (hj : j < ms.length) : (Pg.at ms i).l < (Pg.at ms j).l := by
  have h1 := List.pairwise_iff_getElem.1 h i j (by omega) hj hij
  have e1 := Pg.at_get ms i (by omega)
  have e2 := Pg.at_get ms j hj
  rw [List.getElem?_eq_getElem (by omega)] at e1
  rw [List.getElem?_eq_getElem hj] at e2
  injection e1 with e1
  injection e2 with e2
  rw [← e1, ← e2]; exact h1
theorem good_insert {lines : Int} {ms : List Pg} {p : Pg} {k : Nat} (h : GoodPgs lines ms) (hp : GoodPg lines p) (hk : k ≤ ms.length) (hb : ∀ j, j < k → (Pg.at ms j).l < p.l) (ha : k < ms.length → p.l < (Pg.at ms k).l) : GoodPgs lines (ms.take k ++ p :: ms.drop k) := by
  have htake : ∀ q, q ∈ ms.take k → q.l < p.l := fun q hq => by
    obtain ⟨j, hj⟩ := List.mem_iff_getElem?.1 hq
    have hjk : j < k := by
      have := (List.getElem?_eq_some_iff.1 hj).1
      rw [List.length_take] at this; omega
    rw [List.getElem?_take_of_lt hjk, Pg.at_get ms j (by omega)] at hj
    injection hj with hj
    rw [← hj]; exact hb j hjk
  have hdrop : ∀ q, q ∈ ms.drop k → p.l < q.l := fun q hq => by
    obtain ⟨j, hj⟩ := List.mem_iff_getElem?.1 hq
    have hjl := (List.getElem?_eq_some_iff.1 hj).1
    rw [List.length_drop] at hjl
    rw [List.getElem?_drop, Pg.at_get ms (k + j) (by omega)] at hj
    injection hj with hj
    rw [← hj]
    have h1 := ha (by omega)
    rcases Nat.eq_zero_or_pos j with h0 | h0
    · subst h0; exact h1
    · exact Int.lt_trans h1 (asc_at h.2 (by omega) (by omega))
  refine ⟨fun q hq => ?_, List.pairwise_append.2 ⟨h.2.sublist (List.take_sublist _ _), List.pairwise_cons.2 ⟨hdrop, h.2.sublist (List.drop_sublist _ _)⟩, fun a ha' b hb' => ?_⟩⟩
  · rcases List.mem_append.1 hq with hq | hq
    · exact h.1 q (List.mem_of_mem_take hq)
    · rcases List.mem_cons.1 hq with rfl | hq
      · exact hp
      · exact h.1 q (List.mem_of_mem_drop hq)
  · have h1 := htake a ha'
    rcases List.mem_cons.1 hb' with rfl | hb'
    · exact h1
    · exact Int.lt_trans h1 (hdrop b hb')
def I64at (xs : List Int) (k : Nat) : Int := xs.getD k 0
theorem I64at_get {xs : List Int} {k : Nat} (h : k < xs.length) : xs[k]? = some (I64at xs k) := by
  unfold I64at; rw [List.getD_eq_getElem?_getD, List.getElem?_eq_getElem h]; rfl
theorem I64at_ok {xs : List Int} (h : ∀ x, x ∈ xs → I64ok x) {k : Nat} (hk : k < xs.length) : I64ok (I64at xs k) := h _ (List.mem_of_getElem? (I64at_get hk))
set_option maxHeartbeats 4000000 in
-- bodegahand.Pages: function 114
theorem Pages_ok (raw : List Int) (lines : Int) (hr : ∀ x, x ∈ raw → I64ok x) (hl : 98 ≤ lines ∧ lines ≤ 256) : FnP Tryz.prog 114 [IsSl tI64 raw, Is (.int .i64 lines), Is (.int .i64 3)] (VEx fun ms : {ms : List Pg // GoodPgs lines ms ∧ ms.length ≤ 3} => IsSl tPg ms.1) := by
  have HR := Lib.hid hr
  clear hr
  refine FnP.enter Tryz.func114 Tryz.ntmps114 rfl rfl ?_
  intro c hX
  refine JC_len (t := 0) rfl (fun hlen => ?_)
  refine JC_seq ?_
  refine JC_region ?_
  refine JL_1 rfl (op_assign rfl) ?_
  refine JL_nil ?_
  refine JQ_then (JC_seq ?_)
  refine JC_region ?_
  refine JL_1 rfl (op_assign rfl) ?_
  refine JL_nil ?_
  refine JQ_then (JC_seq (JC_seq ?_))
  refine JC_region ?_
  refine JL_1 rfl (op_assign rfl) ?_
  refine JL_nil ?_
  refine JQ_then (JC_block ?_)
  refine JC_loopP (fun i : Nat × List Pg => i.1 ≤ raw.length ∧ GoodPgs lines i.2 ∧ i.2.length ≤ 3) (fun i => [(0, IsSl tI64 raw), (1, Is (.int .i64 lines)), (2, Is (.int .i64 3)), (7, IsSl tPg i.2), (8, Is (.int .i64 (i.1 : Nat)))]) (fun _ => []) (fun i => raw.length - i.1) (0, []) ⟨Nat.zero_le _, good_nil, Nat.zero_le _⟩ esubT lessT ?_
  rintro ⟨k, ms⟩ ⟨hk, hg, hm⟩
  dsimp only at hk hg hm ⊢
  have HG := Lib.hid hg
  clear hg
  refine JC_seq (JC_seq ?_)
  refine JC_region ?_
  refine JL_1 rfl (op_move rfl) ?_
  refine JL_1 rfl (op_move rfl) ?_
  refine JL_1 rfl (by exact op_len (Ev.rfl' rfl) rfl) ?_
  refine JL_1 rfl (op_lss (Ev.rfl' rfl) (Ev.rfl' rfl)) ?_
  refine JL_nil ?_
  refine JQ_then ?_
  refine JC_cond (Ev.rfl' rfl) (fun h3 => ?_) (fun h3 => ?_)
  · have h' : k < raw.length := by have := of_decide_eq_true h3; omega
    clear h3
    have hz := I64at_get h'
    have ho := I64at_ok HR.out h'
    generalize I64at raw k = x at *
    refine JC_skip (JQ_then (JC_seq (JC_block (JC_seq ?_))))
    refine JC_region ?_
    refine JL_1 rfl (op_move rfl) ?_
    refine JL_1 rfl (op_move rfl) ?_
    refine JL_1 rfl (by exact op_index (j := _) (Ev.rfl' rfl) (Ev.rfl' rfl) rfl rfl (by rfl) hz) ?_
    refine JL_1 rfl (by exact op_loadRef (Ev.rfl' rfl) rfl rfl rfl) ?_
    refine JL_1 rfl (op_move rfl) ?_
    refine JL_1 rfl (by ((refine op_call Tryz.call98 (Page_ok _ _ ?_ ?_) ⟨evS, ⟨evS, trivial⟩⟩); all_goals (assumption))) ?_
    (refine JL_ex 22 rfl (fun q => ?_)); obtain ⟨p, hp⟩ := q; dsimp only; have HP1 := Lib.hid hp; clear hp
    (refine JL_n rfl (op_allocN rfl nrmT rfl) ?_; intro i9)
    refine JL_s0 (op_storeN (Ev.rfl' rfl) (Ev.rfl' rfl) cellsT replT nrmT (by rfl) (by rfl) (by rfl)) ?_
    refine JL_nil ?_
    refine JQ_then (JC_seq ?_)
    refine JC_region ?_
    refine JL_1 rfl (op_assign rfl) ?_
    refine JL_nil ?_
    refine JQ_then (JC_seq (JC_block ?_))
    refine JC_loopP (fun i : Nat => i ≤ ms.length ∧ Hid (∀ j, j < i → (Pg.at ms j).l < p.l)) (fun i => [(0, IsSl tI64 raw), (1, Is (.int .i64 lines)), (2, Is (.int .i64 3)), (7, IsSl tPg ms), (8, Is (.int .i64 (k : Nat))), (9, Is (.pointer (some ⟨i9, 0, none⟩))), (10, Is (.int .i64 (i : Nat)))]) (fun _ => [blk i9 183 (tPg.cells p)]) (fun i => ms.length - i) 0 ⟨Nat.zero_le _, Lib.hid fun j hj => absurd hj (Nat.not_lt_zero _)⟩ esubT lessT ?_
    rintro at_ ⟨hat, hbf⟩
    have hzz : at_ < ms.length → ms[at_]? = some (Pg.at ms at_) := fun h => Pg.at_get ms at_ h
    refine JC_seq (JC_seq ?_)
    refine JC_dr rfl (by kernel_rfl) ?_
    refine JD_stretch 14 (by kernel_rfl) ?_
    refine JW_1 (op_move rfl) ?_
    refine JW_1 (op_move rfl) ?_
    refine JW_1 (by exact op_len (Ev.rfl' rfl) rfl) ?_
    refine JW_1 (op_lss (Ev.rfl' rfl) (Ev.rfl' rfl)) ?_
    refine JW_1 (op_move rfl) ?_
    (refine JW_i0 rfl rfl (fun hg => (by have hg0 := hg; (try simp at hg); exact op_moveE (Ev.rfl' rfl))) ?_)
    (refine JW_i0 rfl rfl (fun hg => (by have hg0 := hg; (try simp at hg); exact op_moveE (Ev.rfl' rfl))) ?_)
    (refine JW_i0 rfl rfl (fun hg => (by have hg0 := hg; (try simp at hg); exact op_index (j := _) evG evG rfl rfl (by rfl) (hzz (by omega)))) ?_)
    (refine JW_i0 rfl rfl (fun hg => (by have hg0 := hg; (try simp at hg); exact op_fieldRefN (k := 0) evG rfl rfl rfl rfl nrmT)) ?_)
    (refine JW_i0 rfl rfl (fun hg => (by have hg0 := hg; (try simp at hg); exact op_loadRef evG rfl rfl rfl)) ?_)
    (refine JW_i0 rfl rfl (fun hg => (by have hg0 := hg; (try simp at hg); exact op_fieldPtr (k := 0) evG rfl rfl rfl rfl)) ?_)
    (refine JW_i0 rfl rfl (fun hg => (by have hg0 := hg; (try simp at hg); exact op_loadPtr evG memT (by rfl) (by rfl) (by rfl))) ?_)
    (refine JW_i0 rfl rfl (fun hg => (by have hg0 := hg; (try simp at hg); exact op_lss evG evG)) ?_)
    refine JW_1 (op_and (Ev.rfl' rfl) rfl (fun h => by exact SubL.iteT (by (rw [h]; rfl)) SubL.rfl')) ?_
    refine ⟨rfl, ?_⟩
    refine JD_end ?_
    refine JQ_then ?_
    refine JC_cond (Ev.rfl' rfl) (fun h7 => ?_) (fun h7 => ?_)
    · have h7a : at_ < ms.length ∧ (Pg.at ms at_).l < p.l := by simp at h7; omega
      refine JC_skip (JQ_then (JC_block ?_))
      refine JC_region ?_
      refine JL_1 rfl (op_move rfl) ?_
      refine JL_1 rfl (op_add (Ev.rfl' rfl) (Ev.rfl' rfl) wrapT) ?_
      refine JL_1 rfl (op_assign rfl) ?_
      refine JL_nil ?_
      refine JQ_block ?_
      exact JQ_roundP (at_ + 1) ⟨by omega, Lib.hid fun j hj => by
        by_cases e : j = at_
        · subst e; exact h7a.2
        · exact hbf.out j (by omega)⟩ (by omega) esubT lessT
    have h7a : at_ < ms.length → ¬ (Pg.at ms at_).l < p.l := fun h => by simp at h7; omega
    clear h7
    refine JC_exit (JQ_then_exit (JQ_then_exit (JQ_hit (JQ_then (JC_seq (JC_seq ?_))))))
    refine JC_dr rfl (by kernel_rfl) ?_
    refine JD_stretch 20 (by kernel_rfl) ?_
    refine JW_1 (op_move rfl) ?_
    refine JW_1 (op_move rfl) ?_
    refine JW_1 (by exact op_len (Ev.rfl' rfl) rfl) ?_
    refine JW_1 (op_lss (Ev.rfl' rfl) (Ev.rfl' rfl)) ?_
    refine JW_1 (op_move rfl) ?_
    (refine JW_i0 rfl rfl (fun hg => (by have hg0 := hg; (try simp at hg); exact op_moveE (Ev.rfl' rfl))) ?_)
    (refine JW_i0 rfl rfl (fun hg => (by have hg0 := hg; (try simp at hg); exact op_moveE (Ev.rfl' rfl))) ?_)
    (refine JW_i0 rfl rfl (fun hg => (by have hg0 := hg; (try simp at hg); exact op_index (j := _) evG evG rfl rfl (by rfl) (hzz (by omega)))) ?_)
    (refine JW_i0 rfl rfl (fun hg => (by have hg0 := hg; (try simp at hg); exact op_fieldRefN (k := 0) evG rfl rfl rfl rfl nrmT)) ?_)
    (refine JW_i0 rfl rfl (fun hg => (by have hg0 := hg; (try simp at hg); exact op_loadRef evG rfl rfl rfl)) ?_)
    (refine JW_i0 rfl rfl (fun hg => (by have hg0 := hg; (try simp at hg); exact op_fieldPtr (k := 0) evG rfl rfl rfl rfl)) ?_)
    (refine JW_i0 rfl rfl (fun hg => (by have hg0 := hg; (try simp at hg); exact op_loadPtr evG memT (by rfl) (by rfl) (by rfl))) ?_)
    (refine JW_i0 rfl rfl (fun hg => (by have hg0 := hg; (try simp at hg); exact op_eql evG evG)) ?_)
    refine JW_1 (op_and (Ev.rfl' rfl) rfl (fun h => by exact SubL.iteT (by (rw [h]; rfl)) SubL.rfl')) ?_
    refine JW_1 (op_move rfl) ?_
    (refine JW_i0 rfl rfl (fun hg => (by have hg0 := hg; (try simp at hg); exact op_moveE (Ev.rfl' rfl))) ?_)
    (refine JW_i0 rfl rfl (fun hg => (by have hg0 := hg; (try simp at hg); exact op_len evG rfl)) ?_)
    (refine JW_i0 rfl rfl (fun hg => (by have hg0 := hg; (try simp at hg); exact op_moveE (Ev.rfl' rfl))) ?_)
    (refine JW_i0 rfl rfl (fun hg => (by have hg0 := hg; (try simp at hg); exact op_geq evG evG)) ?_)
    refine JW_1 (op_or (Ev.rfl' rfl) rfl (fun h => by exact SubL.iteT (by (rw [h]; rfl)) SubL.rfl')) ?_
    refine ⟨rfl, ?_⟩
    refine JD_end ?_
    refine JQ_then ?_
    refine JC_cond (Ev.rfl' rfl) (fun h9 => ?_) (fun h9 => ?_)
    · refine JC_exit (JQ_then_exit (JQ_hit (JQ_then ?_)))
      refine JC_region ?_
      refine JL_1 rfl (op_move rfl) ?_
      refine JL_1 rfl (op_add (Ev.rfl' rfl) (Ev.rfl' rfl) wrapT) ?_
      refine JL_1 rfl (op_assign rfl) ?_
      refine JL_nil ?_
      first
        | exact JQ_roundP (k + 1, ms.take at_ ++ p :: ms.drop at_) ⟨by dsimp only; omega, hG2.out, by simp; omega⟩ (by dsimp only; omega) esubT lessT
        | exact JQ_roundP (k + 1, ms) ⟨by dsimp only; omega, HG.out, hm⟩ (by dsimp only; omega) esubT lessT
    have h9a : (at_ < ms.length → (Pg.at ms at_).l ≠ p.l) ∧ ms.length < 3 := by simp at h9; omega
    clear h9
    have hG2 := Lib.hid (good_insert HG.out HP1.out hat hbf.out (fun h => by have := h7a h; have := h9a.1 h; omega))
    refine JC_skip (JQ_then ?_)
    refine JC_dr rfl (by kernel_rfl) ?_
    refine JD_stretch 11 (by kernel_rfl) ?_
    refine JW_1 (op_move rfl) ?_
    refine JW_1 (op_move rfl) ?_
    refine JW_1 (op_slice (Ev.rfl' rfl) rfl rfl rfl ⟨_, _, (Ev.rfl' rfl), (show _ = ((at_ : Nat) : Int) by rfl)⟩ (by omega) (by omega)) ?_
    refine JW_n (op_appNil (T := tPg) (Ev.rfl' rfl) evS (by exact appT rfl rfl rfl) lenT) ?_
    refine JW_1 (by exact op_loadPtrsN (n := 9) (Ev.rfl' rfl) memT (by rfl) (by rfl) (by rfl) (by rfl) nrmT) ?_
    refine JW_1 (op_buildSlice (size := 9) (qs := [(0, _)]) rfl rfl rfl ⟨⟨rfl, _, (Ev.rfl' rfl), cellsT⟩, trivial⟩ (by rfl) (by rfl)) ?_
    refine JW_take rfl rfl rfl (by rfl) (by kernel_rfl) (op_appT (by exact Ev.sub rfl (by exact SubL.row (xs := [p]) (by rfl) (by rfl) subsT)) (by exact appT rfl rfl rfl) lenT) ?_
    refine JW_1 (op_move rfl) ?_
    refine JW_1 (op_move rfl) ?_
    refine JW_1 (op_slice (Ev.rfl' rfl) rfl rfl ⟨_, _, (Ev.rfl' rfl), (show _ = ((at_ : Nat) : Int) by rfl)⟩ rfl (by omega) (by omega)) ?_
    refine JW_take rfl rfl rfl (by rfl) (by kernel_rfl) (op_appT evS (by exact appT rfl rfl rfl) lenT) ?_
    refine ⟨rfl, ?_⟩
    intro i69
    refine JD_1 (by kernel_rfl) rfl rfl (op_assign rfl) ?_
    refine JD_end ?_
    refine JQ_block (JQ_then ?_)
    refine JC_freeze hX replT ?_
    refine JC_set 7 (IsSl tPg (ms.take at_ ++ p :: ms.drop at_)) rfl (SubL.tr (SubL.fact memT) (SubL.eq (by simp))) ?_
    refine JC_region ?_
    refine JL_1 rfl (op_move rfl) ?_
    refine JL_1 rfl (op_add (Ev.rfl' rfl) (Ev.rfl' rfl) wrapT) ?_
    refine JL_1 rfl (op_assign rfl) ?_
    refine JL_nil ?_
    first
      | exact JQ_roundP (k + 1, ms.take at_ ++ p :: ms.drop at_) ⟨by dsimp only; omega, hG2.out, by simp; omega⟩ (by dsimp only; omega) esubT lessT
      | exact JQ_roundP (k + 1, ms) ⟨by dsimp only; omega, HG.out, hm⟩ (by dsimp only; omega) esubT lessT
  refine JC_exit (JQ_then_exit (JQ_then_exit (JQ_hit (JQ_then (JC_seq ?_)))))
  refine JC_region ?_
  refine JL_1 rfl (op_move rfl) ?_
  refine JL_1 rfl (op_assign rfl) ?_
  refine JL_nil ?_
  refine JQ_then (JC_ret ?_)
  exact JQ_ret1 Tryz.results114 rfl () (fun φ v f h => ⟨⟨ms, HG.out, hm⟩, h⟩) (List.nil_sublist _)
end Go.Proofs.YtfglhiciagmicaaGreat

/- Contracts: the value word of a view; tags; consensus words. Own work. -/
namespace Go.Proofs.YtfglhiciagmicaaGreat
open Go.RowKit
set_option linter.unusedVariables false
set_option linter.unusedSimpArgs false
set_option maxRecDepth 100000
theorem validV_zero {num nodes : Int} {ms : List Mb} (h : validV num ms nodes = 0) : (1 ≤ nodes ∧ nodes ≤ 5) ∧ (0 ≤ num ∧ num < 16) ∧ ms.length ≠ 0 ∧ (∀ k, k < ms.length → AscM nodes ms k) ∧ (∀ k, k < ms.length → BootM ms k) ∧ ms.any Mb.f = true := by
  unfold validV at h
  by_cases h1 : 1 ≤ nodes ∧ nodes ≤ 5
  case neg => rw [if_pos h1] at h; omega
  rw [if_neg (not_not_intro h1)] at h
  by_cases h2 : 0 ≤ num ∧ num < 16
  case neg => rw [if_pos h2] at h; omega
  rw [if_neg (not_not_intro h2)] at h
  by_cases h3 : ms.length = 0
  case pos => rw [if_pos h3] at h; omega
  rw [if_neg h3] at h
  by_cases h4 : ∀ k, k < ms.length → AscM nodes ms k
  case neg => rw [if_pos h4] at h; omega
  rw [if_neg (not_not_intro h4)] at h
  by_cases h5 : ∀ k, k < ms.length → BootM ms k
  case neg => rw [if_pos h5] at h; omega
  rw [if_neg (not_not_intro h5)] at h
  cases h6 : ms.any Mb.f
  case false => rw [h6] at h; simp at h
  exact ⟨h1, h2, h3, h4, h5, rfl⟩
def bitsM (m : Mb) : BitVec 64 := if m.f then (1#64 ||| BitVec.ofInt 64 m.b <<< 2) ||| 2#64 else 1#64 ||| BitVec.ofInt 64 m.b <<< 2
def stepV (x : BitVec 64) (m : Mb) : BitVec 64 := x ||| bitsM m <<< (7 * m.n).toNat
def wordV (ms : List Mb) : BitVec 64 := ms.foldl stepV 549755813888#64
/-- The value of a view, and why it has none. -/
def valueV (num : Int) (ms : List Mb) : BitVec 64 × Int := if validV num ms 5 = 0 then (wordV ms, 0) else (0#64, validV num ms 5)
theorem valueV_bad {num : Int} {ms : List Mb} (h : validV num ms 5 ≠ 0) : valueV num ms = (0#64, validV num ms 5) := by unfold valueV; rw [if_neg h]
theorem valueV_ok {num : Int} {ms : List Mb} (h : validV num ms 5 = 0) : valueV num ms = (wordV ms, 0) := by unfold valueV; rw [if_pos h]
theorem take_foldl {α : Type} (f : α → Mb → α) (z : α) (ms : List Mb) (k : Nat) (hk : k < ms.length) : (ms.take (k + 1)).foldl f z = f ((ms.take k).foldl f z) (Mb.at ms k) := by
  rw [List.take_add_one, Mb.at_get ms k hk, Option.toList_some, List.foldl_append]; rfl
set_option maxHeartbeats 2000000 in
-- bodegaref9.Value: function 120
theorem ValueR_ok (num : Int) (ms : List Mb) (hsm : ms.length ≤ 1000000) : FnP Tryz.prog 120 [IsView num ms] (IsTup [Is (.int .u64 (UV (valueV num ms).1)), Is (.int .i64 (valueV num ms).2)]) := by
  refine FnP.enter Tryz.func120 Tryz.ntmps120 rfl rfl ?_
  intro c hX
  (refine JC_seq ?_)
  refine JC_region ?_
  (refine JL_n rfl (op_box (Ev.rfl' rfl) cellsT) ?_; intro i1)
  refine JL_1 rfl (op_assign rfl) ?_
  refine JL_1 rfl (op_assign rfl) ?_
  refine JL_nil ?_
  (repeat with_reducible first | refine JC_seq ?_ | refine JQ_then ?_)
  (skip)
  refine JC_region ?_
  refine JL_1 rfl (by exact op_loadPtrsN (n := 2) (Ev.rfl' rfl) memT (by rfl) (by rfl) (by rfl) (by rfl) nrmT) ?_
  refine JL_1 rfl (by ((refine op_call Tryz.call34 (ValidR_ok _ _ _ ?_) ⟨evS, ⟨evS, trivial⟩⟩); all_goals (omega))) ?_
  refine JL_1 rfl (op_assign rfl) ?_
  refine JL_nil ?_
  (repeat with_reducible first | refine JC_seq ?_ | refine JQ_then ?_)
  (skip)
  refine JC_region ?_
  refine JL_1 rfl (op_move rfl) ?_
  refine JL_1 rfl (op_neq (Ev.rfl' rfl) (Ev.rfl' rfl)) ?_
  refine JL_nil ?_
  (refine JQ_then ?_)
  refine JC_cond (Ev.rfl' rfl) (fun h => ?_) (fun h => ?_)
  · have e := valueV_bad (num := num) (ms := ms) (by simpa using h)
    rw [e]
    (refine JC_seq ?_)
    refine JC_region ?_
    refine JL_1 rfl (op_move rfl) ?_
    refine JL_1 rfl (op_assign rfl) ?_
    refine JL_1 rfl (op_assign rfl) ?_
    refine JL_nil ?_
    (repeat with_reducible first | refine JQ_then ?_ | refine JQ_then_ret ?_ | refine JC_ret ?_)
    exact JQ_ret (Bs := [Is (.int .u64 (UV 0#64)), Is (.int .i64 (validV num ms 5))]) Tryz.results120 ⟨⟨_, rfl, subT⟩, ⟨⟨_, rfl, subT⟩, trivial⟩⟩ () SubL.rfl' (List.nil_sublist _)
  have e0 : validV num ms 5 = 0 := by simpa using h
  rw [valueV_ok e0]
  obtain ⟨_, _, _, g4, g5, _⟩ := validV_zero e0
  clear h
  (repeat with_reducible first | refine JC_seq ?_ | refine JQ_then ?_ | refine JC_skip ?_)
  refine JC_region ?_
  refine JL_1 rfl (op_assign rfl) ?_
  refine JL_nil ?_
  (repeat with_reducible first | refine JC_seq ?_ | refine JQ_then ?_)
  (skip)
  refine JC_region ?_
  refine JL_1 rfl (op_assign rfl) ?_
  refine JL_nil ?_
  (repeat with_reducible first | refine JQ_then ?_ | refine JC_block ?_)
  refine JC_loopP (fun k : Nat => k ≤ ms.length) (fun k => [(5, Is (.int .u64 (UV ((ms.take k).foldl stepV 549755813888#64)))), (1, Is (.pointer (some ⟨i1, 0, none⟩))), (6, Is (.int .i64 (k : Nat)))])
    (fun k => [blk i1 29 [Is (.int .i64 num), IsSl tMb ms]]) (fun k => ms.length - k) 0 (Nat.zero_le _) esubT lessT ?_
  intro k hk
  (refine JC_seq ?_; refine JC_seq ?_)
  refine JC_region ?_
  refine JL_1 rfl (op_move rfl) ?_
  refine JL_1 rfl (by exact op_fieldPtr (k := 1) (Ev.rfl' rfl) rfl rfl rfl rfl) ?_
  refine JL_1 rfl (by exact op_loadPtr (Ev.rfl' rfl) memT (by rfl) (by rfl) (by rfl)) ?_
  refine JL_1 rfl (by exact op_len (Ev.rfl' rfl) rfl) ?_
  refine JL_1 rfl (op_lss (Ev.rfl' rfl) (Ev.rfl' rfl)) ?_
  refine JL_nil ?_
  (refine JQ_then ?_)
  refine JC_cond (Ev.rfl' rfl) (fun h => ?_) (fun h => ?_)
  · have h' : (k : Int) < ms.length := of_decide_eq_true h
    clear h
    have hz := Mb.at_get ms k (by omega)
    have ha := g4 k (by omega)
    have hb := g5 k (by omega)
    have hf := take_foldl stepV 549755813888#64 ms k (by omega)
    unfold AscM at ha
    unfold BootM at hb
    generalize Mb.at ms k = m at *
    obtain ⟨a1, a2, _⟩ := ha
    (repeat with_reducible first | refine JC_seq ?_ | refine JQ_then ?_ | refine JC_block ?_ | refine JC_skip ?_)
    refine JC_region ?_
    refine JL_1 rfl (by exact op_fieldPtr (k := 1) (Ev.rfl' rfl) rfl rfl rfl rfl) ?_
    refine JL_1 rfl (by exact op_loadPtr (Ev.rfl' rfl) memT (by rfl) (by rfl) (by rfl)) ?_
    refine JL_1 rfl (op_move rfl) ?_
    refine JL_1 rfl (by exact op_index (j := _) (Ev.rfl' rfl) (Ev.rfl' rfl) rfl rfl (by rfl) hz) ?_
    refine JL_1 rfl (by exact op_loadRefsN (n := 3) (Ev.rfl' rfl) rfl rfl rfl (by rfl) nrmT) ?_
    (refine JL_n rfl (op_allocN rfl nrmT rfl) ?_; intro i7)
    refine JL_s0 (op_storeN (Ev.rfl' rfl) (Ev.rfl' rfl) cellsT replT nrmT (by rfl) (by rfl) (by rfl)) ?_
    refine JL_nil ?_
    (repeat with_reducible first | refine JC_seq ?_ | refine JQ_then ?_)
    (skip)
    refine JC_region ?_
    refine JL_1 rfl (by exact op_fieldPtr (k := 1) (Ev.rfl' rfl) rfl rfl rfl rfl) ?_
    refine JL_1 rfl (by exact op_loadPtr (Ev.rfl' rfl) memT (by rfl) (by rfl) (by rfl)) ?_
    refine JL_1 rfl (op_conv (Ev.rfl' rfl) rfl rfl convT) ?_
    refine JL_1 rfl (by exact op_shlU (k := _) ev64 (Ev.rfl' rfl) (by omega) idxT) ?_
    refine JL_1 rfl (by exact op_bits ev64 ev64 (by simp) (or_u64 _ _)) ?_
    refine JL_1 rfl (op_assign rfl) ?_
    refine JL_nil ?_
    (repeat with_reducible first | refine JC_seq ?_ | refine JQ_then ?_)
    (skip)
    refine JC_region ?_
    refine JL_1 rfl (by exact op_fieldPtr (k := 2) (Ev.rfl' rfl) rfl rfl rfl rfl) ?_
    refine JL_1 rfl (by exact op_loadPtr (Ev.rfl' rfl) memT (by rfl) (by rfl) (by rfl)) ?_
    refine JL_nil ?_
    (refine JQ_then ?_)
    refine JC_cutT (fun _ : Unit => True) (fun _ => [(5, Is (.int .u64 (UV ((ms.take k).foldl stepV 549755813888#64)))), (1, Is (.pointer (some ⟨i1, 0, none⟩))), (6, Is (.int .i64 (k : Nat))), (7, Is (.pointer (some ⟨i7, 0, none⟩))), (8, Is (.int .u64 (UV (bitsM m))))])
      (fun _ => [blk i7 88 (tMb.cells m), blk i1 29 [Is (.int .i64 num), IsSl tMb ms]]) ?_ ?_
    · rintro _ _
      (skip)
      refine JC_region ?_
      refine JL_1 rfl (op_move rfl) ?_
      refine JL_1 rfl (op_move rfl) ?_
      refine JL_1 rfl (by exact op_fieldPtr (k := 0) (Ev.rfl' rfl) rfl rfl rfl rfl) ?_
      refine JL_1 rfl (by exact op_loadPtr (Ev.rfl' rfl) memT (by rfl) (by rfl) (by rfl)) ?_
      refine JL_1 rfl (op_mul (Ev.rfl' rfl) (Ev.rfl' rfl) wrapT) ?_
      refine JL_1 rfl (op_conv (Ev.rfl' rfl) rfl rfl convT) ?_
      refine JL_1 rfl (by exact op_shlU (k := (7 * m.n).toNat) ev64 (Ev.rfl' rfl) (by omega) idxT) ?_
      refine JL_1 rfl (by exact op_bits ev64 ev64 (by simp) (or_u64 _ _)) ?_
      refine JL_1 rfl (op_assign rfl) ?_
      refine JL_nil ?_
      (repeat with_reducible first | refine JQ_then ?_ | refine JQ_block ?_)
      refine JC_set 5 (Is (.int .u64 (UV ((ms.take (k + 1)).foldl stepV 549755813888#64)))) rfl (SubL.eq (by rw [hf]; rfl)) ?_
      (skip)
      refine JC_region ?_
      refine JL_1 rfl (op_move rfl) ?_
      refine JL_1 rfl (op_add (Ev.rfl' rfl) (Ev.rfl' rfl) wrapT) ?_
      refine JL_1 rfl (op_assign rfl) ?_
      refine JL_nil ?_
      (skip)
      exact JQ_roundP (k + 1) (by omega) (by omega) esubT lessT
    · refine JC_cond (Ev.rfl' rfl) (fun h => ?_) (fun h => ?_)
      · have e1 : bitsM m = (1#64 ||| BitVec.ofInt 64 m.b <<< 2) ||| 2#64 := by unfold bitsM; rw [h]; rfl
        rw [e1]
        (skip)
        refine JC_region ?_
        refine JL_1 rfl (op_move rfl) ?_
        refine JL_1 rfl (by exact op_bits ev64 ev64 (by simp) (or_u64 _ _)) ?_
        refine JL_1 rfl (op_assign rfl) ?_
        refine JL_nil ?_
        (skip)
        exact JQ_meetP () trivial esubT lessT
      · have e1 : bitsM m = 1#64 ||| BitVec.ofInt 64 m.b <<< 2 := by unfold bitsM; rw [h]; rfl
        rw [e1]
        (refine JC_skip ?_)
        exact JQ_meetP () trivial esubT lessT
  have e1 : k = ms.length := by have := of_decide_eq_false h; omega
  subst e1
  rw [List.take_length]
  clear h
  (repeat with_reducible first | refine JC_seq ?_ | refine JQ_then ?_ | refine JC_exit ?_ | refine JQ_then_exit ?_ | refine JQ_hit ?_)
  refine JC_region ?_
  refine JL_1 rfl (op_move rfl) ?_
  refine JL_1 rfl (op_assign rfl) ?_
  refine JL_1 rfl (op_assign rfl) ?_
  refine JL_nil ?_
  (repeat with_reducible first | refine JQ_then ?_ | refine JC_ret ?_)
  exact JQ_ret (Bs := [Is (.int .u64 (UV (wordV ms))), Is (.int .i64 0)]) Tryz.results120 ⟨⟨_, rfl, subT⟩, ⟨⟨_, rfl, subT⟩, trivial⟩⟩ () SubL.rfl' (List.nil_sublist _)
-- bodegaref1.Tag: function 102
theorem TagR_ok (n cl : Int) (hn : I64ok n) (hc : I64ok cl) : FnP Tryz.prog 102 [Is (.int .i64 n), Is (.int .i64 cl)] (VEx fun z : BitVec 64 × Int => IsTup [Is (.int .u64 (UV z.1)), Is (.int .i64 z.2)]) := by
  unfold I64ok at hn hc
  refine FnP.enter Tryz.func102 Tryz.ntmps102 rfl rfl ?_
  intro c hX
  refine JC_seq ?_
  refine JC_region ?_
  refine JL_1 rfl (op_assign rfl) ?_
  refine JL_1 rfl (op_assign rfl) ?_
  refine JL_nil ?_
  refine JQ_then (JC_seq (JC_seq ?_))
  refine JC_region ?_
  refine JL_1 rfl (op_move rfl) ?_
  refine JL_1 rfl (op_call Tryz.call69 (IncR_ok _) ⟨evS, trivial⟩) ?_
  refine JL_1 rfl (op_not (Ev.rfl' rfl)) ?_
  refine JL_nil ?_
  refine JQ_then ?_
  refine JC_cond (Ev.rfl' rfl) (fun h1 => ?_) (fun h1 => ?_)
  · clear h1
    refine JC_seq ?_
    refine JC_region ?_
    refine JL_1 rfl (op_assign rfl) ?_
    refine JL_1 rfl (op_assign rfl) ?_
    refine JL_nil ?_
    refine JQ_then (JC_ret (JQ_then_ret ?_))
    refine JQ_ret (Bs := [_, _]) Tryz.results102 ⟨⟨_, rfl, subT⟩, ⟨⟨_, rfl, subT⟩, trivial⟩⟩ () ?_ (List.nil_sublist _)
    first
      | exact fun φ v f h => ⟨((0#64, 2) : BitVec 64 × Int), h⟩
      | exact fun φ v f h => ⟨((0#64, 1) : BitVec 64 × Int), h⟩
      | exact fun φ v f h => ⟨((BitVec.ofInt 64 n <<< 8 ||| BitVec.ofInt 64 (cl + 1), 0) : BitVec 64 × Int), h⟩
  clear h1
  refine JC_skip (JQ_then (JC_seq (JC_seq ?_)))
  refine JC_region ?_
  refine JL_1 rfl (op_move rfl) ?_
  refine JL_1 rfl (op_call Tryz.call32 (ClientR_ok _) ⟨evS, trivial⟩) ?_
  refine JL_1 rfl (op_not (Ev.rfl' rfl)) ?_
  refine JL_nil ?_
  refine JQ_then ?_
  refine JC_cond (Ev.rfl' rfl) (fun h3 => ?_) (fun h3 => ?_)
  · refine JC_seq ?_
    refine JC_region ?_
    refine JL_1 rfl (op_assign rfl) ?_
    refine JL_1 rfl (op_assign rfl) ?_
    refine JL_nil ?_
    refine JQ_then (JC_ret (JQ_then_ret ?_))
    refine JQ_ret (Bs := [_, _]) Tryz.results102 ⟨⟨_, rfl, subT⟩, ⟨⟨_, rfl, subT⟩, trivial⟩⟩ () ?_ (List.nil_sublist _)
    first
      | exact fun φ v f h => ⟨((0#64, 2) : BitVec 64 × Int), h⟩
      | exact fun φ v f h => ⟨((0#64, 1) : BitVec 64 × Int), h⟩
      | exact fun φ v f h => ⟨((BitVec.ofInt 64 n <<< 8 ||| BitVec.ofInt 64 (cl + 1), 0) : BitVec 64 × Int), h⟩
  have hcl : 0 ≤ cl ∧ cl ≤ 5 := by simp at h3; omega
  clear h3
  refine JC_skip (JQ_then (JC_seq ?_))
  refine JC_region ?_
  refine JL_1 rfl (op_move rfl) ?_
  refine JL_1 rfl (op_conv (Ev.rfl' rfl) rfl rfl convT) ?_
  refine JL_1 rfl (by exact op_shlU (k := 8) ev64 (Ev.rfl' rfl) (by omega) idxT) ?_
  refine JL_1 rfl (op_move rfl) ?_
  refine JL_1 rfl (op_add (Ev.rfl' rfl) (Ev.rfl' rfl) wrapT) ?_
  refine JL_1 rfl (op_conv (Ev.rfl' rfl) rfl rfl convT) ?_
  refine JL_1 rfl (by exact op_bits ev64 ev64 (by simp) (or_u64 _ _)) ?_
  refine JL_1 rfl (op_assign rfl) ?_
  refine JL_1 rfl (op_assign rfl) ?_
  refine JL_nil ?_
  refine JQ_then (JC_ret ?_)
  refine JQ_ret (Bs := [_, _]) Tryz.results102 ⟨⟨_, rfl, subT⟩, ⟨⟨_, rfl, subT⟩, trivial⟩⟩ () ?_ (List.nil_sublist _)
  first
    | exact fun φ v f h => ⟨((0#64, 2) : BitVec 64 × Int), h⟩
    | exact fun φ v f h => ⟨((0#64, 1) : BitVec 64 × Int), h⟩
    | exact fun φ v f h => ⟨((BitVec.ofInt 64 n <<< 8 ||| BitVec.ofInt 64 (cl + 1), 0) : BitVec 64 × Int), h⟩
-- bodegaref1.Consensus: function 121
theorem ConsensusR_ok (p a v : BitVec 64) : FnP Tryz.prog 121 [Is (.int .u64 (UV p)), Is (.int .u64 (UV a)), Is (.int .u64 (UV v))] (VEx fun z : BitVec 64 × Int => IsTup [Is (.int .u64 (UV z.1)), Is (.int .i64 z.2)]) := by
  refine FnP.enter Tryz.func121 Tryz.ntmps121 rfl rfl ?_
  intro c hX
  refine JC_seq ?_
  refine JC_region ?_
  refine JL_1 rfl (op_assign rfl) ?_
  refine JL_1 rfl (op_assign rfl) ?_
  refine JL_nil ?_
  refine JQ_then (JC_seq (JC_seq ?_))
  refine JC_region ?_
  refine JL_1 rfl (op_move rfl) ?_
  refine JL_1 rfl (op_geq (Ev.rfl' rfl) (Ev.rfl' rfl)) ?_
  refine JL_1 rfl (op_move rfl) ?_
  (refine JL_i0 rfl rfl rfl (fun hg => (by have hg0 := hg; (try simp at hg); exact op_moveE (Ev.rfl' rfl))) ?_)
  (refine JL_i0 rfl rfl rfl (fun hg => (by have hg0 := hg; (try simp at hg); exact op_geq evG evG)) ?_)
  refine JL_1 rfl (op_or (Ev.rfl' rfl) rfl (fun h => by exact SubL.iteT (by (rw [h]; rfl)) SubL.rfl')) ?_
  refine JL_1 rfl (op_move rfl) ?_
  (refine JL_i0 rfl rfl rfl (fun hg => (by have hg0 := hg; (try simp at hg); exact op_moveE (Ev.rfl' rfl))) ?_)
  (refine JL_i0 rfl rfl rfl (fun hg => (by have hg0 := hg; (try simp at hg); exact op_geq evG evG)) ?_)
  refine JL_1 rfl (op_or (Ev.rfl' rfl) rfl (fun h => by exact SubL.iteT (by (rw [h]; rfl)) SubL.rfl')) ?_
  refine JL_nil ?_
  refine JQ_then ?_
  refine JC_cond (Ev.rfl' rfl) (fun h1 => ?_) (fun h1 => ?_)
  · refine JC_seq ?_
    refine JC_region ?_
    refine JL_1 rfl (op_assign rfl) ?_
    refine JL_1 rfl (op_assign rfl) ?_
    refine JL_nil ?_
    refine JQ_then (JC_ret (JQ_then_ret ?_))
    refine JQ_ret (Bs := [_, _]) Tryz.results121 ⟨⟨_, rfl, subT⟩, ⟨⟨_, rfl, subT⟩, trivial⟩⟩ () ?_ (List.nil_sublist _)
    first
      | exact fun φ v f h => ⟨((0#64, 2) : BitVec 64 × Int), h⟩
      | exact fun φ v' f h => ⟨((p <<< 52 ||| a <<< 40 ||| v, 0) : BitVec 64 × Int), h⟩
  refine JC_skip (JQ_then (JC_seq ?_))
  refine JC_region ?_
  refine JL_1 rfl (op_move rfl) ?_
  refine JL_1 rfl (by exact op_shlU (k := _) ev64 (Ev.rfl' rfl) (by omega) idxT) ?_
  refine JL_1 rfl (op_move rfl) ?_
  refine JL_1 rfl (by exact op_shlU (k := _) ev64 (Ev.rfl' rfl) (by omega) idxT) ?_
  refine JL_1 rfl (by exact op_bits ev64 ev64 (by simp) (or_u64 _ _)) ?_
  refine JL_1 rfl (op_move rfl) ?_
  refine JL_1 rfl (by exact op_bits ev64 ev64 (by simp) (or_u64 _ _)) ?_
  refine JL_1 rfl (op_assign rfl) ?_
  refine JL_1 rfl (op_assign rfl) ?_
  refine JL_nil ?_
  refine JQ_then (JC_ret ?_)
  refine JQ_ret (Bs := [_, _]) Tryz.results121 ⟨⟨_, rfl, subT⟩, ⟨⟨_, rfl, subT⟩, trivial⟩⟩ () ?_ (List.nil_sublist _)
  first
    | exact fun φ v f h => ⟨((0#64, 2) : BitVec 64 × Int), h⟩
    | exact fun φ v' f h => ⟨((p <<< 52 ||| a <<< 40 ||| v, 0) : BitVec 64 × Int), h⟩
end Go.Proofs.YtfglhiciagmicaaGreat

/- Contracts: memory nodes of a fabric. Own work. -/
namespace Go.Proofs.YtfglhiciagmicaaGreat
open Go.RowKit
set_option linter.unusedVariables false
set_option linter.unusedSimpArgs false
set_option maxRecDepth 100000
-- bodegaref6.NewNode: function 95
theorem NewNode_ok : Fn Tryz.prog 95 [Is (.int .i64 98)] [] (fun a : Option Addr × Nat => IsAgg [Is (slV 784 a), Is (.bool true)]) (fun a => [ub 83 tU64 784 a]) := by
  refine Fn.enterN Tryz.func95 Tryz.ntmps95 rfl rfl ?_
  intro c hX
  refine JC_seq ?_
  refine JC_region ?_
  (refine JL_n rfl (op_allocN rfl nrmT rfl) ?_; intro i2)
  refine JL_nil ?_
  refine JQ_then (JC_seq ?_)
  refine JC_region ?_
  refine JL_1 rfl (op_move rfl) ?_
  refine JL_1 rfl (op_mul (Ev.rfl' rfl) (Ev.rfl' rfl) wrapT) ?_
  (refine JL_n rfl (op_makeRow tU64 0#64 (n := 784) (Ev.rfl' rfl) (Ev.rfl' rfl) rfl rfl rfl rfl rfl (by rfl) (by decide)) ?_; intro i5)
  refine JL_1 rfl (op_buildN (qs := [(0, _), (1, _)]) rfl rfl rfl rfl ⟨⟨rfl, _, (Ev.rfl' rfl), cellsT⟩, ⟨⟨rfl, _, (Ev.rfl' rfl), cellsT⟩, trivial⟩⟩ (by rfl) nrmT) ?_
  refine JL_s0 (op_storeN (Ev.rfl' rfl) (Ev.rfl' rfl) cellsT replT nrmT (by rfl) (by rfl) (by rfl)) ?_
  refine JL_nil ?_
  refine JQ_then (JC_ret ?_)
  refine JQ_closeU (T := tU64) (m := 784) (a := (some ⟨i5, 0, none⟩, 784)) replT (by simp) ?_
  exact JQ_retP (Bs := [IsAgg [Is (slV 784 (some ⟨i5, 0, none⟩, 784)), Is (.bool true)]]) Tryz.results95 ⟨⟨_, _, _, _, rfl, memT, rfl, .inr ⟨rfl, _, rfl, rfl, subT⟩⟩, trivial⟩ (some ⟨i5, 0, none⟩, 784) SubL.rfl' lessT
end Go.Proofs.YtfglhiciagmicaaGreat

/- Contracts: the queue pairs of a fabric of one client. Own work. -/
namespace Go.Proofs.YtfglhiciagmicaaGreat
open Go.RowKit
set_option linter.unusedVariables false
set_option linter.unusedSimpArgs false
set_option maxRecDepth 100000
def pairsV (inc : Int) (k : Nat) : List Pr := (List.range k).map fun i => ⟨0, inc, (i : Nat), []⟩
theorem pairsV_len (inc : Int) (k : Nat) : (pairsV inc k).length = k := by simp [pairsV]
theorem pairsV_succ (inc : Int) (k : Nat) : pairsV inc (k + 1) = pairsV inc k ++ [⟨0, inc, (k : Nat), []⟩] := by
  unfold pairsV
  rw [List.range_succ, List.map_append]
  rfl
-- (*bodegaref6.Fabric).renew: function 96
set_option maxHeartbeats 1000000 in
theorem renewF_ok (f n : Nat) (hn : n ≤ 5) (nb cb lb : Option Addr × Nat) (x : Cn) (v : Value) : Fn Tryz.prog 96 [Is (.pointer (some ⟨f, 0, none⟩)), Is (.int .i64 0)] [blk f 166 [Is (.int .i64 98), Is (slV n nb), Is (slV 1 cb), Is (slV 1 lb), Is (slV 0 (none, 0))], buf (slV 1 cb) 160 tCn [x], buf (slV 1 lb) 164 tVal [v]] (fun _ : Option Addr × Nat => IsTup []) (fun a => [blk f 166 [Is (.int .i64 98), Is (slV n nb), Is (slV 1 cb), Is (slV 1 lb), Is (slV 0 (none, 0))], buf (slV 1 cb) 160 tCn [x], buf (slV 1 lb) 164 tVal [slV n a], buf (slV n a) 170 tPr (pairsV x.inc n)]) := by
  refine Fn.enterN Tryz.func96 Tryz.ntmps96 rfl rfl ?_
  intro c hX
  refine JC_seq ?_
  refine JC_region ?_
  refine JL_1 rfl (op_assign rfl) ?_
  refine JL_nil ?_
  refine JQ_then (JC_seq (JC_seq ?_))
  refine JC_buf0 170 tPr ?_
  refine JC_region ?_
  refine JL_1 rfl (op_assign rfl) ?_
  refine JL_nil ?_
  refine JQ_then (JC_block ?_)
  refine JC_loopP (fun z : Nat × (Option Addr × Nat) => z.1 ≤ n) (fun z => [(0, Is (.pointer (some ⟨f, 0, none⟩))), (1, Is (.int .i64 0)), (4, Is (slV (pairsV x.inc z.1).length z.2)), (5, Is (.int .i64 (z.1 : Nat)))]) (fun z => [blk f 166 [Is (.int .i64 98), Is (slV n nb), Is (slV 1 cb), Is (slV 1 lb), Is (slV 0 (none, 0))], buf (slV 1 cb) 160 tCn [x], buf (slV 1 lb) 164 tVal [v], buf (slV (pairsV x.inc z.1).length z.2) 170 tPr (pairsV x.inc z.1)]) (fun z => n - z.1) (0, (none, 0)) (Nat.zero_le _) esubT lessT ?_
  rintro ⟨k, s⟩ hk
  dsimp only at hk ⊢
  have hkl := pairsV_len x.inc k
  refine JC_seq (JC_seq ?_)
  refine JC_region ?_
  refine JL_1 rfl (op_move rfl) ?_
  refine JL_1 rfl (op_move rfl) ?_
  refine JL_1 rfl (by exact op_nilCheck (Ev.rfl' rfl)) ?_
  refine JL_1 rfl (by exact op_fieldPtr (k := 1) (Ev.rfl' rfl) rfl rfl rfl rfl) ?_
  refine JL_1 rfl (by exact op_loadPtr (Ev.rfl' rfl) memT (by rfl) (by rfl) (by rfl)) ?_
  refine JL_1 rfl (by exact op_lenLit (Ev.rfl' rfl) rfl) ?_
  refine JL_1 rfl (op_lss (Ev.rfl' rfl) (Ev.rfl' rfl)) ?_
  refine JL_nil ?_
  refine JQ_then ?_
  refine JC_cond (Ev.rfl' rfl) (fun h2 => ?_) (fun h2 => ?_)
  · have hlt : k < n := by have := of_decide_eq_true h2; omega
    clear h2
    refine JC_skip (JQ_then (JC_seq (JC_block ?_)))
    refine JC_region ?_
    refine JL_1 rfl (op_move rfl) ?_
    refine JL_1 rfl (op_move rfl) ?_
    refine JL_1 rfl (op_move rfl) ?_
    refine JL_1 rfl (by exact op_nilCheck (Ev.rfl' rfl)) ?_
    refine JL_1 rfl (by exact op_fieldPtr (k := 2) (Ev.rfl' rfl) rfl rfl rfl rfl) ?_
    refine JL_1 rfl (by exact op_loadPtr (Ev.rfl' rfl) memT (by rfl) (by rfl) (by rfl)) ?_
    refine JL_1 rfl (op_move rfl) ?_
    refine JL_1 rfl (by exact op_indexBuf (k := 0) (Ev.rfl' rfl) memT (Ev.rfl' rfl) rfl rfl idxT lenT) ?_
    refine JL_1 rfl (by exact op_fieldBuf (k := 1) (Ev.rfl' rfl) memT lenT rfl rfl rfl rfl) ?_
    refine JL_1 rfl (by exact op_loadBuf (Ev.rfl' rfl) memT rfl rfl rfl (by rfl)) ?_
    refine JL_1 rfl (op_move rfl) ?_
    refine JL_1 rfl (op_buildN (qs := [(0, _), (1, _), (2, _)]) rfl rfl rfl rfl ⟨⟨rfl, _, (Ev.rfl' rfl), cellsT⟩, ⟨⟨rfl, _, (Ev.rfl' rfl), cellsT⟩, ⟨⟨rfl, _, (Ev.rfl' rfl), cellsT⟩, trivial⟩⟩⟩ (by rfl) nrmT) ?_
    refine JL_1 rfl (op_buildSlice (size := 4) (qs := [(0, _)]) rfl rfl rfl ⟨⟨rfl, _, (Ev.rfl' rfl), cellsT⟩, trivial⟩ (by rfl) (by rfl)) ?_
    (refine JL_s rfl (op_app (Ev.rfl' rfl) (fun _ => replT) (by exact Ev.sub rfl (by exact SubL.row (xs := [(⟨0, x.inc, (k : Nat), []⟩ : Pr)]) (by rfl) (by rfl) subsT)) (by exact appT rfl rfl rfl) lenT) ?_; intro i28)
    refine JL_1 rfl (op_assign rfl) ?_
    refine JL_nil ?_
    refine JQ_block (JQ_then ?_)
    refine JC_region ?_
    refine JL_1 rfl (op_move rfl) ?_
    refine JL_1 rfl (op_add (Ev.rfl' rfl) (Ev.rfl' rfl) wrapT) ?_
    refine JL_1 rfl (op_assign rfl) ?_
    refine JL_nil ?_
    rw [← pairsV_succ]
    exact JQ_roundP (k + 1, i28) (by dsimp only; omega) (by dsimp only; omega) esubT lessT
  have hke : k = n := by have := of_decide_eq_false h2; omega
  subst hke
  clear h2
  rw [hkl]
  refine JC_exit (JQ_then_exit (JQ_then_exit (JQ_hit (JQ_then ?_))))
  refine JC_region ?_
  refine JL_1 rfl (op_move rfl) ?_
  refine JL_1 rfl (by exact op_nilCheck (Ev.rfl' rfl)) ?_
  refine JL_1 rfl (by exact op_fieldPtr (k := 3) (Ev.rfl' rfl) rfl rfl rfl rfl) ?_
  refine JL_1 rfl (by exact op_loadPtr (Ev.rfl' rfl) memT (by rfl) (by rfl) (by rfl)) ?_
  refine JL_1 rfl (op_move rfl) ?_
  refine JL_1 rfl (op_move rfl) ?_
  refine JL_1 rfl (by exact op_indexBuf (k := 0) (Ev.rfl' rfl) memT (Ev.rfl' rfl) rfl rfl idxT lenT) ?_
  refine JL_s0 (by exact op_storeBuf0 (z' := (slV k s)) (Ev.rfl' rfl) (Ev.rfl' rfl) cellsT replT rfl rfl (by rfl) (by rfl)) ?_
  refine JL_nil ?_
  refine JQ_end ?_
  exact JQ_retP (Bs := []) Tryz.results96 trivial s SubL.rfl' lessT
end Go.Proofs.YtfglhiciagmicaaGreat

/- A new fabric of one client. Own work. -/
namespace Go.Proofs.YtfglhiciagmicaaGreat
open Go.RowKit
set_option linter.unusedVariables false
set_option linter.unusedSimpArgs false
set_option maxRecDepth 100000
end Go.Proofs.YtfglhiciagmicaaGreat

/- Rows of words of one's own of which only the length is known, wherever they lie; calls that get a part of what is one's own. Own work. -/
namespace Go.Proofs.YtfglhiciagmicaaGreat
open Go.RowKit
set_option linter.unusedVariables false
set_option linter.unusedSimpArgs false
/-! ### Lists -/
theorem Repl.self {it : Item} : ∀ {L : List Item}, it ∈ L → Repl L it it L
  | x :: L, h => by
    by_cases hx : it = x
    · subst hx; exact Repl.head _ _ _
    · exact Repl.tail x (Repl.self ((List.mem_cons.1 h).resolve_left hx))
inductive Drops : List Item → List Item → List Item → Prop
  | nil (L : List Item) : Drops L [] L
  | cons {it : Item} {L L1 L2 M : List Item} (h : Drop1 L it L1) (h2 : Drops L1 M L2) : Drops L (it :: M) L2
theorem Drops.sub {L M L2 : List Item} (h : Drops L M L2) : SubP (M ++ L2) L := by
  induction h with
  | nil L => exact SubP.refl' _
  | cons h _ ih => exact SubP.cons h ih
theorem drop1A {L L' : List Item} {it : Item} (h : Drop1 L it L' := by repeat (first | assumption | exact Drop1.here _ _ | apply Drop1.next)) : Drop1 L it L' := h
theorem memA {a : Item} {l : List Item} (h : a ∈ l := by repeat (first | assumption | exact List.Mem.head _ | apply List.Mem.tail)) : a ∈ l := h
theorem lessA {M L : List Item} (h : SubP M L := by repeat (first | exact SubP.refl' _ | exact SubP.nil _ | apply SubP.skip | refine SubP.cons (by repeat (first | exact Drop1.here _ _ | apply Drop1.next)) ?_)) : SubP M L := h
section
variable {P : Program} {c : Ctx} {A : Nat → Option VP} {L : List Item} {d : Option Tmp} {ty : TypeId} {pos : String} {af : Array Edge} {g : Option (Nat × Bool)}
/-- A call that gets a part of what is one's own. -/
theorem op_callM {f : FuncId} {xs : List Operand} {ts : Array TypeId} {As : List VP} {M L1 : List Item} {ι : Type} {R : ι → VP} {L' : ι → List Item} (hd : Drops L M L1) (hc : ∀ (args : Array Value) (w : World), (callFunc f args).run P w = .ok (.enter f args) w)
    (hF : Fn P f As M R L') (ha : ArgsE A L xs As) : OpS P c ⟨d, .call { callee := .value (.func f), args := xs.toArray, argTypes := ts }, ty, pos, af, g⟩ A L R (fun i => L' i ++ L1) := by
  intro φ a w K Q hm he hk
  have hv := ha.alls (φ := φ) (a := a) fun x hx => he x (by simp [Op.operands, Call.operands, hx])
  have hm' : HP c φ (M ++ L1) w := hm.lessP hd.sub
  unfold Oper.wp
  rw [run_enter hc]
  refine (hF φ w _ hv hm'.mem.left).mono ?_
  rintro e w' ⟨i, v, φ', rfl, h1, h2⟩
  exact hk i φ' v w' (h2.fle hm.mem.base) h1 (hm'.call h2)
/-- A call that gets all that is one's own. -/
theorem op_callA {f : FuncId} {xs : List Operand} {ts : Array TypeId} {As : List VP} {ι : Type} {R : ι → VP} {L' : ι → List Item} (hc : ∀ (args : Array Value) (w : World), (callFunc f args).run P w = .ok (.enter f args) w)
    (hF : Fn P f As L R L') (ha : ArgsE A L xs As) : OpS P c ⟨d, .call { callee := .value (.func f), args := xs.toArray, argTypes := ts }, ty, pos, af, g⟩ A L R L' := by
  intro φ a w K Q hm he hk
  have hv := ha.alls (φ := φ) (a := a) fun x hx => he x (by simp [Op.operands, Call.operands, hx])
  unfold Oper.wp
  rw [run_enter hc]
  refine (hF φ w _ hv hm.mem).mono ?_
  rintro e w' ⟨i, v, φ', rfl, h1, h2⟩
  have h3 := HP.call (L := L) (M := []) (by simpa using hm) h2
  rw [List.append_nil] at h3
  exact hk i φ' v w' (h2.fle hm.mem.base) h1 h3
/-- Less may be told of what an operation leaves. -/
theorem OpP.sub {o : Oper} {F F' : VP} (h : OpP P c o A L F) (hs : ∀ φ v, F.ok φ v → F'.ok φ v) : OpP P c o A L F' :=
  fun φ a w K Q hm he hk => h φ a w K Q hm he fun φ' v w' h1 h2 => hk φ' v w' h1 (hs _ _ h2)
end
/-! ### Words of which nothing is known -/
def WAny : VP := VEx fun d : BitVec 64 => Is (.int .u64 (UV d))
def tAU : Ty Unit := ⟨1, fun _ => [WAny], fun _ => rfl⟩
/-- A row of m words. -/
@[reducible] def wb (e : TypeId) (m : Nat) (a : Option Addr × Nat) : Item := buf (slV m a) e tAU (List.replicate m ())
theorem pure_wany : PureV WAny := pure_ex fun _ => pure_is
theorem pureV_au (z : Unit) : PureVs (tAU.cells z) := ⟨pure_wany, trivial⟩
theorem cells_wany : CellsOf WAny [WAny] := fun φ v ⟨d, e⟩ => by
  have e' : v = .int .u64 (UV d) := e
  subst e'
  exact ⟨[_], rfl, ⟨⟨d, rfl⟩, trivial⟩, ones_one rfl⟩
theorem cells_word {d : BitVec 64} : CellsOf (Is (.int .u64 (UV d))) [WAny] := fun φ v e => by
  have e' : v = .int .u64 (UV d) := e
  subst e'
  exact ⟨[_], rfl, ⟨⟨d, rfl⟩, trivial⟩, ones_one rfl⟩
theorem cells_wordI {n : Int} (h : 0 ≤ n ∧ n < 18446744073709551616) : CellsOf (Is (.int .u64 n)) [WAny] := by rw [u64lit h]; exact cells_word
theorem SubL.wany {L : List Item} {d : BitVec 64} : SubL L (Is (.int .u64 (UV d))) WAny := fun φ v _ h => ⟨d, h⟩
theorem alls_wany {φ φ' : Fz} : ∀ (xs : List (BitVec 64)) (us : List Value), Alls φ (xs.flatMap tU64.cells) us → Alls φ' ((List.replicate xs.length ()).flatMap tAU.cells) us
  | [], [], _ => trivial
  | x :: xs, u :: us, ⟨h1, h2⟩ => ⟨⟨x, h1⟩, alls_wany xs us h2⟩
theorem buf_wany {φ : Fz} {o : Option Obj} {e : TypeId} {m : Nat} {a : Option Addr × Nat} {xs : List (BitVec 64)} (hl : xs.length = m) (h : (buf (slV m a) e tU64 xs).ok φ o) : (wb e m a).ok φ o := by
  obtain ⟨flat, h0, h1, h2, h3⟩ := h
  subst hl
  exact ⟨flat, by rw [h0, List.length_replicate]; rfl, alls_wany _ _ h1, h2, by rw [List.length_replicate]; exact h3⟩
theorem Fn.toW {P : Program} {f : FuncId} {As : List VP} {R : Option Addr × Nat → VP} {e : TypeId} {m : Nat} (h : Fn P f As [] R (fun a => [ub e tU64 m a])) : Fn P f As [] R (fun a => [wb e m a]) := fun φ w vs ha hm =>
  (h φ w vs ha hm).mono fun e w' ⟨i, v, φ', h1, h2, h3⟩ => ⟨i, v, φ', h1, h2, by
    obtain ⟨⟨xs, k1, k2⟩, k3⟩ := h3.mem.items _ (List.mem_cons_self ..)
    exact h3.upd (Repl.head _ _ _) (Kpt.refl _ _) ⟨buf_wany k1 k2, k3⟩ fun b hb => .inr hb⟩
section
variable {P : Program} {c : Ctx} {A : Nat → Option VP} {L : List Item} {d : Option Tmp} {ty : TypeId} {pos : String} {af : Array Edge} {g : Option (Nat × Bool)} {e : TypeId} {m : Nat} {a : Option Addr × Nat} {x y : Operand} {t : TypeId}
theorem op_indexW {j : Int} {k : Nat} {q : IntKind} (hx : Ev A L x (Is (slV m a))) (hL : wb e m a ∈ L) (hy : Ev A L y (Is (.int q j))) (hu : P.underlying t = some (.slice e)) (hs : (P.info? e).map (·.size) = some 1) (hj : j = k) (hk : k < m) :
    OpP P c ⟨d, .indexAddr t x y, ty, pos, af, g⟩ A L (Is (bpt a k)) := by
  have h := op_indexBuf (T := tAU) (xs := List.replicate m ()) (P := P) (c := c) (d := d) (ty := ty) (pos := pos) (af := af) (g := g) hx hL hy hu hs hj (by simpa using hk)
  rw [show k * tAU.size = k from Nat.mul_one k] at h
  exact h
theorem op_storeW1 {k n : Nat} {D : VP} (hx : Ev A L x (Is (bpt a k))) (hL : wb e m a ∈ L) (hk : k < m) (hy : Ev A L y D) (hD : CellsOf D [WAny]) (hn : (P.info? t).map (·.size) = some 1) :
    OpS P c ⟨d, .store t x y, ty, pos, af, g⟩ A L (fun _ : Unit => Is undef) (fun _ => L) := by
  have hx' : Ev A L x (Is (bpt a (k * tAU.size))) := by rw [show k * tAU.size = k from Nat.mul_one k]; exact hx
  have hs : (List.replicate m ()).set k () = List.replicate m () := by
    apply List.ext_getElem?
    intro i
    rw [List.getElem?_set]
    split
    · rename_i h; subst h; simp [hk]
    · rfl
  exact op_storeBuf0 (T := tAU) (e := e) (n := m) (xs := List.replicate m ()) (z := ()) (z' := ()) (Bs := [WAny]) (L' := L) hx' hy hD (by rw [hs]; exact Repl.self hL) (by simp [hk]) hn rfl rfl
/-- A part of a row of one's own. -/
def ptX (l h sz : Nat) (i : Option Addr × Nat) : Value := .slice (if i.2 = l then i.1 else i.1.map (·.add (l * sz))) (h - l) (i.2 - l)
section
variable {α : Type} {T : Ty α} {xs : List α} {n : Nat} {i : Option Addr × Nat}
theorem op_sliceMid {lo hi : Option Operand} {l h : Nat} (hx : Ev A L x (Is (slV n i))) (hL : buf (slV n i) e T xs ∈ L) (hu : P.underlying t = some (.slice e)) (hs : (P.info? e).map (·.size) = some T.size) (hl : opN A L 0 lo l) (hh : opN A L n hi h) (h1 : l ≤ h) (h2 : h ≤ n) : OpP P c ⟨d, .slice t x lo hi none, ty, pos, af, g⟩ A L (Is (ptX l h T.size i)) :=
  opp fun φ a w hm he => by
    obtain ⟨e1, e2, e3, e4⟩ := own_val hm hL
    have h3 : a.eval x = slV n i := he x (by simp [Op.operands]) _ hx
    exact ⟨_, run_sliceOf (A := A) (L := L) (φ := φ) he h3 hu hs hl hh h1 h2 e2, rfl⟩
/-- append onto nothing of a part of a row of one's own: a row of one's own. -/
theorem op_appNilPart {l h : Nat} (hx : Ev A L x (Is (.slice none 0 0))) (hy : Ev A L y (Is (ptX l h T.size i))) (hL : buf (slV n i) e T xs ∈ L) (hp : ∀ z, PureVs (T.cells z)) (hT : AppT P t e T.size) (h1 : l ≤ h) (h2 : h ≤ xs.length) (hlen : xs.length ≤ 1048576) :
    OpN P c ⟨d, .call { callee := .builtin .append, args := #[x, y], argTypes := #[t, t] }, ty, pos, af, g⟩ A L (slV ((xs.take h).drop l).length) (fun j => buf (slV ((xs.take h).drop l).length j) e T ((xs.take h).drop l)) := by
  intro φ a w K Q hm he hk
  have e1 : a.eval x = .slice none 0 0 := he x (by simp [Op.operands, Call.operands]) _ hx
  have e2 : a.eval y = ptX l h T.size i := he y (by simp [Op.operands, Call.operands]) _ hy
  obtain ⟨v1, v2, v3, v4⟩ := own_val hm hL
  obtain ⟨φ1, hle, hm1⟩ := (LendL.buf (L := []) LendL.nil).mem [] φ w ⟨hm.mem.base, fun it hi => by
    rw [List.nil_append, List.mem_singleton] at hi; subst hi; exact hm.mem.items _ hL, List.pairwise_singleton _ _⟩
  have hf : (IsSl T xs).ok φ1 (slV n i) := (hm1.items _ (List.mem_singleton.2 rfl)).1
  obtain ⟨ad, n', cp, q1, q2⟩ := hf
  unfold slV at q1
  injection q1 with q3 q4 q5
  subst q3 q4 q5
  have hy' : (IsSl T ((xs.take h).drop l)).ok φ1 (a.eval y) := by
    rw [e2]
    exact ⟨_, _, _, rfl, q2.cut h1 (by omega)⟩
  have ho : w.ownsRow 0 e T.size (.slice none 0 0) ([] : List α).length [] := ⟨by simp, .inl ⟨rfl, rfl⟩⟩
  obtain ⟨j, w', flat', r1, r2, r3, r4, r5, r6⟩ := run_app2 (d := d) (ty := ty) (pos := pos) (af := af) (g := g) (xs := []) hT hm1.base e1 ho trivial ones_nil hy' (by simp; omega)
  unfold Oper.wp
  rw [r1]
  have hm0 : HP c φ (buf (.slice none 0 0) e T ([] : List α) :: L) w := hm.buf0 e T
  rw [List.nil_append] at r2 r4 r6 ⊢
  have h5 := hp_app hm0 (flat_pure hp _ _ r2) r3 r4 r5 r6
  have hn : names [buf (.slice none 0 0) e T ([] : List α)] = [] := rfl
  rw [hn] at h5
  exact hk j φ w' h5
end
/-- A slice of any words that stays, as a slice of words. -/
theorem SubL.words {n : Nat} : SubL L (IsSl tAU (List.replicate n ())) (VEx fun ws : {ws : List (BitVec 64) // ws.length = n} => IsSl tU64 ws.1) := fun φ v _ ⟨ad, m, cp, e, h1, h2, h3, h4⟩ => by
  rw [List.length_replicate] at h1
  rcases h4 with h4 | ⟨b, o, rfl, h4⟩
  · have : n = 0 := by omega
    subst this
    exact ⟨⟨[], rfl⟩, ad, m, cp, e, h1, h2, h3, .inl h4⟩
  · have key : ∀ (k : Nat), k ≤ n → ∃ ws : List (BitVec 64), ws.length = k ∧ ∀ j z, ws[j]? = some z → RefAt φ b (o + j) (tU64.cells z) := by
      intro k
      induction k with
      | zero => exact fun _ => ⟨[], rfl, fun j z hj => by simp at hj⟩
      | succ k ih =>
        intro hk
        obtain ⟨ws, hl, hw⟩ := ih (by omega)
        obtain ⟨u, u1, ⟨dd, u2⟩, u3⟩ := h4 k () (by rw [List.getElem?_replicate]; exact if_pos (by omega)) 0 WAny rfl
        rw [show k * tAU.size = k from Nat.mul_one k] at u1
        refine ⟨ws ++ [dd], by simp [hl], fun j z hj => ?_⟩
        rcases Nat.lt_or_ge j ws.length with hj' | hj'
        · rw [List.getElem?_append_left hj'] at hj
          exact hw j z hj
        · rw [List.getElem?_append_right hj'] at hj
          have hj0 : j = k := by
            have := (List.getElem?_eq_some_iff.1 hj).1
            simp at this; omega
          subst hj0
          rw [hl, Nat.sub_self] at hj
          simp at hj
          subst hj
          intro i B hB
          cases i with
          | zero => simp [tU64] at hB; subst hB; exact ⟨u, u1, u2, u3⟩
          | succ i => simp [tU64] at hB
    obtain ⟨ws, hl, hw⟩ := key n (Nat.le_refl _)
    refine ⟨⟨ws, hl⟩, _, m, cp, e, by simp [hl, h1], h2, h3, .inr ⟨b, o, rfl, fun j z hj => ?_⟩⟩
    rw [show j * tU64.size = j from Nat.mul_one j]
    exact hw j z hj
end
/-! ### What is one's own stays, between the operations of a region -/
section
variable {P : Program} {c : Ctx} {N : Nat} {E : Env} {L : List Item} {Q : Exit → Act → World → Prop} {ops : Array Oper} {rest : List Oper} {α : Type} {T : Ty α} {xs : List α}
theorem JD_freezeX {nd : List Nat} {k : Nat} {v : Value} {e : TypeId} {L' : List Item} (hr : Repl L (buf v e T xs) (fact v (IsSl T xs)) L') (hX : ∀ b, b ∈ c.X → b ∈ names L') (h : JD P ops Q c N nd k rest E L') : JD P ops Q c N nd k rest E L := fun e1 e2 e3 e4 φ a w lst hp st =>
  let ⟨φ', h1, h2⟩ := HP.freezeX hX st.mem hr
  h e1 e2 e3 e4 φ' a w lst hp ⟨st.defers, st.size, fun t B hB => B.mono h1 (st.env t B hB), h2⟩
end
/-- The blocks of a list are named by another. -/
theorem names_sub {L M : List Item} (h : ∀ it, it ∈ L → it.at_ = none ∨ ∃ x, x ∈ M ∧ x.at_ = it.at_) : ∀ b, b ∈ names L → b ∈ names M := fun b hb => by
  obtain ⟨it, h1, h2⟩ := mem_names.1 hb
  rcases h it h1 with h3 | ⟨x, h3, h4⟩
  · rw [h3] at h2; cases h2
  · exact mem_names.2 ⟨x, h3, h4.trans h2⟩
/-! ### One of many, in one cell -/
theorem cells_ex1 {ι : Type} {R : ι → VP} (h : ∀ i, CellsOf (R i) [R i]) : CellsOf (VEx R) [VEx R] := fun φ v ⟨i, k⟩ => by
  obtain ⟨vs, h1, h2, h3⟩ := h i φ v k
  match vs, h2 with
  | [u], ⟨g1, _⟩ => exact ⟨[u], h1, ⟨⟨i, g1⟩, trivial⟩, h3⟩
  | [], h => exact h.elim
  | _ :: _ :: _, h => exact h.2.elim
theorem cells_exSl {ι α : Type} {T : Ty α} {f : ι → List α} : CellsOf (VEx fun i => IsSl T (f i)) [VEx fun i => IsSl T (f i)] := cells_ex1 fun _ => cells_sl
theorem cellsX {A : VP} {As : List VP} (h : CellsOf A As := by first | exact cells_agg | exact cells_is rfl | exact cells_sl | exact cells_ref | exact cells_exSl | exact cells_wany | exact cells_lit rfl) : CellsOf A As := h
theorem alls_ex {φ : Fz} {ι : Type} {R : ι → VP} : ∀ {As : List VP} {vs : List Value} {j : Nat}, Alls φ As vs → As[j]? = some (VEx R) → ∃ i, Alls φ (As.set j (R i)) vs
  | [], [], j, _, h => by simp at h
  | A :: As, v :: vs, 0, ⟨h1, h2⟩, h => by
    simp at h
    subst h
    obtain ⟨i, h1⟩ := h1
    exact ⟨i, h1, h2⟩
  | A :: As, v :: vs, j + 1, ⟨h1, h2⟩, h => by
    obtain ⟨i, h3⟩ := alls_ex h2 (by simpa using h)
    exact ⟨i, h1, h3⟩
section
variable {P : Program} {c : Ctx} {N : Nat} {E : Env} {L : List Item} {Q : Exit → Act → World → Prop}
/-- Of a cell of a block it is told which of many it is. -/
theorem JC_blkEx {x : Code} {ι : Type} {R : ι → VP} {b : Nat} {t : TypeId} {As : List VP} {L' : ι → List Item} (j : Nat) (hL : blk b t As ∈ L) (hj : As[j]? = some (VEx R)) (hr : ∀ i, Repl L (blk b t As) (blk b t (As.set j (R i))) (L' i)) (h : ∀ i, JC P c N x E (L' i) Q) : JC P c N x E L Q := fun φ a w st => by
  obtain ⟨⟨vs, h1, h2, h3⟩, h4⟩ := st.mem.mem.items _ hL
  obtain ⟨i, h5⟩ := alls_ex h2 hj
  exact h i φ a w ⟨st.defers, st.size, st.env, st.mem.upd (hr i) (Kpt.refl _ _) ⟨⟨vs, h1, h5, h3⟩, h4⟩ fun b' hb' => .inr hb'⟩
end
end Go.Proofs.YtfglhiciagmicaaGreat

/- Contracts: verbs of the reference: how many words, which are valid, their pieces, the check. Own work. -/
namespace Go.Proofs.YtfglhiciagmicaaGreat
open Go.RowKit
set_option linter.unusedVariables false
set_option linter.unusedSimpArgs false
set_option maxRecDepth 100000
/-- How many words a verb names. -/
def cntV (v : GVerb) : Int := if v.kind = 1 then v.n else if v.kind = 2 then (v.words.length : Nat) else 1
/-- A valid verb. -/
structure GoodV (v : GVerb) (nodes lines : Int) : Prop where
  k1 : 1 ≤ v.kind ∧ v.kind ≤ 4
  cnt : 1 ≤ cntV v ∧ cntV v ≤ 1024
  nd : 0 ≤ v.node ∧ v.node < nodes
  nds : 1 ≤ nodes ∧ nodes ≤ 5
  ls : 1 ≤ lines ∧ lines ≤ 256
  at_ : 0 ≤ v.at_ ∧ v.at_ + cntV v ≤ lines * 8
  wd : (v.at_ + cntV v - 1).tdiv 8 - v.at_.tdiv 8 + 1 ≤ 128
  c1 : ¬ (v.kind ≠ 1 ∧ v.at_.tdiv 8 < 3 ∧ (v.at_ + cntV v - 1).tdiv 8 ≥ 3)
  c2 : ¬ (v.kind = 1 ∧ v.at_.tdiv 8 ≤ 3 ∧ (v.at_ + cntV v - 1).tdiv 8 > 3)
theorem GoodV.more {v : GVerb} {n m lines : Int} (h : GoodV v n lines) (hm : n ≤ m ∧ m ≤ 5) : GoodV v m lines :=
  ⟨h.k1, h.cnt, ⟨h.nd.1, by have := h.nd; omega⟩, ⟨by have := h.nds; omega, hm.2⟩, h.ls, h.at_, h.wd, h.c1, h.c2⟩
-- bodegaref4.Count: function 107
theorem CountR_ok (v : GVerb) : FnP Tryz.prog 107 [IsGVerb v] (Is (.int .i64 (cntV v))) := by
  refine FnP.enter Tryz.func107 Tryz.ntmps107 rfl rfl ?_
  intro c hX
  refine JC_seq ?_
  refine JC_region ?_
  (refine JL_n rfl (op_box (Ev.rfl' rfl) cellsT) ?_; intro i1)
  refine JL_1 rfl (op_assign rfl) ?_
  refine JL_nil ?_
  refine JQ_then (JC_seq (JC_seq ?_))
  refine JC_region ?_
  refine JL_1 rfl (by exact op_fieldPtr (k := 0) (Ev.rfl' rfl) rfl rfl rfl rfl) ?_
  refine JL_1 rfl (by exact op_loadPtr (Ev.rfl' rfl) memT (by rfl) (by rfl) (by rfl)) ?_
  refine JL_nil ?_
  refine JQ_then (JC_block (JC_seq ?_))
  refine JC_region ?_
  refine JL_1 rfl (op_eql (Ev.rfl' rfl) (Ev.rfl' rfl)) ?_
  refine JL_1 rfl (op_assign rfl) ?_
  refine JL_nil ?_
  refine JQ_then ?_
  refine JC_cond (Ev.rfl' rfl) (fun h2 => ?_) (fun h2 => ?_)
  · have k1 : v.kind = 1 := by simpa using h2
    refine JC_seq ?_
    refine JC_region ?_
    refine JL_1 rfl (by exact op_fieldPtr (k := 3) (Ev.rfl' rfl) rfl rfl rfl rfl) ?_
    refine JL_1 rfl (by exact op_loadPtr (Ev.rfl' rfl) memT (by rfl) (by rfl) (by rfl)) ?_
    refine JL_1 rfl (op_assign rfl) ?_
    refine JL_nil ?_
    refine JQ_then (JC_ret (JQ_block_ret (JQ_then_ret ?_)))
    refine JQ_ret1 Tryz.results107 rfl () (SubL.eq ?_) (List.nil_sublist _)
    congr 1; unfold cntV; rw [if_pos k1]
  have k1 : ¬ v.kind = 1 := by simpa using h2
  refine JC_seq ?_
  refine JC_region ?_
  refine JL_1 rfl (op_eql (Ev.rfl' rfl) (Ev.rfl' rfl)) ?_
  refine JL_1 rfl (op_assign rfl) ?_
  refine JL_nil ?_
  refine JQ_then ?_
  refine JC_cond (Ev.rfl' rfl) (fun h4 => ?_) (fun h4 => ?_)
  · have k2 : v.kind = 2 := by simpa using h4
    refine JC_seq ?_
    refine JC_region ?_
    refine JL_1 rfl (by exact op_fieldPtr (k := 6) (Ev.rfl' rfl) rfl rfl rfl rfl) ?_
    refine JL_1 rfl (by exact op_loadPtr (Ev.rfl' rfl) memT (by rfl) (by rfl) (by rfl)) ?_
    refine JL_1 rfl (by exact op_len (Ev.rfl' rfl) rfl) ?_
    refine JL_1 rfl (op_assign rfl) ?_
    refine JL_nil ?_
    refine JQ_then (JC_ret (JQ_block_ret (JQ_then_ret ?_)))
    refine JQ_ret1 Tryz.results107 rfl () (SubL.eq ?_) (List.nil_sublist _)
    congr 1; unfold cntV; rw [if_neg k1, if_pos k2]
  have k2 : ¬ v.kind = 2 := by simpa using h4
  refine JC_skip (JQ_block (JQ_then (JC_seq ?_)))
  refine JC_region ?_
  refine JL_1 rfl (op_assign rfl) ?_
  refine JL_nil ?_
  refine JQ_then (JC_ret ?_)
  refine JQ_ret1 Tryz.results107 rfl () (SubL.eq ?_) (List.nil_sublist _)
  congr 1; unfold cntV; rw [if_neg k1, if_neg k2]
theorem tdiv8 {n : Int} (h : 0 ≤ n ∧ n ≤ 4096) : n.tdiv 8 = n / 8 ∧ 0 ≤ n.tdiv 8 ∧ n.tdiv 8 ≤ 512 := by
  have := Int.tdiv_eq_ediv_of_nonneg (a := n) (b := 8) h.1
  rw [this]; omega
theorem vb1 {v : GVerb} (h : (decide (v.kind < 1) || decide (v.kind > 4) || v.kind == 1 && decide (v.n < 1) || v.kind == 2 && decide (((v.words.length : Nat) : Int) < 1)) = false) : (1 ≤ v.kind ∧ v.kind ≤ 4) ∧ 1 ≤ cntV v := by
  simp at h
  obtain ⟨⟨⟨h1, h2⟩, h3⟩, h4⟩ := h
  refine ⟨⟨by omega, by omega⟩, ?_⟩
  unfold cntV
  split
  · rename_i hk; have := h3 hk; omega
  · split
    · rename_i hk; have := h4 hk; omega
    · omega
theorem vb1' {v : GVerb} {n l : Int} (g : GoodV v n l) (h : (decide (v.kind < 1) || decide (v.kind > 4) || v.kind == 1 && decide (v.n < 1) || v.kind == 2 && decide (((v.words.length : Nat) : Int) < 1)) = true) : False := by
  have hk := g.k1
  have hc := g.cnt
  unfold cntV at hc
  simp only [Bool.or_eq_true, Bool.and_eq_true, decide_eq_true_eq, beq_iff_eq] at h
  rcases h with ((h | h) | ⟨h, h'⟩) | ⟨h, h'⟩
  · omega
  · omega
  · rw [if_pos h] at hc; omega
  · rw [if_neg (by omega), if_pos h] at hc; omega
theorem vb2 {v : GVerb} {nodes lines : Int} (h : (decide (nodes < 1) || decide (nodes > 5) || decide (lines < 1) || decide (lines > 256) || decide (v.node < 0) || decide (v.node ≥ nodes) || decide (v.at_ < 0) || decide (v.at_ ≥ lines * 8) || decide (cntV v > 1024)) = false) :
    (1 ≤ nodes ∧ nodes ≤ 5) ∧ (1 ≤ lines ∧ lines ≤ 256) ∧ (0 ≤ v.node ∧ v.node < nodes) ∧ (0 ≤ v.at_ ∧ v.at_ < lines * 8) ∧ cntV v ≤ 1024 := by
  simp only [Bool.or_eq_false_iff, decide_eq_false_iff_not] at h
  omega
theorem vb2' {v : GVerb} {nodes lines : Int} (g : GoodV v nodes lines) (h : (decide (nodes < 1) || decide (nodes > 5) || decide (lines < 1) || decide (lines > 256) || decide (v.node < 0) || decide (v.node ≥ nodes) || decide (v.at_ < 0) || decide (v.at_ ≥ lines * 8) || decide (cntV v > 1024)) = true) : False := by
  have h1 := g.nd
  have h2 := g.nds
  have h3 := g.ls
  have h4 := g.at_
  have h5 := g.cnt
  simp only [Bool.or_eq_true, decide_eq_true_eq] at h
  omega
-- bodegaref4.Valid: function 91
set_option maxHeartbeats 1000000 in
theorem ValidVR_ok (v : GVerb) (nodes lines : Int) : FnP Tryz.prog 91 [IsGVerb v, Is (.int .i64 nodes), Is (.int .i64 lines)] (VEx fun z : {z : Int // z = 0 ↔ GoodV v nodes lines} => Is (.int .i64 z.1)) := by
  refine FnP.enter Tryz.func91 Tryz.ntmps91 rfl rfl ?_
  intro c hX
  refine JC_seq ?_
  refine JC_region ?_
  (refine JL_n rfl (op_box (Ev.rfl' rfl) cellsT) ?_; intro i3)
  refine JL_1 rfl (op_assign rfl) ?_
  refine JL_nil ?_
  refine JQ_then (JC_seq (JC_seq ?_))
  refine JC_region ?_
  refine JL_1 rfl (by exact op_fieldPtr (k := 0) (Ev.rfl' rfl) rfl rfl rfl rfl) ?_
  refine JL_1 rfl (by exact op_loadPtr (Ev.rfl' rfl) memT (by rfl) (by rfl) (by rfl)) ?_
  refine JL_1 rfl (op_lss (Ev.rfl' rfl) (Ev.rfl' rfl)) ?_
  refine JL_1 rfl (op_move rfl) ?_
  (refine JL_i0 rfl rfl rfl (fun hg => (by have hg0 := hg; (try simp at hg); exact op_fieldPtr (k := 0) evG rfl rfl rfl rfl)) ?_)
  (refine JL_i0 rfl rfl rfl (fun hg => (by have hg0 := hg; (try simp at hg); exact op_loadPtr evG memT (by rfl) (by rfl) (by rfl))) ?_)
  (refine JL_i0 rfl rfl rfl (fun hg => (by have hg0 := hg; (try simp at hg); exact op_gtr evG evG)) ?_)
  refine JL_1 rfl (op_or (Ev.rfl' rfl) rfl (fun h => by exact SubL.iteT (by (rw [h]; rfl)) SubL.rfl')) ?_
  refine JL_1 rfl (op_move rfl) ?_
  (refine JL_i0 rfl rfl rfl (fun hg => (by have hg0 := hg; (try simp at hg); exact op_fieldPtr (k := 0) evG rfl rfl rfl rfl)) ?_)
  (refine JL_i0 rfl rfl rfl (fun hg => (by have hg0 := hg; (try simp at hg); exact op_loadPtr evG memT (by rfl) (by rfl) (by rfl))) ?_)
  (refine JL_i0 rfl rfl rfl (fun hg => (by have hg0 := hg; (try simp at hg); exact op_eql evG evG)) ?_)
  (refine JL_i0 rfl rfl rfl (fun hg => (by have hg0 := hg; (try simp at hg); exact op_moveE (Ev.sub rfl (SubL.iteT (by assumption) SubL.rfl')))) ?_)
  (refine JL_i rfl rfl rfl (fun hp hg => (by have hpg := Bool.and_eq_true_iff.2 ⟨hp, hg⟩; have hg0 := hg; (try simp at hg); exact op_fieldPtr (k := 3) evG rfl rfl rfl rfl)) ?_)
  (refine JL_i rfl rfl rfl (fun hp hg => (by have hpg := Bool.and_eq_true_iff.2 ⟨hp, hg⟩; have hg0 := hg; (try simp at hg); exact op_loadPtr evG memT (by rfl) (by rfl) (by rfl))) ?_)
  (refine JL_i rfl rfl rfl (fun hp hg => (by have hpg := Bool.and_eq_true_iff.2 ⟨hp, hg⟩; have hg0 := hg; (try simp at hg); exact op_lss evG evG)) ?_)
  (refine JL_i0 rfl rfl rfl (fun hg => (by have hg0 := hg; (try simp at hg); exact op_and evG rfl (fun h => by exact SubL.iteT (by (simp_all; done)) SubL.rfl'))) ?_)
  refine JL_1 rfl (op_or (Ev.rfl' rfl) rfl (fun h => by exact SubL.iteT (by (rw [h]; rfl)) SubL.rfl')) ?_
  refine JL_1 rfl (op_move rfl) ?_
  (refine JL_i0 rfl rfl rfl (fun hg => (by have hg0 := hg; (try simp at hg); exact op_fieldPtr (k := 0) evG rfl rfl rfl rfl)) ?_)
  (refine JL_i0 rfl rfl rfl (fun hg => (by have hg0 := hg; (try simp at hg); exact op_loadPtr evG memT (by rfl) (by rfl) (by rfl))) ?_)
  (refine JL_i0 rfl rfl rfl (fun hg => (by have hg0 := hg; (try simp at hg); exact op_eql evG evG)) ?_)
  (refine JL_i0 rfl rfl rfl (fun hg => (by have hg0 := hg; (try simp at hg); exact op_moveE (Ev.sub rfl (SubL.iteT (by assumption) SubL.rfl')))) ?_)
  (refine JL_i rfl rfl rfl (fun hp hg => (by have hpg := Bool.and_eq_true_iff.2 ⟨hp, hg⟩; have hg0 := hg; (try simp at hg); exact op_fieldPtr (k := 6) evG rfl rfl rfl rfl)) ?_)
  (refine JL_i rfl rfl rfl (fun hp hg => (by have hpg := Bool.and_eq_true_iff.2 ⟨hp, hg⟩; have hg0 := hg; (try simp at hg); exact op_loadPtr evG memT (by rfl) (by rfl) (by rfl))) ?_)
  (refine JL_i rfl rfl rfl (fun hp hg => (by have hpg := Bool.and_eq_true_iff.2 ⟨hp, hg⟩; have hg0 := hg; (try simp at hg); exact op_len evG rfl)) ?_)
  (refine JL_i rfl rfl rfl (fun hp hg => (by have hpg := Bool.and_eq_true_iff.2 ⟨hp, hg⟩; have hg0 := hg; (try simp at hg); exact op_lss evG evG)) ?_)
  (refine JL_i0 rfl rfl rfl (fun hg => (by have hg0 := hg; (try simp at hg); exact op_and evG rfl (fun h => by exact SubL.iteT (by (simp_all; done)) SubL.rfl'))) ?_)
  refine JL_1 rfl (op_or (Ev.rfl' rfl) rfl (fun h => by exact SubL.iteT (by (rw [h]; rfl)) SubL.rfl')) ?_
  refine JL_nil ?_
  refine JQ_then ?_
  refine JC_cond (Ev.rfl' rfl) (fun h1 => ?_) (fun h1 => ?_)
  · refine JC_seq ?_
    refine JC_region ?_
    refine JL_1 rfl (op_assign rfl) ?_
    refine JL_nil ?_
    refine JQ_then (JC_ret (JQ_then_ret ?_))
    exact JQ_ret1 Tryz.results91 rfl () (fun φ u _ h => ⟨⟨1, ⟨fun e => absurd e (by decide), fun g => (vb1' g h1).elim⟩⟩, h⟩) (List.nil_sublist _)
  have g1 := vb1 h1
  clear h1
  refine JC_skip (JQ_then (JC_seq ?_))
  refine JC_region ?_
  refine JL_1 rfl (by exact op_loadPtrsN (n := 9) (Ev.rfl' rfl) memT (by rfl) (by rfl) (by rfl) (by rfl) nrmT) ?_
  refine JL_1 rfl (op_call Tryz.call107 (CountR_ok _) ⟨evS, trivial⟩) ?_
  refine JL_1 rfl (op_assign rfl) ?_
  refine JL_nil ?_
  refine JQ_then (JC_seq (JC_seq ?_))
  refine JC_region ?_
  refine JL_1 rfl (op_move rfl) ?_
  refine JL_1 rfl (op_lss (Ev.rfl' rfl) (Ev.rfl' rfl)) ?_
  refine JL_1 rfl (op_move rfl) ?_
  (refine JL_i0 rfl rfl rfl (fun hg => (by have hg0 := hg; (try simp at hg); exact op_moveE (Ev.rfl' rfl))) ?_)
  (refine JL_i0 rfl rfl rfl (fun hg => (by have hg0 := hg; (try simp at hg); exact op_gtr evG evG)) ?_)
  refine JL_1 rfl (op_or (Ev.rfl' rfl) rfl (fun h => by exact SubL.iteT (by (rw [h]; rfl)) SubL.rfl')) ?_
  refine JL_1 rfl (op_move rfl) ?_
  (refine JL_i0 rfl rfl rfl (fun hg => (by have hg0 := hg; (try simp at hg); exact op_moveE (Ev.rfl' rfl))) ?_)
  (refine JL_i0 rfl rfl rfl (fun hg => (by have hg0 := hg; (try simp at hg); exact op_lss evG evG)) ?_)
  refine JL_1 rfl (op_or (Ev.rfl' rfl) rfl (fun h => by exact SubL.iteT (by (rw [h]; rfl)) SubL.rfl')) ?_
  refine JL_1 rfl (op_move rfl) ?_
  (refine JL_i0 rfl rfl rfl (fun hg => (by have hg0 := hg; (try simp at hg); exact op_moveE (Ev.rfl' rfl))) ?_)
  (refine JL_i0 rfl rfl rfl (fun hg => (by have hg0 := hg; (try simp at hg); exact op_gtr evG evG)) ?_)
  refine JL_1 rfl (op_or (Ev.rfl' rfl) rfl (fun h => by exact SubL.iteT (by (rw [h]; rfl)) SubL.rfl')) ?_
  refine JL_1 rfl (op_move rfl) ?_
  (refine JL_i0 rfl rfl rfl (fun hg => (by have hg0 := hg; (try simp at hg); exact op_fieldPtr (k := 1) evG rfl rfl rfl rfl)) ?_)
  (refine JL_i0 rfl rfl rfl (fun hg => (by have hg0 := hg; (try simp at hg); exact op_loadPtr evG memT (by rfl) (by rfl) (by rfl))) ?_)
  (refine JL_i0 rfl rfl rfl (fun hg => (by have hg0 := hg; (try simp at hg); exact op_lss evG evG)) ?_)
  refine JL_1 rfl (op_or (Ev.rfl' rfl) rfl (fun h => by exact SubL.iteT (by (rw [h]; rfl)) SubL.rfl')) ?_
  refine JL_1 rfl (op_move rfl) ?_
  (refine JL_i0 rfl rfl rfl (fun hg => (by have hg0 := hg; (try simp at hg); exact op_fieldPtr (k := 1) evG rfl rfl rfl rfl)) ?_)
  (refine JL_i0 rfl rfl rfl (fun hg => (by have hg0 := hg; (try simp at hg); exact op_loadPtr evG memT (by rfl) (by rfl) (by rfl))) ?_)
  (refine JL_i0 rfl rfl rfl (fun hg => (by have hg0 := hg; (try simp at hg); exact op_moveE (Ev.rfl' rfl))) ?_)
  (refine JL_i0 rfl rfl rfl (fun hg => (by have hg0 := hg; (try simp at hg); exact op_geq evG evG)) ?_)
  refine JL_1 rfl (op_or (Ev.rfl' rfl) rfl (fun h => by exact SubL.iteT (by (rw [h]; rfl)) SubL.rfl')) ?_
  refine JL_1 rfl (op_move rfl) ?_
  (refine JL_i0 rfl rfl rfl (fun hg => (by have hg0 := hg; (try simp at hg); exact op_fieldPtr (k := 2) evG rfl rfl rfl rfl)) ?_)
  (refine JL_i0 rfl rfl rfl (fun hg => (by have hg0 := hg; (try simp at hg); exact op_loadPtr evG memT (by rfl) (by rfl) (by rfl))) ?_)
  (refine JL_i0 rfl rfl rfl (fun hg => (by have hg0 := hg; (try simp at hg); exact op_lss evG evG)) ?_)
  refine JL_1 rfl (op_or (Ev.rfl' rfl) rfl (fun h => by exact SubL.iteT (by (rw [h]; rfl)) SubL.rfl')) ?_
  refine JL_1 rfl (op_move rfl) ?_
  (refine JL_i0 rfl rfl rfl (fun hg => (by have hg0 := hg; (try simp at hg); exact op_fieldPtr (k := 2) evG rfl rfl rfl rfl)) ?_)
  (refine JL_i0 rfl rfl rfl (fun hg => (by have hg0 := hg; (try simp at hg); exact op_loadPtr evG memT (by rfl) (by rfl) (by rfl))) ?_)
  (refine JL_i0 rfl rfl rfl (fun hg => (by have hg0 := hg; (try simp at hg); exact op_moveE (Ev.rfl' rfl))) ?_)
  (refine JL_i0 rfl rfl rfl (fun hg => (by have hg0 := hg; (try simp at hg); exact op_mul evG evG wrapT)) ?_)
  (refine JL_i0 rfl rfl rfl (fun hg => (by have hg0 := hg; (try simp at hg); exact op_geq evG evG)) ?_)
  refine JL_1 rfl (op_or (Ev.rfl' rfl) rfl (fun h => by exact SubL.iteT (by (rw [h]; rfl)) SubL.rfl')) ?_
  refine JL_1 rfl (op_move rfl) ?_
  (refine JL_i0 rfl rfl rfl (fun hg => (by have hg0 := hg; (try simp at hg); exact op_moveE (Ev.rfl' rfl))) ?_)
  (refine JL_i0 rfl rfl rfl (fun hg => (by have hg0 := hg; (try simp at hg); exact op_gtr evG evG)) ?_)
  refine JL_1 rfl (op_or (Ev.rfl' rfl) rfl (fun h => by exact SubL.iteT (by (rw [h]; rfl)) SubL.rfl')) ?_
  refine JL_nil ?_
  refine JQ_then ?_
  refine JC_cond (Ev.rfl' rfl) (fun h4 => ?_) (fun h4 => ?_)
  · refine JC_seq ?_
    refine JC_region ?_
    refine JL_1 rfl (op_assign rfl) ?_
    refine JL_nil ?_
    refine JQ_then (JC_ret (JQ_then_ret ?_))
    exact JQ_ret1 Tryz.results91 rfl () (fun φ u _ h => ⟨⟨2, ⟨fun e => absurd e (by decide), fun g => (vb2' g h4).elim⟩⟩, h⟩) (List.nil_sublist _)
  have g2 := vb2 h4
  clear h4
  have g3 := tdiv8 (n := v.at_) (by omega)
  have g4 := tdiv8 (n := v.at_ + cntV v - 1) (by omega)
  refine JC_skip (JQ_then (JC_seq ?_))
  refine JC_dr rfl (by kernel_rfl) ?_
  refine JD_stretch 11 (by kernel_rfl) ?_
  refine JW_1 (by exact op_fieldPtr (k := 2) (Ev.rfl' rfl) rfl rfl rfl rfl) ?_
  refine JW_1 (by exact op_loadPtr (Ev.rfl' rfl) memT (by rfl) (by rfl) (by rfl)) ?_
  refine JW_1 (op_quo (Ev.rfl' rfl) (Ev.rfl' rfl) (by omega) wrapT) ?_
  refine JW_1 (by exact op_fieldPtr (k := 2) (Ev.rfl' rfl) rfl rfl rfl rfl) ?_
  refine JW_1 (by exact op_loadPtr (Ev.rfl' rfl) memT (by rfl) (by rfl) (by rfl)) ?_
  refine JW_1 (op_move rfl) ?_
  refine JW_1 (op_add (Ev.rfl' rfl) (Ev.rfl' rfl) wrapT) ?_
  refine JW_1 (op_sub (Ev.rfl' rfl) (Ev.rfl' rfl) wrapT) ?_
  refine JW_1 (op_quo (Ev.rfl' rfl) (Ev.rfl' rfl) (by omega) wrapT) ?_
  refine JW_1 (op_assign rfl) ?_
  refine JW_1 (op_assign rfl) ?_
  refine ⟨rfl, ?_⟩
  refine JD_end ?_
  refine JQ_then (JC_seq (JC_seq ?_))
  refine JC_region ?_
  refine JL_1 rfl (op_move rfl) ?_
  refine JL_1 rfl (op_move rfl) ?_
  refine JL_1 rfl (op_geq (Ev.rfl' rfl) (Ev.rfl' rfl)) ?_
  refine JL_1 rfl (op_move rfl) ?_
  (refine JL_i0 rfl rfl rfl (fun hg => (by have hg0 := hg; (try simp at hg); exact op_moveE (Ev.rfl' rfl))) ?_)
  (refine JL_i0 rfl rfl rfl (fun hg => (by have hg0 := hg; (try simp at hg); exact op_moveE (Ev.rfl' rfl))) ?_)
  (refine JL_i0 rfl rfl rfl (fun hg => (by have hg0 := hg; (try simp at hg); exact op_sub evG evG wrapT)) ?_)
  (refine JL_i0 rfl rfl rfl (fun hg => (by have hg0 := hg; (try simp at hg); exact op_add evG evG wrapT)) ?_)
  (refine JL_i0 rfl rfl rfl (fun hg => (by have hg0 := hg; (try simp at hg); exact op_gtr evG evG)) ?_)
  refine JL_1 rfl (op_or (Ev.rfl' rfl) rfl (fun h => by exact SubL.iteT (by (rw [h]; rfl)) SubL.rfl')) ?_
  refine JL_nil ?_
  refine JQ_then ?_
  refine JC_cond (Ev.rfl' rfl) (fun h7 => ?_) (fun h7 => ?_)
  · refine JC_seq ?_
    refine JC_region ?_
    refine JL_1 rfl (op_assign rfl) ?_
    refine JL_nil ?_
    refine JQ_then (JC_ret (JQ_then_ret ?_))
    exact JQ_ret1 Tryz.results91 rfl () (fun φ u _ h => ⟨⟨2, ⟨fun e => absurd e (by decide), fun g => by have q1 := g.at_; have q2 := g.wd; simp only [Bool.or_eq_true, decide_eq_true_eq] at h7; exfalso; omega⟩⟩, h⟩) (List.nil_sublist _)
  refine JC_skip (JQ_then (JC_seq (JC_seq ?_)))
  refine JC_region ?_
  refine JL_1 rfl (by exact op_fieldPtr (k := 0) (Ev.rfl' rfl) rfl rfl rfl rfl) ?_
  refine JL_1 rfl (by exact op_loadPtr (Ev.rfl' rfl) memT (by rfl) (by rfl) (by rfl)) ?_
  refine JL_1 rfl (op_neq (Ev.rfl' rfl) (Ev.rfl' rfl)) ?_
  refine JL_1 rfl (op_move rfl) ?_
  (refine JL_i0 rfl rfl rfl (fun hg => (by have hg0 := hg; (try simp at hg); exact op_moveE (Ev.rfl' rfl))) ?_)
  (refine JL_i0 rfl rfl rfl (fun hg => (by have hg0 := hg; (try simp at hg); exact op_lss evG evG)) ?_)
  refine JL_1 rfl (op_and (Ev.rfl' rfl) rfl (fun h => by exact SubL.iteT (by (rw [h]; rfl)) SubL.rfl')) ?_
  refine JL_1 rfl (op_move rfl) ?_
  (refine JL_i0 rfl rfl rfl (fun hg => (by have hg0 := hg; (try simp at hg); exact op_moveE (Ev.rfl' rfl))) ?_)
  (refine JL_i0 rfl rfl rfl (fun hg => (by have hg0 := hg; (try simp at hg); exact op_geq evG evG)) ?_)
  refine JL_1 rfl (op_and (Ev.rfl' rfl) rfl (fun h => by exact SubL.iteT (by (rw [h]; rfl)) SubL.rfl')) ?_
  refine JL_1 rfl (op_move rfl) ?_
  (refine JL_i0 rfl rfl rfl (fun hg => (by have hg0 := hg; (try simp at hg); exact op_fieldPtr (k := 0) evG rfl rfl rfl rfl)) ?_)
  (refine JL_i0 rfl rfl rfl (fun hg => (by have hg0 := hg; (try simp at hg); exact op_loadPtr evG memT (by rfl) (by rfl) (by rfl))) ?_)
  (refine JL_i0 rfl rfl rfl (fun hg => (by have hg0 := hg; (try simp at hg); exact op_eql evG evG)) ?_)
  (refine JL_i0 rfl rfl rfl (fun hg => (by have hg0 := hg; (try simp at hg); exact op_moveE (Ev.sub rfl (SubL.iteT (by assumption) SubL.rfl')))) ?_)
  (refine JL_i rfl rfl rfl (fun hp hg => (by have hpg := Bool.and_eq_true_iff.2 ⟨hp, hg⟩; have hg0 := hg; (try simp at hg); exact op_moveE (Ev.rfl' rfl))) ?_)
  (refine JL_i rfl rfl rfl (fun hp hg => (by have hpg := Bool.and_eq_true_iff.2 ⟨hp, hg⟩; have hg0 := hg; (try simp at hg); exact op_leq evG evG)) ?_)
  (refine JL_i0 rfl rfl rfl (fun hg => (by have hg0 := hg; (try simp at hg); exact op_and evG rfl (fun h => by exact SubL.iteT (by (simp_all; done)) SubL.rfl'))) ?_)
  (refine JL_i0 rfl rfl rfl (fun hg => (by have hg0 := hg; (try simp at hg); exact op_moveE (Ev.sub rfl (SubL.iteT (by assumption) SubL.rfl')))) ?_)
  (refine JL_i rfl rfl rfl (fun hp hg => (by have hpg := Bool.and_eq_true_iff.2 ⟨hp, hg⟩; have hg0 := hg; (try simp at hg); exact op_moveE (Ev.rfl' rfl))) ?_)
  (refine JL_i rfl rfl rfl (fun hp hg => (by have hpg := Bool.and_eq_true_iff.2 ⟨hp, hg⟩; have hg0 := hg; (try simp at hg); exact op_gtr evG evG)) ?_)
  (refine JL_i0 rfl rfl rfl (fun hg => (by have hg0 := hg; (try simp at hg); exact op_and evG rfl (fun h => by exact SubL.iteT (by (simp_all; done)) SubL.rfl'))) ?_)
  refine JL_1 rfl (op_or (Ev.rfl' rfl) rfl (fun h => by exact SubL.iteT (by (rw [h]; rfl)) SubL.rfl')) ?_
  refine JL_nil ?_
  refine JQ_then ?_
  refine JC_cond (Ev.rfl' rfl) (fun h9 => ?_) (fun h9 => ?_)
  · refine JC_seq ?_
    refine JC_region ?_
    refine JL_1 rfl (op_assign rfl) ?_
    refine JL_nil ?_
    refine JQ_then (JC_ret (JQ_then_ret ?_))
    exact JQ_ret1 Tryz.results91 rfl () (fun φ u _ h => ⟨⟨2, ⟨fun e => absurd e (by decide), fun g => by have q1 := g.c1; have q2 := g.c2; simp only [Bool.or_eq_true, Bool.and_eq_true, decide_eq_true_eq, bne_iff_ne, beq_iff_eq] at h9; exfalso; omega⟩⟩, h⟩) (List.nil_sublist _)
  refine JC_skip (JQ_then (JC_seq ?_))
  refine JC_region ?_
  refine JL_1 rfl (op_assign rfl) ?_
  refine JL_nil ?_
  refine JQ_then (JC_ret ?_)
  refine JQ_ret1 Tryz.results91 rfl () (fun φ u _ h => ⟨⟨0, ⟨fun _ => ?_, fun _ => rfl⟩⟩, h⟩) (List.nil_sublist _)
  simp only [Bool.or_eq_false_iff, Bool.and_eq_false_iff, decide_eq_false_iff_not, bne_eq_false_iff_eq, beq_eq_false_iff_ne] at h7 h9
  exact ⟨by omega, by omega, by omega, by omega, by omega, ⟨by omega, by omega⟩, by omega, by omega, by omega⟩
def ctlV (v : GVerb) : Bool := decide ((v.at_ + cntV v - 1).tdiv 8 < 3) || v.kind == 1 && (v.at_ + cntV v - 1).tdiv 8 == 3
-- bodegaref4.Control: function 123
theorem ControlR_ok (v : GVerb) (h1 : 0 ≤ v.at_ ∧ v.at_ ≤ 2048) (h2 : 1 ≤ cntV v ∧ cntV v ≤ 1024) : FnP Tryz.prog 123 [IsGVerb v] (Is (.bool (ctlV v))) := by
  have g4 := tdiv8 (n := v.at_ + cntV v - 1) (by omega)
  refine FnP.enter Tryz.func123 Tryz.ntmps123 rfl rfl ?_
  intro c hX
  refine JC_seq ?_
  refine JC_region ?_
  (refine JL_n rfl (op_box (Ev.rfl' rfl) cellsT) ?_; intro i1)
  refine JL_1 rfl (op_assign rfl) ?_
  refine JL_nil ?_
  refine JQ_then (JC_seq ?_)
  refine JC_dr rfl (by kernel_rfl) ?_
  refine JD_stretch 8 (by kernel_rfl) ?_
  refine JW_1 (by exact op_fieldPtr (k := 2) (Ev.rfl' rfl) rfl rfl rfl rfl) ?_
  refine JW_1 (by exact op_loadPtr (Ev.rfl' rfl) memT (by rfl) (by rfl) (by rfl)) ?_
  refine JW_1 (by exact op_loadPtrsN (n := 9) (Ev.rfl' rfl) memT (by rfl) (by rfl) (by rfl) (by rfl) nrmT) ?_
  refine JW_1 (op_call Tryz.call107 (CountR_ok _) ⟨evS, trivial⟩) ?_
  refine JW_1 (op_add (Ev.rfl' rfl) (Ev.rfl' rfl) wrapT) ?_
  refine JW_1 (op_sub (Ev.rfl' rfl) (Ev.rfl' rfl) wrapT) ?_
  refine JW_1 (op_quo (Ev.rfl' rfl) (Ev.rfl' rfl) (by omega) wrapT) ?_
  refine JW_1 (op_assign rfl) ?_
  refine ⟨rfl, ?_⟩
  refine JD_end ?_
  refine JQ_then (JC_seq ?_)
  refine JC_region ?_
  refine JL_1 rfl (op_move rfl) ?_
  refine JL_1 rfl (op_lss (Ev.rfl' rfl) (Ev.rfl' rfl)) ?_
  refine JL_1 rfl (op_move rfl) ?_
  (refine JL_i0 rfl rfl rfl (fun hg => (by have hg0 := hg; (try simp at hg); exact op_fieldPtr (k := 0) evG rfl rfl rfl rfl)) ?_)
  (refine JL_i0 rfl rfl rfl (fun hg => (by have hg0 := hg; (try simp at hg); exact op_loadPtr evG memT (by rfl) (by rfl) (by rfl))) ?_)
  (refine JL_i0 rfl rfl rfl (fun hg => (by have hg0 := hg; (try simp at hg); exact op_eql evG evG)) ?_)
  (refine JL_i0 rfl rfl rfl (fun hg => (by have hg0 := hg; (try simp at hg); exact op_moveE (Ev.sub rfl (SubL.iteT (by assumption) SubL.rfl')))) ?_)
  (refine JL_i rfl rfl rfl (fun hp hg => (by have hpg := Bool.and_eq_true_iff.2 ⟨hp, hg⟩; have hg0 := hg; (try simp at hg); exact op_moveE (Ev.rfl' rfl))) ?_)
  (refine JL_i rfl rfl rfl (fun hp hg => (by have hpg := Bool.and_eq_true_iff.2 ⟨hp, hg⟩; have hg0 := hg; (try simp at hg); exact op_eql evG evG)) ?_)
  (refine JL_i0 rfl rfl rfl (fun hg => (by have hg0 := hg; (try simp at hg); exact op_and evG rfl (fun h => by exact SubL.iteT (by (simp_all; done)) SubL.rfl'))) ?_)
  refine JL_1 rfl (op_or (Ev.rfl' rfl) rfl (fun h => by exact SubL.iteT (by (rw [h]; rfl)) SubL.rfl')) ?_
  refine JL_1 rfl (op_assign rfl) ?_
  refine JL_nil ?_
  refine JQ_then (JC_ret ?_)
  refine JQ_ret1 Tryz.results123 rfl () (SubL.eq ?_) (List.nil_sublist _)
  rfl
-- bodegaref4.Check: function 108
theorem CheckR_ok (v : GVerb) (h1 : 0 ≤ v.at_ ∧ v.at_ ≤ 2048) (h2 : 1 ≤ cntV v ∧ cntV v ≤ 1024) (inc : Int) (door key boot : BitVec 64) : FnP Tryz.prog 108 [IsGVerb v, Is (.int .i64 inc), Is (.int .u64 (UV door)), Is (.int .u64 (UV key)), Is (.int .u64 (UV boot))] (VEx fun z : Int => Is (.int .i64 z)) := by
  refine FnP.enter Tryz.func108 Tryz.ntmps108 rfl rfl ?_
  intro c hX
  refine JC_seq ?_
  refine JC_region ?_
  (refine JL_n rfl (op_box (Ev.rfl' rfl) cellsT) ?_; intro i5)
  refine JL_1 rfl (op_assign rfl) ?_
  refine JL_nil ?_
  refine JQ_then (JC_seq (JC_block (JC_seq ?_)))
  refine JC_region ?_
  refine JL_1 rfl (by exact op_fieldPtr (k := 0) (Ev.rfl' rfl) rfl rfl rfl rfl) ?_
  refine JL_1 rfl (by exact op_loadPtr (Ev.rfl' rfl) memT (by rfl) (by rfl) (by rfl)) ?_
  refine JL_1 rfl (op_eql (Ev.rfl' rfl) (Ev.rfl' rfl)) ?_
  refine JL_1 rfl (op_move rfl) ?_
  (refine JL_i0 rfl rfl rfl (fun hg => (by have hg0 := hg; (try simp at hg); exact op_loadPtrsN (n := 9) evG memT (by rfl) (by rfl) (by rfl) (by rfl) nrmT)) ?_)
  (refine JL_i0 rfl rfl rfl (fun hg => (by have hg0 := hg; (try simp at hg); ((refine op_call Tryz.call123 (ControlR_ok _ ?_ ?_) ⟨evS, trivial⟩); all_goals (assumption)))) ?_)
  refine JL_1 rfl (op_and (Ev.rfl' rfl) rfl (fun h => by exact SubL.iteT (by (rw [h]; rfl)) SubL.rfl')) ?_
  refine JL_1 rfl (op_assign rfl) ?_
  refine JL_nil ?_
  refine JQ_then ?_
  refine JC_cond (Ev.rfl' rfl) (fun h1 => ?_) (fun h1 => ?_)
  · refine JC_seq ?_
    refine JC_region ?_
    refine JL_1 rfl (op_assign rfl) ?_
    refine JL_nil ?_
    refine JQ_then (JC_ret (JQ_block_ret (JQ_then_ret ?_)))
    exact JQ_ret1 Tryz.results108 rfl () (fun φ u _ h => ⟨_, h⟩) (List.nil_sublist _)
  refine JC_seq ?_
  refine JC_region ?_
  refine JL_1 rfl (op_move rfl) ?_
  refine JL_1 rfl (op_lss (Ev.rfl' rfl) (Ev.rfl' rfl)) ?_
  refine JL_1 rfl (op_move rfl) ?_
  (refine JL_i0 rfl rfl rfl (fun hg => (by have hg0 := hg; (try simp at hg); exact op_moveE (Ev.rfl' rfl))) ?_)
  (refine JL_i0 rfl rfl rfl (fun hg => (by have hg0 := hg; (try simp at hg); exact op_conv evG rfl rfl convT)) ?_)
  (refine JL_i0 rfl rfl rfl (fun hg => (by have hg0 := hg; (try simp at hg); exact op_moveE (Ev.rfl' rfl))) ?_)
  (refine JL_i0 rfl rfl rfl (fun hg => (by have hg0 := hg; (try simp at hg); exact op_lss evG evG)) ?_)
  refine JL_1 rfl (op_or (Ev.rfl' rfl) rfl (fun h => by exact SubL.iteT (by (rw [h]; rfl)) SubL.rfl')) ?_
  refine JL_1 rfl (op_assign rfl) ?_
  refine JL_nil ?_
  refine JQ_then ?_
  refine JC_cond (Ev.rfl' rfl) (fun h3 => ?_) (fun h3 => ?_)
  · refine JC_seq ?_
    refine JC_region ?_
    refine JL_1 rfl (op_assign rfl) ?_
    refine JL_nil ?_
    refine JQ_then (JC_ret (JQ_block_ret (JQ_then_ret ?_)))
    exact JQ_ret1 Tryz.results108 rfl () (fun φ u _ h => ⟨_, h⟩) (List.nil_sublist _)
  refine JC_seq ?_
  refine JC_region ?_
  refine JL_1 rfl (by exact op_loadPtrsN (n := 9) (Ev.rfl' rfl) memT (by rfl) (by rfl) (by rfl) (by rfl) nrmT) ?_
  refine JL_1 rfl (by ((refine op_call Tryz.call123 (ControlR_ok _ ?_ ?_) ⟨evS, trivial⟩); all_goals (assumption))) ?_
  refine JL_1 rfl (op_assign rfl) ?_
  refine JL_nil ?_
  refine JQ_then ?_
  refine JC_cond (Ev.rfl' rfl) (fun h5 => ?_) (fun h5 => ?_)
  · refine JC_seq ?_
    refine JC_region ?_
    refine JL_1 rfl (op_assign rfl) ?_
    refine JL_nil ?_
    refine JQ_then (JC_ret (JQ_block_ret (JQ_then_ret ?_)))
    exact JQ_ret1 Tryz.results108 rfl () (fun φ u _ h => ⟨_, h⟩) (List.nil_sublist _)
  refine JC_seq ?_
  refine JC_region ?_
  refine JL_1 rfl (by exact op_fieldPtr (k := 8) (Ev.rfl' rfl) rfl rfl rfl rfl) ?_
  refine JL_1 rfl (by exact op_loadPtr (Ev.rfl' rfl) memT (by rfl) (by rfl) (by rfl)) ?_
  refine JL_1 rfl (op_lss (Ev.rfl' rfl) (Ev.rfl' rfl)) ?_
  refine JL_1 rfl (op_move rfl) ?_
  (refine JL_i0 rfl rfl rfl (fun hg => (by have hg0 := hg; (try simp at hg); exact op_fieldPtr (k := 8) evG rfl rfl rfl rfl)) ?_)
  (refine JL_i0 rfl rfl rfl (fun hg => (by have hg0 := hg; (try simp at hg); exact op_loadPtr evG memT (by rfl) (by rfl) (by rfl))) ?_)
  (refine JL_i0 rfl rfl rfl (fun hg => (by have hg0 := hg; (try simp at hg); exact op_conv evG rfl rfl convT)) ?_)
  (refine JL_i0 rfl rfl rfl (fun hg => (by have hg0 := hg; (try simp at hg); exact op_moveE (Ev.rfl' rfl))) ?_)
  (refine JL_i0 rfl rfl rfl (fun hg => (by have hg0 := hg; (try simp at hg); exact op_neq evG evG)) ?_)
  refine JL_1 rfl (op_or (Ev.rfl' rfl) rfl (fun h => by exact SubL.iteT (by (rw [h]; rfl)) SubL.rfl')) ?_
  refine JL_1 rfl (op_move rfl) ?_
  (refine JL_i0 rfl rfl rfl (fun hg => (by have hg0 := hg; (try simp at hg); exact op_fieldPtr (k := 7) evG rfl rfl rfl rfl)) ?_)
  (refine JL_i0 rfl rfl rfl (fun hg => (by have hg0 := hg; (try simp at hg); exact op_loadPtr evG memT (by rfl) (by rfl) (by rfl))) ?_)
  (refine JL_i0 rfl rfl rfl (fun hg => (by have hg0 := hg; (try simp at hg); exact op_moveE (Ev.rfl' rfl))) ?_)
  (refine JL_i0 rfl rfl rfl (fun hg => (by have hg0 := hg; (try simp at hg); exact op_neq evG evG)) ?_)
  refine JL_1 rfl (op_or (Ev.rfl' rfl) rfl (fun h => by exact SubL.iteT (by (rw [h]; rfl)) SubL.rfl')) ?_
  refine JL_1 rfl (op_assign rfl) ?_
  refine JL_nil ?_
  refine JQ_then ?_
  refine JC_cond (Ev.rfl' rfl) (fun h7 => ?_) (fun h7 => ?_)
  · refine JC_seq ?_
    refine JC_region ?_
    refine JL_1 rfl (op_assign rfl) ?_
    refine JL_nil ?_
    refine JQ_then (JC_ret (JQ_block_ret (JQ_then_ret ?_)))
    exact JQ_ret1 Tryz.results108 rfl () (fun φ u _ h => ⟨_, h⟩) (List.nil_sublist _)
  refine JC_skip (JQ_block (JQ_then (JC_seq ?_)))
  refine JC_region ?_
  refine JL_1 rfl (op_assign rfl) ?_
  refine JL_nil ?_
  refine JQ_then (JC_ret ?_)
  exact JQ_ret1 Tryz.results108 rfl () (fun φ u _ h => ⟨_, h⟩) (List.nil_sublist _)
/-- The pieces of a verb. -/
def pcs : Nat → Int → Int → List Pc
  | 0, _, _ => []
  | f + 1, at_, left => if left ≤ 0 then [] else ⟨at_, if 8 - at_ % 8 < left then 8 - at_ % 8 else left⟩ :: pcs f (at_ + (if 8 - at_ % 8 < left then 8 - at_ % 8 else left)) (left - (if 8 - at_ % 8 < left then 8 - at_ % 8 else left))
def piecesV (v : GVerb) : List Pc := pcs 1024 v.at_ (cntV v)
theorem pcs_in : ∀ (f : Nat) (at_ left : Int) (p : Pc), p ∈ pcs f at_ left → at_ ≤ p.at_ ∧ 1 ≤ p.n ∧ p.at_ + p.n ≤ at_ + left
  | 0, _, _, p, h => by cases h
  | f + 1, at_, left, p, h => by
    unfold pcs at h
    split at h
    · cases h
    · rcases List.mem_cons.1 h with rfl | h
      · dsimp only
        split <;> omega
      · have := pcs_in f _ _ p h
        split at this <;> omega
theorem pcs_pos {f : Nat} {at_ left : Int} (hf : 0 < f) (hl : 0 < left) : 0 < (pcs f at_ left).length := by
  cases f with
  | zero => omega
  | succ f => unfold pcs; rw [if_neg (by omega)]; simp
theorem pcs_len : ∀ (f : Nat) (at_ left : Int), (pcs f at_ left).length ≤ f
  | 0, _, _ => by simp [pcs]
  | f + 1, at_, left => by
    unfold pcs
    split
    · simp
    · have := pcs_len f (at_ + (if 8 - at_ % 8 < left then 8 - at_ % 8 else left)) (left - (if 8 - at_ % 8 < left then 8 - at_ % 8 else left))
      simp only [List.length_cons]; omega
-- bodegaref4.Pieces: function 110
set_option maxHeartbeats 1000000 in
theorem PiecesR_ok (v : GVerb) (h1 : 0 ≤ v.at_ ∧ v.at_ ≤ 2048) (h2 : 1 ≤ cntV v ∧ cntV v ≤ 1024) : FnP Tryz.prog 110 [IsGVerb v] (IsSl tPc (piecesV v)) := by
  refine FnP.enter Tryz.func110 Tryz.ntmps110 rfl rfl ?_
  intro c hX
  refine JC_seq ?_
  refine JC_region ?_
  (refine JL_n rfl (op_box (Ev.rfl' rfl) cellsT) ?_; intro i1)
  refine JL_1 rfl (op_assign rfl) ?_
  refine JL_nil ?_
  refine JQ_then (JC_seq ?_)
  refine JC_region ?_
  refine JL_1 rfl (op_assign rfl) ?_
  refine JL_nil ?_
  refine JQ_then (JC_seq ?_)
  refine JC_dr rfl (by kernel_rfl) ?_
  refine JD_stretch 6 (by kernel_rfl) ?_
  refine JW_1 (by exact op_fieldPtr (k := 2) (Ev.rfl' rfl) rfl rfl rfl rfl) ?_
  refine JW_1 (by exact op_loadPtr (Ev.rfl' rfl) memT (by rfl) (by rfl) (by rfl)) ?_
  refine JW_1 (by exact op_loadPtrsN (n := 9) (Ev.rfl' rfl) memT (by rfl) (by rfl) (by rfl) (by rfl) nrmT) ?_
  refine JW_1 (op_call Tryz.call107 (CountR_ok _) ⟨evS, trivial⟩) ?_
  refine JW_1 (op_assign rfl) ?_
  refine JW_1 (op_assign rfl) ?_
  refine ⟨rfl, ?_⟩
  refine JD_end ?_
  refine JQ_then (JC_seq (JC_block ?_))
  refine JC_buf0 197 tPc ?_
  refine JC_loopP (fun z : List Pc × Int × Int × Nat × (Option Addr × Nat) => (z.1 ++ pcs z.2.2.2.1 z.2.1 z.2.2.1 = piecesV v ∧ z.1.length + z.2.2.2.1 = 1024) ∧ (0 ≤ z.2.1 ∧ z.2.1 + z.2.2.1 ≤ 4096) ∧ 0 ≤ z.2.2.1 ∧ z.2.2.1 ≤ (z.2.2.2.1 : Nat)) (fun z => [(3, Is (slV z.1.length z.2.2.2.2)), (4, Is (.int .i64 z.2.1)), (5, Is (.int .i64 z.2.2.1))]) (fun z => [buf (slV z.1.length z.2.2.2.2) 197 tPc z.1]) (fun z => z.2.2.2.1) ([], v.at_, cntV v, 1024, (none, 0)) ⟨⟨rfl, rfl⟩, by dsimp only; omega, by dsimp only; omega, by dsimp only; omega⟩ esubT lessT ?_
  rintro ⟨ls, at_, left, f, s⟩ ⟨⟨e1, e2⟩, e3, e4, e5⟩
  dsimp only at e1 e2 e3 e4 e5 ⊢
  refine JC_seq (JC_seq ?_)
  refine JC_region ?_
  refine JL_1 rfl (op_move rfl) ?_
  refine JL_1 rfl (op_gtr (Ev.rfl' rfl) (Ev.rfl' rfl)) ?_
  refine JL_nil ?_
  refine JQ_then ?_
  refine JC_cond (Ev.rfl' rfl) (fun h3 => ?_) (fun h3 => ?_)
  · have hlt : 0 < left := of_decide_eq_true h3
    clear h3
    obtain ⟨f', rfl⟩ : ∃ f', f = f' + 1 := ⟨f - 1, by omega⟩
    have hm : at_.tmod 8 = at_ % 8 := Int.tmod_eq_emod_of_nonneg (by omega)
    unfold pcs at e1
    rw [if_neg (by omega)] at e1
    refine JC_skip (JQ_then (JC_block (JC_seq ?_)))
    refine JC_region ?_
    refine JL_1 rfl (op_move rfl) ?_
    refine JL_1 rfl (op_move rfl) ?_
    refine JL_1 rfl (op_rem (Ev.rfl' rfl) (Ev.rfl' rfl) (by omega) rfl) ?_
    refine JL_set 15 (Is (.int .i64 (at_ % 8))) rfl (SubL.eq (by rw [hm])) ?_
    refine JL_1 rfl (op_sub (Ev.rfl' rfl) (Ev.rfl' rfl) wrapT) ?_
    refine JL_1 rfl (op_min (Ev.rfl' rfl) (Ev.rfl' rfl)) ?_
    refine JL_1 rfl (op_assign rfl) ?_
    refine JL_nil ?_
    refine JQ_then (JC_seq ?_)
    obtain ⟨n, hn⟩ : ∃ n : Int, n = (if 8 - at_ % 8 < left then 8 - at_ % 8 else left) := ⟨_, rfl⟩
    rw [← hn] at e1 ⊢
    have hn1 : 1 ≤ n ∧ n ≤ left := by rw [hn]; split <;> omega
    clear hn
    refine JC_region ?_
    refine JL_1 rfl (op_move rfl) ?_
    refine JL_1 rfl (op_move rfl) ?_
    refine JL_1 rfl (op_move rfl) ?_
    refine JL_1 rfl (op_buildN (qs := [(0, _), (1, _)]) rfl rfl rfl rfl ⟨⟨rfl, _, (Ev.rfl' rfl), cellsT⟩, ⟨⟨rfl, _, (Ev.rfl' rfl), cellsT⟩, trivial⟩⟩ (by rfl) nrmT) ?_
    refine JL_1 rfl (op_buildSlice (size := 2) (qs := [(0, _)]) rfl rfl rfl ⟨⟨rfl, _, (Ev.rfl' rfl), cellsT⟩, trivial⟩ (by rfl) (by rfl)) ?_
    (refine JL_s rfl (op_app (Ev.rfl' rfl) (fun _ => replT) (by exact Ev.sub rfl (by exact SubL.row (xs := [(⟨at_, n⟩ : Pc)]) (by rfl) (by rfl) subsT)) (by exact appT rfl rfl rfl) lenT) ?_; intro i23)
    refine JL_1 rfl (op_assign rfl) ?_
    refine JL_nil ?_
    refine JQ_then ?_
    refine JC_region ?_
    refine JL_1 rfl (op_move rfl) ?_
    refine JL_1 rfl (op_move rfl) ?_
    refine JL_1 rfl (op_add (Ev.rfl' rfl) (Ev.rfl' rfl) wrapT) ?_
    refine JL_1 rfl (op_move rfl) ?_
    refine JL_1 rfl (op_move rfl) ?_
    refine JL_1 rfl (op_sub (Ev.rfl' rfl) (Ev.rfl' rfl) wrapT) ?_
    refine JL_1 rfl (op_assign rfl) ?_
    refine JL_1 rfl (op_assign rfl) ?_
    refine JL_nil ?_
    refine JQ_block ?_
    exact JQ_roundP (ls ++ [⟨at_, n⟩], at_ + n, left - n, f', i23) ⟨⟨by rw [List.append_assoc]; exact e1, by simp; omega⟩, by dsimp only; omega, by dsimp only; omega, by dsimp only; omega⟩ (Nat.lt_succ_self _) esubT lessT
  have hle : left = 0 := by have := of_decide_eq_false h3; omega
  subst hle
  clear h3
  have he : pcs f at_ 0 = [] := by cases f <;> simp [pcs]
  rw [he, List.append_nil] at e1
  subst e1
  refine JC_exit (JQ_then_exit (JQ_then_exit (JQ_hit (JQ_then (JC_seq ?_)))))
  refine JC_region ?_
  refine JL_1 rfl (op_move rfl) ?_
  refine JL_1 rfl (op_assign rfl) ?_
  refine JL_nil ?_
  refine JQ_then (JC_ret ?_)
  refine JQ_freeze hX replT ?_
  exact JQ_ret1 Tryz.results110 rfl () (by exact subT) (List.nil_sublist _)
end Go.Proofs.YtfglhiciagmicaaGreat

/- A new fabric of one client, formatted. Own work. -/
namespace Go.Proofs.YtfglhiciagmicaaGreat
open Go.RowKit
set_option linter.unusedVariables false
set_option linter.unusedSimpArgs false
set_option maxRecDepth 100000
@[reducible] def wbF (d : FN) : Item := wb 83 784 d.w
def cn0 : Cn := ⟨true, 1, false, .slice none 0 0, .slice none 0 0, 0, 0⟩
/-- A node whose words are perhaps not one's own yet. -/
abbrev FO := Option (Option Addr × Nat) × Bool
def tFO : Ty FO := ⟨2, fun a => [match a.1 with | some w => Is (slV 784 w) | none => Top, Is (.bool a.2)], fun _ => rfl⟩
/-- The fabric of the laws: one client; of the nodes' words nothing is known. -/
@[reducible] def fabL (f n : Nat) (nb cb lb pb : Option Addr × Nat) (nds : List FN) (cn : Cn) (prs : List Pr) : List Item :=
  blk f 166 [Is (.int .i64 98), Is (slV n nb), Is (slV 1 cb), Is (slV 1 lb), Is (slV 0 (none, 0))] :: buf (slV n nb) 177 tFN nds :: buf (slV 1 cb) 160 tCn [cn] :: buf (slV 1 lb) 164 tVal [slV n pb] :: buf (slV n pb) 170 tPr prs :: nds.map wbF
theorem Fn.drop {P : Program} {f : FuncId} {As : List VP} {ι : Type} {R : ι → VP} {L' : ι → List Item} {B : VP} (h : Fn P f As [] R L') (hs : ∀ i φ v, (R i).ok φ v → B.ok φ v) : FnP P f As B := fun φ w vs ha hm =>
  (h φ w vs ha hm).mono fun e w' ⟨i, v, φ', h1, h2, h3⟩ => ⟨(), v, φ', h1, hs i _ _ h2, h3.less (List.nil_sublist _)⟩
theorem NewNodeP_ok : FnP Tryz.prog 95 [Is (.int .i64 98)] (IsAgg [Top, Is (.bool true)]) := NewNode_ok.drop fun i φ v ⟨us, h1, h2, h3⟩ => by
  match us, h2 with
  | [u1, u2], ⟨_, g2, _⟩ => exact ⟨[u1, u2], h1, ⟨trivial, g2, trivial⟩, h3⟩
  | [], h => exact h.elim
  | [_], h => exact h.2.elim
  | _ :: _ :: _ :: _, h => exact h.2.2.elim
structure FI where
  f : Nat
  nb : Option Addr × Nat
  cb : Option Addr × Nat
  lb : Option Addr × Nat
  pb : Option Addr × Nat
def nones (k : Nat) : List FO := List.replicate k (none, true)
theorem nones_len (k : Nat) : (nones k).length = k := by simp [nones]
theorem nones_snoc (k : Nat) : nones k ++ [(none, true)] = nones (k + 1) := by unfold nones; rw [List.replicate_succ']
-- bodegaref6.New: function 80
set_option maxHeartbeats 1000000 in
theorem New_ok (n : Nat) (hn : n ≤ 5) : Fn Tryz.prog 80 [Is (.int .i64 (n : Nat)), Is (.int .i64 1), Is (.int .i64 98)] []
    (fun z : FI => Is (.pointer (some ⟨z.f, 0, none⟩)))
    (fun z => [blk z.f 166 [Is (.int .i64 98), Is (slV n z.nb), Is (slV 1 z.cb), Is (slV 1 z.lb), Is (slV 0 (none, 0))], buf (slV n z.nb) 177 tFO (nones n), buf (slV 1 z.cb) 160 tCn [cn0], buf (slV 1 z.lb) 164 tVal [slV n z.pb], buf (slV n z.pb) 170 tPr (pairsV 1 n)]) := by
  refine Fn.enterN Tryz.func80 Tryz.ntmps80 rfl rfl ?_
  intro c hX
  refine JC_seq ?_
  refine JC_region ?_
  refine JL_1 rfl (op_assign rfl) ?_
  refine JL_nil ?_
  refine JQ_then (JC_seq ?_)
  refine JC_region ?_
  refine JL_1 rfl (op_move rfl) ?_
  refine JL_1 rfl (op_buildN (qs := [(0, _)]) rfl rfl rfl rfl ⟨⟨rfl, _, (Ev.rfl' rfl), cellsT⟩, trivial⟩ (by rfl) nrmT) ?_
  (refine JL_n rfl (op_box (Ev.rfl' rfl) cellsT) ?_; intro i12)
  refine JL_1 rfl (op_assign rfl) ?_
  refine JL_nil ?_
  refine JQ_then (JC_seq (JC_seq ?_))
  refine JC_buf0 177 tFO ?_
  refine JC_region ?_
  refine JL_1 rfl (op_assign rfl) ?_
  refine JL_nil ?_
  refine JQ_then (JC_block ?_)
  refine JC_loopP (fun z : Nat × (Option Addr × Nat) => z.1 ≤ n) (fun z => [(0, Is (.int .i64 (n : Nat))), (1, Is (.int .i64 1)), (2, Is (.int .i64 98)), (7, Is (.pointer (some ⟨i12, 0, none⟩))), (8, Is (.int .i64 (z.1 : Nat)))]) (fun z => [blk i12 166 [Is (.int .i64 98), Is (slV (nones z.1).length z.2), Is (.slice none 0 0), Is (.slice none 0 0), Is (.slice none 0 0)], buf (slV (nones z.1).length z.2) 177 tFO (nones z.1)]) (fun z => n - z.1) (0, (none, 0)) (Nat.zero_le _) esubT lessT ?_
  rintro ⟨k, s⟩ hk
  dsimp only at hk ⊢
  have hkl := nones_len k
  refine JC_seq (JC_seq ?_)
  refine JC_region ?_
  refine JL_1 rfl (op_move rfl) ?_
  refine JL_1 rfl (op_move rfl) ?_
  refine JL_1 rfl (op_lss (Ev.rfl' rfl) (Ev.rfl' rfl)) ?_
  refine JL_nil ?_
  refine JQ_then ?_
  refine JC_cond (Ev.rfl' rfl) (fun h3 => ?_) (fun h3 => ?_)
  · have hlt : k < n := by have := of_decide_eq_true h3; omega
    clear h3
    refine JC_skip (JQ_then (JC_seq (JC_block ?_)))
    refine JC_dr rfl (by kernel_rfl) ?_
    refine JD_front (it := buf _ _ _ _) (by repeat (first | exact Drop1.here _ _ | apply Drop1.next)) ?_
    refine JD_stretchG (its := [_]) 11 (by kernel_rfl) ?_
    refine JW_1 (op_move rfl) ?_
    refine JW_1 (op_move rfl) ?_
    refine JW_1 (by exact op_nilCheck (Ev.rfl' rfl)) ?_
    refine JW_1 (by exact op_fieldPtr (k := 1) (Ev.rfl' rfl) rfl rfl rfl rfl) ?_
    refine JW_1 (by exact op_loadPtr (Ev.rfl' rfl) memT (by rfl) (by rfl) (by rfl)) ?_
    refine JW_1 (op_move rfl) ?_
    refine JW_1 (op_call Tryz.call95 (NewNodeP_ok) ⟨evS, trivial⟩) ?_
    refine JW_1 (op_buildSlice (size := 2) (qs := [(0, _)]) rfl rfl rfl ⟨⟨rfl, _, (Ev.rfl' rfl), cellsT⟩, trivial⟩ (by rfl) (by rfl)) ?_
    refine JW_ghostA (s := 57) rfl rfl rfl rfl (by kernel_rfl) (op_appG (Ev.rfl' rfl) (by exact Ev.sub rfl (by exact SubL.row (xs := [((none, true) : FO)]) (by rfl) (by rfl) subsT)) (by exact appT rfl rfl rfl) lenT) ?_
    refine JW_1 (by exact op_nilCheck (Ev.rfl' rfl)) ?_
    refine JW_1 (by exact op_fieldPtr (k := 1) (Ev.rfl' rfl) rfl rfl rfl rfl) ?_
    refine ⟨rfl, ?_⟩
    intro i26
    refine JD_s0 (by kernel_rfl) rfl (op_storeN (Ev.rfl' rfl) (Ev.rfl' rfl) cellsT replT nrmT (by rfl) (by rfl) (by rfl)) ?_
    refine JD_end ?_
    refine JQ_block (JQ_then ?_)
    refine JC_region ?_
    refine JL_1 rfl (op_move rfl) ?_
    refine JL_1 rfl (op_add (Ev.rfl' rfl) (Ev.rfl' rfl) wrapT) ?_
    refine JL_1 rfl (op_assign rfl) ?_
    refine JL_nil ?_
    rw [nones_snoc]
    exact JQ_roundP (k + 1, i26) (by dsimp only; omega) (by dsimp only; omega) esubT lessT
  have hke : k = n := by have := of_decide_eq_false h3; omega
  clear h3
  subst hke
  rw [hkl]
  refine JC_buf0 160 tCn ?_
  refine JC_buf0 164 tVal ?_
  refine JC_exit (JQ_then_exit (JQ_then_exit (JQ_hit (JQ_then (JC_seq (JC_seq ?_))))))
  refine JC_region ?_
  refine JL_1 rfl (op_assign rfl) ?_
  refine JL_nil ?_
  refine JQ_then (JC_block ?_)
  refine JC_loopP (fun z : List (Option Addr × Nat) × (Option Addr × Nat) × (Option Addr × Nat) => z.1.length ≤ 1) (fun z => [(1, Is (.int .i64 1)), (7, Is (.pointer (some ⟨i12, 0, none⟩))), (9, Is (.int .i64 (z.1.length : Nat)))]) (fun z => blk i12 166 [Is (.int .i64 98), Is (slV k s), Is (slV z.1.length z.2.1), Is (slV z.1.length z.2.2), Is (.slice none 0 0)] :: buf (slV k s) 177 tFO (nones k) :: buf (slV z.1.length z.2.1) 160 tCn (z.1.map fun _ => cn0) :: buf (slV z.1.length z.2.2) 164 tVal (z.1.map (slV k)) :: z.1.map fun p => buf (slV k p) 170 tPr (pairsV 1 k)) (fun z => 1 - z.1.length) ([], (none, 0), (none, 0)) (Nat.zero_le _) esubT lessT ?_
  rintro ⟨ps, cb, lb⟩ hp
  dsimp only at hp ⊢
  refine JC_seq (JC_seq ?_)
  refine JC_region ?_
  refine JL_1 rfl (op_move rfl) ?_
  refine JL_1 rfl (op_move rfl) ?_
  refine JL_1 rfl (op_lss (Ev.rfl' rfl) (Ev.rfl' rfl)) ?_
  refine JL_nil ?_
  refine JQ_then ?_
  refine JC_cond (Ev.rfl' rfl) (fun h7 => ?_) (fun h7 => ?_)
  · obtain rfl : ps = [] := List.eq_nil_of_length_eq_zero (by have := of_decide_eq_true h7; omega)
    clear h7
    refine JC_skip (JQ_then (JC_seq (JC_block (JC_seq ?_))))
    refine JC_region ?_
    refine JL_1 rfl (op_move rfl) ?_
    refine JL_1 rfl (op_move rfl) ?_
    refine JL_1 rfl (by exact op_nilCheck (Ev.rfl' rfl)) ?_
    refine JL_1 rfl (by exact op_fieldPtr (k := 2) (Ev.rfl' rfl) rfl rfl rfl rfl) ?_
    refine JL_1 rfl (by exact op_loadPtr (Ev.rfl' rfl) memT (by rfl) (by rfl) (by rfl)) ?_
    refine JL_1 rfl (op_buildN (qs := [(0, _), (1, _)]) rfl rfl rfl rfl ⟨⟨rfl, _, (Ev.rfl' rfl), cellsT⟩, ⟨⟨rfl, _, (Ev.rfl' rfl), cellsT⟩, trivial⟩⟩ (by rfl) nrmT) ?_
    refine JL_1 rfl (op_buildSlice (size := 7) (qs := [(0, _)]) rfl rfl rfl ⟨⟨rfl, _, (Ev.rfl' rfl), cellsT⟩, trivial⟩ (by rfl) (by rfl)) ?_
    (refine JL_s rfl (op_app (Ev.rfl' rfl) (fun _ => replT) (by exact Ev.sub rfl (by exact SubL.row (xs := [cn0]) (by rfl) (by rfl) subsT)) (by exact appT rfl rfl rfl) lenT) ?_; intro i41)
    refine JL_1 rfl (by exact op_nilCheck (Ev.rfl' rfl)) ?_
    refine JL_1 rfl (by exact op_fieldPtr (k := 2) (Ev.rfl' rfl) rfl rfl rfl rfl) ?_
    refine JL_s0 (op_storeN (Ev.rfl' rfl) (Ev.rfl' rfl) cellsT replT nrmT (by rfl) (by rfl) (by rfl)) ?_
    refine JL_nil ?_
    refine JQ_then (JC_seq ?_)
    refine JC_region ?_
    refine JL_1 rfl (op_move rfl) ?_
    refine JL_1 rfl (op_move rfl) ?_
    refine JL_1 rfl (by exact op_nilCheck (Ev.rfl' rfl)) ?_
    refine JL_1 rfl (by exact op_fieldPtr (k := 3) (Ev.rfl' rfl) rfl rfl rfl rfl) ?_
    refine JL_1 rfl (by exact op_loadPtr (Ev.rfl' rfl) memT (by rfl) (by rfl) (by rfl)) ?_
    refine JL_1 rfl (op_buildSlice (size := 1) (qs := [(0, _)]) rfl rfl rfl ⟨⟨rfl, _, (Ev.rfl' rfl), cellsT⟩, trivial⟩ (by rfl) (by rfl)) ?_
    (refine JL_s rfl (op_app (Ev.rfl' rfl) (fun _ => replT) (by exact Ev.sub rfl (by exact SubL.row (xs := [(Value.slice none 0 0)]) (by rfl) (by rfl) subsT)) (by exact appT rfl rfl rfl) lenT) ?_; intro i50)
    refine JL_1 rfl (by exact op_nilCheck (Ev.rfl' rfl)) ?_
    refine JL_1 rfl (by exact op_fieldPtr (k := 3) (Ev.rfl' rfl) rfl rfl rfl rfl) ?_
    refine JL_s0 (op_storeN (Ev.rfl' rfl) (Ev.rfl' rfl) cellsT replT nrmT (by rfl) (by rfl) (by rfl)) ?_
    refine JL_nil ?_
    refine JQ_then ?_
    simp only [List.map_nil, List.nil_append, List.length_singleton]
    refine JC_region ?_
    refine JL_1 rfl (op_move rfl) ?_
    refine JL_1 rfl (op_move rfl) ?_
    (refine JL_s rfl (op_callM (Drops.cons drop1A (Drops.cons drop1A (Drops.cons drop1A (Drops.nil _)))) Tryz.call96 (renewF_ok _ k hn _ _ _ _ _) ⟨evS, ⟨evS, trivial⟩⟩) ?_; intro i55)
    refine JL_nil ?_
    refine JQ_block (JQ_then ?_)
    refine JC_region ?_
    refine JL_1 rfl (op_move rfl) ?_
    refine JL_1 rfl (op_add (Ev.rfl' rfl) (Ev.rfl' rfl) wrapT) ?_
    refine JL_1 rfl (op_assign rfl) ?_
    refine JL_nil ?_
    exact JQ_roundP ([i55], i41, i50) (by simp) (by simp) esubT lessT
  obtain ⟨p, rfl⟩ : ∃ p, ps = [p] := by
    have := of_decide_eq_false h7
    match ps, hp, this with
    | [p], _, _ => exact ⟨p, rfl⟩
    | [], _, h => exact absurd h (by decide)
    | _ :: _ :: _, h, _ => simp at h
  clear h7
  refine JC_exit (JQ_then_exit (JQ_then_exit (JQ_hit (JQ_then (JC_seq ?_)))))
  refine JC_region ?_
  refine JL_1 rfl (op_move rfl) ?_
  refine JL_1 rfl (op_assign rfl) ?_
  refine JL_nil ?_
  refine JQ_then (JC_ret ?_)
  exact JQ_retP (Bs := [Is (.pointer (some ⟨i12, 0, none⟩))]) Tryz.results80 ⟨⟨_, rfl, subT⟩, trivial⟩ ⟨i12, s, cb, lb, p⟩ SubL.rfl' lessT
end Go.Proofs.YtfglhiciagmicaaGreat

/- A fabric is formatted. Own work. -/
namespace Go.Proofs.YtfglhiciagmicaaGreat
open Go.RowKit
set_option linter.unusedVariables false
set_option linter.unusedSimpArgs false
set_option maxRecDepth 100000
theorem HP.tellAs {c : Ctx} {φ : Fz} {L L' : List Item} {w : World} {it it' : Item} (h : HP c φ L w) (hr : Repl L it it' L') (ha : it'.at_ = it.at_) (hk : ∀ φ o, it.ok φ o → it'.ok φ o) : HP c φ L' w := by
  obtain ⟨k, h2⟩ := h.mem.items _ hr.mem
  refine h.upd hr (Kpt.refl _ _) ⟨?_, fun b hb => h2 b (by rw [← ha]; exact hb)⟩ fun b hb => .inr (by rw [← ha]; exact hb)
  rw [ha]; exact hk _ _ k
section
variable {P : Program} {c : Ctx} {N : Nat} {E : Env} {L : List Item} {Q : Exit → Act → World → Prop}
theorem JQ_tellAs {ex : Exit} {L' : List Item} {it it' : Item} (hr : Repl L it it' L') (ha : it'.at_ = it.at_) (hk : ∀ φ o, it.ok φ o → it'.ok φ o) (h : JQ c N E L' Q ex) : JQ c N E L Q ex := fun φ a w st =>
  h φ a w ⟨st.defers, st.size, st.env, st.mem.tellAs hr ha hk⟩
end
theorem buf_as {α β : Type} {T : Ty α} {U : Ty β} {v : Value} {e : TypeId} {xs : List α} {ys : List β} (hs : T.size = U.size) (hl : xs.length = ys.length) (hc : xs.flatMap T.cells = ys.flatMap U.cells) {φ : Fz} {o : Option Obj} (h : (buf v e T xs).ok φ o) : (buf v e U ys).ok φ o := by
  obtain ⟨flat, h0, h1, h2, h3⟩ := h
  exact ⟨flat, by rw [h0, hl, hs], by rw [← hc]; exact h1, h2, by rw [← hs, ← hl]; exact h3⟩
abbrev WA := Option Addr × Nat
def upO (ws : List WA) : List FO := ws.map fun a => (some a, true)
def upN (ws : List WA) : List FN := ws.map fun a => ⟨a, true⟩
theorem upN_len (ws : List WA) : (upN ws).length = ws.length := by simp [upN]
theorem upO_cells : ∀ ws : List WA, (upO ws).flatMap tFO.cells = (upN ws).flatMap tFN.cells
  | [] => rfl
  | w :: ws => by
    have := upO_cells ws
    simp only [upO, upN, List.map_cons, List.flatMap_cons] at this ⊢
    rw [this]; rfl
def part (n : Nat) (ws : List WA) : List FO := upO ws ++ nones (n - ws.length)
theorem part_len {n : Nat} {ws : List WA} (h : ws.length ≤ n) : (part n ws).length = n := by simp [part, upO, nones]; omega
theorem part_get {n : Nat} {ws : List WA} (h : ws.length < n) : (part n ws)[ws.length]? = some (none, true) := by
  unfold part
  rw [List.getElem?_append_right (by simp [upO])]
  simp only [upO, List.length_map, Nat.sub_self, nones]
  rw [List.getElem?_replicate]
  exact if_pos (by omega)
theorem part_set {n : Nat} {ws : List WA} {a : WA} (h : ws.length < n) : (part n ws).set ws.length (some a, true) = part n (ws ++ [a]) := by
  unfold part
  rw [List.set_append_right _ _ (by simp [upO])]
  simp only [upO, List.length_map, Nat.sub_self, nones, List.map_append, List.map_cons, List.map_nil, List.length_append, List.length_singleton, List.append_assoc]
  congr 1
  obtain ⟨m, hm⟩ : ∃ m, n - ws.length = m + 1 := ⟨n - ws.length - 1, by omega⟩
  rw [hm, show n - (ws.length + 1) = m by omega, List.replicate_succ]
  rfl
theorem upN_map (ws : List WA) : (upN ws).map wbF = ws.map (wb 83 784) := by simp [upN, wbF]
theorem sub_snoc {β : Type} {f : β → Item} {a : β} : ∀ {l : List β}, SubP ((l ++ [a]).map f) (f a :: l.map f)
  | [] => SubP.refl' _
  | x :: l => by
    rw [List.cons_append, List.map_cons, List.map_cons]
    exact SubP.cons (Drop1.next _ (Drop1.here _ _)) sub_snoc
theorem FormattedW_ok (n : Int) : Fn Tryz.prog 97 [Is (.int .i64 n), Is (.int .i64 98)] [] (fun a : Option Addr × Nat => Is (slV 784 a)) (fun a => [wb 83 784 a]) := (Formatted_ok n).toW
-- (*bodegaref6.Fabric).Format: function 81
set_option maxHeartbeats 1000000 in
theorem Format_ok (f n : Nat) (hn : n ≤ 5) (nb cb lb pb : WA) (prs : List Pr) : Fn Tryz.prog 81 [Is (.pointer (some ⟨f, 0, none⟩))] [blk f 166 [Is (.int .i64 98), Is (slV n nb), Is (slV 1 cb), Is (slV 1 lb), Is (slV 0 (none, 0))], buf (slV n nb) 177 tFO (nones n), buf (slV 1 cb) 160 tCn [cn0], buf (slV 1 lb) 164 tVal [slV n pb], buf (slV n pb) 170 tPr prs]
    (fun _ : {ws : List WA // ws.length = n} => IsTup []) (fun ws => fabL f n nb cb lb pb (upN ws.1) cn0 prs) := by
  refine Fn.enterN Tryz.func81 Tryz.ntmps81 rfl rfl ?_
  intro c hX
  refine JC_seq ?_
  refine JC_region ?_
  refine JL_1 rfl (op_assign rfl) ?_
  refine JL_nil ?_
  refine JQ_then (JC_block ?_)
  refine JC_loopP (fun ws : List WA => ws.length ≤ n) (fun ws => [(0, Is (.pointer (some ⟨f, 0, none⟩))), (2, Is (.int .i64 (ws.length : Nat)))]) (fun ws => blk f 166 [Is (.int .i64 98), Is (slV n nb), Is (slV 1 cb), Is (slV 1 lb), Is (slV 0 (none, 0))] :: buf (slV n nb) 177 tFO (part n ws) :: buf (slV 1 cb) 160 tCn [cn0] :: buf (slV 1 lb) 164 tVal [slV n pb] :: buf (slV n pb) 170 tPr prs :: ws.map (wb 83 784)) (fun ws => n - ws.length) [] (Nat.zero_le _) esubT lessT ?_
  intro ws hk
  have hkl := part_len hk
  refine JC_seq (JC_seq ?_)
  refine JC_region ?_
  refine JL_1 rfl (op_move rfl) ?_
  refine JL_1 rfl (op_move rfl) ?_
  refine JL_1 rfl (by exact op_nilCheck (Ev.rfl' rfl)) ?_
  refine JL_1 rfl (by exact op_fieldPtr (k := 1) (Ev.rfl' rfl) rfl rfl rfl rfl) ?_
  refine JL_1 rfl (by exact op_loadPtr (Ev.rfl' rfl) memT (by rfl) (by rfl) (by rfl)) ?_
  refine JL_1 rfl (by exact op_lenLit (Ev.rfl' rfl) rfl) ?_
  refine JL_1 rfl (op_lss (Ev.rfl' rfl) (Ev.rfl' rfl)) ?_
  refine JL_nil ?_
  refine JQ_then ?_
  refine JC_cond (Ev.rfl' rfl) (fun h1 => ?_) (fun h1 => ?_)
  · have hlt : ws.length < n := by have := of_decide_eq_true h1; omega
    clear h1
    have hz := part_get hlt
    refine JC_skip (JQ_then (JC_seq (JC_block ?_)))
    refine JC_dr rfl (by kernel_rfl) ?_
    refine JD_stretch 17 (by kernel_rfl) ?_
    refine JW_1 (op_move rfl) ?_
    refine JW_1 (by exact op_nilCheck (Ev.rfl' rfl)) ?_
    refine JW_1 (by exact op_fieldPtr (k := 1) (Ev.rfl' rfl) rfl rfl rfl rfl) ?_
    refine JW_1 (by exact op_loadPtr (Ev.rfl' rfl) memT (by rfl) (by rfl) (by rfl)) ?_
    refine JW_1 (op_move rfl) ?_
    refine JW_1 (op_move rfl) ?_
    refine JW_1 (by exact op_nilCheck (Ev.rfl' rfl)) ?_
    refine JW_1 (by exact op_fieldPtr (k := 1) (Ev.rfl' rfl) rfl rfl rfl rfl) ?_
    refine JW_1 (by exact op_loadPtr (Ev.rfl' rfl) memT (by rfl) (by rfl) (by rfl)) ?_
    refine JW_1 (by exact op_lenLit (Ev.rfl' rfl) rfl) ?_
    refine JW_1 (op_move rfl) ?_
    refine JW_1 (by exact op_nilCheck (Ev.rfl' rfl)) ?_
    refine JW_1 (by exact op_fieldPtr (k := 0) (Ev.rfl' rfl) rfl rfl rfl rfl) ?_
    refine JW_1 (by exact op_loadPtr (Ev.rfl' rfl) memT (by rfl) (by rfl) (by rfl)) ?_
    refine JW_n (op_callO Tryz.call97 (FormattedW_ok _) ⟨evS, ⟨evS, trivial⟩⟩) ?_
    refine JW_1 (by exact op_indexBuf (k := ws.length) (Ev.rfl' rfl) memT (Ev.rfl' rfl) rfl rfl idxT lenT) ?_
    refine JW_1 (by exact op_fieldBuf (k := 0) (Ev.rfl' rfl) memT lenT rfl rfl rfl rfl) ?_
    refine ⟨rfl, ?_⟩
    intro i26
    refine JD_s0 (by kernel_rfl) rfl (by exact op_storeBuf (z' := (some i26, true)) (Ev.rfl' rfl) (Ev.rfl' rfl) cellsT replT hz rfl (by rfl) (by rfl)) ?_
    refine JD_end ?_
    refine JQ_block (JQ_then ?_)
    refine JC_region ?_
    refine JL_1 rfl (op_move rfl) ?_
    refine JL_1 rfl (op_add (Ev.rfl' rfl) (Ev.rfl' rfl) wrapT) ?_
    refine JL_1 rfl (op_assign rfl) ?_
    refine JL_nil ?_
    rw [part_set hlt]
    refine JQ_roundP (ws ++ [i26]) (by simp; omega) (by simp; omega) (by simp; exact esubT) ?_
    iterate 5 (refine SubP.cons (by repeat (first | exact Drop1.here _ _ | apply Drop1.next)) ?_)
    exact sub_snoc
  have hke : ws.length = n := by have := of_decide_eq_false h1; omega
  clear h1
  have hp : part n ws = upO ws := by unfold part; rw [hke, Nat.sub_self]; simp [nones]
  rw [hp]
  refine JC_exit (JQ_then_exit (JQ_then_exit (JQ_hit (JQ_end ?_))))
  refine JQ_tellAs (it := buf (slV n nb) 177 tFO (upO ws)) (it' := buf (slV n nb) 177 tFN (upN ws)) replT rfl (fun φ o h => buf_as (T := tFO) (U := tFN) (xs := upO ws) (ys := upN ws) rfl (by simp [upO, upN]) (upO_cells ws) h) ?_
  refine JQ_retP (Bs := []) Tryz.results81 trivial ⟨ws, hke⟩ SubL.rfl' ?_
  unfold fabL
  rw [upN_map]
  exact SubP.refl' _
end Go.Proofs.YtfglhiciagmicaaGreat

/- Contracts: what a change of a prepared fabric writes. Own work. -/
namespace Go.Proofs.YtfglhiciagmicaaGreat
open Go.RowKit
set_option linter.unusedVariables false
set_option linter.unusedSimpArgs false
set_option maxRecDepth 100000
theorem tdivok {n : Int} (h : I64ok n) (k : Int) (hk : 1 ≤ k) : I64ok (n.tdiv k) := by
  unfold I64ok at h ⊢
  rcases Int.lt_or_le n 0 with hn | hn
  · have e : n.tdiv k = -((-n) / k) := by
      rw [← Int.tdiv_eq_ediv_of_nonneg (by omega), Int.neg_tdiv, Int.neg_neg]
    have h1 : 0 ≤ (-n) / k := Int.ediv_nonneg (by omega) (by omega)
    have h2 : (-n) / k ≤ -n := Int.ediv_le_self _ (by omega)
    rw [e]; omega
  · have e : n.tdiv k = n / k := Int.tdiv_eq_ediv_of_nonneg hn
    have h1 : 0 ≤ n / k := Int.ediv_nonneg (by omega) (by omega)
    have h2 : n / k ≤ n := Int.ediv_le_self _ (by omega)
    rw [e]; omega
theorem wrapok {n : Int} (h : I64ok n) (k : Int) (hk : 1 ≤ k) : IntKind.i64.wrap (n.tdiv k) = n.tdiv k := wI64 (tdivok h k hk)
theorem bodyW_len {seq : Int} {ms : List Pg} (h : ms.length ≤ 3) : (bodyW seq ms).length ≤ 30 := by
  unfold bodyW
  split
  · rw [List.length_append, bodyP_len _ _ _ (Nat.le_refl _)]
    simp; omega
  · simp
theorem raw3 {a b c : Int} (h1 : I64ok a) (h2 : I64ok b) (h3 : I64ok c) : ∀ x, x ∈ [a, b, c] → I64ok x := fun x hx => by
  simp at hx
  rcases hx with rfl | rfl | rfl <;> assumption
theorem nds_pos {nds : List FN} {k : Nat} {d : FN} (h : nds[k]? = some d) : 0 < nds.length := by
  have := (List.getElem?_eq_some_iff.1 h).1; omega
-- bodegahand.log: function 99
set_option maxHeartbeats 2000000 in
theorem log_ok (n : Nat) (nb : WA) (nds : List FN) (k : Nat) (d : FN) (hz : nds[k]? = some d) (p : GPoke) (hp : p.wf) (cl : Int) (hc : 0 ≤ cl ∧ cl ≤ 5) : Fn Tryz.prog 99 [Is (bpt nb (k * tFN.size)), IsGPoke p, Is (.int .i64 cl), Is (.int .i64 98)] [buf (slV n nb) 177 tFN nds, wb 83 784 d.w]
    (fun _ : Unit => IsTup []) (fun _ => [buf (slV n nb) 177 tFN nds, wb 83 784 d.w]) := by
  obtain ⟨p1, p2, p3, p4, p5, _⟩ := hp
  have hn0 := nds_pos hz
  have q5 := tdivok p4 5 (by omega)
  have q7 := tdivok p4 7 (by omega)
  have r7 := tdivok p5 7 (by omega)
  have r35 := tdivok p5 35 (by omega)
  have wq5 := wrapok p4 5 (by omega)
  have wq7 := wrapok p4 7 (by omega)
  have wr7 := wrapok p5 7 (by omega)
  have wr35 := wrapok p5 35 (by omega)
  have m4 : (p.b.tdiv 7 % 5).tdiv 4 = (p.b.tdiv 7 % 5) / 4 := Int.tdiv_eq_ediv_of_nonneg (by omega)
  refine Fn.enterN Tryz.func99 Tryz.ntmps99 rfl rfl ?_
  intro c hX
  refine JC_seq ?_
  refine JC_region ?_
  (refine JL_n rfl (op_box (Ev.rfl' rfl) cellsT) ?_; intro i5)
  refine JL_nil ?_
  refine JQ_then (JC_seq ?_)
  refine JC_dr rfl (by kernel_rfl) ?_
  refine JD_stretch 18 (by kernel_rfl) ?_
  refine JW_1 (by exact op_fieldPtr (k := 4) (Ev.rfl' rfl) rfl rfl rfl rfl) ?_
  refine JW_1 (by exact op_loadPtr (Ev.rfl' rfl) memT (by rfl) (by rfl) (by rfl)) ?_
  refine JW_1 (by ((refine op_call Tryz.call7 (PickH_ok _ _ ?_ ?_) ⟨evS, ⟨evS, trivial⟩⟩); all_goals (omega))) ?_
  refine JW_1 (op_add (Ev.rfl' rfl) (Ev.rfl' rfl) wrapT) ?_
  refine JW_1 (by exact op_fieldPtr (k := 3) (Ev.rfl' rfl) rfl rfl rfl rfl) ?_
  refine JW_1 (by exact op_loadPtr (Ev.rfl' rfl) memT (by rfl) (by rfl) (by rfl)) ?_
  refine JW_1 (by exact op_fieldPtr (k := 3) (Ev.rfl' rfl) rfl rfl rfl rfl) ?_
  refine JW_1 (by exact op_loadPtr (Ev.rfl' rfl) memT (by rfl) (by rfl) (by rfl)) ?_
  refine JW_1 (op_quo (Ev.rfl' rfl) (Ev.rfl' rfl) (by omega) wq5) ?_
  refine JW_1 (by exact op_fieldPtr (k := 3) (Ev.rfl' rfl) rfl rfl rfl rfl) ?_
  refine JW_1 (by exact op_loadPtr (Ev.rfl' rfl) memT (by rfl) (by rfl) (by rfl)) ?_
  refine JW_1 (op_quo (Ev.rfl' rfl) (Ev.rfl' rfl) (by omega) wq7) ?_
  refine JW_1 (op_buildSlice (size := 1) (qs := [(0, _), (1, _), (2, _)]) rfl rfl rfl ⟨⟨rfl, _, (Ev.rfl' rfl), cellsT⟩, ⟨⟨rfl, _, (Ev.rfl' rfl), cellsT⟩, ⟨⟨rfl, _, (Ev.rfl' rfl), cellsT⟩, trivial⟩⟩⟩ (by rfl) (by rfl)) ?_
  refine JW_1 (op_move rfl) ?_
  refine JW_1 (by ((refine op_call Tryz.call114 (Pages_ok [p.a, p.a.tdiv 5, p.a.tdiv 7] _ ?_ ?_) ⟨evS, ⟨evS, ⟨evS, trivial⟩⟩⟩); all_goals (first | exact raw3 (by assumption) (by assumption) (by assumption) | omega))) ?_
  refine JW_1 (op_buildN (qs := [(0, _), (1, _)]) rfl rfl rfl rfl ⟨⟨rfl, _, (Ev.rfl' rfl), cellsX⟩, ⟨⟨rfl, _, (Ev.rfl' rfl), cellsX⟩, trivial⟩⟩ (by rfl) nrmT) ?_
  refine JW_n (op_allocN rfl nrmT rfl) ?_
  refine JW_write rfl rfl rfl (by kernel_rfl) (op_storeWN evS cellsX rfl rfl rfl nrmT) ?_
  refine ⟨rfl, ?_⟩
  intro i8
  refine JD_end ?_
  refine JQ_then (JC_seq ?_)
  refine JC_blkEx (b := i8) 1 memT rfl (fun _ => replT) ?_
  rintro ⟨ms, hgm, hm3⟩
  have hbl := bodyW_len (seq := p.b % 7 + 1) hm3
  dsimp only [List.set_cons_succ, List.set_cons_zero]
  refine JC_region ?_
  refine JL_1 rfl (by exact op_loadPtrsN (n := 2) (Ev.rfl' rfl) memT (by rfl) (by rfl) (by rfl) (by rfl) nrmT) ?_
  refine JL_1 rfl (op_call Tryz.call115 (BodyR_ok _ _) ⟨evS, trivial⟩) ?_
  refine JL_1 rfl (op_assign rfl) ?_
  refine JL_nil ?_
  refine JQ_then (JC_seq (JC_seq ?_))
  refine JC_region ?_
  refine JL_1 rfl (op_assign rfl) ?_
  refine JL_nil ?_
  refine JQ_then (JC_block ?_)
  refine JC_loopP (fun i : Nat => i ≤ (bodyW (p.b % 7 + 1) ms).length) (fun i => [(0, Is (bpt nb (k * tFN.size))), (2, Is (.int .i64 cl)), (5, Is (.pointer (some ⟨i5, 0, none⟩))), (8, Is (.pointer (some ⟨i8, 0, none⟩))), (9, IsSl tU64 (bodyW (p.b % 7 + 1) ms)), (10, Is (.int .i64 (i : Nat)))]) (fun i => [blk i8 202 [Is (.int .i64 (p.b % 7 + 1)), IsSl tPg ms], blk i5 149 (tGPoke.cells p), buf (slV n nb) 177 tFN nds, wb 83 784 d.w]) (fun i => (bodyW (p.b % 7 + 1) ms).length - i) 0 (Nat.zero_le _) esubT lessT ?_
  intro i hi
  refine JC_seq (JC_seq ?_)
  refine JC_region ?_
  refine JL_1 rfl (op_move rfl) ?_
  refine JL_1 rfl (op_move rfl) ?_
  refine JL_1 rfl (by exact op_len (Ev.rfl' rfl) rfl) ?_
  refine JL_1 rfl (op_lss (Ev.rfl' rfl) (Ev.rfl' rfl)) ?_
  refine JL_nil ?_
  refine JQ_then ?_
  refine JC_cond (Ev.rfl' rfl) (fun h4 => ?_) (fun h4 => ?_)
  · have hlt : i < (bodyW (p.b % 7 + 1) ms).length := by have := of_decide_eq_true h4; omega
    clear h4
    have hx := gs 0#64 hlt
    refine JC_skip (JQ_then (JC_seq (JC_block ?_)))
    refine JC_dr rfl (by kernel_rfl) ?_
    refine JD_stretch 13 (by kernel_rfl) ?_
    refine JW_1 (op_move rfl) ?_
    refine JW_1 (by exact op_nilBuf (Ev.rfl' rfl) memT lenT) ?_
    refine JW_1 (by exact op_fieldBuf (k := 0) (Ev.rfl' rfl) memT lenT rfl rfl rfl rfl) ?_
    refine JW_1 (by exact op_loadBuf (Ev.rfl' rfl) memT hz rfl rfl (by rfl)) ?_
    refine JW_1 (op_move rfl) ?_
    refine JW_1 (by ((refine op_call Tryz.call116 (BodyAt_ok _ ?_) ⟨evS, trivial⟩); all_goals (omega))) ?_
    refine JW_1 (op_move rfl) ?_
    refine JW_1 (op_add (Ev.rfl' rfl) (Ev.rfl' rfl) wrapT) ?_
    refine JW_1 (op_move rfl) ?_
    refine JW_1 (op_move rfl) ?_
    refine JW_1 (by exact op_index (j := i) (Ev.rfl' rfl) (Ev.rfl' rfl) rfl rfl (by rfl) hx) ?_
    refine JW_1 (by exact op_loadRef (Ev.rfl' rfl) rfl rfl rfl) ?_
    refine JW_1 (op_indexW (k := ((6 + cl * 15) * 8 + 8 + i).toNat) (Ev.rfl' rfl) memT (Ev.rfl' rfl) rfl rfl idxT (by omega)) ?_
    refine ⟨rfl, ?_⟩
    refine JD_s0 (by kernel_rfl) rfl (op_storeW1 (n := 0) (Ev.rfl' rfl) memT (by omega) (Ev.rfl' rfl) (by exact cells_word) rfl) ?_
    refine JD_end ?_
    refine JQ_block (JQ_then ?_)
    refine JC_region ?_
    refine JL_1 rfl (op_move rfl) ?_
    refine JL_1 rfl (op_add (Ev.rfl' rfl) (Ev.rfl' rfl) wrapT) ?_
    refine JL_1 rfl (op_assign rfl) ?_
    refine JL_nil ?_
    exact JQ_roundP (i + 1) (by omega) (by omega) esubT lessT
  clear h4
  refine JC_exit (JQ_then_exit (JQ_then_exit (JQ_hit (JQ_then (JC_seq (JC_seq ?_))))))
  refine JC_region ?_
  refine JL_1 rfl (by exact op_fieldPtr (k := 0) (Ev.rfl' rfl) rfl rfl rfl rfl) ?_
  refine JL_1 rfl (by exact op_loadPtr (Ev.rfl' rfl) memT (by rfl) (by rfl) (by rfl)) ?_
  refine JL_1 rfl (by ((refine op_call Tryz.call7 (PickH_ok _ _ ?_ ?_) ⟨evS, ⟨evS, trivial⟩⟩); all_goals (omega))) ?_
  refine JL_1 rfl (op_neq (Ev.rfl' rfl) (Ev.rfl' rfl)) ?_
  refine JL_nil ?_
  refine JQ_then ?_
  refine JC_cutT (fun _ : Unit => True) (fun _ => [(0, Is (bpt nb (k * tFN.size))), (2, Is (.int .i64 cl)), (5, Is (.pointer (some ⟨i5, 0, none⟩))), (8, Is (.pointer (some ⟨i8, 0, none⟩)))]) (fun _ => [blk i8 202 [Is (.int .i64 (p.b % 7 + 1)), IsSl tPg ms], blk i5 149 (tGPoke.cells p), buf (slV n nb) 177 tFN nds, wb 83 784 d.w]) (fun _ _ => ?_) ?_
  rotate_left 1
  focus
    refine JC_cond (Ev.rfl' rfl) (fun h7 => ?_) (fun h7 => ?_)
    · refine JC_dr rfl (by kernel_rfl) ?_
      refine JD_phase [0, 1, 1, 1, 0, 1, 1, 1, 1, 1, 0, 1, 0, 0, 1, 0, 0, 0, 1, 2] (by kernel_rfl) (by kernel_rfl) ?_
      refine PW_0 (op_move rfl) ?_
      refine PW_1 (by exact op_nilBuf (Ev.rfl' rfl) memT lenT) ?_
      refine PW_1 (by exact op_fieldBuf (k := 0) (Ev.rfl' rfl) memT lenT rfl rfl rfl rfl) ?_
      refine PW_1 (by exact op_loadBuf (Ev.rfl' rfl) memT hz rfl rfl (by rfl)) ?_
      refine PW_0 (op_move rfl) ?_
      refine PW_1 (by ((refine op_call Tryz.call118 (MarkAt_ok _ ?_) ⟨evS, trivial⟩); all_goals (omega))) ?_
      refine PW_1 (by exact op_fieldPtr (k := 0) (Ev.rfl' rfl) rfl rfl rfl rfl) ?_
      refine PW_1 (by exact op_loadPtr (Ev.rfl' rfl) memT (by rfl) (by rfl) (by rfl)) ?_
      refine PW_1 (by exact op_fieldPtr (k := 4) (Ev.rfl' rfl) rfl rfl rfl rfl) ?_
      refine PW_1 (by exact op_loadPtr (Ev.rfl' rfl) memT (by rfl) (by rfl) (by rfl)) ?_
      refine PW_0 (op_quo (Ev.rfl' rfl) (Ev.rfl' rfl) (by omega) wr7) ?_
      refine PW_1 (by ((refine op_call Tryz.call7 (PickH_ok _ _ ?_ ?_) ⟨evS, ⟨evS, trivial⟩⟩); all_goals (omega))) ?_
      refine PW_0 (op_quo (Ev.rfl' rfl) (Ev.rfl' rfl) (by omega) ((congrArg IntKind.i64.wrap m4).trans (wI64 (by omega)))) ?_
      refine PW_0 (op_add (Ev.rfl' rfl) (Ev.rfl' rfl) wrapT) ?_
      refine PW_1 (op_call Tryz.call117 (MarkR_ok _) ⟨evS, trivial⟩) ?_
      refine PW_0 (op_move rfl) ?_
      refine PW_0 (op_extract (Ev.rfl' rfl) rfl) ?_
      refine PW_0 (op_extract (Ev.rfl' rfl) rfl) ?_
      refine PW_1 (op_indexW (k := ((6 + cl * 15) * 8).toNat) (Ev.rfl' rfl) memT (Ev.rfl' rfl) rfl rfl idxT (by omega)) ?_
      refine PW_2 (op_storeW1 (n := 0) (Ev.rfl' rfl) memT (by omega) (Ev.rfl' rfl) (by exact cells_word) rfl) ?_
      refine PW_end ?_
      refine JD_end ?_
      exact JQ_meetP () trivial esubT lessT
    refine JC_skip ?_
    exact JQ_meetP () trivial esubT lessT
  refine JC_seq ?_
  refine JC_region ?_
  refine JL_1 rfl (op_assign rfl) ?_
  refine JL_nil ?_
  refine JQ_then (JC_block ?_)
  refine JC_loopP (fun i : Nat => i ≤ ms.length) (fun i => [(0, Is (bpt nb (k * tFN.size))), (2, Is (.int .i64 cl)), (5, Is (.pointer (some ⟨i5, 0, none⟩))), (8, Is (.pointer (some ⟨i8, 0, none⟩))), (11, Is (.int .i64 (i : Nat)))]) (fun i => [blk i8 202 [Is (.int .i64 (p.b % 7 + 1)), IsSl tPg ms], blk i5 149 (tGPoke.cells p), buf (slV n nb) 177 tFN nds, wb 83 784 d.w]) (fun i => ms.length - i) 0 (Nat.zero_le _) esubT lessT ?_
  intro i hi
  refine JC_seq (JC_seq ?_)
  refine JC_region ?_
  refine JL_1 rfl (op_move rfl) ?_
  refine JL_1 rfl (by exact op_fieldPtr (k := 1) (Ev.rfl' rfl) rfl rfl rfl rfl) ?_
  refine JL_1 rfl (by exact op_loadPtr (Ev.rfl' rfl) memT (by rfl) (by rfl) (by rfl)) ?_
  refine JL_1 rfl (by exact op_len (Ev.rfl' rfl) rfl) ?_
  refine JL_1 rfl (op_lss (Ev.rfl' rfl) (Ev.rfl' rfl)) ?_
  refine JL_1 rfl (op_move rfl) ?_
  (refine JL_i0 rfl rfl rfl (fun hg => (by have hg0 := hg; (try simp at hg); exact op_fieldPtr (k := 4) evG rfl rfl rfl rfl)) ?_)
  (refine JL_i0 rfl rfl rfl (fun hg => (by have hg0 := hg; (try simp at hg); exact op_loadPtr evG memT (by rfl) (by rfl) (by rfl))) ?_)
  (refine JL_i0 rfl rfl rfl (fun hg => (by have hg0 := hg; (try simp at hg); exact op_quo evG2 evG2 (by omega) wr35)) ?_)
  (refine JL_i0 rfl rfl rfl (fun hg => (by have hg0 := hg; (try simp at hg); ((refine op_call Tryz.call7 (PickH_ok _ _ ?_ ?_) ⟨evS, ⟨evS, trivial⟩⟩); all_goals (omega)))) ?_)
  (refine JL_i0 rfl rfl rfl (fun hg => (by have hg0 := hg; (try simp at hg); exact op_gtr evG evG)) ?_)
  refine JL_1 rfl (op_and (Ev.rfl' rfl) rfl (fun h => by exact SubL.iteT (by (rw [h]; rfl)) SubL.rfl')) ?_
  refine JL_nil ?_
  refine JQ_then ?_
  refine JC_cond (Ev.rfl' rfl) (fun h10 => ?_) (fun h10 => ?_)
  · have hlt : i < ms.length := by have := (Bool.and_eq_true_iff.1 h10).1; have := of_decide_eq_true this; omega
    clear h10
    have hx := Pg.at_get ms i hlt
    have hg := hgm.1 _ (pg_mem hlt)
    have hg1 := hg.lo
    have hg2 := hg.hi
    refine JC_skip (JQ_then (JC_seq (JC_block ?_)))
    refine JC_dr rfl (by kernel_rfl) ?_
    refine JD_phase [0, 1, 1, 1, 1, 1, 0, 1, 1, 1, 1, 1, 1, 0, 1, 1, 0, 1, 0, 0, 0, 1, 2] (by kernel_rfl) (by kernel_rfl) ?_
    refine PW_0 (op_move rfl) ?_
    refine PW_1 (by exact op_nilBuf (Ev.rfl' rfl) memT lenT) ?_
    refine PW_1 (by exact op_fieldBuf (k := 0) (Ev.rfl' rfl) memT lenT rfl rfl rfl rfl) ?_
    refine PW_1 (by exact op_loadBuf (Ev.rfl' rfl) memT hz rfl rfl (by rfl)) ?_
    refine PW_1 (by exact op_fieldPtr (k := 1) (Ev.rfl' rfl) rfl rfl rfl rfl) ?_
    refine PW_1 (by exact op_loadPtr (Ev.rfl' rfl) memT (by rfl) (by rfl) (by rfl)) ?_
    refine PW_0 (op_move rfl) ?_
    refine PW_1 (by exact op_index (j := i) (Ev.rfl' rfl) (Ev.rfl' rfl) rfl rfl (by rfl) hx) ?_
    refine PW_1 (by exact op_fieldRefN (k := 0) (Ev.rfl' rfl) rfl rfl rfl rfl nrmT) ?_
    refine PW_1 (by exact op_loadRef (Ev.rfl' rfl) rfl rfl rfl) ?_
    refine PW_1 (by ((refine op_call Tryz.call100 (PageAt_ok _ ?_) ⟨evS, trivial⟩); all_goals (omega))) ?_
    refine PW_1 (by exact op_fieldPtr (k := 1) (Ev.rfl' rfl) rfl rfl rfl rfl) ?_
    refine PW_1 (by exact op_loadPtr (Ev.rfl' rfl) memT (by rfl) (by rfl) (by rfl)) ?_
    refine PW_0 (op_move rfl) ?_
    refine PW_1 (by exact op_index (j := i) (Ev.rfl' rfl) (Ev.rfl' rfl) rfl rfl (by rfl) hx) ?_
    refine PW_1 (by exact op_loadRefsN (n := 9) (Ev.rfl' rfl) rfl rfl rfl (by rfl) nrmT) ?_
    refine PW_0 (op_move rfl) ?_
    refine PW_1 (op_call Tryz.call119 (LockedR_ok _ _) ⟨evS, ⟨evS, trivial⟩⟩) ?_
    refine PW_0 (op_move rfl) ?_
    refine PW_0 (op_extract (Ev.rfl' rfl) rfl) ?_
    refine PW_0 (op_extract (Ev.rfl' rfl) rfl) ?_
    refine PW_1 (op_indexW (k := ((Pg.at ms i).l * 8).toNat) (Ev.rfl' rfl) memT (Ev.rfl' rfl) rfl rfl idxT (by omega)) ?_
    refine PW_2 (op_storeW1 (n := 0) (Ev.rfl' rfl) memT (by omega) (Ev.rfl' rfl) (by exact cells_word) rfl) ?_
    refine PW_end ?_
    refine JD_end ?_
    refine JQ_block (JQ_then ?_)
    refine JC_region ?_
    refine JL_1 rfl (op_move rfl) ?_
    refine JL_1 rfl (op_add (Ev.rfl' rfl) (Ev.rfl' rfl) wrapT) ?_
    refine JL_1 rfl (op_assign rfl) ?_
    refine JL_nil ?_
    exact JQ_roundP (i + 1) (by omega) (by omega) esubT lessT
  refine JC_exit (JQ_then_exit (JQ_then_exit (JQ_hit (JQ_end ?_))))
  exact JQ_retP (Bs := []) Tryz.results99 trivial () SubL.rfl' lessT
end Go.Proofs.YtfglhiciagmicaaGreat
