/- Texts of this claim, laid together (part 4): walks of functions, what they compute, and plain laws of it. Own work. -/
import Derived.Lib.BitFns
import Derived.Test.YtfkmbdpnjcgimaaGreatM3EpochFrees
/- Contract: a number in range. Own work. -/
namespace Go.Proofs.YtfkmbdpnjcgimaaGreat
open Go.RowKit
set_option linter.unusedVariables false
set_option linter.unusedSimpArgs false
set_option maxRecDepth 100000
theorem pick_tmod (n k : Int) (h : 1 ≤ k) : (n.tmod k + k).tmod k = n % k := by
  have h2 := Int.lt_tmod_of_pos n (show 0 < k by omega)
  rw [Int.tmod_eq_emod_of_nonneg (by omega), pick_emod n k h]
-- bodegahand.Pick: function 18
theorem PickH_ok (n k : Int) (hb : 1 ≤ k) (hb2 : k ≤ 4611686018427387903) : FnP Tryz.prog 18 [Is (.int .i64 n), Is (.int .i64 k)] (Is (.int .i64 (n % k))) := by
  have h1 := Int.tmod_lt_of_pos n (show 0 < k by omega)
  have h2 := Int.lt_tmod_of_pos n (show 0 < k by omega)
  refine FnP.enter Tryz.func18 Tryz.ntmps18 rfl rfl ?_
  intro c hX
  (repeat (first | with_reducible refine JC_seq ?_ | with_reducible refine JQ_then ?_ | with_reducible refine JC_block ?_ | with_reducible refine JC_skip ?_ | with_reducible refine JC_exit ?_ | with_reducible refine JQ_then_exit ?_ | with_reducible refine JQ_then_ret ?_ | with_reducible refine JQ_block ?_ | with_reducible refine JQ_block_ret ?_ | with_reducible refine JQ_hit ?_ | ((with_reducible refine JQ_block_miss ?_ ?_); (focus exact rfl)) | with_reducible refine JC_ret ?_ | with_reducible refine JQ_end ?_))
  refine JC_region (JL_1 rfl (op_assign rfl) (JL_nil ?_))
  (repeat (first | with_reducible refine JC_seq ?_ | with_reducible refine JQ_then ?_ | with_reducible refine JC_block ?_ | with_reducible refine JC_skip ?_ | with_reducible refine JC_exit ?_ | with_reducible refine JQ_then_exit ?_ | with_reducible refine JQ_then_ret ?_ | with_reducible refine JQ_block ?_ | with_reducible refine JQ_block_ret ?_ | with_reducible refine JQ_hit ?_ | ((with_reducible refine JQ_block_miss ?_ ?_); (focus exact rfl)) | with_reducible refine JC_ret ?_ | with_reducible refine JQ_end ?_))
  (repeat (first | with_reducible refine JC_seq ?_ | with_reducible refine JQ_then ?_ | with_reducible refine JC_block ?_ | with_reducible refine JC_skip ?_ | with_reducible refine JC_exit ?_ | with_reducible refine JQ_then_exit ?_ | with_reducible refine JQ_then_ret ?_ | with_reducible refine JQ_block ?_ | with_reducible refine JQ_block_ret ?_ | with_reducible refine JQ_hit ?_ | ((with_reducible refine JQ_block_miss ?_ ?_); (focus exact rfl)) | with_reducible refine JC_ret ?_ | with_reducible refine JQ_end ?_))
  refine JC_region (JL_1 rfl (op_move rfl) (JL_1 rfl (op_lss (Ev.rfl' rfl) (Ev.rfl' rfl)) (JL_nil ?_)))
  (repeat (first | with_reducible refine JC_seq ?_ | with_reducible refine JQ_then ?_ | with_reducible refine JC_block ?_ | with_reducible refine JC_skip ?_ | with_reducible refine JC_exit ?_ | with_reducible refine JQ_then_exit ?_ | with_reducible refine JQ_then_ret ?_ | with_reducible refine JQ_block ?_ | with_reducible refine JQ_block_ret ?_ | with_reducible refine JQ_hit ?_ | ((with_reducible refine JQ_block_miss ?_ ?_); (focus exact rfl)) | with_reducible refine JC_ret ?_ | with_reducible refine JQ_end ?_))
  refine JC_cond (Ev.rfl' rfl) (fun h => absurd (of_decide_eq_true h) (by omega)) (fun h => ?_)
  (repeat (first | with_reducible refine JC_seq ?_ | with_reducible refine JQ_then ?_ | with_reducible refine JC_block ?_ | with_reducible refine JC_skip ?_ | with_reducible refine JC_exit ?_ | with_reducible refine JQ_then_exit ?_ | with_reducible refine JQ_then_ret ?_ | with_reducible refine JQ_block ?_ | with_reducible refine JQ_block_ret ?_ | with_reducible refine JQ_hit ?_ | ((with_reducible refine JQ_block_miss ?_ ?_); (focus exact rfl)) | with_reducible refine JC_ret ?_ | with_reducible refine JQ_end ?_))
  refine JC_region (JL_1 rfl (op_move rfl) (JL_1 rfl (op_move rfl) (JL_1 rfl (op_rem (Ev.rfl' rfl) (Ev.rfl' rfl) (by omega) rfl) ?_)))
  refine JL_1 rfl (op_move rfl) (JL_1 rfl (op_add (Ev.rfl' rfl) (Ev.rfl' rfl) wrapT) ?_)
  refine JL_1 rfl (op_move rfl) (JL_1 rfl (op_rem (Ev.rfl' rfl) (Ev.rfl' rfl) (by omega) rfl) ?_)
  refine JL_1 rfl (op_assign rfl) (JL_nil ?_)
  (repeat (first | with_reducible refine JC_seq ?_ | with_reducible refine JQ_then ?_ | with_reducible refine JC_block ?_ | with_reducible refine JC_skip ?_ | with_reducible refine JC_exit ?_ | with_reducible refine JQ_then_exit ?_ | with_reducible refine JQ_then_ret ?_ | with_reducible refine JQ_block ?_ | with_reducible refine JQ_block_ret ?_ | with_reducible refine JQ_hit ?_ | ((with_reducible refine JQ_block_miss ?_ ?_); (focus exact rfl)) | with_reducible refine JC_ret ?_ | with_reducible refine JQ_end ?_))
  exact JQ_ret1 Tryz.results18 rfl () (SubL.eq (by rw [pick_tmod n k hb])) (List.nil_sublist _)
theorem UV_ofInt64 {n : Int} (h : 0 ≤ n ∧ n < 18446744073709551616) : UV (BitVec.ofInt 64 n) = n := by
  unfold UV; rw [BitVec.toNat_ofInt]; simp; omega
theorem wrr (n : Int) : 0 ≤ IntKind.u64.wrap n ∧ IntKind.u64.wrap n < 18446744073709551616 := by
  rw [wrap_u64_mod]; omega
end Go.Proofs.YtfkmbdpnjcgimaaGreat

/- Plain laws: what has been written is read again. Own work. -/
namespace Go.Proofs.YtfkmbdpnjcgimaaGreat
open Go.RowKit
set_option linter.unusedVariables false
set_option linter.unusedSimpArgs false
set_option maxRecDepth 100000
theorem UV_set32 (x : BitVec 32) : UV (x.setWidth 64) = UV x := by
  unfold UV
  rw [BitVec.toNat_setWidth]
  have := x.isLt
  congr 1
  omega
theorem back_header {p : Pg} {h : Hd} (e : (writeH p h).2 = 0) : readH (writeH p h).1 = (h, 0) ∧ (writeH p h).1.l = p.l ∧ (writeH p h).1.h = p.h := by
  unfold writeH at e ⊢
  split at e
  · exact absurd e (by decide)
  · rename_i hb
    rw [if_neg hb]
    have hb' : hdBad p h = false := by simpa using hb
    obtain ⟨r1, r2⟩ := hd_rng hb'
    have hl : hdrB p.l = true := by
      unfold hdBad at hb'
      simp only [Bool.or_eq_false_iff, Bool.not_eq_false'] at hb'
      exact hb'.1.1.1
    have hu : UV (h.used &&& ~~~BitVec.ofInt 32 65534) = 0 := by
      unfold hdBad at hb'
      simp only [Bool.or_eq_false_iff] at hb'
      simpa using hb'.2
    refine ⟨?_, rfl, rfl⟩
    have hd0 : UV (hdPut p h).d0 = h.owner + 1 := UV_ofInt64 (by omega)
    have hd1 : UV ((hdPut p h).d1 &&& ~~~BitVec.ofInt 64 65534) = 0 := by
      rw [uv0_iff] at hu ⊢
      show h.used.setWidth 64 &&& ~~~BitVec.ofInt 64 65534 = 0#64
      apply BitVec.eq_of_getLsbD_eq
      intro i hi
      rw [BitVec.getLsbD_and, BitVec.getLsbD_setWidth]
      rcases Nat.lt_or_ge i 32 with h32 | h32
      · have h1 := congrArg (fun x : BitVec 32 => x.getLsbD i) hu
        simp only [BitVec.getLsbD_and, BitVec.getLsbD_not, h32, decide_true, Bool.true_and] at h1
        simp only [BitVec.getLsbD_not, hi, decide_true, Bool.true_and]
        have h2 : (BitVec.ofInt 64 65534).getLsbD i = (BitVec.ofInt 32 65534).getLsbD i := by
          have h3 : BitVec.ofInt 32 65534 = (BitVec.ofInt 64 65534).setWidth 32 := by decide
          rw [h3, BitVec.getLsbD_setWidth]; simp [h32]
        rw [h2]; simpa using h1
      · rw [BitVec.getLsbD_of_ge h.used i h32]; simp
    have hub : useB (hdPut p h) = false := by
      unfold useB
      rw [hd0, hd1]
      simp; omega
    have hz : zB (hdPut p h) = true := by
      unfold zB hdPut Pg.nil; rfl
    unfold readH
    rw [if_pos (show hdrB (hdPut p h).l = true from hl), if_neg (by rw [hub, hz]; simp), hd0]
    have e1 : h.owner + 1 - 1 = h.owner := by omega
    have e2 : (hdPut p h).d1.setWidth 32 = h.used := setW_setW h.used
    rw [e1, e2]
theorem re_back {r : Re} (h : rwB r = true) : retE (rwV r) = r ∧ retB (rwV r) = true := by
  by_cases hr : r = Re.nil
  · subst hr
    exact ret_0 (by unfold rwV; rw [if_pos rfl])
  · have hv : validP r.to = true := by rw [rwB_re hr] at h; exact h
    have e : rwV r = packW (packP r.to) (r.ep.setWidth 64) := by unfold rwV; rw [if_neg hr]
    have e1 : (rwV r).setWidth 32 = packP r.to := by rw [e]; exact pack_low _ _
    have e2 : (rwV r >>> 32).setWidth 32 = r.ep := by rw [e, pack_high]; exact setW_setW _
    have hne : ¬ rwV r = 0#64 := fun h0 => by
      rw [h0] at e1
      exact pack_ne hv e1.symm
    obtain ⟨h1, h2⟩ := ret_1 hne
    rw [h1, h2, e1, e2, unpack_pack hv]
    exact ⟨rfl, hv⟩
theorem okR_all {n : Nd} (h : okR n 4 = true) : rwB n.r0 = true ∧ rwB n.r1 = true ∧ rwB n.r2 = true ∧ rwB n.r3 = true := by
  unfold okR at h
  simp only [Bool.and_eq_true] at h
  simp_all
theorem back_node {p : Pg} {n : Nd} (e : (writeN p n).2 = 0) : readN (writeN p n).1 = (n, 0) ∧ (writeN p n).1.l = p.l ∧ (writeN p n).1.h = p.h := by
  cases hb : badW p n with
  | true => rw [writeN_b hb] at e; exact absurd e (by decide)
  | false =>
    cases hk : okR n 4 with
    | false => rw [writeN_x hb hk] at e; exact absurd e (by decide)
    | true =>
      rw [writeN_0 hb hk]
      refine ⟨?_, rfl, rfl⟩
      obtain ⟨i1, i2, i3⟩ := badW_rng hb
      have hl : ownB p.l = true := by
        unfold badW at hb
        simp only [Bool.or_eq_false_iff, Bool.not_eq_false'] at hb
        exact hb.1
      have hpin : n.pin = false → UV n.ep = 0 := fun h => by
        unfold badW at hb
        simp only [Bool.or_eq_false_iff] at hb
        have := hb.2.1
        rw [h] at this
        simpa using this
      obtain ⟨k0, k1, k2, k3⟩ := okR_all hk
      obtain ⟨a0, b0⟩ := re_back k0
      obtain ⟨a1, b1⟩ := re_back k1
      obtain ⟨a2, b2⟩ := re_back k2
      obtain ⟨a3, b3⟩ := re_back k3
      have hep := UV_set32 n.ep
      have hepr : 0 ≤ UV n.ep ∧ UV n.ep < 4294967296 := by unfold UV; have := n.ep.isLt; omega
      have d0 : UV (pgK p n 4).d0 = if n.pin = true then UV n.ep + 1 else 0 := by
        show UV (pinW n) = _
        unfold pinW
        split
        · unfold UV
          rw [BitVec.toNat_add, BitVec.toNat_setWidth]
          have := n.ep.isLt
          simp
          omega
        · rfl
      have d1 : UV (pgK p n 4).d1 = UV n.sg := UV_set32 n.sg
      have d2 : UV (pgK p n 4).d2 = n.inc := UV_ofInt64 (by omega)
      have hbad : badN (pgK p n 4) = false := by
        unfold badN
        rw [d0, d1, d2]
        simp only [Bool.or_eq_false_iff, decide_eq_false_iff_not]
        refine ⟨⟨?_, by omega⟩, by omega⟩
        split <;> omega
      have hok : okN (pgK p n 4) 4 = true := by
        unfold okN
        show _ = _
        have c0 : retB (pgK p n 4).d3 = true := b0
        have c1 : retB (pgK p n 4).d4 = true := b1
        have c2 : retB (pgK p n 4).d5 = true := b2
        have c3 : retB (pgK p n 4).d6 = true := b3
        simp [c0, c1, c2, c3]
      rw [readN_0 (show ownB (pgK p n 4).l = true from hl) hbad hok]
      have f0 : pinV (pgK p n 4) = n.pin := by
        unfold pinV
        rw [d0]
        cases n.pin <;> simp; omega
      have f1 : epV (pgK p n 4) = n.ep := by
        unfold epV
        rw [d0]
        cases hp : n.pin with
        | true =>
          rw [if_pos rfl, if_pos (by omega)]
          show (pinW n - 1#64).setWidth 32 = n.ep
          unfold pinW
          rw [if_pos hp, BitVec.add_sub_cancel]
          exact setW_setW _
        | false =>
          have := (uv0_iff).1 (hpin hp)
          simp [this]
      have f2 : (pgK p n 4).d1.setWidth 32 = n.sg := setW_setW n.sg
      have g0 : reK 4 0 (retE (pgK p n 4).d3) = n.r0 := a0
      have g1 : reK 4 1 (retE (pgK p n 4).d4) = n.r1 := a1
      have g2 : reK 4 2 (retE (pgK p n 4).d5) = n.r2 := a2
      have g3 : reK 4 3 (retE (pgK p n 4).d6) = n.r3 := a3
      unfold ndK
      rw [f0, f1, f2, d2, g0, g1, g2, g3]
end Go.Proofs.YtfkmbdpnjcgimaaGreat

/- Contracts: tags; pages with tags. Own work. -/
namespace Go.Proofs.YtfkmbdpnjcgimaaGreat
open Go.RowKit
set_option linter.unusedVariables false
set_option linter.unusedSimpArgs false
set_option maxRecDepth 100000
structure Tg where
  kind : Int
  gen : Int
  aux : BitVec 32
@[reducible] def tTg : Ty Tg := ⟨3, fun t => [Is (.int .i64 t.kind), Is (.int .i64 t.gen), Is (.int .u32 (UV t.aux))], fun _ => rfl⟩
@[reducible] def IsTg (t : Tg) : VP := IsAgg (tTg.cells t)
def kindV (x : BitVec 64) : Int := UV (x &&& BitVec.ofInt 64 255)
def genV (x : BitVec 64) : Int := UV (x >>> 8 &&& BitVec.ofInt 64 16777215)
def auxV (x : BitVec 64) : BitVec 32 := (x >>> 32).setWidth 32
theorem kind_eq (x : BitVec 64) : kindV x = UV x % 256 := by
  unfold kindV; rw [UV_low 64 8 x _ rfl]; rfl
theorem gen_eq (x : BitVec 64) : genV x = UV x / 256 % 16777216 := by
  unfold genV; rw [UV_low 64 24 _ _ rfl, UV_shr]; rfl
theorem kind_in (x : BitVec 64) : -9223372036854775808 ≤ UV (x &&& BitVec.ofInt 64 255) ∧ UV (x &&& BitVec.ofInt 64 255) ≤ 9223372036854775807 := by
  have := kind_eq x
  unfold kindV at this
  omega
theorem gen_in (x : BitVec 64) : -9223372036854775808 ≤ UV (x >>> 8 &&& BitVec.ofInt 64 16777215) ∧ UV (x >>> 8 &&& BitVec.ofInt 64 16777215) ≤ 9223372036854775807 := by
  have := gen_eq x
  unfold genV at this
  omega
def unpackT (x : BitVec 64) : Tg := ⟨kindV x, genV x, auxV x⟩
-- pointer.UnpackTag: function 38
theorem UnpackTag_ok (x : BitVec 64) : FnP Tryz.prog 38 [Is (.int .u64 (UV x))] (IsTg (unpackT x)) := by
  have h1 := kind_in x
  have h2 := gen_in x
  refine FnP.enter Tryz.func38 Tryz.ntmps38 rfl rfl ?_
  intro c hX
  refine JC_seq (JC_region ?_)
  (refine JL_n rfl (op_allocN rfl nrmT rfl) ?_; intro i2)
  refine JL_nil ?_
  refine JQ_then (JC_seq ?_)
  refine JC_region (JL_1 rfl (op_move rfl) (JL_1 rfl (by exact op_bits ev64 ev64 (by simp) (and_u64 _ _)) ?_))
  refine JL_1 rfl (op_conv (Ev.rfl' rfl) rfl rfl convT) ?_
  refine JL_1 rfl (op_move rfl) (JL_1 rfl (by exact op_shrU (k := 8) ev64 (Ev.rfl' rfl) (by omega) idxT) ?_)
  refine JL_1 rfl (by exact op_bits ev64 ev64 (by simp) (and_u64 _ _)) ?_
  refine JL_1 rfl (op_conv (Ev.rfl' rfl) rfl rfl convT) ?_
  refine JL_1 rfl (op_move rfl) (JL_1 rfl (by exact op_shrU (k := 32) ev64 (Ev.rfl' rfl) (by omega) idxT) ?_)
  refine JL_1 rfl (op_conv (Ev.rfl' rfl) rfl rfl convT) ?_
  refine JL_1 rfl (op_buildN (qs := [(0, _), (1, _), (2, _)]) rfl rfl rfl rfl ⟨⟨rfl, _, (Ev.rfl' rfl), cellsT⟩, ⟨⟨rfl, _, (Ev.rfl' rfl), cellsT⟩, ⟨⟨rfl, _, (Ev.rfl' rfl), cellsT⟩, trivial⟩⟩⟩ (by rfl) nrmT) ?_
  refine JL_s0 (op_storeN (Ev.rfl' rfl) (Ev.rfl' rfl) cellsT replT nrmT (by rfl) (by rfl) (by rfl)) ?_
  refine JL_nil ?_
  refine JQ_then (JC_ret ?_)
  exact JQ_ret (Bs := [IsTg (unpackT x)]) Tryz.results38 ⟨⟨_, _, _, _, rfl, memT, rfl, .inr ⟨rfl, _, rfl, rfl, subT⟩⟩, trivial⟩ () SubL.rfl' (List.nil_sublist _)
def packT (t : Tg) : BitVec 64 := (BitVec.ofInt 64 t.kind &&& BitVec.ofInt 64 255) ||| ((BitVec.ofInt 64 t.gen &&& BitVec.ofInt 64 16777215) <<< 8) ||| (t.aux.setWidth 64 <<< 32)
-- pointer.PackTag: function 55
theorem PackTag_ok (t : Tg) : FnP Tryz.prog 55 [IsTg t] (Is (.int .u64 (UV (packT t)))) := by
  refine FnP.enter Tryz.func55 Tryz.ntmps55 rfl rfl ?_
  intro c hX
  refine JC_seq (JC_region ?_)
  (refine JL_n rfl (op_box (Ev.rfl' rfl) cellsT) ?_; intro i1)
  refine JL_1 rfl (op_assign rfl) (JL_nil ?_)
  refine JQ_then (JC_seq ?_)
  refine JC_region (JL_1 rfl (by exact op_fieldPtr (k := 0) (Ev.rfl' rfl) rfl rfl rfl rfl) ?_)
  refine JL_1 rfl (by exact op_loadPtr (Ev.rfl' rfl) memT (by rfl) (by rfl) (by rfl)) ?_
  refine JL_1 rfl (op_conv (Ev.rfl' rfl) rfl rfl convT) ?_
  refine JL_1 rfl (by exact op_bits ev64 ev64 (by simp) (and_u64 _ _)) ?_
  refine JL_1 rfl (op_assign rfl) (JL_nil ?_)
  refine JQ_then (JC_seq ?_)
  refine JC_region (JL_1 rfl (by exact op_fieldPtr (k := 1) (Ev.rfl' rfl) rfl rfl rfl rfl) ?_)
  refine JL_1 rfl (by exact op_loadPtr (Ev.rfl' rfl) memT (by rfl) (by rfl) (by rfl)) ?_
  refine JL_1 rfl (op_conv (Ev.rfl' rfl) rfl rfl convT) ?_
  refine JL_1 rfl (by exact op_bits ev64 ev64 (by simp) (and_u64 _ _)) ?_
  refine JL_1 rfl (op_assign rfl) (JL_nil ?_)
  refine JQ_then (JC_seq ?_)
  refine JC_region (JL_1 rfl (op_move rfl) (JL_1 rfl (op_move rfl) (JL_1 rfl (by exact op_shlU (k := 8) ev64 (Ev.rfl' rfl) (by omega) idxT) ?_)))
  refine JL_1 rfl (by exact op_bits ev64 ev64 (by simp) (or_u64 _ _)) ?_
  refine JL_1 rfl (by exact op_fieldPtr (k := 2) (Ev.rfl' rfl) rfl rfl rfl rfl) ?_
  refine JL_1 rfl (by exact op_loadPtr (Ev.rfl' rfl) memT (by rfl) (by rfl) (by rfl)) ?_
  refine JL_1 rfl (op_conv (Ev.rfl' rfl) rfl rfl convT) ?_
  refine JL_1 rfl (by exact op_shlU (k := 32) ev64 (Ev.rfl' rfl) (by omega) idxT) ?_
  refine JL_1 rfl (by exact op_bits ev64 ev64 (by simp) (or_u64 _ _)) ?_
  refine JL_1 rfl (op_assign rfl) (JL_nil ?_)
  refine JQ_then (JC_ret ?_)
  refine JQ_ret1 Tryz.results55 rfl () (SubL.eq ?_) (List.nil_sublist _)
  rfl
-- pointer.tagOf: function 40
theorem tagOf_ok (p : Pg) : FnP Tryz.prog 40 [IsPg p] (IsTg (unpackT p.d0)) := by
  have hd0 : (dat p)[0]? = some p.d0 := rfl
  refine FnP.enter Tryz.func40 Tryz.ntmps40 rfl rfl ?_
  intro c hX
  refine JC_seq (JC_region ?_)
  (refine JL_n rfl (op_box (Ev.rfl' rfl) cellsT) ?_; intro i1)
  (refine JL_n rfl (op_allocN rfl nrmT rfl) ?_; intro i2)
  refine JL_nil ?_
  refine JQ_then (JC_seq ?_)
  refine JC_region (JL_1 rfl (by exact op_fieldPtr (k := 2) (Ev.rfl' rfl) rfl rfl rfl rfl) ?_)
  refine JL_1 rfl (op_indexArr (k := 0) (sz := 1) (Ev.rfl' rfl) (Ev.rfl' rfl) rfl rfl idxT (by decide)) ?_
  refine JL_1 rfl (by exact op_loadPtr (Ev.rfl' rfl) memT (by rfl) (by rfl) (by rfl)) ?_
  refine JL_1 rfl (op_call Tryz.call38 (UnpackTag_ok _) ⟨evS, trivial⟩) ?_
  refine JL_s0 (op_storeN (Ev.rfl' rfl) (Ev.rfl' rfl) cellsT replT nrmT (by rfl) (by rfl) (by rfl)) ?_
  refine JL_nil ?_
  refine JQ_then (JC_ret ?_)
  exact JQ_ret (Bs := [IsTg (unpackT p.d0)]) Tryz.results40 ⟨⟨_, _, _, _, rfl, memT, rfl, .inr ⟨rfl, _, rfl, rfl, subT⟩⟩, trivial⟩ () SubL.rfl' (List.nil_sublist _)
-- pointer.At: function 17
theorem At_ok (p : Pg) : FnP Tryz.prog 17 [IsPg p] (IsPt ⟨p.l, genV p.d0⟩) := by
  refine FnP.enter Tryz.func17 Tryz.ntmps17 rfl rfl ?_
  intro c hX
  refine JC_seq (JC_region ?_)
  (refine JL_n rfl (op_box (Ev.rfl' rfl) cellsT) ?_; intro i1)
  (refine JL_n rfl (op_allocN rfl nrmT rfl) ?_; intro i2)
  refine JL_nil ?_
  refine JQ_then (JC_seq ?_)
  refine JC_dr rfl (by kernel_rfl) ?_
  refine JD_stretch 6 (by kernel_rfl) ?_
  refine JW_1 (by exact op_fieldPtr (k := 0) (Ev.rfl' rfl) rfl rfl rfl rfl) ?_
  refine JW_1 (by exact op_loadPtr (Ev.rfl' rfl) memT (by rfl) (by rfl) (by rfl)) ?_
  refine JW_1 (by exact op_loadPtrsN (n := 9) (Ev.rfl' rfl) memT (by rfl) (by rfl) (by rfl) (by rfl) nrmT) ?_
  refine JW_1 (op_call Tryz.call40 (tagOf_ok p) ⟨evS, trivial⟩) ?_
  refine JW_1 (op_fieldV1 (Ev.rfl' rfl) rfl rfl rfl rfl rfl) (JW_1 (op_buildN (qs := [(0, _), (1, _)]) rfl rfl rfl rfl ⟨⟨rfl, _, (Ev.rfl' rfl), cellsT⟩, ⟨⟨rfl, _, (Ev.rfl' rfl), cellsT⟩, trivial⟩⟩ (by rfl) nrmT) ?_)
  refine ⟨rfl, ?_⟩
  refine JD_s0 (by kernel_rfl) rfl (op_storeN (Ev.rfl' rfl) (Ev.rfl' rfl) cellsT replT nrmT (by rfl) (by rfl) (by rfl)) ?_
  refine JD_end ?_
  refine JQ_then (JC_ret ?_)
  exact JQ_ret (Bs := [IsPt ⟨p.l, genV p.d0⟩]) Tryz.results17 ⟨⟨_, _, _, _, rfl, memT, rfl, .inr ⟨rfl, _, rfl, rfl, subT⟩⟩, trivial⟩ () SubL.rfl' (List.nil_sublist _)
def tagP (p : Pg) (g : Tg) : Pg := ⟨p.l, p.h, packT g, 0#64, 0#64, 0#64, 0#64, 0#64, 0#64⟩
-- pointer.tagged: function 42
theorem tagged_ok (p : Pg) (g : Tg) : FnP Tryz.prog 42 [IsPg p, IsTg g] (IsPg (tagP p g)) := by
  refine FnP.enter Tryz.func42 Tryz.ntmps42 rfl rfl ?_
  intro c hX
  refine JC_seq (JC_region ?_)
  (refine JL_n rfl (op_box (Ev.rfl' rfl) cellsT) ?_; intro i2)
  (refine JL_n rfl (op_box (Ev.rfl' rfl) cellsT) ?_; intro i3)
  (refine JL_n rfl (op_allocN rfl nrmT rfl) ?_; intro i4)
  refine JL_nil ?_
  refine JQ_then (JC_seq ?_)
  refine JC_region (JL_1 rfl (by exact op_fieldPtr (k := 0) (Ev.rfl' rfl) rfl rfl rfl rfl) ?_)
  refine JL_1 rfl (by exact op_loadPtr (Ev.rfl' rfl) memT (by rfl) (by rfl) (by rfl)) ?_
  refine JL_1 rfl (by exact op_fieldPtr (k := 1) (Ev.rfl' rfl) rfl rfl rfl rfl) ?_
  refine JL_1 rfl (by exact op_loadPtr (Ev.rfl' rfl) memT (by rfl) (by rfl) (by rfl)) ?_
  refine JL_1 rfl (op_buildN (qs := [(0, _), (1, _)]) rfl rfl rfl rfl ⟨⟨rfl, _, (Ev.rfl' rfl), cellsT⟩, ⟨⟨rfl, _, (Ev.rfl' rfl), cellsT⟩, trivial⟩⟩ (by rfl) nrmT) ?_
  (refine JL_n rfl (op_allocN rfl nrmT rfl) ?_; intro i5)
  refine JL_s0 (op_storeN (Ev.rfl' rfl) (Ev.rfl' rfl) cellsT replT nrmT (by rfl) (by rfl) (by rfl)) ?_
  refine JL_nil ?_
  refine JQ_then (JC_seq ?_)
  refine JC_region (JL_1 rfl (by exact op_loadPtrsN (n := 3) (Ev.rfl' rfl) memT (by rfl) (by rfl) (by rfl) (by rfl) nrmT) ?_)
  refine JL_1 rfl (op_call Tryz.call55 (PackTag_ok g) ⟨evS, trivial⟩) ?_
  refine JL_1 rfl (by exact op_fieldPtr (k := 2) (Ev.rfl' rfl) rfl rfl rfl rfl) ?_
  refine JL_1 rfl (op_indexArr (k := 0) (sz := 1) (Ev.rfl' rfl) (Ev.rfl' rfl) rfl rfl idxT (by decide)) ?_
  refine JL_s0 (op_storeN (Ev.rfl' rfl) (Ev.rfl' rfl) cellsT replT nrmT (by rfl) (by rfl) (by rfl)) ?_
  refine JL_nil ?_
  refine JQ_then (JC_seq ?_)
  refine JC_region (JL_1 rfl (by exact op_loadPtrsN (n := 9) (Ev.rfl' rfl) memT (by rfl) (by rfl) (by rfl) (by rfl) nrmT) ?_)
  refine JL_s0 (op_storeN (Ev.rfl' rfl) (Ev.rfl' rfl) cellsT replT nrmT (by rfl) (by rfl) (by rfl)) ?_
  refine JL_nil ?_
  refine JQ_then (JC_ret ?_)
  exact JQ_ret (Bs := [IsPg (tagP p g)]) Tryz.results42 ⟨⟨_, _, _, _, rfl, memT, rfl, .inr ⟨rfl, _, rfl, rfl, subT⟩⟩, trivial⟩ () SubL.rfl' (List.nil_sublist _)
def relP (p : Pg) : Pg × Int :=
  if heapB p.l = true then (if lockB p = true then (Pg.nil, 3) else if kindV p.d0 = 0 then (Pg.nil, 16) else (tagP p ⟨0, genV p.d0, 0#32⟩, 0)) else (Pg.nil, 1)
-- pointer.Release: function 100
theorem Release_ok (p : Pg) : FnP Tryz.prog 100 [IsPg p] (IsTup [IsPg (relP p).1, Is (.int .i64 (relP p).2)]) := by
  refine FnP.enter Tryz.func100 Tryz.ntmps100 rfl rfl ?_
  intro c hX
  refine JC_seq (JC_region ?_)
  (refine JL_n rfl (op_box (Ev.rfl' rfl) cellsT) ?_; intro i1)
  (refine JL_n rfl (op_allocN rfl nrmT rfl) ?_; intro i2)
  refine JL_1 rfl (op_assign rfl) (JL_nil ?_)
  refine JQ_then (JC_seq ?_)
  refine JC_region (JL_1 rfl (by exact op_loadPtrsN (n := 9) (Ev.rfl' rfl) memT (by rfl) (by rfl) (by rfl) (by rfl) nrmT) ?_)
  refine JL_1 rfl (op_call Tryz.call40 (tagOf_ok p) ⟨evS, trivial⟩) ?_
  (refine JL_n rfl (op_allocN rfl nrmT rfl) ?_; intro i4)
  refine JL_s0 (op_storeN (Ev.rfl' rfl) (Ev.rfl' rfl) cellsT replT nrmT (by rfl) (by rfl) (by rfl)) ?_
  refine JL_nil ?_
  refine JQ_then (JC_seq (JC_block (JC_seq ?_)))
  refine JC_region (JL_1 rfl (by exact op_fieldPtr (k := 0) (Ev.rfl' rfl) rfl rfl rfl rfl) ?_)
  refine JL_1 rfl (by exact op_loadPtr (Ev.rfl' rfl) memT (by rfl) (by rfl) (by rfl)) ?_
  refine JL_1 rfl (op_call Tryz.call41 (inHeap_ok _) ⟨evS, trivial⟩) ?_
  refine JL_1 rfl (op_not (Ev.rfl' rfl)) (JL_1 rfl (op_assign rfl) (JL_nil (JQ_then ?_)))
  refine JC_cond (Ev.rfl' rfl) (fun h2 => ?_) (fun h2 => ?_)
  · have e : relP p = (Pg.nil, 1) := by unfold relP; rw [if_neg (by simpa using h2)]
    rw [e]
    refine JC_seq (JC_region (JL_1 rfl (op_buildN (qs := []) rfl rfl rfl rfl trivial (by rfl) nrmT) ?_))
    refine JL_s0 (op_storeN (Ev.rfl' rfl) (Ev.rfl' rfl) cellsT replT nrmT (by rfl) (by rfl) (by rfl)) ?_
    refine JL_1 rfl (op_assign rfl) (JL_nil ?_)
    refine JQ_then (JC_ret (JQ_block_ret (JQ_then_ret ?_)))
    exact JQ_ret (Bs := [IsPg Pg.nil, Is (.int .i64 1)]) Tryz.results100 ⟨⟨_, _, _, _, rfl, memT, rfl, .inr ⟨rfl, _, rfl, rfl, subT⟩⟩, ⟨⟨_, rfl, subT⟩, trivial⟩⟩ () SubL.rfl' (List.nil_sublist _)
  have g1 : heapB p.l = true := by simpa using h2
  refine JC_seq (JC_region (JL_1 rfl (by exact op_loadPtrsN (n := 9) (Ev.rfl' rfl) memT (by rfl) (by rfl) (by rfl) (by rfl) nrmT) ?_))
  refine JL_1 rfl (op_call Tryz.call39 (Locked_ok _) ⟨evS, trivial⟩) ?_
  refine JL_1 rfl (op_assign rfl) (JL_nil (JQ_then ?_))
  refine JC_cond (Ev.rfl' rfl) (fun h4 => ?_) (fun h4 => ?_)
  · have e : relP p = (Pg.nil, 3) := by unfold relP; rw [if_pos g1, if_pos (show lockB p = true from h4)]
    rw [e]
    refine JC_seq (JC_region (JL_1 rfl (op_buildN (qs := []) rfl rfl rfl rfl trivial (by rfl) nrmT) ?_))
    refine JL_s0 (op_storeN (Ev.rfl' rfl) (Ev.rfl' rfl) cellsT replT nrmT (by rfl) (by rfl) (by rfl)) ?_
    refine JL_1 rfl (op_assign rfl) (JL_nil ?_)
    refine JQ_then (JC_ret (JQ_block_ret (JQ_then_ret ?_)))
    exact JQ_ret (Bs := [IsPg Pg.nil, Is (.int .i64 3)]) Tryz.results100 ⟨⟨_, _, _, _, rfl, memT, rfl, .inr ⟨rfl, _, rfl, rfl, subT⟩⟩, ⟨⟨_, rfl, subT⟩, trivial⟩⟩ () SubL.rfl' (List.nil_sublist _)
  have g2 : ¬ lockB p = true := fun e => Bool.noConfusion (show false = true from h4.symm.trans e)
  refine JC_seq (JC_region (JL_1 rfl (by exact op_fieldPtr (k := 0) (Ev.rfl' rfl) rfl rfl rfl rfl) ?_))
  refine JL_1 rfl (by exact op_loadPtr (Ev.rfl' rfl) memT (by rfl) (by rfl) (by rfl)) ?_
  refine JL_1 rfl (op_eql (Ev.rfl' rfl) (Ev.rfl' rfl)) (JL_1 rfl (op_assign rfl) (JL_nil (JQ_then ?_)))
  refine JC_cond (Ev.rfl' rfl) (fun h6 => ?_) (fun h6 => ?_)
  · have g3 : kindV p.d0 = 0 := by simpa [unpackT] using h6
    have e : relP p = (Pg.nil, 16) := by unfold relP; rw [if_pos g1, if_neg g2, if_pos g3]
    rw [e]
    refine JC_seq (JC_region (JL_1 rfl (op_buildN (qs := []) rfl rfl rfl rfl trivial (by rfl) nrmT) ?_))
    refine JL_s0 (op_storeN (Ev.rfl' rfl) (Ev.rfl' rfl) cellsT replT nrmT (by rfl) (by rfl) (by rfl)) ?_
    refine JL_1 rfl (op_assign rfl) (JL_nil ?_)
    refine JQ_then (JC_ret (JQ_block_ret (JQ_then_ret ?_)))
    exact JQ_ret (Bs := [IsPg Pg.nil, Is (.int .i64 16)]) Tryz.results100 ⟨⟨_, _, _, _, rfl, memT, rfl, .inr ⟨rfl, _, rfl, rfl, subT⟩⟩, ⟨⟨_, rfl, subT⟩, trivial⟩⟩ () SubL.rfl' (List.nil_sublist _)
  have g3 : ¬ kindV p.d0 = 0 := by simpa [unpackT] using h6
  have e : relP p = (tagP p ⟨0, genV p.d0, 0#32⟩, 0) := by unfold relP; rw [if_pos g1, if_neg g2, if_neg g3]
  rw [e]
  clear h6
  refine JC_skip (JQ_block (JQ_then (JC_seq ?_)))
  refine JC_region (JL_1 rfl (by exact op_loadPtrsN (n := 9) (Ev.rfl' rfl) memT (by rfl) (by rfl) (by rfl) (by rfl) nrmT) ?_)
  refine JL_1 rfl (by exact op_fieldPtr (k := 1) (Ev.rfl' rfl) rfl rfl rfl rfl) ?_
  refine JL_1 rfl (by exact op_loadPtr (Ev.rfl' rfl) memT (by rfl) (by rfl) (by rfl)) ?_
  refine JL_1 rfl (op_buildN (qs := [(0, _), (1, _)]) rfl rfl rfl rfl ⟨⟨rfl, _, (Ev.rfl' rfl), cellsT⟩, ⟨⟨rfl, _, (Ev.rfl' rfl), cellsT⟩, trivial⟩⟩ (by rfl) nrmT) ?_
  refine JL_1 rfl (op_call Tryz.call42 (tagged_ok p ⟨0, genV p.d0, 0#32⟩) ⟨evS, ⟨evS, trivial⟩⟩) ?_
  refine JL_s0 (op_storeN (Ev.rfl' rfl) (Ev.rfl' rfl) cellsT replT nrmT (by rfl) (by rfl) (by rfl)) ?_
  refine JL_1 rfl (op_assign rfl) (JL_nil ?_)
  refine JQ_then (JC_ret ?_)
  exact JQ_ret (Bs := [IsPg (tagP p ⟨0, genV p.d0, 0#32⟩), Is (.int .i64 0)]) Tryz.results100 ⟨⟨_, _, _, _, rfl, memT, rfl, .inr ⟨rfl, _, rfl, rfl, subT⟩⟩, ⟨⟨_, rfl, subT⟩, trivial⟩⟩ () SubL.rfl' (List.nil_sublist _)
def allP (p : Pg) (kind : Int) (aux : BitVec 32) : Pg × Int :=
  if heapB p.l = true then (if lockB p = true then (Pg.nil, 3) else if kindV p.d0 ≠ 0 then (Pg.nil, 17) else if genV p.d0 = 16777215 then (Pg.nil, 18) else (tagP p ⟨kind, genV p.d0 + 1, aux⟩, 0)) else (Pg.nil, 1)
-- pointer.Allocate: function 16
theorem AllocateP_ok (p : Pg) (kind : Int) (aux : BitVec 32) (hk : 1 ≤ kind ∧ kind ≤ 4) : FnP Tryz.prog 16 [IsPg p, Is (.int .i64 kind), Is (.int .u32 (UV aux))] (IsTup [IsPg (allP p kind aux).1, Is (.int .i64 (allP p kind aux).2)]) := by
  have hgen := gen_eq p.d0
  have hgr : 0 ≤ genV p.d0 ∧ genV p.d0 ≤ 16777215 := by rw [hgen]; have := UV_nonneg p.d0; omega
  refine FnP.enter Tryz.func16 Tryz.ntmps16 rfl rfl ?_
  intro c hX
  refine JC_seq (JC_region ?_)
  (refine JL_n rfl (op_box (Ev.rfl' rfl) cellsT) ?_; intro i3)
  (refine JL_n rfl (op_allocN rfl nrmT rfl) ?_; intro i6)
  refine JL_1 rfl (op_assign rfl) (JL_nil ?_)
  refine JQ_then (JC_seq ?_)
  refine JC_region (JL_1 rfl (by exact op_loadPtrsN (n := 9) (Ev.rfl' rfl) memT (by rfl) (by rfl) (by rfl) (by rfl) nrmT) ?_)
  refine JL_1 rfl (op_call Tryz.call40 (tagOf_ok p) ⟨evS, trivial⟩) ?_
  (refine JL_n rfl (op_allocN rfl nrmT rfl) ?_; intro i8)
  refine JL_s0 (op_storeN (Ev.rfl' rfl) (Ev.rfl' rfl) cellsT replT nrmT (by rfl) (by rfl) (by rfl)) ?_
  refine JL_nil ?_
  refine JQ_then (JC_seq (JC_block (JC_seq ?_)))
  refine JC_region (JL_1 rfl (by exact op_fieldPtr (k := 0) (Ev.rfl' rfl) rfl rfl rfl rfl) ?_)
  refine JL_1 rfl (by exact op_loadPtr (Ev.rfl' rfl) memT (by rfl) (by rfl) (by rfl)) ?_
  refine JL_1 rfl (op_call Tryz.call41 (inHeap_ok _) ⟨evS, trivial⟩) ?_
  refine JL_1 rfl (op_not (Ev.rfl' rfl)) (JL_1 rfl (op_move rfl) ?_)
  (refine JL_i0 rfl rfl rfl (fun hg => (by have hg0 := hg; (try simp at hg); exact op_moveE (Ev.rfl' rfl))) ?_)
  (refine JL_i0 rfl rfl rfl (fun hg => (by have hg0 := hg; (try simp at hg); exact op_lss evG evG)) ?_)
  refine JL_1 rfl (op_or (Ev.rfl' rfl) rfl (fun h => by exact SubL.iteT (by (rw [h]; rfl)) SubL.rfl')) ?_
  refine JL_1 rfl (op_move rfl) ?_
  (refine JL_i0 rfl rfl rfl (fun hg => (by have hg0 := hg; (try simp at hg); exact op_moveE (Ev.rfl' rfl))) ?_)
  (refine JL_i0 rfl rfl rfl (fun hg => (by have hg0 := hg; (try simp at hg); exact op_gtr evG evG)) ?_)
  refine JL_1 rfl (op_or (Ev.rfl' rfl) rfl (fun h => by exact SubL.iteT (by (rw [h]; rfl)) SubL.rfl')) ?_
  refine JL_1 rfl (op_assign rfl) (JL_nil (JQ_then ?_))
  refine JC_cond (Ev.rfl' rfl) (fun h2 => ?_) (fun h2 => ?_)
  · have g1 : ¬ heapB p.l = true := by
      intro hh
      rw [hh] at h2
      simp at h2
      omega
    have e : allP p kind aux = (Pg.nil, 1) := by unfold allP; rw [if_neg g1]
    rw [e]
    refine JC_seq (JC_region (JL_1 rfl (op_buildN (qs := []) rfl rfl rfl rfl trivial (by rfl) nrmT) ?_))
    refine JL_s0 (op_storeN (Ev.rfl' rfl) (Ev.rfl' rfl) cellsT replT nrmT (by rfl) (by rfl) (by rfl)) ?_
    refine JL_1 rfl (op_assign rfl) (JL_nil ?_)
    refine JQ_then (JC_ret (JQ_block_ret (JQ_then_ret ?_)))
    exact JQ_ret (Bs := [IsPg Pg.nil, Is (.int .i64 1)]) Tryz.results16 ⟨⟨_, _, _, _, rfl, memT, rfl, .inr ⟨rfl, _, rfl, rfl, subT⟩⟩, ⟨⟨_, rfl, subT⟩, trivial⟩⟩ () SubL.rfl' (List.nil_sublist _)
  have g1 : heapB p.l = true := by simp at h2; exact h2.1.1
  refine JC_seq (JC_region (JL_1 rfl (by exact op_loadPtrsN (n := 9) (Ev.rfl' rfl) memT (by rfl) (by rfl) (by rfl) (by rfl) nrmT) ?_))
  refine JL_1 rfl (op_call Tryz.call39 (Locked_ok _) ⟨evS, trivial⟩) ?_
  refine JL_1 rfl (op_assign rfl) (JL_nil (JQ_then ?_))
  refine JC_cond (Ev.rfl' rfl) (fun h4 => ?_) (fun h4 => ?_)
  · have e : allP p kind aux = (Pg.nil, 3) := by unfold allP; rw [if_pos g1, if_pos (show lockB p = true from h4)]
    rw [e]
    refine JC_seq (JC_region (JL_1 rfl (op_buildN (qs := []) rfl rfl rfl rfl trivial (by rfl) nrmT) ?_))
    refine JL_s0 (op_storeN (Ev.rfl' rfl) (Ev.rfl' rfl) cellsT replT nrmT (by rfl) (by rfl) (by rfl)) ?_
    refine JL_1 rfl (op_assign rfl) (JL_nil ?_)
    refine JQ_then (JC_ret (JQ_block_ret (JQ_then_ret ?_)))
    exact JQ_ret (Bs := [IsPg Pg.nil, Is (.int .i64 3)]) Tryz.results16 ⟨⟨_, _, _, _, rfl, memT, rfl, .inr ⟨rfl, _, rfl, rfl, subT⟩⟩, ⟨⟨_, rfl, subT⟩, trivial⟩⟩ () SubL.rfl' (List.nil_sublist _)
  have g2 : ¬ lockB p = true := fun e => Bool.noConfusion (show false = true from h4.symm.trans e)
  refine JC_seq (JC_region (JL_1 rfl (by exact op_fieldPtr (k := 0) (Ev.rfl' rfl) rfl rfl rfl rfl) ?_))
  refine JL_1 rfl (by exact op_loadPtr (Ev.rfl' rfl) memT (by rfl) (by rfl) (by rfl)) ?_
  refine JL_1 rfl (op_neq (Ev.rfl' rfl) (Ev.rfl' rfl)) (JL_1 rfl (op_assign rfl) (JL_nil (JQ_then ?_)))
  refine JC_cond (Ev.rfl' rfl) (fun h6 => ?_) (fun h6 => ?_)
  · have g3 : kindV p.d0 ≠ 0 := by simpa [unpackT] using h6
    have e : allP p kind aux = (Pg.nil, 17) := by unfold allP; rw [if_pos g1, if_neg g2, if_pos g3]
    rw [e]
    refine JC_seq (JC_region (JL_1 rfl (op_buildN (qs := []) rfl rfl rfl rfl trivial (by rfl) nrmT) ?_))
    refine JL_s0 (op_storeN (Ev.rfl' rfl) (Ev.rfl' rfl) cellsT replT nrmT (by rfl) (by rfl) (by rfl)) ?_
    refine JL_1 rfl (op_assign rfl) (JL_nil ?_)
    refine JQ_then (JC_ret (JQ_block_ret (JQ_then_ret ?_)))
    exact JQ_ret (Bs := [IsPg Pg.nil, Is (.int .i64 17)]) Tryz.results16 ⟨⟨_, _, _, _, rfl, memT, rfl, .inr ⟨rfl, _, rfl, rfl, subT⟩⟩, ⟨⟨_, rfl, subT⟩, trivial⟩⟩ () SubL.rfl' (List.nil_sublist _)
  have g3 : ¬ kindV p.d0 ≠ 0 := by simpa [unpackT] using h6
  refine JC_seq (JC_region (JL_1 rfl (by exact op_fieldPtr (k := 1) (Ev.rfl' rfl) rfl rfl rfl rfl) ?_))
  refine JL_1 rfl (by exact op_loadPtr (Ev.rfl' rfl) memT (by rfl) (by rfl) (by rfl)) ?_
  refine JL_1 rfl (op_eql (Ev.rfl' rfl) (Ev.rfl' rfl)) (JL_1 rfl (op_assign rfl) (JL_nil (JQ_then ?_)))
  refine JC_cond (Ev.rfl' rfl) (fun h8 => ?_) (fun h8 => ?_)
  · have g4 : genV p.d0 = 16777215 := by simpa [unpackT] using h8
    have e : allP p kind aux = (Pg.nil, 18) := by unfold allP; rw [if_pos g1, if_neg g2, if_neg g3, if_pos g4]
    rw [e]
    refine JC_seq (JC_region (JL_1 rfl (op_buildN (qs := []) rfl rfl rfl rfl trivial (by rfl) nrmT) ?_))
    refine JL_s0 (op_storeN (Ev.rfl' rfl) (Ev.rfl' rfl) cellsT replT nrmT (by rfl) (by rfl) (by rfl)) ?_
    refine JL_1 rfl (op_assign rfl) (JL_nil ?_)
    refine JQ_then (JC_ret (JQ_block_ret (JQ_then_ret ?_)))
    exact JQ_ret (Bs := [IsPg Pg.nil, Is (.int .i64 18)]) Tryz.results16 ⟨⟨_, _, _, _, rfl, memT, rfl, .inr ⟨rfl, _, rfl, rfl, subT⟩⟩, ⟨⟨_, rfl, subT⟩, trivial⟩⟩ () SubL.rfl' (List.nil_sublist _)
  have g4 : ¬ genV p.d0 = 16777215 := by simpa [unpackT] using h8
  have e : allP p kind aux = (tagP p ⟨kind, genV p.d0 + 1, aux⟩, 0) := by unfold allP; rw [if_pos g1, if_neg g2, if_neg g3, if_neg g4]
  rw [e]
  clear h8 h6
  refine JC_skip (JQ_block (JQ_then (JC_seq ?_)))
  refine JC_region (JL_1 rfl (by exact op_loadPtrsN (n := 9) (Ev.rfl' rfl) memT (by rfl) (by rfl) (by rfl) (by rfl) nrmT) ?_)
  refine JL_1 rfl (op_move rfl) (JL_1 rfl (by exact op_fieldPtr (k := 1) (Ev.rfl' rfl) rfl rfl rfl rfl) ?_)
  refine JL_1 rfl (by exact op_loadPtr (Ev.rfl' rfl) memT (by rfl) (by rfl) (by rfl)) ?_
  refine JL_1 rfl (op_add (Ev.rfl' rfl) (Ev.rfl' rfl) (wI64 (n := genV p.d0 + 1) (by omega))) ?_
  refine JL_1 rfl (op_move rfl) (JL_1 rfl (op_buildN (qs := [(0, _), (1, _), (2, _)]) rfl rfl rfl rfl ⟨⟨rfl, _, (Ev.rfl' rfl), cellsT⟩, ⟨⟨rfl, _, (Ev.rfl' rfl), cellsT⟩, ⟨⟨rfl, _, (Ev.rfl' rfl), cellsT⟩, trivial⟩⟩⟩ (by rfl) nrmT) ?_)
  refine JL_1 rfl (op_call Tryz.call42 (tagged_ok p ⟨kind, genV p.d0 + 1, aux⟩) ⟨evS, ⟨evS, trivial⟩⟩) ?_
  refine JL_s0 (op_storeN (Ev.rfl' rfl) (Ev.rfl' rfl) cellsT replT nrmT (by rfl) (by rfl) (by rfl)) ?_
  refine JL_1 rfl (op_assign rfl) (JL_nil ?_)
  refine JQ_then (JC_ret ?_)
  exact JQ_ret (Bs := [IsPg (tagP p ⟨kind, genV p.d0 + 1, aux⟩), Is (.int .i64 0)]) Tryz.results16 ⟨⟨_, _, _, _, rfl, memT, rfl, .inr ⟨rfl, _, rfl, rfl, subT⟩⟩, ⟨⟨_, rfl, subT⟩, trivial⟩⟩ () SubL.rfl' (List.nil_sublist _)
end Go.Proofs.YtfkmbdpnjcgimaaGreat

/- Contracts: pages committed to a heap. Own work. -/
namespace Go.Proofs.YtfkmbdpnjcgimaaGreat
open Go.RowKit
set_option linter.unusedVariables false
set_option linter.unusedSimpArgs false
set_option maxRecDepth 100000
def nextH (x : BitVec 64) : BitVec 64 := BitVec.ofInt 64 (IntKind.u64.wrap (IntKind.u64.wrap (IntKind.u64.wrap ((UV x).tdiv 256) + 1) * 256))
def comP (H : List Pg) (w : Pg) : List Pg := if 96 ≤ w.l ∧ w.l < 96 + (H.length : Int) then H.set (w.l - 96).toNat { w with h := nextH (H.getD (w.l - 96).toNat Pg.nil).h } else H
theorem comP_len (H : List Pg) (w : Pg) : (comP H w).length = H.length := by unfold comP; split <;> simp
theorem com_len : ∀ (ws H : List Pg), (ws.foldl comP H).length = H.length
  | [], H => rfl
  | w :: ws, H => by rw [List.foldl_cons, com_len ws, comP_len]
theorem com_take {ws H : List Pg} {k : Nat} {w : Pg} (h : ws[k]? = some w) : (ws.take (k + 1)).foldl comP H = comP ((ws.take k).foldl comP H) w := by
  rw [List.take_add_one, h, List.foldl_append]; rfl
theorem nextH_eq (x : BitVec 64) : IntKind.u64.wrap (IntKind.u64.wrap (IntKind.u64.wrap ((UV x).tdiv 256) + 1) * 256) = UV (nextH x) := (UV_ofInt64 (wrr _)).symm
-- (*bodega/bodegaheap.Heap).Commit: function 14
set_option maxHeartbeats 1000000 in
theorem Commit_ok (b n : Nat) (s : Option Addr × Nat) (lines : Int) (H ws : List Pg) (hH : H.length = n) (hn : n ≤ 200) (hlo : ∀ w, w ∈ ws → -9223372036854775000 ≤ w.l ∧ w.l ≤ 9223372036854775807) :
    Fn Tryz.prog 14 [Is (.pointer (some ⟨b, 0, none⟩)), IsSl tPg ws] [blk b 58 (heapC (slV n s) lines), buf (slV n s) 51 tPg H] (fun _ : Unit => IsTup []) (fun _ => [blk b 58 (heapC (slV n s) lines), buf (slV n s) 51 tPg (ws.foldl comP H)]) := by
  refine Fn.enterN Tryz.func14 Tryz.ntmps14 rfl rfl ?_
  intro c hX
  refine JC_len (t := 1) rfl (fun hlen => ?_)
  refine JC_seq (JC_region (JL_1 rfl (op_assign rfl) (JL_nil ?_)))
  refine JQ_then (JC_block ?_)
  refine JC_loopP (fun k : Nat => k ≤ ws.length) (fun k => [(0, Is (.pointer (some ⟨b, 0, none⟩))), (1, IsSl tPg ws), (4, Is (.int .i64 (k : Nat)))]) (fun k => [blk b 58 (heapC (slV n s) lines), buf (slV n s) 51 tPg ((ws.take k).foldl comP H)]) (fun k => ws.length - k) 0 (Nat.zero_le _) esubT lessT ?_
  rintro k hk
  refine JC_seq (JC_seq ?_)
  refine JC_region (JL_1 rfl (op_move rfl) (JL_1 rfl (op_move rfl) (JL_1 rfl (by exact op_len (Ev.rfl' rfl) rfl) ?_)))
  refine JL_1 rfl (op_lss (Ev.rfl' rfl) (Ev.rfl' rfl)) (JL_nil (JQ_then ?_))
  refine JC_cond (Ev.rfl' rfl) (fun h1 => ?_) (fun h1 => ?_)
  · have hlt : k < ws.length := by have := of_decide_eq_true h1; omega
    clear h1
    obtain ⟨w, hz⟩ : ∃ z, ws[k]? = some z := ⟨ws[k], List.getElem?_eq_getElem hlt⟩
    have hct := com_take (H := H) hz
    have hwl := hlo w (List.mem_of_getElem? hz)
    obtain ⟨G, hG⟩ : ∃ G, (ws.take k).foldl comP H = G := ⟨_, rfl⟩
    have hGl : G.length = n := by rw [← hG, com_len, hH]
    rw [hG] at hct
    rw [hG]
    refine JC_skip (JQ_then (JC_seq (JC_block (JC_seq ?_))))
    refine JC_region (JL_1 rfl (op_move rfl) (JL_1 rfl (op_move rfl) (JL_1 rfl (by exact op_index (j := _) (Ev.rfl' rfl) (Ev.rfl' rfl) rfl rfl (by rfl) hz) ?_)))
    refine JL_1 rfl (by exact op_fieldRefN (k := 0) (Ev.rfl' rfl) rfl rfl rfl rfl nrmT) ?_
    refine JL_1 rfl (by exact op_loadRef (Ev.rfl' rfl) rfl rfl rfl) ?_
    refine JL_1 rfl (op_sub (Ev.rfl' rfl) (Ev.rfl' rfl) wrapT) ?_
    refine JL_1 rfl (op_assign rfl) (JL_nil ?_)
    refine JQ_then (JC_seq ?_)
    refine JC_region (JL_1 rfl (op_move rfl) (JL_1 rfl (op_geq (Ev.rfl' rfl) (Ev.rfl' rfl)) (JL_1 rfl (op_move rfl) ?_)))
    (refine JL_i0 rfl rfl rfl (fun hg => (by have hg0 := hg; (try simp at hg); exact op_moveE (Ev.rfl' rfl))) ?_)
    (refine JL_i0 rfl rfl rfl (fun hg => (by have hg0 := hg; (try simp at hg); exact op_moveE (Ev.rfl' rfl))) ?_)
    (refine JL_i0 rfl rfl rfl (fun hg => (by have hg0 := hg; (try simp at hg); exact op_nilCheck evG)) ?_)
    (refine JL_i0 rfl rfl rfl (fun hg => (by have hg0 := hg; (try simp at hg); exact op_fieldPtr (k := 0) evG rfl rfl rfl rfl)) ?_)
    (refine JL_i0 rfl rfl rfl (fun hg => (by have hg0 := hg; (try simp at hg); exact op_loadPtr evG memT (by rfl) (by rfl) (by rfl))) ?_)
    (refine JL_i0 rfl rfl rfl (fun hg => (by have hg0 := hg; (try simp at hg); exact op_lenLit evG rfl)) ?_)
    (refine JL_i0 rfl rfl rfl (fun hg => (by have hg0 := hg; (try simp at hg); exact op_lss evG evG)) ?_)
    refine JL_1 rfl (op_and (Ev.rfl' rfl) rfl (fun h => by exact SubL.iteT (by (rw [h]; rfl)) SubL.rfl')) ?_
    refine JL_nil (JQ_then ?_)
    refine JC_cond (Ev.rfl' rfl) (fun h4 => ?_) (fun h4 => ?_)
    · have g : 96 ≤ w.l ∧ w.l < 96 + (n : Int) := by simp at h4; omega
      obtain ⟨j, hj⟩ : ∃ j : Nat, w.l - 96 = (j : Int) := ⟨(w.l - 96).toNat, by omega⟩
      have hjn : j < G.length := by omega
      obtain ⟨q, hq⟩ : ∃ q, G[j]? = some q := ⟨G[j], List.getElem?_eq_getElem hjn⟩
      have hcv : comP G w = G.set j { w with h := nextH q.h } := by
        unfold comP
        rw [if_pos (by omega), hj, Int.toNat_natCast, List.getD_eq_getElem?_getD, hq]
        rfl
      rw [hcv] at hct
      clear h4
      rw [hj]
      refine JC_seq (JC_region (JL_1 rfl (op_move rfl) (JL_1 rfl (op_move rfl) (JL_1 rfl (by exact op_index (j := _) (Ev.rfl' rfl) (Ev.rfl' rfl) rfl rfl (by rfl) hz) ?_))))
      refine JL_1 rfl (by exact op_loadRefsN (n := 9) (Ev.rfl' rfl) rfl rfl rfl (by rfl) nrmT) ?_
      (refine JL_n rfl (op_allocN rfl nrmT rfl) ?_; intro i6)
      refine JL_s0 (op_storeN (Ev.rfl' rfl) (Ev.rfl' rfl) cellsT replT nrmT (by rfl) (by rfl) (by rfl)) ?_
      refine JL_nil ?_
      refine JQ_then (JC_seq ?_)
      refine JC_region (JL_1 rfl (op_move rfl) (JL_1 rfl (by exact op_nilCheck (Ev.rfl' rfl)) ?_))
      refine JL_1 rfl (by exact op_fieldPtr (k := 0) (Ev.rfl' rfl) rfl rfl rfl rfl) ?_
      refine JL_1 rfl (by exact op_loadPtr (Ev.rfl' rfl) memT (by rfl) (by rfl) (by rfl)) ?_
      refine JL_1 rfl (op_move rfl) (JL_1 rfl (by exact op_indexBuf (k := j) (Ev.rfl' rfl) memT (Ev.rfl' rfl) rfl rfl idxT lenT) ?_)
      refine JL_1 rfl (by exact op_fieldBuf (k := 1) (Ev.rfl' rfl) memT lenT rfl rfl rfl rfl) ?_
      refine JL_1 rfl (by exact op_loadBuf (Ev.rfl' rfl) memT hq rfl rfl (by rfl)) ?_
      refine JL_1 rfl (op_quo (Ev.rfl' rfl) (Ev.rfl' rfl) (by omega) wrapT) ?_
      refine JL_1 rfl (by exact op_add (Ev.rfl' rfl) (Ev.rfl' rfl) wrapT) ?_
      refine JL_1 rfl (by exact op_mul (Ev.rfl' rfl) (Ev.rfl' rfl) wrapT) ?_
      refine JL_1 rfl (by exact op_fieldPtr (k := 1) (Ev.rfl' rfl) rfl rfl rfl rfl) ?_
      refine JL_set 44 (Is (.int .u64 (UV (nextH q.h)))) rfl (SubL.eq (congrArg Is (congrArg (Value.int .u64) (nextH_eq q.h)))) (JL_s0 (op_storeN (Ev.rfl' rfl) (Ev.rfl' rfl) cellsT replT nrmT (by rfl) (by rfl) (by rfl)) ?_)
      refine JL_nil (JQ_then (JC_dr rfl (by kernel_rfl) ?_))
      refine JD_phase [0, 1, 1, 1, 0, 1, 1, 2] (by kernel_rfl) (by kernel_rfl) ?_
      refine PW_0 (op_move rfl) (PW_1 (by exact op_nilCheck (Ev.rfl' rfl)) ?_)
      refine PW_1 (by exact op_fieldPtr (k := 0) (Ev.rfl' rfl) rfl rfl rfl rfl) ?_
      refine PW_1 (by exact op_loadPtr (Ev.rfl' rfl) memT (by rfl) (by rfl) (by rfl)) ?_
      refine PW_0 (op_move rfl) (PW_1 (by exact op_loadPtrsN (n := 9) (Ev.rfl' rfl) memT (by rfl) (by rfl) (by rfl) (by rfl) nrmT) ?_)
      refine PW_1 (by exact op_indexBuf (k := j) (Ev.rfl' rfl) memT (Ev.rfl' rfl) rfl rfl idxT lenT) ?_
      refine PW_2 (by exact op_storeBuf0 (z' := { w with h := nextH q.h }) (Ev.rfl' rfl) (Ev.rfl' rfl) cellsT replT hq rfl (by rfl) (by rfl)) ?_
      refine PW_end (JD_end ?_)
      refine JQ_block (JQ_then ?_)
      refine JC_region (JL_1 rfl (op_move rfl) (JL_1 rfl (op_add (Ev.rfl' rfl) (Ev.rfl' rfl) wrapT) ?_))
      refine JL_1 rfl (op_assign rfl) (JL_nil ?_)
      (rw [← hct]; exact JQ_roundP (k + 1) (by omega) (by omega) esubT lessT)
    have hcv : comP G w = G := by
      unfold comP
      rw [if_neg]
      simp at h4
      omega
    rw [hcv] at hct
    rw [← hct]
    clear h4
    refine JC_skip (JQ_block (JQ_then ?_))
    refine JC_region (JL_1 rfl (op_move rfl) (JL_1 rfl (op_add (Ev.rfl' rfl) (Ev.rfl' rfl) wrapT) ?_))
    refine JL_1 rfl (op_assign rfl) (JL_nil ?_)
    exact JQ_roundP (k + 1) (by omega) (by omega) esubT lessT
  have hke : k = ws.length := by have := of_decide_eq_false h1; omega
  subst hke
  clear h1
  rw [List.take_length]
  refine JC_exit (JQ_then_exit (JQ_then_exit (JQ_hit (JQ_end ?_))))
  exact JQ_retP (Bs := []) Tryz.results14 trivial () SubL.rfl' lessT
end Go.Proofs.YtfkmbdpnjcgimaaGreat

/- Contracts: the number of ones of a word; the pages of a segment that are not allocated; maps looked up. Own work. -/
namespace Go.Proofs.YtfkmbdpnjcgimaaGreat
open Go.RowKit
set_option linter.unusedVariables false
set_option linter.unusedSimpArgs false
set_option maxRecDepth 100000
theorem op_indexPop {P : Program} {c : Ctx} {A : Nat → Option VP} {L : List Item} {d : Option Tmp} {ty : TypeId} {pos : String} {af : Array Edge} {g : Option (Nat × Bool)} {t : TypeId} {s : ByteArray} {y : Operand} {q : IntKind} {j : Int} (hs : s = Lib.pop8tab) (hu : P.underlying t = some .string) (hy : Ev A L y (Is (.int q j))) (h0 : 0 ≤ j) (h1 : j ≤ 255) :
    OpP P c ⟨d, .index t (.const (.string s)) y, ty, pos, af, g⟩ A L (Is (.int .u8 (Lib.pop8 j))) :=
  opp fun φ a w hm he => by
    have e1 : a.eval y = .int q j := he y (by simp [Op.operands]) _ hy
    refine ⟨_, ?_, rfl⟩
    have e2 : a.eval (.const (.string s)) = .string s := rfl
    simp only [execOp, e1, e2, hs]
    exact run_val (Lib.run_index_pop8tab w t q j hu h0 h1)
theorem pop8_rng : ∀ n : Fin 256, 0 ≤ Lib.pop8 (n.val : Int) ∧ Lib.pop8 (n.val : Int) ≤ 8 := by decide +kernel
theorem pop8_in {j : Int} (h0 : 0 ≤ j) (h1 : j ≤ 255) : 0 ≤ Lib.pop8 j ∧ Lib.pop8 j ≤ 8 := by
  have h := pop8_rng ⟨j.toNat, by omega⟩
  rw [show ((⟨j.toNat, by omega⟩ : Fin 256).val : Int) = j by simp; omega] at h
  exact h
theorem wU8 {n : Int} (h : 0 ≤ n ∧ n < 256) : IntKind.u8.wrap n = n := by
  rw [to_u8_int]; unfold UV; rw [BitVec.toNat_ofInt]; simp; omega
def popV (u : BitVec 32) : Int := Lib.pop8 (UV (u >>> 24)) + Lib.pop8 (UV (u >>> 16 &&& BitVec.ofInt 32 255)) + Lib.pop8 (UV (u >>> 8 &&& BitVec.ofInt 32 255)) + Lib.pop8 (UV (u &&& BitVec.ofInt 32 255))
theorem b255 (x : BitVec 32) : 0 ≤ UV (x &&& BitVec.ofInt 32 255) ∧ UV (x &&& BitVec.ofInt 32 255) ≤ 255 := by
  rw [UV_low 32 8 x _ rfl]
  have := UV_nonneg x
  omega
theorem b24 (x : BitVec 32) : 0 ≤ UV (x >>> 24) ∧ UV (x >>> 24) ≤ 255 := by
  rw [UV_shr]
  have := UV_nonneg x
  have h : UV x < 4294967296 := by unfold UV; have := x.isLt; omega
  omega
theorem popV_rng (u : BitVec 32) : 0 ≤ popV u ∧ popV u ≤ 32 := by
  unfold popV
  have h1 := pop8_in (b24 u).1 (b24 u).2
  have h2 := pop8_in (b255 (u >>> 16)).1 (b255 (u >>> 16)).2
  have h3 := pop8_in (b255 (u >>> 8)).1 (b255 (u >>> 8)).2
  have h4 := pop8_in (b255 u).1 (b255 u).2
  omega
-- math/bits.OnesCount32: function 54
theorem OnesCount32_ok (u : BitVec 32) : FnP Tryz.prog 54 [Is (.int .u32 (UV u))] (Is (.int .i64 (popV u))) := by
  have h1 := pop8_in (b24 u).1 (b24 u).2
  have h2 := pop8_in (b255 (u >>> 16)).1 (b255 (u >>> 16)).2
  have h3 := pop8_in (b255 (u >>> 8)).1 (b255 (u >>> 8)).2
  have h4 := pop8_in (b255 u).1 (b255 u).2
  refine FnP.enter Tryz.func54 Tryz.ntmps54 rfl rfl ?_
  intro c hX
  refine JC_seq (JC_region (JL_1 rfl (op_assign rfl) (JL_nil ?_)))
  refine JQ_then (JC_seq ?_)
  refine JC_dr rfl (by kernel_rfl) ?_
  refine JD_stretch 19 (by kernel_rfl) ?_
  refine JW_1 (op_move rfl) (JW_1 (by exact op_shrU32 (k := 24) ev32 (Ev.rfl' rfl) (by omega) idxT) ?_)
  refine JW_1 (op_indexPop rfl rfl (Ev.rfl' rfl) (b24 u).1 (b24 u).2) (JW_1 (op_move rfl) (JW_1 (by exact op_shrU32 (k := 16) ev32 (Ev.rfl' rfl) (by omega) idxT) ?_))
  refine JW_1 (by exact op_bits ev32 ev32 (by simp) (and_u32 _ _)) ?_
  refine JW_1 (op_indexPop rfl rfl (Ev.rfl' rfl) (b255 _).1 (b255 _).2) (JW_1 (op_add (Ev.rfl' rfl) (Ev.rfl' rfl) (wU8 (by omega))) ?_)
  refine JW_1 (op_move rfl) (JW_1 (by exact op_shrU32 (k := 8) ev32 (Ev.rfl' rfl) (by omega) idxT) ?_)
  refine JW_1 (by exact op_bits ev32 ev32 (by simp) (and_u32 _ _)) ?_
  refine JW_1 (op_indexPop rfl rfl (Ev.rfl' rfl) (b255 _).1 (b255 _).2) (JW_1 (op_add (Ev.rfl' rfl) (Ev.rfl' rfl) (wU8 (by omega))) ?_)
  refine JW_1 (op_move rfl) (JW_1 (by exact op_bits ev32 ev32 (by simp) (and_u32 _ _)) ?_)
  refine JW_1 (op_indexPop rfl rfl (Ev.rfl' rfl) (b255 _).1 (b255 _).2) (JW_1 (op_add (Ev.rfl' rfl) (Ev.rfl' rfl) (wU8 (by omega))) ?_)
  refine JW_1 (op_conv (Ev.rfl' rfl) rfl rfl (wI64 (by omega))) ?_
  refine JW_1 (op_assign rfl) ?_
  refine ⟨rfl, ?_⟩
  refine JD_end ?_
  refine JQ_then (JC_ret ?_)
  refine JQ_ret1 Tryz.results54 rfl () (SubL.eq ?_) (List.nil_sublist _)
  rfl
def vacV (h : Hd) : Int := 15 - popV h.used
-- segment.vacant: function 36
theorem vacant_ok (h : Hd) : FnP Tryz.prog 36 [IsHd h] (Is (.int .i64 (vacV h))) := by
  have := popV_rng h.used
  refine FnP.enter Tryz.func36 Tryz.ntmps36 rfl rfl ?_
  intro c hX
  refine JC_seq (JC_region ?_)
  (refine JL_n rfl (op_box (Ev.rfl' rfl) cellsT) ?_; intro i1)
  refine JL_1 rfl (op_assign rfl) (JL_nil ?_)
  refine JQ_then (JC_seq ?_)
  refine JC_region (JL_1 rfl (by exact op_fieldPtr (k := 1) (Ev.rfl' rfl) rfl rfl rfl rfl) ?_)
  refine JL_1 rfl (by exact op_loadPtr (Ev.rfl' rfl) memT (by rfl) (by rfl) (by rfl)) ?_
  refine JL_1 rfl (op_call Tryz.call54 (OnesCount32_ok _) ⟨evS, trivial⟩) ?_
  refine JL_1 rfl (op_sub (Ev.rfl' rfl) (Ev.rfl' rfl) wrapT) ?_
  refine JL_1 rfl (op_assign rfl) (JL_nil ?_)
  refine JQ_then (JC_ret ?_)
  refine JQ_ret1 Tryz.results36 rfl () (SubL.eq ?_) (List.nil_sublist _)
  rfl
/-! ### Maps: a key that is there, a key that is not -/
section
variable {P : Program} {c : Ctx} {A : Nat → Option VP} {L : List Item} {d : Option Tmp} {ty : TypeId} {pos : String} {af : Array Edge} {g : Option (Nat × Bool)} {α : Type} {V : α → VP} {l : List (Int × α)} {b : Nat} {t kt et : TypeId} {x y : Operand}
theorem op_lookupS {k : Int} {zv : Value} {v : α} (hv : mget l k = some v) (hx : Ev A L x (Is (.map (some b)))) (hL : mp b V l ∈ L) (hy : Ev A L y (Is (.int .i64 k))) (hu : P.underlying t = some (.map kt et)) (hk : P.underlying kt = some (.int .i64)) (hz : (P.info? et).map (·.zero) = some (some zv)) :
    OpP P c ⟨d, .lookup t x y false, ty, pos, af, g⟩ A L (V v) := by
  have h := op_lookup (P := P) (c := c) (d := d) (ty := ty) (pos := pos) (af := af) (g := g) hx hL hy hu hk hz
  rw [hv] at h
  exact h
end
end Go.Proofs.YtfkmbdpnjcgimaaGreat

/- Plain laws: which pages are taken when pages are allocated. Own work. -/
namespace Go.Proofs.YtfkmbdpnjcgimaaGreat
open Go.RowKit
set_option linter.unusedVariables false
set_option linter.unusedSimpArgs false
set_option maxRecDepth 100000
/-! ### Maps that are told as lists of keys -/
theorem mput_new {α : Type} {k : Int} {x : α} : ∀ {l : List (Int × α)}, k ∉ l.map Prod.fst → mput l k x = l ++ [(k, x)]
  | [], _ => rfl
  | (j, y) :: l, h => by
    simp only [List.map_cons, List.mem_cons, not_or] at h
    unfold mput
    rw [if_neg (fun e => h.1 e.symm), mput_new h.2]
    rfl
theorem mput_last {α : Type} {k : Int} {x y : α} : ∀ {l : List (Int × α)}, k ∉ l.map Prod.fst → mput (l ++ [(k, y)]) k x = l ++ [(k, x)]
  | [], _ => by simp [mput]
  | (j, z) :: l, h => by
    simp only [List.map_cons, List.mem_cons, not_or] at h
    rw [List.cons_append]
    unfold mput
    rw [if_neg (fun e => h.1 e.symm), mput_last h.2]
    rfl
theorem mget_none {α : Type} {k : Int} : ∀ {l : List (Int × α)}, k ∉ l.map Prod.fst → mget l k = none
  | [], _ => rfl
  | (j, y) :: l, h => by
    simp only [List.map_cons, List.mem_cons, not_or] at h
    unfold mget
    rw [if_neg (fun e => h.1 e.symm), mget_none h.2]
theorem mget_map {α : Type} {f : Int → α} {s : Int} : ∀ {S : List Int}, s ∈ S → mget (S.map fun s => (s, f s)) s = some (f s)
  | [], h => by cases h
  | j :: S, h => by
    simp only [List.map_cons]
    unfold mget
    by_cases e : j = s
    · rw [if_pos e, e]
    · rw [if_neg e]
      rcases List.mem_cons.1 h with h | h
      · exact absurd h.symm e
      · exact mget_map h
theorem not_in_take {S : List Int} {k : Nat} {s : Int} (hz : S[k]? = some s) (hnd : S.Nodup) : s ∉ S.take k := fun hm => by
  obtain ⟨j, hj, e⟩ := List.getElem_of_mem hm
  rw [List.getElem_take] at e
  obtain ⟨hk, e2⟩ := List.getElem?_eq_some_iff.1 hz
  have hjk : j < k := by simp at hj; omega
  exact (List.pairwise_iff_getElem.1 hnd) j k (by omega) hk hjk (e.trans e2.symm)
theorem mput_map {α : Type} {f : Int → α} {S : List Int} {k : Nat} {s : Int} (hz : S[k]? = some s) (hnd : S.Nodup) : mput ((S.take k).map fun s => (s, f s)) s (f s) = (S.take (k + 1)).map fun s => (s, f s) := by
  rw [mput_new, List.take_add_one, hz, List.map_append]
  · rfl
  · rw [List.map_map]
    show s ∉ (S.take k).map (fun x => x)
    rw [List.map_id']
    exact not_in_take hz hnd
/-! ### The segments of a bitmap are different -/
theorem ownV_lt {bm : BitVec 32} {x : Int} : ∀ {n : Nat}, x ∈ ownV bm n → 0 ≤ x ∧ x < n
  | 0, h => by cases h
  | n + 1, h => by
    unfold ownV at h
    split at h
    · rcases List.mem_append.1 h with h | h
      · have := ownV_lt h; omega
      · simp at h; omega
    · have := ownV_lt h; omega
theorem ownV_nodup (bm : BitVec 32) : ∀ n : Nat, (ownV bm n).Nodup
  | 0 => List.nodup_nil
  | n + 1 => by
    unfold ownV
    split
    · refine List.nodup_append.2 ⟨ownV_nodup bm n, by simp, fun a ha b hb e => ?_⟩
      simp at hb
      have := ownV_lt ha
      omega
    · exact ownV_nodup bm n
/-! ### What is taken -/
abbrev Pk := List (Int × List Nat)
abbrev Alo := List Int × List Pg × List Pg × Int × Bool
@[reducible] def errA (e : Int) : Alo := ([], [], [], e, true)
def orb (u : BitVec 32) (q : List Nat) : BitVec 32 := q.foldl (fun u i => u ||| BitVec.ofInt 32 1 <<< i) u
theorem orb_snoc (u : BitVec 32) (q : List Nat) (i : Nat) : orb u (q ++ [i]) = orb u q ||| BitVec.ofInt 32 1 <<< i := by unfold orb; rw [List.foldl_append]; rfl
def pkV (ks : List Pg) (l : Int) : Int :=
  if latB ks l = true then (if lockB (latP ks l) = true then 3 else if kindV (latP ks l).d0 ≠ 0 then 11 else if genV (latP ks l).d0 = 16777215 then -1 else 0) else 0
def inn (ks : List Pg) (s : Int) (cnt : Nat) : Nat → Nat → Nat → BitVec 32 → List Nat → Except Int (List Nat)
  | 0, _, _, _, q => .ok q
  | f + 1, i, ch, u, q =>
    if ch < cnt then
      if bitB u i = true then inn ks s cnt f (i + 1) ch u q
      else if pkV ks (lineV s + i) = -1 then inn ks s cnt f (i + 1) ch u q
      else if pkV ks (lineV s + i) = 0 then inn ks s cnt f (i + 1) (ch + 1) (u ||| BitVec.ofInt 32 1 <<< i) (q ++ [i])
      else .error (pkV ks (lineV s + i))
    else .ok q
def hdS' (ks : List Pg) (s : Int) : Hd := (headV ks s).2.1
def outS (ks : List Pg) (cnt : Nat) : List Int → Nat → Pk → Except Int Pk
  | [], _, ps => .ok ps
  | s :: ss, ch, ps => match inn ks s cnt 15 1 ch (hdS' ks s).used [] with
    | .error e => .error e
    | .ok q => outS ks cnt ss (ch + q.length) (ps ++ [(s, q)])
def totP (ps : Pk) : Nat := (ps.map fun x => x.2.length).sum
def linP (ps : Pk) : List Int := ps.flatMap fun x => x.2.map fun i : Nat => lineV x.1 + (i : Int)
def needP (ks : List Pg) (ps : Pk) : List Int := (linP ps).filter fun l => !latB ks l
def freP (ks : List Pg) (ps : Pk) : List Pg := ((linP ps).filter fun l => latB ks l).map (latP ks)
def newHd (ks : List Pg) (x : Int × List Nat) : Hd := ⟨(hdS' ks x.1).owner, orb (hdS' ks x.1).used x.2⟩
def chgP (ks : List Pg) (ps : Pk) : List (Int × Hd) := (ps.filter fun x => !x.2.isEmpty).map fun x => (x.1, newHd ks x)
def wriP (ks : List Pg) (ps : Pk) : List Pg := (ps.filter fun x => !x.2.isEmpty).map fun x => (writeH (headV ks x.1).1 (newHd ks x)).1
def finA (ks : List Pg) (cnt : Nat) (ps : Pk) : Alo :=
  if totP ps < cnt then errA 12 else if 0 < (needP ks ps).length then (needP ks ps, [], [], 0, false) else ([], freP ks ps, wriP ks ps, 0, true)
def excA (ks : List Pg) (cnt : Nat) : Except Int Pk → Alo
  | .error e => errA e
  | .ok ps => finA ks cnt ps
def srcV (ks : List Pg) (cnt : Nat) (S : List Int) : List Int := match S.find? fun s => decide (vacV (hdS' ks s) ≥ (cnt : Int)) with
  | some s => [s]
  | none => S
def hdE (ks : List Pg) (cl : Int) : List Int → Option Int
  | [] => none
  | s :: ss => if (headV ks s).2.2.2 ≠ 0 then some (headV ks s).2.2.2 else if (hdS' ks s).owner ≠ cl then some 11 else hdE ks cl ss
def aloH (ks : List Pg) (cl : Int) (cnt : Nat) (S T : List Int) : Alo := match hdE ks cl T with
  | some e => errA e
  | none => excA ks cnt (outS ks cnt (srcV ks cnt S) 0 [])
def innX (ks : List Pg) (cnt : Nat) (s : Int) (ss : List Int) (ch0 : Nat) (ps : Pk) : Except Int (List Nat) → Alo
  | .error e => errA e
  | .ok q => excA ks cnt (outS ks cnt ss (ch0 + q.length) (ps ++ [(s, q)]))
theorem outS_step {ks : List Pg} {cnt : Nat} {s : Int} {ss : List Int} {ch : Nat} {ps : Pk} : excA ks cnt (outS ks cnt (s :: ss) ch ps) = innX ks cnt s ss ch ps (inn ks s cnt 15 1 ch (hdS' ks s).used []) := by
  show excA ks cnt (match inn ks s cnt 15 1 ch (hdS' ks s).used [] with
    | .error e => .error e
    | .ok q => outS ks cnt ss (ch + q.length) (ps ++ [(s, q)])) = _
  cases inn ks s cnt 15 1 ch (hdS' ks s).used [] <;> rfl
theorem linP_snoc (ps : Pk) (s : Int) (q : List Nat) (i : Nat) : linP (ps ++ [(s, q ++ [i])]) = linP (ps ++ [(s, q)]) ++ [lineV s + (i : Int)] := by
  unfold linP
  simp
theorem linP_nil (ps : Pk) (s : Int) : linP (ps ++ [(s, [])]) = linP ps := by unfold linP; simp
theorem tot_snoc (ps : Pk) (s : Int) (q : List Nat) : totP (ps ++ [(s, q)]) = totP ps + q.length := by unfold totP; simp
theorem lin_len (ps : Pk) : (linP ps).length = totP ps := by
  unfold linP totP
  induction ps with
  | nil => rfl
  | cons x ps ih => simp [ih]
theorem need_le (ks : List Pg) (ps : Pk) : (needP ks ps).length ≤ totP ps := by
  rw [← lin_len]; exact List.length_filter_le _ _
theorem fre_le (ks : List Pg) (ps : Pk) : (freP ks ps).length ≤ totP ps := by
  rw [← lin_len]; unfold freP; rw [List.length_map]; exact List.length_filter_le _ _
theorem wri_le (ks : List Pg) (ps : Pk) : (wriP ks ps).length ≤ ps.length := by
  unfold wriP; rw [List.length_map]; exact List.length_filter_le _ _
theorem need_snoc0 {ks : List Pg} {ps : Pk} {s : Int} {q : List Nat} {i : Nat} (h : latB ks (lineV s + (i : Int)) = false) : needP ks (ps ++ [(s, q ++ [i])]) = needP ks (ps ++ [(s, q)]) ++ [lineV s + (i : Int)] := by
  unfold needP; rw [linP_snoc, List.filter_append]; simp [h]
theorem need_snoc1 {ks : List Pg} {ps : Pk} {s : Int} {q : List Nat} {i : Nat} (h : latB ks (lineV s + (i : Int)) = true) : needP ks (ps ++ [(s, q ++ [i])]) = needP ks (ps ++ [(s, q)]) := by
  unfold needP; rw [linP_snoc, List.filter_append]; simp [h]
theorem fre_snoc0 {ks : List Pg} {ps : Pk} {s : Int} {q : List Nat} {i : Nat} (h : latB ks (lineV s + (i : Int)) = false) : freP ks (ps ++ [(s, q ++ [i])]) = freP ks (ps ++ [(s, q)]) := by
  unfold freP; rw [linP_snoc, List.filter_append]; simp [h]
theorem fre_snoc1 {ks : List Pg} {ps : Pk} {s : Int} {q : List Nat} {i : Nat} (h : latB ks (lineV s + (i : Int)) = true) : freP ks (ps ++ [(s, q ++ [i])]) = freP ks (ps ++ [(s, q)]) ++ [latP ks (lineV s + (i : Int))] := by
  unfold freP; rw [linP_snoc, List.filter_append]; simp [h]
theorem need_nil (ks : List Pg) (ps : Pk) (s : Int) : needP ks (ps ++ [(s, [])]) = needP ks ps := by unfold needP; rw [linP_nil]
theorem fre_nil (ks : List Pg) (ps : Pk) (s : Int) : freP ks (ps ++ [(s, [])]) = freP ks ps := by unfold freP; rw [linP_nil]
theorem chg_nil (ks : List Pg) (ps : Pk) (s : Int) : chgP ks (ps ++ [(s, [])]) = chgP ks ps := by unfold chgP; simp
theorem chg_keys {ks : List Pg} {ps : Pk} {s : Int} (h : s ∉ ps.map Prod.fst) : s ∉ (chgP ks ps).map Prod.fst := fun hm => by
  unfold chgP at hm
  rw [List.map_map] at hm
  obtain ⟨x, hx, rfl⟩ := List.mem_map.1 hm
  exact h (List.mem_map.2 ⟨x, (List.mem_filter.1 hx).1, rfl⟩)
theorem chg_put {ks : List Pg} {ps : Pk} {s : Int} {q : List Nat} {i : Nat} (h : s ∉ ps.map Prod.fst) : mput (chgP ks (ps ++ [(s, q)])) s (newHd ks (s, q ++ [i])) = chgP ks (ps ++ [(s, q ++ [i])]) := by
  have e : chgP ks (ps ++ [(s, q ++ [i])]) = chgP ks ps ++ [(s, newHd ks (s, q ++ [i]))] := by unfold chgP; simp
  rw [e]
  cases q with
  | nil => rw [chg_nil, mput_new (chg_keys h)]
  | cons a q =>
    have e2 : chgP ks (ps ++ [(s, a :: q)]) = chgP ks ps ++ [(s, newHd ks (s, a :: q))] := by unfold chgP; simp
    rw [e2, mput_last (chg_keys h)]
theorem chg_get {ks : List Pg} : ∀ {ps : Pk} {k : Nat} {s : Int} {q : List Nat}, (ps.map Prod.fst).Nodup → ps[k]? = some (s, q) → mget (chgP ks ps) s = if q = [] then none else some (newHd ks (s, q))
  | [], k, s, q, _, h => by simp at h
  | (s', q') :: ps, 0, s, q, hn, h => by
    simp at h
    obtain ⟨rfl, rfl⟩ := h
    have hk := (List.nodup_cons.1 hn).1
    cases q' with
    | nil =>
      rw [if_pos rfl]
      exact mget_none (by have := chg_keys (ks := ks) hk; unfold chgP at this ⊢; simpa using this)
    | cons a q =>
      rw [if_neg (by simp)]
      have e2 : chgP ks ((s', a :: q) :: ps) = (s', newHd ks (s', a :: q)) :: chgP ks ps := by unfold chgP; simp
      rw [e2]
      unfold mget
      rw [if_pos rfl]
  | (s', q') :: ps, k + 1, s, q, hn, h => by
    have hk := (List.nodup_cons.1 hn).1
    have h' : ps[k]? = some (s, q) := by simpa using h
    have hne : s' ≠ s := fun e => hk (by
      rw [show (s', q').fst = s' from rfl, e]
      exact List.mem_map.2 ⟨_, List.mem_of_getElem? h', rfl⟩)
    have ih := chg_get (ks := ks) (List.nodup_cons.1 hn).2 h'
    cases q' with
    | nil =>
      have e2 : chgP ks ((s', []) :: ps) = chgP ks ps := by unfold chgP; simp
      rw [e2]; exact ih
    | cons a q'' =>
      have e2 : chgP ks ((s', a :: q'') :: ps) = (s', newHd ks (s', a :: q'')) :: chgP ks ps := by unfold chgP; simp
      rw [e2]
      conv => lhs; unfold mget
      rw [if_neg hne]; exact ih
theorem wri_take {ks : List Pg} {ps : Pk} {k : Nat} {s : Int} {q : List Nat} (h : ps[k]? = some (s, q)) : wriP ks (ps.take (k + 1)) = if q = [] then wriP ks (ps.take k) else wriP ks (ps.take k) ++ [(writeH (headV ks s).1 (newHd ks (s, q))).1] := by
  unfold wriP
  rw [List.take_add_one, h, List.filter_append, List.map_append]
  cases q <;> simp
end Go.Proofs.YtfkmbdpnjcgimaaGreat

/- Contracts: pages allocated. Own work. -/
namespace Go.Proofs.YtfkmbdpnjcgimaaGreat
open Go.RowKit
set_option linter.unusedVariables false
set_option linter.unusedSimpArgs false
set_option maxRecDepth 100000
theorem LatestP_ok (xs : List Pg) (l : Int) : FnP Tryz.prog 37 [IsSl tPg xs, Is (.int .i64 l)] (IsTup [IsPg (latP xs l), Is (.bool (latB xs l))]) := Latest_ok xs l
theorem LockedB_ok (p : Pg) : FnP Tryz.prog 39 [IsPg p] (Is (.bool (lockB p))) := Locked_ok p
-- segment.missing: function 25
theorem missNil_ok (ks : List Pg) (ls : List Int) (hn : missV ks ls = []) : FnP Tryz.prog 25 [IsSl tPg ks, IsSl tI64 ls] (Is (.slice none 0 0)) := by
  refine FnP.enter Tryz.func25 Tryz.ntmps25 rfl rfl ?_
  intro c hX
  refine JC_len (t := 1) rfl (fun hlen => ?_)
  refine JC_seq (JC_region (JL_1 rfl (op_assign rfl) (JL_nil ?_)))
  refine JQ_then (JC_seq ?_)
  refine JC_region (JL_1 rfl (op_assign rfl) (JL_nil ?_))
  refine JQ_then (JC_seq (JC_seq ?_))
  refine JC_region (JL_1 rfl (op_move rfl) (JL_1 rfl (by exact op_len (Ev.rfl' rfl) rfl) ?_))
  refine JL_1 rfl (op_move rfl) (JL_nil ?_)
  refine JQ_then (JC_block ?_)
  refine JC_loopP (fun k : Nat => k ≤ ls.length) (fun k => [(0, IsSl tPg ks), (1, IsSl tI64 ls), (5, Is (.slice none 0 0)), (10, IsSl tI64 ls), (11, Is (.int .i64 (ls.length : Nat))), (12, Is (.int .i64 (k : Nat)))]) (fun _ => []) (fun k => ls.length - k) 0 (Nat.zero_le _) esubT lessT ?_
  rintro k hk
  refine JC_seq (JC_region (JL_1 rfl (op_lss (Ev.rfl' rfl) (Ev.rfl' rfl)) (JL_nil ?_)))
  refine JQ_then (JC_seq ?_)
  refine JC_cond (Ev.rfl' rfl) (fun h3 => ?_) (fun h3 => ?_)
  · have hlt : k < ls.length := by have := of_decide_eq_true h3; omega
    clear h3
    obtain ⟨l, hz⟩ : ∃ z, ls[k]? = some z := ⟨ls[k], List.getElem?_eq_getElem hlt⟩
    refine JC_skip (JQ_then (JC_seq (JC_block (JC_seq ?_))))
    refine JC_region (JL_1 rfl (by exact op_index (j := _) (Ev.rfl' rfl) (Ev.rfl' rfl) rfl rfl (by rfl) hz) ?_)
    refine JL_1 rfl (by exact op_loadRef (Ev.rfl' rfl) rfl rfl rfl) ?_
    refine JL_1 rfl (op_assign rfl) (JL_nil ?_)
    refine JQ_then (JC_seq ?_)
    refine JC_region (JL_1 rfl (op_move rfl) (JL_1 rfl (op_move rfl) (JL_1 rfl (op_call Tryz.call37 (Latest_ok _ _) ⟨evS, ⟨evS, trivial⟩⟩) ?_)))
    refine JL_1 rfl (op_move rfl) (JL_1 rfl (op_extract (Ev.rfl' rfl) rfl) (JL_1 rfl (op_extract (Ev.rfl' rfl) rfl) ?_))
    (refine JL_n rfl (op_allocN rfl nrmT rfl) ?_; intro i8)
    refine JL_s0 (op_storeN (Ev.rfl' rfl) (Ev.rfl' rfl) cellsT replT nrmT (by rfl) (by rfl) (by rfl)) ?_
    refine JL_1 rfl (op_assign rfl) (JL_nil ?_)
    refine JQ_then (JC_seq ?_)
    refine JC_region (JL_1 rfl (op_move rfl) (JL_1 rfl (op_not (Ev.rfl' rfl)) (JL_nil (JQ_then ?_))))
    refine JC_cond (Ev.rfl' rfl) (fun h6 => ?_) (fun h6 => ?_)
    · exact absurd (show l ∈ missV ks ls from List.mem_filter.2 ⟨List.mem_of_getElem? hz, by revert h6; cases latO ks l <;> simp⟩) (by rw [hn]; simp)
    refine JC_skip (JQ_block (JQ_then ?_))
    refine JC_region (JL_1 rfl (op_add (Ev.rfl' rfl) (Ev.rfl' rfl) wrapT) ?_)
    refine JL_1 rfl (op_move rfl) (JL_nil ?_)
    exact JQ_roundP (k + 1) (by omega) (by omega) esubT lessT
  refine JC_exit (JQ_then_exit (JQ_then_exit (JQ_hit (JQ_then (JC_seq ?_)))))
  refine JC_region (JL_1 rfl (op_move rfl) (JL_1 rfl (by ((refine op_call Tryz.call46 (SortI_ok 0 (none, 0) ?_) ⟨evS, trivial⟩); all_goals (decide))) ?_))
  refine JL_nil ?_
  refine JQ_then (JC_seq ?_)
  refine JC_region (JL_1 rfl (op_move rfl) (JL_1 rfl (by ((refine op_call Tryz.call47 (CompactI_ok 0 (none, 0) ?_) ⟨evS, trivial⟩); all_goals (decide))) ?_))
  refine JL_1 rfl (op_assign rfl) (JL_nil ?_)
  refine JQ_then (JC_ret ?_)
  exact JQ_retP (Bs := [Is (.slice none 0 0)]) Tryz.results25 ⟨⟨_, rfl, subT⟩, trivial⟩ () SubL.rfl' lessT
section
variable {P : Program} {c : Ctx} {A : Nat → Option VP} {L : List Item} {d : Option Tmp} {ty : TypeId} {pos : String} {af : Array Edge} {g : Option (Nat × Bool)} {α : Type} {V : α → VP} {l : List (Int × α)} {b : Nat} {t kt et : TypeId} {x y : Operand}
theorem op_lookup2D {k : Int} {zv : Value} (z : α) (hz0 : ∀ φ, (V z).ok φ zv) (hx : Ev A L x (Is (.map (some b)))) (hL : mp b V l ∈ L) (hy : Ev A L y (Is (.int .i64 k))) (hu : P.underlying t = some (.map kt et)) (hk : P.underlying kt = some (.int .i64)) (hz : (P.info? et).map (·.zero) = some (some zv)) :
    OpP P c ⟨d, .lookup t x y true, ty, pos, af, g⟩ A L (IsTup [V ((mget l k).getD z), Is (.bool (mget l k).isSome)]) := by
  have h := op_lookup2 (P := P) (c := c) (d := d) (ty := ty) (pos := pos) (af := af) (g := g) hx hL hy hu hk hz
  intro φ a w K Q hm he hk'
  refine h φ a w K Q hm he fun φ' v w' hp hf => hk' φ' v w' hp ?_
  obtain ⟨vs, e, k1⟩ := hf
  refine ⟨vs, e, ?_⟩
  match vs, k1 with
  | [u1, u2], ⟨a1, a2, _⟩ =>
    refine ⟨?_, a2, trivial⟩
    cases hq : mget l k with
    | none =>
      rw [hq] at a1
      have a1' : u1 = zv := a1
      rw [a1']
      exact hz0 φ'
    | some v => rw [hq] at a1; exact a1
end
theorem hd_zero (φ : Fz) : (IsHd Hd.nil).ok φ (.agg #[.int .i64 0, .int .u32 0]) := ⟨[_, _], rfl, ⟨rfl, rfl, trivial⟩, ones_cons rfl (ones_cons rfl ones_nil)⟩
def srcR (ks : List Pg) (cnt : Nat) (S T : List Int) : List Int := match T.find? fun s => decide (vacV (hdS' ks s) ≥ (cnt : Int)) with
  | some s => [s]
  | none => S
theorem src_sub {ks : List Pg} {cnt : Nat} {S : List Int} (hn : S.Nodup) : (srcV ks cnt S).Nodup ∧ ∀ s, s ∈ srcV ks cnt S → s ∈ S := by
  unfold srcV
  split
  · rename_i s h
    refine ⟨by simp, fun x hx => ?_⟩
    rw [List.mem_singleton.1 hx]
    exact List.mem_of_find?_eq_some h
  · exact ⟨hn, fun _ h => h⟩
theorem src_len {ks : List Pg} {cnt : Nat} {S : List Int} (h : S.length ≤ 9) : (srcV ks cnt S).length ≤ 9 := by
  unfold srcV
  split
  · simp
  · exact h
theorem drop_at {α : Type} {S : List α} {k : Nat} {s : α} (hz : S[k]? = some s) : S.drop k = s :: S.drop (k + 1) := by
  obtain ⟨hk, e⟩ := List.getElem?_eq_some_iff.1 hz
  rw [List.drop_eq_getElem_cons hk, e]
theorem inn_step {ks : List Pg} {s : Int} {cnt i ch : Nat} {u : BitVec 32} {q : List Nat} (hi : i < 16) (hc : ch < cnt) : inn ks s cnt (16 - i) i ch u q = if bitB u i = true then inn ks s cnt (16 - (i + 1)) (i + 1) ch u q
      else if pkV ks (lineV s + i) = -1 then inn ks s cnt (16 - (i + 1)) (i + 1) ch u q
      else if pkV ks (lineV s + i) = 0 then inn ks s cnt (16 - (i + 1)) (i + 1) (ch + 1) (u ||| BitVec.ofInt 32 1 <<< i) (q ++ [i])
      else .error (pkV ks (lineV s + i)) := by
  obtain ⟨m, e⟩ : ∃ m, 16 - i = m + 1 := ⟨15 - i, by omega⟩
  rw [e, show 16 - (i + 1) = m by omega]
  conv => lhs; unfold inn
  rw [if_pos hc]
theorem inn_stop {ks : List Pg} {s : Int} {cnt i ch : Nat} {u : BitVec 32} {q : List Nat} (h : ¬ (i < 16 ∧ ch < cnt)) : inn ks s cnt (16 - i) i ch u q = .ok q := by
  by_cases hi : i < 16
  · obtain ⟨m, e⟩ : ∃ m, 16 - i = m + 1 := ⟨15 - i, by omega⟩
    rw [e]
    unfold inn
    rw [if_neg (by omega)]
  · rw [show 16 - i = 0 by omega]
    rfl
-- segment.Allocate: function 15
set_option maxHeartbeats 1000000 in
theorem Allocate_ok (ks : List Pg) (cl cnt : Nat) (lines : Int) (pn : Pg) (nd : Nd) (R : Alo) (hc : cl < 6) (hz0 : sizeB lines = true) (hcnt : 1 ≤ cnt ∧ cnt ≤ 12) (hN : nodeV ks cl = (pn, nd, true, 0)) (hM0 : missV ks ((ownV nd.sg (countN lines)).map lineV) = []) (hR0 : aloH ks cl cnt (ownV nd.sg (countN lines)) (ownV nd.sg (countN lines)) = R) :
    Fn Tryz.prog 15 [IsAgg [Is (.int .i64 (cl : Nat)), Is (.int .i64 lines), Is (.int .i64 (cnt : Nat))], IsSl tPg ks] [] (fun i : (Option Addr × Nat) × (Option Addr × Nat) => IsTup [IsSl tI64 R.1, Is (slV R.2.1.length i.1), Is (slV R.2.2.1.length i.2), Is (.int .i64 R.2.2.2.1), Is (.bool R.2.2.2.2)])
      (fun i => [buf (slV R.2.1.length i.1) 51 tPg R.2.1, buf (slV R.2.2.1.length i.2) 51 tPg R.2.2.1]) := by
  have hcn := countN_le lines
  have hcb : clientB (cl : Nat) = true := by unfold clientB; simp; omega
  have hnode := node_ok ks cl (by omega)
  rw [hN] at hnode
  have hown := owned_ok nd.sg (countN lines) hcn
  have hSl := ownV_len nd.sg (countN lines)
  have hSn := ownV_nodup nd.sg (countN lines)
  obtain ⟨S, hS⟩ : ∃ S, ownV nd.sg (countN lines) = S := ⟨_, rfl⟩
  rw [hS] at hown hSl hSn hM0 hR0
  have hM := hM0
  have hR := hR0
  clear hM0 hR0 hN
  obtain ⟨Q, hQ⟩ : ∃ Q, srcV ks cnt S = Q := ⟨_, rfl⟩
  have hQs := src_sub (ks := ks) (cnt := cnt) hSn
  rw [hQ] at hQs
  refine Fn.enterN Tryz.func15 Tryz.ntmps15 rfl rfl ?_
  intro c hX
  refine JC_seq (JC_region ?_)
  (refine JL_n rfl (op_box (Ev.rfl' rfl) cellsT) ?_; intro i2)
  refine JL_1 rfl (op_assign rfl) (JL_1 rfl (op_assign rfl) (JL_1 rfl (op_assign rfl) (JL_1 rfl (op_assign rfl) (JL_1 rfl (op_assign rfl) (JL_nil ?_)))))
  refine JQ_then (JC_seq (JC_seq ?_))
  refine JC_freezeB hX (b := i2) replT ?_
  refine JC_set 2 (IsRef [Is (.int .i64 (cl : Nat)), Is (.int .i64 lines), Is (.int .i64 (cnt : Nat))]) rfl (SubL.fact memT) ?_
  refine JC_region (JL_1 rfl (by exact op_fieldRefN (k := 0) (Ev.rfl' rfl) rfl rfl rfl rfl nrmT) ?_)
  refine JL_1 rfl (by exact op_loadRef (Ev.rfl' rfl) rfl rfl rfl) ?_
  refine JL_1 rfl (op_call Tryz.call23 (isClient_ok _) ⟨evS, trivial⟩) ?_
  refine JL_1 rfl (op_not (Ev.rfl' rfl)) (JL_1 rfl (op_move rfl) ?_)
  (refine JL_i0 rfl rfl rfl (fun hg => (by have hg0 := hg; (try simp at hg); exact op_fieldRefN (k := 1) evG rfl rfl rfl rfl nrmT)) ?_)
  (refine JL_i0 rfl rfl rfl (fun hg => (by have hg0 := hg; (try simp at hg); exact op_loadRef evG rfl rfl rfl)) ?_)
  (refine JL_i0 rfl rfl rfl (fun hg => (by have hg0 := hg; (try simp at hg); exact op_call Tryz.call24 (isSize_ok _) ⟨evS, trivial⟩)) ?_)
  (refine JL_i0 rfl rfl rfl (fun hg => (by have hg0 := hg; (try simp at hg); exact op_not evG)) ?_)
  refine JL_1 rfl (op_or (Ev.rfl' rfl) rfl (fun h => by exact SubL.iteT (by (rw [h]; rfl)) SubL.rfl')) ?_
  refine JL_1 rfl (op_move rfl) ?_
  (refine JL_i0 rfl rfl rfl (fun hg => (by have hg0 := hg; (try simp at hg); exact op_fieldRefN (k := 2) evG rfl rfl rfl rfl nrmT)) ?_)
  (refine JL_i0 rfl rfl rfl (fun hg => (by have hg0 := hg; (try simp at hg); exact op_loadRef evG rfl rfl rfl)) ?_)
  (refine JL_i0 rfl rfl rfl (fun hg => (by have hg0 := hg; (try simp at hg); exact op_lss evG evG)) ?_)
  refine JL_1 rfl (op_or (Ev.rfl' rfl) rfl (fun h => by exact SubL.iteT (by (rw [h]; rfl)) SubL.rfl')) ?_
  refine JL_1 rfl (op_move rfl) ?_
  (refine JL_i0 rfl rfl rfl (fun hg => (by have hg0 := hg; (try simp at hg); exact op_fieldRefN (k := 2) evG rfl rfl rfl rfl nrmT)) ?_)
  (refine JL_i0 rfl rfl rfl (fun hg => (by have hg0 := hg; (try simp at hg); exact op_loadRef evG rfl rfl rfl)) ?_)
  (refine JL_i0 rfl rfl rfl (fun hg => (by have hg0 := hg; (try simp at hg); exact op_gtr evG evG)) ?_)
  refine JL_1 rfl (op_or (Ev.rfl' rfl) rfl (fun h => by exact SubL.iteT (by (rw [h]; rfl)) SubL.rfl')) ?_
  refine JL_nil (JQ_then ?_)
  refine JC_cond (Ev.rfl' rfl) (fun h1 => ?_) (fun h1 => ?_)
  · exact absurd h1 (by rw [hcb, hz0]; simp; omega)
  clear h1
  refine JC_skip (JQ_then (JC_seq ?_))
  refine JC_region (JL_1 rfl (op_move rfl) (JL_1 rfl (by exact op_fieldRefN (k := 0) (Ev.rfl' rfl) rfl rfl rfl rfl nrmT) ?_))
  refine JL_1 rfl (by exact op_loadRef (Ev.rfl' rfl) rfl rfl rfl) ?_
  refine JL_1 rfl (op_call Tryz.call26 (hnode) ⟨evS, ⟨evS, trivial⟩⟩) ?_
  refine JL_1 rfl (op_move rfl) (JL_1 rfl (op_extract (Ev.rfl' rfl) rfl) (JL_1 rfl (op_extract (Ev.rfl' rfl) rfl) (JL_1 rfl (op_extract (Ev.rfl' rfl) rfl) (JL_1 rfl (op_extract (Ev.rfl' rfl) rfl) ?_))))
  (refine JL_n rfl (op_allocN rfl nrmT rfl) ?_; intro i9)
  (refine JL_n rfl (op_allocN rfl nrmT rfl) ?_; intro i10)
  refine JL_s0 (op_storeN (Ev.rfl' rfl) (Ev.rfl' rfl) cellsT replT nrmT (by rfl) (by rfl) (by rfl)) ?_
  refine JL_s0 (op_storeN (Ev.rfl' rfl) (Ev.rfl' rfl) cellsT replT nrmT (by rfl) (by rfl) (by rfl)) ?_
  refine JL_1 rfl (op_assign rfl) (JL_1 rfl (op_assign rfl) (JL_nil ?_))
  refine JQ_then (JC_seq (JC_seq ?_))
  refine JC_region (JL_1 rfl (op_move rfl) (JL_1 rfl (op_not (Ev.rfl' rfl)) (JL_nil (JQ_then ?_))))
  refine JC_cond (Ev.rfl' rfl) (fun h4 => ?_) (fun h4 => ?_)
  · exact absurd h4 (by simp)
  refine JC_skip (JQ_then (JC_seq (JC_seq ?_)))
  refine JC_region (JL_1 rfl (op_move rfl) (JL_1 rfl (op_neq (Ev.rfl' rfl) (Ev.rfl' rfl)) (JL_nil (JQ_then ?_))))
  refine JC_cond (Ev.rfl' rfl) (fun h6 => ?_) (fun h6 => ?_)
  · exact absurd h6 (by simp)
  refine JC_skip (JQ_then (JC_seq ?_))
  refine JC_dr rfl (by kernel_rfl) ?_
  refine JD_stretch 7 (by kernel_rfl) ?_
  refine JW_1 (by exact op_fieldPtr (k := 2) (Ev.rfl' rfl) rfl rfl rfl rfl) ?_
  refine JW_1 (by exact op_loadPtr (Ev.rfl' rfl) memT (by rfl) (by rfl) (by rfl)) ?_
  refine JW_1 (by exact op_fieldRefN (k := 1) (Ev.rfl' rfl) rfl rfl rfl rfl nrmT) ?_
  refine JW_1 (by exact op_loadRef (Ev.rfl' rfl) rfl rfl rfl) ?_
  refine JW_1 (op_call Tryz.call27 (CountN_ok _) ⟨evS, trivial⟩) ?_
  refine JW_1 (op_call Tryz.call29 (hown) ⟨evS, ⟨evS, trivial⟩⟩) ?_
  refine JW_1 (op_assign rfl) ?_
  refine ⟨rfl, ?_⟩
  refine JD_end ?_
  refine JQ_then (JC_seq (JC_seq ?_))
  refine JC_region (JL_1 rfl (op_move rfl) (JL_1 rfl (op_move rfl) (JL_1 rfl (by ((refine op_call Tryz.call28 (headerLines_ok _ ?_) ⟨evS, trivial⟩); all_goals (omega))) ?_)))
  refine JL_1 rfl (op_call Tryz.call25 (missNil_ok _ _ hM) ⟨evS, ⟨evS, trivial⟩⟩) ?_
  refine JL_1 rfl (op_assign rfl) (JL_nil ?_)
  refine JQ_then (JC_seq ?_)
  refine JC_region (JL_1 rfl (op_move rfl) (JL_1 rfl (by exact op_lenLit (Ev.rfl' rfl) rfl) ?_))
  refine JL_1 rfl (op_gtr (Ev.rfl' rfl) (Ev.rfl' rfl)) (JL_nil (JQ_then ?_))
  refine JC_cond (Ev.rfl' rfl) (fun h10 => ?_) (fun h10 => ?_)
  · exact absurd h10 (by simp)
  refine JC_skip (JQ_then (JC_seq ?_))
  refine JC_region ?_
  (refine JL_n rfl (op_makeMap IsPg) ?_; intro i92)
  (refine JL_n rfl (op_makeMap IsHd) ?_; intro i93)
  refine JL_1 rfl (op_assign rfl) (JL_1 rfl (op_assign rfl) (JL_nil ?_))
  refine JQ_then (JC_seq (JC_seq ?_))
  refine JC_region (JL_1 rfl (op_move rfl) (JL_1 rfl (by exact op_len (Ev.rfl' rfl) rfl) ?_))
  refine JL_1 rfl (op_move rfl) (JL_nil ?_)
  refine JQ_then (JC_block ?_)
  refine JC_loopP (fun k : Nat => k ≤ S.length ∧ aloH ks cl cnt S (S.drop k) = R) (fun k => [(1, IsSl tPg ks), (2, IsRef [Is (.int .i64 (cl : Nat)), Is (.int .i64 lines), Is (.int .i64 (cnt : Nat))]), (4, Is (.slice none 0 0)), (5, Is (.slice none 0 0)), (6, Is (.slice none 0 0)), (12, IsSl tI64 S), (13, Is (.map (some i92))), (14, Is (.map (some i93))), (94, IsSl tI64 S), (95, Is (.int .i64 (S.length : Nat))), (96, Is (.int .i64 (k : Nat)))]) (fun k => [mp i92 IsPg ((S.take k).map fun s => (s, (headV ks s).1)), mp i93 IsHd ((S.take k).map fun s => (s, hdS' ks s))]) (fun k => S.length - k) 0 ⟨Nat.zero_le _, hR⟩ esubT lessT ?_
  rintro k ⟨hk, hs⟩
  refine JC_seq (JC_region (JL_1 rfl (op_lss (Ev.rfl' rfl) (Ev.rfl' rfl)) (JL_nil ?_)))
  refine JQ_then (JC_seq ?_)
  refine JC_cond (Ev.rfl' rfl) (fun h14 => ?_) (fun h14 => ?_)
  · have hlt : k < S.length := by have := of_decide_eq_true h14; omega
    clear h14
    obtain ⟨s, hz⟩ : ∃ z, S[k]? = some z := ⟨S[k], List.getElem?_eq_getElem hlt⟩
    have hp1 := mput_map (f := fun s => (headV ks s).1) hz hSn
    have hp2 := mput_map (f := fun s => hdS' ks s) hz hSn
    rw [drop_at hz] at hs
    refine JC_skip (JQ_then (JC_seq (JC_block (JC_seq ?_))))
    refine JC_region (JL_1 rfl (by exact op_index (j := _) (Ev.rfl' rfl) (Ev.rfl' rfl) rfl rfl (by rfl) hz) ?_)
    refine JL_1 rfl (by exact op_loadRef (Ev.rfl' rfl) rfl rfl rfl) ?_
    refine JL_1 rfl (op_assign rfl) (JL_nil ?_)
    refine JQ_then (JC_seq ?_)
    refine JC_region (JL_1 rfl (op_move rfl) (JL_1 rfl (op_move rfl) (JL_1 rfl (op_call Tryz.call31 (header_ok _ _) ⟨evS, ⟨evS, trivial⟩⟩) ?_)))
    refine JL_1 rfl (op_move rfl) (JL_1 rfl (op_extract (Ev.rfl' rfl) rfl) (JL_1 rfl (op_extract (Ev.rfl' rfl) rfl) (JL_1 rfl (op_extract (Ev.rfl' rfl) rfl) (JL_1 rfl (op_extract (Ev.rfl' rfl) rfl) ?_))))
    (refine JL_n rfl (op_allocN rfl nrmT rfl) ?_; intro i17)
    (refine JL_n rfl (op_allocN rfl nrmT rfl) ?_; intro i18)
    refine JL_s0 (op_storeN (Ev.rfl' rfl) (Ev.rfl' rfl) cellsT replT nrmT (by rfl) (by rfl) (by rfl)) ?_
    refine JL_s0 (op_storeN (Ev.rfl' rfl) (Ev.rfl' rfl) cellsT replT nrmT (by rfl) (by rfl) (by rfl)) ?_
    refine JL_1 rfl (op_assign rfl) (JL_1 rfl (op_assign rfl) (JL_nil ?_))
    refine JQ_then (JC_seq (JC_block (JC_seq ?_)))
    refine JC_region (JL_1 rfl (op_move rfl) (JL_1 rfl (op_neq (Ev.rfl' rfl) (Ev.rfl' rfl)) (JL_1 rfl (op_assign rfl) (JL_nil (JQ_then ?_)))))
    refine JC_cond (Ev.rfl' rfl) (fun h17 => ?_) (fun h17 => ?_)
    · have g : (headV ks s).2.2.2 ≠ 0 := by simpa using h17
      have e : R = errA (headV ks s).2.2.2 := by rw [← hs]; unfold aloH hdE; rw [if_pos g]
      subst e
      refine JC_seq (JC_region (JL_1 rfl (op_move rfl) (JL_1 rfl (op_assign rfl) (JL_1 rfl (op_assign rfl) (JL_1 rfl (op_assign rfl) (JL_1 rfl (op_assign rfl) (JL_1 rfl (op_assign rfl) (JL_nil ?_))))))))
      refine JQ_then (JC_ret (JQ_block_ret (JQ_then_ret (JQ_block_ret (JQ_then_ret (JQ_then_ret (JQ_block_ret (JQ_then_ret ?_))))))))
      refine JQ_buf0 51 tPg (JQ_buf0 51 tPg ?_)
      exact JQ_retP (Bs := [IsSl tI64 [], Is (.slice none 0 0), Is (.slice none 0 0), Is (.int .i64 (headV ks s).2.2.2), Is (.bool true)]) Tryz.results15 ⟨⟨_, rfl, subT⟩, ⟨⟨_, rfl, subT⟩, ⟨⟨_, rfl, subT⟩, ⟨⟨_, rfl, subT⟩, ⟨⟨_, rfl, subT⟩, trivial⟩⟩⟩⟩⟩ ((none, 0), (none, 0)) SubL.rfl' lessT
    have g : ¬ (headV ks s).2.2.2 ≠ 0 := by simpa using h17
    clear h17
    refine JC_seq (JC_region (JL_1 rfl (by exact op_fieldPtr (k := 0) (Ev.rfl' rfl) rfl rfl rfl rfl) ?_))
    refine JL_1 rfl (by exact op_loadPtr (Ev.rfl' rfl) memT (by rfl) (by rfl) (by rfl)) ?_
    refine JL_1 rfl (by exact op_fieldRefN (k := 0) (Ev.rfl' rfl) rfl rfl rfl rfl nrmT) ?_
    refine JL_1 rfl (by exact op_loadRef (Ev.rfl' rfl) rfl rfl rfl) ?_
    refine JL_1 rfl (op_neq (Ev.rfl' rfl) (Ev.rfl' rfl)) (JL_1 rfl (op_assign rfl) (JL_nil (JQ_then ?_)))
    refine JC_cond (Ev.rfl' rfl) (fun h19 => ?_) (fun h19 => ?_)
    · have g2 : (hdS' ks s).owner ≠ (cl : Int) := by unfold hdS'; simpa using h19
      have e : R = errA 11 := by rw [← hs]; unfold aloH hdE; rw [if_neg g, if_pos g2]
      subst e
      refine JC_seq (JC_region (JL_1 rfl (op_assign rfl) (JL_1 rfl (op_assign rfl) (JL_1 rfl (op_assign rfl) (JL_1 rfl (op_assign rfl) (JL_1 rfl (op_assign rfl) (JL_nil ?_)))))))
      refine JQ_then (JC_ret (JQ_block_ret (JQ_then_ret (JQ_block_ret (JQ_then_ret (JQ_then_ret (JQ_block_ret (JQ_then_ret ?_))))))))
      refine JQ_buf0 51 tPg (JQ_buf0 51 tPg ?_)
      exact JQ_retP (Bs := [IsSl tI64 [], Is (.slice none 0 0), Is (.slice none 0 0), Is (.int .i64 11), Is (.bool true)]) Tryz.results15 ⟨⟨_, rfl, subT⟩, ⟨⟨_, rfl, subT⟩, ⟨⟨_, rfl, subT⟩, ⟨⟨_, rfl, subT⟩, ⟨⟨_, rfl, subT⟩, trivial⟩⟩⟩⟩⟩ ((none, 0), (none, 0)) SubL.rfl' lessT
    have g2 : ¬ (hdS' ks s).owner ≠ (cl : Int) := by unfold hdS'; simpa using h19
    clear h19
    have hs' : aloH ks cl cnt S (S.drop (k + 1)) = R := by
      rw [← hs]
      conv => rhs; unfold aloH hdE
      rw [if_neg g, if_neg g2]
      rfl
    refine JC_skip (JQ_block (JQ_then ?_))
    refine JC_dr rfl (by kernel_rfl) ?_
    refine JD_front (it := mp i93 IsHd _) (by repeat (first | exact Drop1.here _ _ | apply Drop1.next)) ?_
    refine JD_front (it := mp i92 IsPg _) (by repeat (first | exact Drop1.here _ _ | apply Drop1.next)) ?_
    refine JD_stretchG (its := [_, _]) 8 (by kernel_rfl) ?_
    refine JW_1 (op_move rfl) (JW_1 (op_move rfl) (JW_1 (op_move rfl) (JW_1 (op_move rfl) (JW_1 (by exact op_loadPtrsN (n := 9) (Ev.rfl' rfl) memT (by rfl) (by rfl) (by rfl) (by rfl) nrmT) ?_))))
    refine JW_1 (by exact op_loadPtrsN (n := 2) (Ev.rfl' rfl) memT (by rfl) (by rfl) (by rfl) (by rfl) nrmT) ?_
    refine JW_ghost (s := 254) rfl rfl rfl (by kernel_rfl) (fun c' => by exact op_mapPut (V := IsPg) (v := (headV ks s).1) (Ev.rfl' rfl) (Ev.rfl' rfl) evS replT rfl rfl) ?_
    refine JW_ghost (s := 255) rfl rfl rfl (by kernel_rfl) (fun c' => by exact op_mapPut (V := IsHd) (v := hdS' ks s) (Ev.rfl' rfl) (Ev.rfl' rfl) evS replT rfl rfl) ?_
    refine ⟨rfl, ?_⟩
    intro _ _
    refine JD_end ?_
    refine JQ_block (JQ_then ?_)
    refine JC_region (JL_1 rfl (op_add (Ev.rfl' rfl) (Ev.rfl' rfl) wrapT) ?_)
    refine JL_1 rfl (op_move rfl) (JL_nil ?_)
    rw [hp1, hp2]
    exact JQ_roundP (k + 1) ⟨by omega, hs'⟩ (by omega) esubT lessT
  have hke : k = S.length := by have := of_decide_eq_false h14; omega
  subst hke
  clear h14
  rw [List.drop_length] at hs
  have hs2 : excA ks cnt (outS ks cnt Q 0 []) = R := by rw [← hQ]; exact hs
  clear hs hR
  rw [List.take_length]
  refine JC_exit (JQ_then_exit (JQ_then_exit (JQ_hit (JQ_then (JC_seq ?_)))))
  refine JC_region (JL_1 rfl (op_move rfl) (JL_1 rfl (op_assign rfl) (JL_nil ?_)))
  refine JQ_then (JC_seq (JC_seq ?_))
  refine JC_region (JL_1 rfl (op_move rfl) (JL_1 rfl (by exact op_len (Ev.rfl' rfl) rfl) ?_))
  refine JL_1 rfl (op_move rfl) (JL_nil (JQ_then (JC_cutT (fun _ : Unit => True) (fun _ => [(1, IsSl tPg ks), (2, IsRef [Is (.int .i64 (cl : Nat)), Is (.int .i64 lines), Is (.int .i64 (cnt : Nat))]), (4, Is (.slice none 0 0)), (5, Is (.slice none 0 0)), (6, Is (.slice none 0 0)), (13, Is (.map (some i92))), (14, Is (.map (some i93))), (21, IsSl tI64 Q)]) (fun _ => [mp i92 IsPg (S.map fun s => (s, (headV ks s).1)), mp i93 IsHd (S.map fun s => (s, hdS' ks s))]) ?_ ?_)))
  rotate_left
  focus
    refine JC_block (JC_loopP (fun k : Nat => k ≤ S.length ∧ srcR ks cnt S (S.drop k) = Q) (fun k => [(1, IsSl tPg ks), (2, IsRef [Is (.int .i64 (cl : Nat)), Is (.int .i64 lines), Is (.int .i64 (cnt : Nat))]), (4, Is (.slice none 0 0)), (5, Is (.slice none 0 0)), (6, Is (.slice none 0 0)), (13, Is (.map (some i92))), (14, Is (.map (some i93))), (21, IsSl tI64 S), (126, IsSl tI64 S), (127, Is (.int .i64 (S.length : Nat))), (128, Is (.int .i64 (k : Nat)))]) (fun _ => [mp i92 IsPg (S.map fun s => (s, (headV ks s).1)), mp i93 IsHd (S.map fun s => (s, hdS' ks s))]) (fun k => S.length - k) 0 ⟨Nat.zero_le _, hQ⟩ esubT lessT ?_)
    rintro k ⟨hk, hsr⟩
    refine JC_seq (JC_region (JL_1 rfl (op_lss (Ev.rfl' rfl) (Ev.rfl' rfl)) (JL_nil ?_)))
    refine JQ_then (JC_seq ?_)
    refine JC_cond (Ev.rfl' rfl) (fun h25 => ?_) (fun h25 => ?_)
    · have hlt : k < S.length := by have := of_decide_eq_true h25; omega
      clear h25
      obtain ⟨s, hz⟩ : ∃ z, S[k]? = some z := ⟨S[k], List.getElem?_eq_getElem hlt⟩
      have hmg := mget_map (f := fun s => hdS' ks s) (List.mem_of_getElem? hz)
      rw [drop_at hz] at hsr
      refine JC_skip (JQ_then (JC_seq (JC_block (JC_seq ?_))))
      refine JC_region (JL_1 rfl (by exact op_index (j := _) (Ev.rfl' rfl) (Ev.rfl' rfl) rfl rfl (by rfl) hz) ?_)
      refine JL_1 rfl (by exact op_loadRef (Ev.rfl' rfl) rfl rfl rfl) ?_
      refine JL_1 rfl (op_assign rfl) (JL_nil ?_)
      refine JQ_then (JC_seq ?_)
      refine JC_dr rfl (by kernel_rfl) ?_
      refine JD_stretch 7 (by kernel_rfl) ?_
      refine JW_1 (op_move rfl) (JW_1 (op_move rfl) (JW_1 (op_lookupS hmg (Ev.rfl' rfl) memT (Ev.rfl' rfl) rfl rfl rfl) ?_))
      refine JW_1 (op_call Tryz.call36 (vacant_ok _) ⟨evS, trivial⟩) ?_
      refine JW_1 (by exact op_fieldRefN (k := 2) (Ev.rfl' rfl) rfl rfl rfl rfl nrmT) ?_
      refine JW_1 (by exact op_loadRef (Ev.rfl' rfl) rfl rfl rfl) ?_
      refine JW_1 (op_geq (Ev.rfl' rfl) (Ev.rfl' rfl)) ?_
      refine ⟨rfl, ?_⟩
      refine JD_end (JQ_then ?_)
      refine JC_cond (Ev.rfl' rfl) (fun h27 => ?_) (fun h27 => ?_)
      · have e : Q = [s] := by
          rw [← hsr]; unfold srcR
          simp only [List.find?_cons, h27]
        refine JC_seq (JC_region (JL_1 rfl (op_move rfl) (JL_1 rfl (op_buildSlice (size := 1) (qs := [(0, _)]) rfl rfl rfl ⟨⟨rfl, _, (Ev.rfl' rfl), cellsT⟩, trivial⟩ (by rfl) (by rfl)) ?_)))
        refine JL_1 rfl (op_assign rfl) (JL_nil ?_)
        refine JQ_then (JC_exit (JQ_block_miss rfl (JQ_then_exit (JQ_then_exit (JQ_hit ?_)))))
        subst e
        exact JQ_meetP () trivial esubT lessT
      have e : srcR ks cnt S (S.drop (k + 1)) = Q := by
        rw [← hsr]; unfold srcR
        simp only [List.find?_cons, h27]
      clear h27
      refine JC_skip (JQ_block (JQ_then ?_))
      refine JC_region (JL_1 rfl (op_add (Ev.rfl' rfl) (Ev.rfl' rfl) wrapT) ?_)
      refine JL_1 rfl (op_move rfl) (JL_nil ?_)
      exact JQ_roundP (k + 1) ⟨by omega, e⟩ (by omega) esubT lessT
    have hke : k = S.length := by have := of_decide_eq_false h25; omega
    subst hke
    rw [List.drop_length] at hsr
    have e : Q = S := hsr.symm
    refine JC_exit (JQ_then_exit (JQ_then_exit (JQ_hit ?_)))
    subst e
    exact JQ_meetP () trivial esubT lessT
  rintro _ _
  have hQl := src_len (ks := ks) (cnt := cnt) (S := S) (by omega)
  rw [hQ] at hQl
  refine JC_seq (JC_region ?_)
  (refine JL_n rfl (op_makeMap IsHd) ?_; intro i142)
  refine JL_1 rfl (op_assign rfl) (JL_1 rfl (op_assign rfl) (JL_nil ?_))
  refine JQ_then (JC_seq (JC_seq ?_))
  refine JC_region (JL_1 rfl (op_move rfl) (JL_1 rfl (by exact op_len (Ev.rfl' rfl) rfl) ?_))
  refine JL_1 rfl (op_move rfl) (JL_nil ?_)
  refine JQ_then (JC_block ?_)
  refine JC_buf0 3 tI64 (JC_buf0 51 tPg (JC_loopP (fun z : (Nat × Nat × Pk) × (Option Addr × Nat) × (Option Addr × Nat) => z.1.1 ≤ Q.length ∧ excA ks cnt (outS ks cnt (Q.drop z.1.1) z.1.2.1 z.1.2.2) = R ∧ z.1.2.2.map Prod.fst = Q.take z.1.1 ∧ z.1.2.1 = totP z.1.2.2 ∧ z.1.2.1 ≤ cnt) (fun z => [(1, IsSl tPg ks), (2, IsRef [Is (.int .i64 (cl : Nat)), Is (.int .i64 lines), Is (.int .i64 (cnt : Nat))]), (4, Is (slV (needP ks z.1.2.2).length z.2.1)), (5, Is (slV (freP ks z.1.2.2).length z.2.2)), (6, Is (.slice none 0 0)), (13, Is (.map (some i92))), (14, Is (.map (some i93))), (21, IsSl tI64 Q), (24, Is (.int .i64 (z.1.2.1 : Nat))), (25, Is (.map (some i142))), (143, IsSl tI64 Q), (144, Is (.int .i64 (Q.length : Nat))), (145, Is (.int .i64 (z.1.1 : Nat)))]) (fun z => [mp i92 IsPg (S.map fun s => (s, (headV ks s).1)), mp i93 IsHd (S.map fun s => (s, hdS' ks s)), mp i142 IsHd (chgP ks z.1.2.2), buf (slV (needP ks z.1.2.2).length z.2.1) 3 tI64 (needP ks z.1.2.2), buf (slV (freP ks z.1.2.2).length z.2.2) 51 tPg (freP ks z.1.2.2)]) (fun z => Q.length - z.1.1) ((0, 0, []), (none, 0), (none, 0)) ⟨Nat.zero_le _, hs2, rfl, rfl, Nat.zero_le _⟩ esubT lessT ?_))
  rintro ⟨⟨k, ch, ps⟩, b1, b2⟩ ⟨hk, hs, hmp, hch, hcl⟩
  dsimp only at hk hs hmp hch hcl ⊢
  refine JC_seq (JC_region (JL_1 rfl (op_lss (Ev.rfl' rfl) (Ev.rfl' rfl)) (JL_nil ?_)))
  refine JQ_then (JC_seq ?_)
  refine JC_cond (Ev.rfl' rfl) (fun h32 => ?_) (fun h32 => ?_)
  · have hlt : k < Q.length := by have := of_decide_eq_true h32; omega
    clear h32
    obtain ⟨s, hz⟩ : ∃ z, Q[k]? = some z := ⟨Q[k], List.getElem?_eq_getElem hlt⟩
    have hmg := mget_map (f := fun s => hdS' ks s) (hQs.2 s (List.mem_of_getElem? hz))
    have hsn : s ∉ ps.map Prod.fst := by rw [hmp]; exact not_in_take hz hQs.1
    have hlv := line_rng s
    rw [drop_at hz, outS_step] at hs
    rw [← need_nil ks ps s, ← fre_nil ks ps s, ← chg_nil ks ps s]
    refine JC_skip (JQ_then (JC_seq (JC_block (JC_seq ?_))))
    refine JC_region (JL_1 rfl (by exact op_index (j := _) (Ev.rfl' rfl) (Ev.rfl' rfl) rfl rfl (by rfl) hz) ?_)
    refine JL_1 rfl (by exact op_loadRef (Ev.rfl' rfl) rfl rfl rfl) ?_
    refine JL_1 rfl (op_assign rfl) (JL_nil ?_)
    refine JQ_then (JC_seq ?_)
    refine JC_region (JL_1 rfl (op_move rfl) (JL_1 rfl (op_move rfl) (JL_1 rfl (op_lookupS hmg (Ev.rfl' rfl) memT (Ev.rfl' rfl) rfl rfl rfl) ?_)))
    (refine JL_n rfl (op_allocN rfl nrmT rfl) ?_; intro i28)
    refine JL_s0 (op_storeN (Ev.rfl' rfl) (Ev.rfl' rfl) cellsT replT nrmT (by rfl) (by rfl) (by rfl)) ?_
    refine JL_nil ?_
    refine JQ_then (JC_seq ?_)
    refine JC_region (JL_1 rfl (op_assign rfl) (JL_nil ?_))
    refine JQ_then (JC_block ?_)
    refine JC_loopP (fun z : (Nat × Nat × List Nat) × (Option Addr × Nat) × (Option Addr × Nat) => (1 ≤ z.1.1 ∧ z.1.1 ≤ 16) ∧ innX ks cnt s (Q.drop (k + 1)) ch ps (inn ks s cnt (16 - z.1.1) z.1.1 z.1.2.1 (orb (hdS' ks s).used z.1.2.2) z.1.2.2) = R ∧ z.1.2.1 = ch + z.1.2.2.length ∧ z.1.2.1 ≤ cnt) (fun z => [(1, IsSl tPg ks), (2, IsRef [Is (.int .i64 (cl : Nat)), Is (.int .i64 lines), Is (.int .i64 (cnt : Nat))]), (4, Is (slV (needP ks (ps ++ [(s, z.1.2.2)])).length z.2.1)), (5, Is (slV (freP ks (ps ++ [(s, z.1.2.2)])).length z.2.2)), (6, Is (.slice none 0 0)), (13, Is (.map (some i92))), (14, Is (.map (some i93))), (21, IsSl tI64 Q), (24, Is (.int .i64 (z.1.2.1 : Nat))), (25, Is (.map (some i142))), (27, Is (.int .i64 s)), (28, Is (.pointer (some ⟨i28, 0, none⟩))), (29, Is (.int .i64 (z.1.1 : Nat))), (143, IsSl tI64 Q), (144, Is (.int .i64 (Q.length : Nat))), (145, Is (.int .i64 (k : Nat)))]) (fun z => [mp i92 IsPg (S.map fun s => (s, (headV ks s).1)), mp i93 IsHd (S.map fun s => (s, hdS' ks s)), mp i142 IsHd (chgP ks (ps ++ [(s, z.1.2.2)])), buf (slV (needP ks (ps ++ [(s, z.1.2.2)])).length z.2.1) 3 tI64 (needP ks (ps ++ [(s, z.1.2.2)])), buf (slV (freP ks (ps ++ [(s, z.1.2.2)])).length z.2.2) 51 tPg (freP ks (ps ++ [(s, z.1.2.2)])), blk i28 98 [Is (.int .i64 (hdS' ks s).owner), Is (.int .u32 (UV (orb (hdS' ks s).used z.1.2.2)))]]) (fun z => 16 - z.1.1) ((1, ch, []), b1, b2) ⟨⟨by dsimp only; omega, by dsimp only; omega⟩, hs, rfl, hcl⟩ esubT lessT ?_
    rintro ⟨⟨i, cj, q⟩, a1, a2⟩ ⟨⟨hi1, hi2⟩, hq, hcj, hcjl⟩
    dsimp only at hi1 hi2 hq hcj hcjl ⊢
    have htot := tot_snoc ps s q
    have hnl := need_le ks (ps ++ [(s, q)])
    have hfl := fre_le ks (ps ++ [(s, q)])
    refine JC_seq (JC_seq ?_)
    refine JC_region (JL_1 rfl (op_move rfl) (JL_1 rfl (op_lss (Ev.rfl' rfl) (Ev.rfl' rfl)) (JL_1 rfl (op_move rfl) ?_)))
    (refine JL_i0 rfl rfl rfl (fun hg => (by have hg0 := hg; (try simp at hg); exact op_moveE (Ev.rfl' rfl))) ?_)
    (refine JL_i0 rfl rfl rfl (fun hg => (by have hg0 := hg; (try simp at hg); exact op_fieldRefN (k := 2) evG rfl rfl rfl rfl nrmT)) ?_)
    (refine JL_i0 rfl rfl rfl (fun hg => (by have hg0 := hg; (try simp at hg); exact op_loadRef evG rfl rfl rfl)) ?_)
    (refine JL_i0 rfl rfl rfl (fun hg => (by have hg0 := hg; (try simp at hg); exact op_lss evG evG)) ?_)
    refine JL_1 rfl (op_and (Ev.rfl' rfl) rfl (fun h => by exact SubL.iteT (by (rw [h]; rfl)) SubL.rfl')) ?_
    refine JL_nil (JQ_then ?_)
    refine JC_cond (Ev.rfl' rfl) (fun h36 => ?_) (fun h36 => ?_)
    · have hi : i < 16 ∧ cj < cnt := by simp at h36; omega
      clear h36
      rw [inn_step hi.1 hi.2] at hq
      refine JC_skip (JQ_then (JC_seq (JC_block (JC_seq (JC_seq ?_)))))
      refine JC_region (JL_1 rfl (by exact op_fieldPtr (k := 1) (Ev.rfl' rfl) rfl rfl rfl rfl) ?_)
      refine JL_1 rfl (by exact op_loadPtr (Ev.rfl' rfl) memT (by rfl) (by rfl) (by rfl)) ?_
      refine JL_1 rfl (op_move rfl) (JL_1 rfl (op_conv (Ev.rfl' rfl) rfl rfl convT) ?_)
      refine JL_1 rfl (by exact op_shrU32 (k := i) ev32 (Ev.rfl' rfl) (by omega) idxT) ?_
      refine JL_1 rfl (by exact op_bits ev32 ev32 (by simp) (and_u32 _ _)) ?_
      refine JL_1 rfl (op_eql (Ev.rfl' rfl) (Ev.rfl' rfl)) (JL_nil (JQ_then ?_))
      refine JC_cond (Ev.rfl' rfl) (fun h38 => ?_) (fun h38 => ?_)
      · have g : bitB (orb (hdS' ks s).used q) i = true := h38
        rw [if_pos g] at hq
        have hsk : True := trivial
        clear h38
        refine JC_exit (JQ_then_exit (JQ_hit (JQ_then ?_)))
        refine JC_region (JL_1 rfl (op_move rfl) (JL_1 rfl (op_add (Ev.rfl' rfl) (Ev.rfl' rfl) wrapT) ?_))
        refine JL_1 rfl (op_assign rfl) (JL_nil ?_)
        first
          | (have := hsk; exact JQ_roundP ((i + 1, cj, q), a1, a2) ⟨⟨by dsimp only; omega, by dsimp only; omega⟩, hq, hcj, hcjl⟩ (by dsimp only; omega) esubT lessT)
          | (rw [hw3, ← hw1, ← hw2]
             rw [← orb_snoc] at hq
             first
               | exact JQ_roundP ((i + 1, cj + 1, q ++ [i]), i193, a2) ⟨⟨by dsimp only; omega, by dsimp only; omega⟩, hq, by dsimp only; rw [List.length_append, List.length_singleton]; omega, by dsimp only; omega⟩ (by dsimp only; omega) esubT lessT
               | exact JQ_roundP ((i + 1, cj + 1, q ++ [i]), a1, i186) ⟨⟨by dsimp only; omega, by dsimp only; omega⟩, hq, by dsimp only; rw [List.length_append, List.length_singleton]; omega, by dsimp only; omega⟩ (by dsimp only; omega) esubT lessT)
      have g : ¬ bitB (orb (hdS' ks s).used q) i = true := fun e => Bool.noConfusion (show false = true from h38.symm.trans e)
      rw [if_neg g] at hq
      clear h38
      refine JC_skip (JQ_then (JC_seq ?_))
      refine JC_region (JL_1 rfl (op_move rfl) (JL_1 rfl (op_call Tryz.call32 (HeaderLine_ok _) ⟨evS, trivial⟩) ?_))
      refine JL_1 rfl (op_move rfl) (JL_1 rfl (op_add (Ev.rfl' rfl) (Ev.rfl' rfl) wrapT) ?_)
      refine JL_1 rfl (op_assign rfl) (JL_nil ?_)
      refine JQ_then (JC_seq ?_)
      refine JC_region (JL_1 rfl (op_move rfl) (JL_1 rfl (op_move rfl) (JL_1 rfl (op_call Tryz.call37 (LatestP_ok _ _) ⟨evS, ⟨evS, trivial⟩⟩) ?_)))
      refine JL_1 rfl (op_move rfl) (JL_1 rfl (op_extract (Ev.rfl' rfl) rfl) (JL_1 rfl (op_extract (Ev.rfl' rfl) rfl) ?_))
      (refine JL_n rfl (op_allocN rfl nrmT rfl) ?_; intro i31)
      refine JL_s0 (op_storeN (Ev.rfl' rfl) (Ev.rfl' rfl) cellsT replT nrmT (by rfl) (by rfl) (by rfl)) ?_
      refine JL_1 rfl (op_assign rfl) (JL_nil ?_)
      refine JQ_then (JC_seq ?_)
      refine JC_region (JL_1 rfl (by exact op_fieldPtr (k := 2) (Ev.rfl' rfl) rfl rfl rfl rfl) ?_)
      refine JL_1 rfl (op_indexArr (k := 0) (sz := 1) (Ev.rfl' rfl) (Ev.rfl' rfl) rfl rfl idxT (by decide)) ?_
      refine JL_1 rfl (by exact op_loadPtr (Ev.rfl' rfl) memT (by rfl) (by rfl) (by rfl)) ?_
      refine JL_1 rfl (op_call Tryz.call38 (UnpackTag_ok _) ⟨evS, trivial⟩) ?_
      (refine JL_n rfl (op_allocN rfl nrmT rfl) ?_; intro i33)
      refine JL_s0 (op_storeN (Ev.rfl' rfl) (Ev.rfl' rfl) cellsT replT nrmT (by rfl) (by rfl) (by rfl)) ?_
      refine JL_nil ?_
      refine JQ_then (JC_seq (JC_block (JC_seq ?_)))
      refine JC_region (JL_1 rfl (op_move rfl) (JL_1 rfl (op_not (Ev.rfl' rfl)) (JL_1 rfl (op_assign rfl) (JL_nil (JQ_then ?_)))))
      refine JC_cond (Ev.rfl' rfl) (fun h43 => ?_) (fun h43 => ?_)
      · have hlb : latB ks (lineV s + (i : Int)) = false := by simpa using h43
        have hpk : pkV ks (lineV s + (i : Int)) = 0 := by unfold pkV; rw [if_neg (by rw [hlb]; simp)]
        rw [if_neg (by rw [hpk]; decide), if_pos hpk] at hq
        clear h43
        have hw1 := need_snoc0 (ps := ps) (q := q) hlb
        have hw2 := fre_snoc0 (ps := ps) (q := q) hlb
        have hw3 := chg_put (ks := ks) (q := q) (i := i) hsn
        refine JC_region (JL_1 rfl (op_move rfl) (JL_1 rfl (op_move rfl) (JL_1 rfl (op_buildSlice (size := 1) (qs := [(0, _)]) rfl rfl rfl ⟨⟨rfl, _, (Ev.rfl' rfl), cellsT⟩, trivial⟩ (by rfl) (by rfl)) ?_)))
        (refine JL_s rfl (op_app (Ev.rfl' rfl) (fun _ => replT) (by exact Ev.sub rfl (by exact SubL.row (xs := [lineV s + (i : Int)]) (by rfl) (by rfl) subsT)) (by exact appT rfl rfl rfl) lenT) ?_; intro i193)
        refine JL_1 rfl (op_assign rfl) (JL_nil ?_)
        refine JQ_block (JQ_then (JC_seq ?_))
        refine JC_region (JL_1 rfl (op_move rfl) (JL_1 rfl (op_add (Ev.rfl' rfl) (Ev.rfl' rfl) wrapT) ?_))
        refine JL_1 rfl (op_assign rfl) (JL_nil ?_)
        refine JQ_then (JC_seq ?_)
        refine JC_region (JL_1 rfl (by exact op_fieldPtr (k := 1) (Ev.rfl' rfl) rfl rfl rfl rfl) ?_)
        refine JL_1 rfl (by exact op_loadPtr (Ev.rfl' rfl) memT (by rfl) (by rfl) (by rfl)) ?_
        refine JL_1 rfl (op_move rfl) (JL_1 rfl (op_conv (Ev.rfl' rfl) rfl rfl convT) ?_)
        refine JL_1 rfl (by exact op_shlU32 (k := i) ev32 (Ev.rfl' rfl) (by omega) idxT) ?_
        refine JL_1 rfl (by exact op_bits ev32 ev32 (by simp) (or_u32 _ _)) ?_
        refine JL_1 rfl (by exact op_fieldPtr (k := 1) (Ev.rfl' rfl) rfl rfl rfl rfl) ?_
        refine JL_s0 (op_storeN (Ev.rfl' rfl) (Ev.rfl' rfl) cellsT replT nrmT (by rfl) (by rfl) (by rfl)) ?_
        refine JL_nil (JQ_then ?_)
        rw [← orb_snoc]
        refine JC_region (JL_1 rfl (op_move rfl) (JL_1 rfl (op_move rfl) (JL_1 rfl (by exact op_loadPtrsN (n := 2) (Ev.rfl' rfl) memT (by rfl) (by rfl) (by rfl) (by rfl) nrmT) ?_)))
        refine JL_s0 (op_mapPut (V := IsHd) (v := newHd ks (s, q ++ [i])) (Ev.rfl' rfl) (Ev.rfl' rfl) evS replT rfl rfl) ?_
        refine JL_nil ?_
        refine JQ_block (JQ_then ?_)
        refine JC_region (JL_1 rfl (op_move rfl) (JL_1 rfl (op_add (Ev.rfl' rfl) (Ev.rfl' rfl) wrapT) ?_))
        refine JL_1 rfl (op_assign rfl) (JL_nil ?_)
        first
          | (have := hsk; exact JQ_roundP ((i + 1, cj, q), a1, a2) ⟨⟨by dsimp only; omega, by dsimp only; omega⟩, hq, hcj, hcjl⟩ (by dsimp only; omega) esubT lessT)
          | (rw [hw3, ← hw1, ← hw2]
             rw [← orb_snoc] at hq
             first
               | exact JQ_roundP ((i + 1, cj + 1, q ++ [i]), i193, a2) ⟨⟨by dsimp only; omega, by dsimp only; omega⟩, hq, by dsimp only; rw [List.length_append, List.length_singleton]; omega, by dsimp only; omega⟩ (by dsimp only; omega) esubT lessT
               | exact JQ_roundP ((i + 1, cj + 1, q ++ [i]), a1, i186) ⟨⟨by dsimp only; omega, by dsimp only; omega⟩, hq, by dsimp only; rw [List.length_append, List.length_singleton]; omega, by dsimp only; omega⟩ (by dsimp only; omega) esubT lessT)
      have hlb : latB ks (lineV s + (i : Int)) = true := by simpa using h43
      clear h43
      refine JC_seq (JC_region (JL_1 rfl (by exact op_loadPtrsN (n := 9) (Ev.rfl' rfl) memT (by rfl) (by rfl) (by rfl) (by rfl) nrmT) ?_))
      refine JL_1 rfl (op_call Tryz.call39 (LockedB_ok _) ⟨evS, trivial⟩) ?_
      refine JL_1 rfl (op_assign rfl) (JL_nil (JQ_then ?_))
      refine JC_cond (Ev.rfl' rfl) (fun h45 => ?_) (fun h45 => ?_)
      · have hpk : pkV ks (lineV s + (i : Int)) = 3 := by unfold pkV; rw [if_pos hlb, if_pos h45]
        rw [if_neg (by rw [hpk]; decide), if_neg (by rw [hpk]; decide), hpk] at hq
        have e : R = errA 3 := hq.symm
        subst e
        refine JC_seq (JC_region (JL_1 rfl (op_assign rfl) (JL_1 rfl (op_assign rfl) (JL_1 rfl (op_assign rfl) (JL_1 rfl (op_assign rfl) (JL_1 rfl (op_assign rfl) (JL_nil ?_)))))))
        refine JQ_then (JC_ret (JQ_block_ret (JQ_then_ret (JQ_block_ret (JQ_then_ret (JQ_then_ret (JQ_block_ret (JQ_block_ret (JQ_then_ret (JQ_then_ret (JQ_block_ret (JQ_then_ret ?_))))))))))))
        refine JQ_buf0 51 tPg (JQ_buf0 51 tPg ?_)
        exact JQ_retP (Bs := [IsSl tI64 [], Is (.slice none 0 0), Is (.slice none 0 0), Is (.int .i64 3), Is (.bool true)]) Tryz.results15 ⟨⟨_, rfl, subT⟩, ⟨⟨_, rfl, subT⟩, ⟨⟨_, rfl, subT⟩, ⟨⟨_, rfl, subT⟩, ⟨⟨_, rfl, subT⟩, trivial⟩⟩⟩⟩⟩ ((none, 0), (none, 0)) SubL.rfl' lessT
      have g2 : ¬ lockB (latP ks (lineV s + (i : Int))) = true := by rw [h45]; simp
      clear h45
      refine JC_seq (JC_region (JL_1 rfl (by exact op_fieldPtr (k := 0) (Ev.rfl' rfl) rfl rfl rfl rfl) ?_))
      refine JL_1 rfl (by exact op_loadPtr (Ev.rfl' rfl) memT (by rfl) (by rfl) (by rfl)) ?_
      refine JL_1 rfl (op_neq (Ev.rfl' rfl) (Ev.rfl' rfl)) (JL_1 rfl (op_assign rfl) (JL_nil (JQ_then ?_)))
      refine JC_cond (Ev.rfl' rfl) (fun h47 => ?_) (fun h47 => ?_)
      · have g3 : kindV (latP ks (lineV s + (i : Int))).d0 ≠ 0 := by simpa [unpackT] using h47
        have hpk : pkV ks (lineV s + (i : Int)) = 11 := by unfold pkV; rw [if_pos hlb, if_neg g2, if_pos g3]
        rw [if_neg (by rw [hpk]; decide), if_neg (by rw [hpk]; decide), hpk] at hq
        have e : R = errA 11 := hq.symm
        subst e
        refine JC_seq (JC_region (JL_1 rfl (op_assign rfl) (JL_1 rfl (op_assign rfl) (JL_1 rfl (op_assign rfl) (JL_1 rfl (op_assign rfl) (JL_1 rfl (op_assign rfl) (JL_nil ?_)))))))
        refine JQ_then (JC_ret (JQ_block_ret (JQ_then_ret (JQ_block_ret (JQ_then_ret (JQ_then_ret (JQ_block_ret (JQ_block_ret (JQ_then_ret (JQ_then_ret (JQ_block_ret (JQ_then_ret ?_))))))))))))
        refine JQ_buf0 51 tPg (JQ_buf0 51 tPg ?_)
        exact JQ_retP (Bs := [IsSl tI64 [], Is (.slice none 0 0), Is (.slice none 0 0), Is (.int .i64 11), Is (.bool true)]) Tryz.results15 ⟨⟨_, rfl, subT⟩, ⟨⟨_, rfl, subT⟩, ⟨⟨_, rfl, subT⟩, ⟨⟨_, rfl, subT⟩, ⟨⟨_, rfl, subT⟩, trivial⟩⟩⟩⟩⟩ ((none, 0), (none, 0)) SubL.rfl' lessT
      have g3 : ¬ kindV (latP ks (lineV s + (i : Int))).d0 ≠ 0 := by simpa [unpackT] using h47
      clear h47
      refine JC_seq (JC_region (JL_1 rfl (by exact op_fieldPtr (k := 1) (Ev.rfl' rfl) rfl rfl rfl rfl) ?_))
      refine JL_1 rfl (by exact op_loadPtr (Ev.rfl' rfl) memT (by rfl) (by rfl) (by rfl)) ?_
      refine JL_1 rfl (op_eql (Ev.rfl' rfl) (Ev.rfl' rfl)) (JL_1 rfl (op_assign rfl) (JL_nil (JQ_then ?_)))
      refine JC_cond (Ev.rfl' rfl) (fun h49 => ?_) (fun h49 => ?_)
      · have g4 : genV (latP ks (lineV s + (i : Int))).d0 = 16777215 := by simpa [unpackT] using h49
        have hpk : pkV ks (lineV s + (i : Int)) = -1 := by unfold pkV; rw [if_pos hlb, if_neg g2, if_neg g3, if_pos g4]
        rw [if_pos hpk] at hq
        have hsk : True := trivial
        clear h49
        refine JC_exit (JQ_block_miss rfl (JQ_then_exit (JQ_hit (JQ_then ?_))))
        refine JC_region (JL_1 rfl (op_move rfl) (JL_1 rfl (op_add (Ev.rfl' rfl) (Ev.rfl' rfl) wrapT) ?_))
        refine JL_1 rfl (op_assign rfl) (JL_nil ?_)
        first
          | (have := hsk; exact JQ_roundP ((i + 1, cj, q), a1, a2) ⟨⟨by dsimp only; omega, by dsimp only; omega⟩, hq, hcj, hcjl⟩ (by dsimp only; omega) esubT lessT)
          | (rw [hw3, ← hw1, ← hw2]
             rw [← orb_snoc] at hq
             first
               | exact JQ_roundP ((i + 1, cj + 1, q ++ [i]), i193, a2) ⟨⟨by dsimp only; omega, by dsimp only; omega⟩, hq, by dsimp only; rw [List.length_append, List.length_singleton]; omega, by dsimp only; omega⟩ (by dsimp only; omega) esubT lessT
               | exact JQ_roundP ((i + 1, cj + 1, q ++ [i]), a1, i186) ⟨⟨by dsimp only; omega, by dsimp only; omega⟩, hq, by dsimp only; rw [List.length_append, List.length_singleton]; omega, by dsimp only; omega⟩ (by dsimp only; omega) esubT lessT)
      have g4 : ¬ genV (latP ks (lineV s + (i : Int))).d0 = 16777215 := by simpa [unpackT] using h49
      have hpk : pkV ks (lineV s + (i : Int)) = 0 := by unfold pkV; rw [if_pos hlb, if_neg g2, if_neg g3, if_neg g4]
      rw [if_neg (by rw [hpk]; decide), if_pos hpk] at hq
      clear h49
      have hw1 := need_snoc1 (ps := ps) (q := q) hlb
      have hw2 := fre_snoc1 (ps := ps) (q := q) hlb
      have hw3 := chg_put (ks := ks) (q := q) (i := i) hsn
      refine JC_region (JL_1 rfl (op_move rfl) (JL_1 rfl (by exact op_loadPtrsN (n := 9) (Ev.rfl' rfl) memT (by rfl) (by rfl) (by rfl) (by rfl) nrmT) ?_))
      refine JL_1 rfl (op_buildSlice (size := 9) (qs := [(0, _)]) rfl rfl rfl ⟨⟨rfl, _, (Ev.rfl' rfl), cellsT⟩, trivial⟩ (by rfl) (by rfl)) ?_
      (refine JL_s rfl (op_app (Ev.rfl' rfl) (fun _ => replT) (by exact Ev.sub rfl (by exact SubL.row (xs := [latP ks (lineV s + (i : Int))]) (by rfl) (by rfl) subsT)) (by exact appT rfl rfl rfl) lenT) ?_; intro i186)
      refine JL_1 rfl (op_assign rfl) (JL_nil ?_)
      refine JQ_block (JQ_then (JC_seq ?_))
      refine JC_region (JL_1 rfl (op_move rfl) (JL_1 rfl (op_add (Ev.rfl' rfl) (Ev.rfl' rfl) wrapT) ?_))
      refine JL_1 rfl (op_assign rfl) (JL_nil ?_)
      refine JQ_then (JC_seq ?_)
      refine JC_region (JL_1 rfl (by exact op_fieldPtr (k := 1) (Ev.rfl' rfl) rfl rfl rfl rfl) ?_)
      refine JL_1 rfl (by exact op_loadPtr (Ev.rfl' rfl) memT (by rfl) (by rfl) (by rfl)) ?_
      refine JL_1 rfl (op_move rfl) (JL_1 rfl (op_conv (Ev.rfl' rfl) rfl rfl convT) ?_)
      refine JL_1 rfl (by exact op_shlU32 (k := i) ev32 (Ev.rfl' rfl) (by omega) idxT) ?_
      refine JL_1 rfl (by exact op_bits ev32 ev32 (by simp) (or_u32 _ _)) ?_
      refine JL_1 rfl (by exact op_fieldPtr (k := 1) (Ev.rfl' rfl) rfl rfl rfl rfl) ?_
      refine JL_s0 (op_storeN (Ev.rfl' rfl) (Ev.rfl' rfl) cellsT replT nrmT (by rfl) (by rfl) (by rfl)) ?_
      refine JL_nil (JQ_then ?_)
      rw [← orb_snoc]
      refine JC_region (JL_1 rfl (op_move rfl) (JL_1 rfl (op_move rfl) (JL_1 rfl (by exact op_loadPtrsN (n := 2) (Ev.rfl' rfl) memT (by rfl) (by rfl) (by rfl) (by rfl) nrmT) ?_)))
      refine JL_s0 (op_mapPut (V := IsHd) (v := newHd ks (s, q ++ [i])) (Ev.rfl' rfl) (Ev.rfl' rfl) evS replT rfl rfl) ?_
      refine JL_nil ?_
      refine JQ_block (JQ_then ?_)
      refine JC_region (JL_1 rfl (op_move rfl) (JL_1 rfl (op_add (Ev.rfl' rfl) (Ev.rfl' rfl) wrapT) ?_))
      refine JL_1 rfl (op_assign rfl) (JL_nil ?_)
      first
        | (have := hsk; exact JQ_roundP ((i + 1, cj, q), a1, a2) ⟨⟨by dsimp only; omega, by dsimp only; omega⟩, hq, hcj, hcjl⟩ (by dsimp only; omega) esubT lessT)
        | (rw [hw3, ← hw1, ← hw2]
           rw [← orb_snoc] at hq
           first
             | exact JQ_roundP ((i + 1, cj + 1, q ++ [i]), i193, a2) ⟨⟨by dsimp only; omega, by dsimp only; omega⟩, hq, by dsimp only; rw [List.length_append, List.length_singleton]; omega, by dsimp only; omega⟩ (by dsimp only; omega) esubT lessT
             | exact JQ_roundP ((i + 1, cj + 1, q ++ [i]), a1, i186) ⟨⟨by dsimp only; omega, by dsimp only; omega⟩, hq, by dsimp only; rw [List.length_append, List.length_singleton]; omega, by dsimp only; omega⟩ (by dsimp only; omega) esubT lessT)
    have hi : ¬ (i < 16 ∧ cj < cnt) := by simp at h36; omega
    clear h36
    rw [inn_stop hi] at hq
    have hq2 : excA ks cnt (outS ks cnt (Q.drop (k + 1)) cj (ps ++ [(s, q)])) = R := by rw [hcj]; exact hq
    refine JC_exit (JQ_then_exit (JQ_then_exit (JQ_hit (JQ_block (JQ_then ?_)))))
    refine JC_region (JL_1 rfl (op_add (Ev.rfl' rfl) (Ev.rfl' rfl) wrapT) ?_)
    refine JL_1 rfl (op_move rfl) (JL_nil ?_)
    exact JQ_roundP ((k + 1, cj, ps ++ [(s, q)]), a1, a2) ⟨by dsimp only; omega, hq2, by dsimp only; rw [List.map_append, hmp, List.take_add_one, hz]; rfl, by dsimp only; omega, hcjl⟩ (by dsimp only; omega) esubT lessT
  have hke : k = Q.length := by have := of_decide_eq_false h32; omega
  subst hke
  clear h32
  rw [List.drop_length] at hs
  rw [List.take_length] at hmp
  have hs3 : finA ks cnt ps = R := hs
  clear hs
  refine JC_exit (JQ_then_exit (JQ_then_exit (JQ_hit (JQ_then (JC_seq (JC_seq ?_))))))
  refine JC_region (JL_1 rfl (op_move rfl) (JL_1 rfl (by exact op_fieldRefN (k := 2) (Ev.rfl' rfl) rfl rfl rfl rfl nrmT) ?_))
  refine JL_1 rfl (by exact op_loadRef (Ev.rfl' rfl) rfl rfl rfl) ?_
  refine JL_1 rfl (op_lss (Ev.rfl' rfl) (Ev.rfl' rfl)) (JL_nil (JQ_then ?_))
  refine JC_cond (Ev.rfl' rfl) (fun h54 => ?_) (fun h54 => ?_)
  · have g : totP ps < cnt := by have := of_decide_eq_true h54; omega
    have e : R = errA 12 := by rw [← hs3]; unfold finA; rw [if_pos g]
    subst e
    refine JC_seq (JC_region (JL_1 rfl (op_assign rfl) (JL_1 rfl (op_assign rfl) (JL_1 rfl (op_assign rfl) (JL_1 rfl (op_assign rfl) (JL_1 rfl (op_assign rfl) (JL_nil ?_)))))))
    refine JQ_then (JC_ret (JQ_then_ret ?_))
    refine JQ_buf0 51 tPg (JQ_buf0 51 tPg ?_)
    exact JQ_retP (Bs := [IsSl tI64 [], Is (.slice none 0 0), Is (.slice none 0 0), Is (.int .i64 12), Is (.bool true)]) Tryz.results15 ⟨⟨_, rfl, subT⟩, ⟨⟨_, rfl, subT⟩, ⟨⟨_, rfl, subT⟩, ⟨⟨_, rfl, subT⟩, ⟨⟨_, rfl, subT⟩, trivial⟩⟩⟩⟩⟩ ((none, 0), (none, 0)) SubL.rfl' lessT
  have g : ¬ totP ps < cnt := by have := of_decide_eq_false h54; omega
  clear h54
  refine JC_skip (JQ_then (JC_seq (JC_seq ?_)))
  refine JC_region (JL_1 rfl (op_move rfl) (JL_1 rfl (by exact op_lenLit (Ev.rfl' rfl) rfl) ?_))
  refine JL_1 rfl (op_gtr (Ev.rfl' rfl) (Ev.rfl' rfl)) (JL_nil (JQ_then ?_))
  refine JC_cond (Ev.rfl' rfl) (fun h56 => ?_) (fun h56 => ?_)
  · have g2 : 0 < (needP ks ps).length := by have := of_decide_eq_true h56; omega
    have e : R = (needP ks ps, [], [], 0, false) := by rw [← hs3]; unfold finA; rw [if_neg g, if_pos g2]
    subst e
    refine JC_seq (JC_region (JL_1 rfl (op_move rfl) (JL_1 rfl (op_assign rfl) (JL_1 rfl (op_assign rfl) (JL_1 rfl (op_assign rfl) (JL_1 rfl (op_assign rfl) (JL_1 rfl (op_assign rfl) (JL_nil ?_))))))))
    refine JQ_then (JC_ret (JQ_then_ret ?_))
    refine JQ_freeze hX (v := slV (needP ks ps).length b1) replT ?_
    refine JQ_buf0 51 tPg (JQ_buf0 51 tPg ?_)
    exact JQ_retP (Bs := [IsSl tI64 (needP ks ps), Is (.slice none 0 0), Is (.slice none 0 0), Is (.int .i64 0), Is (.bool false)]) Tryz.results15 ⟨⟨_, rfl, subT⟩, ⟨⟨_, rfl, subT⟩, ⟨⟨_, rfl, subT⟩, ⟨⟨_, rfl, subT⟩, ⟨⟨_, rfl, subT⟩, trivial⟩⟩⟩⟩⟩ ((none, 0), (none, 0)) SubL.rfl' lessT
  have g2 : ¬ 0 < (needP ks ps).length := by have := of_decide_eq_false h56; omega
  clear h56
  have e : R = ([], freP ks ps, wriP ks ps, 0, true) := by rw [← hs3]; unfold finA; rw [if_neg g, if_neg g2]
  subst e
  clear hs3
  have hpl : ps.length = Q.length := by rw [← hmp, List.length_map]
  have hnp : (ps.map Prod.fst).Nodup := by rw [hmp]; exact hQs.1
  have hfl := fre_le ks ps
  refine JC_skip (JQ_then (JC_seq (JC_seq ?_)))
  refine JC_region (JL_1 rfl (op_move rfl) (JL_1 rfl (by exact op_len (Ev.rfl' rfl) rfl) ?_))
  refine JL_1 rfl (op_move rfl) (JL_nil ?_)
  refine JQ_then (JC_block ?_)
  refine JC_buf0 51 tPg (JC_loopP (fun z : Nat × (Option Addr × Nat) => z.1 ≤ Q.length) (fun z => [(5, Is (slV (freP ks ps).length b2)), (6, Is (slV (wriP ks (ps.take z.1)).length z.2)), (13, Is (.map (some i92))), (25, Is (.map (some i142))), (226, IsSl tI64 Q), (227, Is (.int .i64 (Q.length : Nat))), (228, Is (.int .i64 (z.1 : Nat)))]) (fun z => [mp i92 IsPg (S.map fun s => (s, (headV ks s).1)), mp i142 IsHd (chgP ks ps), buf (slV (freP ks ps).length b2) 51 tPg (freP ks ps), buf (slV (wriP ks (ps.take z.1)).length z.2) 51 tPg (wriP ks (ps.take z.1))]) (fun z => Q.length - z.1) (0, (none, 0)) (Nat.zero_le _) esubT lessT ?_)
  rintro ⟨k, a3⟩ hk
  dsimp only at hk ⊢
  refine JC_seq (JC_region (JL_1 rfl (op_lss (Ev.rfl' rfl) (Ev.rfl' rfl)) (JL_nil ?_)))
  refine JQ_then (JC_seq ?_)
  refine JC_cond (Ev.rfl' rfl) (fun h59 => ?_) (fun h59 => ?_)
  · have hlt : k < Q.length := by have := of_decide_eq_true h59; omega
    clear h59
    obtain ⟨s, hz⟩ : ∃ z, Q[k]? = some z := ⟨Q[k], List.getElem?_eq_getElem hlt⟩
    have hmg := mget_map (f := fun s => (headV ks s).1) (hQs.2 s (List.mem_of_getElem? hz))
    obtain ⟨q, hzq⟩ : ∃ q, ps[k]? = some (s, q) := by
      have h1 : ps[k]? = some ps[k] := List.getElem?_eq_getElem (by omega)
      have h2 : (ps.map Prod.fst)[k]? = some s := by rw [hmp]; exact hz
      rw [List.getElem?_map, h1] at h2
      have h3 : ps[k].1 = s := Option.some.inj h2
      exact ⟨ps[k].2, by rw [h1, ← h3]⟩
    have hcg := chg_get (ks := ks) hnp hzq
    have hwt := wri_take (ks := ks) hzq
    have hwl : (wriP ks (ps.take k)).length ≤ 9 := by
      have h1 := wri_le ks (ps.take k)
      have h2 := List.length_take_le k ps
      omega
    refine JC_skip (JQ_then (JC_seq (JC_block (JC_seq ?_))))
    refine JC_region (JL_1 rfl (by exact op_index (j := _) (Ev.rfl' rfl) (Ev.rfl' rfl) rfl rfl (by rfl) hz) ?_)
    refine JL_1 rfl (by exact op_loadRef (Ev.rfl' rfl) rfl rfl rfl) ?_
    refine JL_1 rfl (op_assign rfl) (JL_nil ?_)
    refine JQ_then (JC_seq ?_)
    refine JC_region (JL_1 rfl (op_move rfl) (JL_1 rfl (op_move rfl) (JL_1 rfl (op_lookup2D Hd.nil hd_zero (Ev.rfl' rfl) memT (Ev.rfl' rfl) rfl rfl rfl) ?_)))
    refine JL_1 rfl (op_move rfl) (JL_1 rfl (op_extract (Ev.rfl' rfl) rfl) (JL_1 rfl (op_extract (Ev.rfl' rfl) rfl) ?_))
    (refine JL_n rfl (op_allocN rfl nrmT rfl) ?_; intro i36)
    refine JL_s0 (op_storeN (Ev.rfl' rfl) (Ev.rfl' rfl) cellsT replT nrmT (by rfl) (by rfl) (by rfl)) ?_
    refine JL_1 rfl (op_assign rfl) (JL_nil ?_)
    refine JQ_then (JC_seq ?_)
    refine JC_region (JL_1 rfl (op_move rfl) (JL_nil (JQ_then ?_)))
    refine JC_cond (Ev.rfl' rfl) (fun h62 => ?_) (fun h62 => ?_)
    · have hqn : ¬ q = [] := fun e => by rw [hcg, if_pos e] at h62; cases h62
      rw [if_neg hqn] at hcg hwt
      rw [hcg]
      clear h62
      refine JC_seq (JC_region (JL_1 rfl (op_move rfl) (JL_1 rfl (op_move rfl) (JL_1 rfl (op_lookupS hmg (Ev.rfl' rfl) memT (Ev.rfl' rfl) rfl rfl rfl) ?_))))
      refine JL_1 rfl (by exact op_loadPtrsN (n := 2) (Ev.rfl' rfl) memT (by rfl) (by rfl) (by rfl) (by rfl) nrmT) ?_
      refine JL_1 rfl (op_call Tryz.call34 (WriteHeader_ok _ _) ⟨evS, ⟨evS, trivial⟩⟩) ?_
      refine JL_1 rfl (op_move rfl) (JL_1 rfl (op_extract (Ev.rfl' rfl) rfl) (JL_1 rfl (op_extract (Ev.rfl' rfl) rfl) ?_))
      (refine JL_n rfl (op_allocN rfl nrmT rfl) ?_; intro i38)
      refine JL_s0 (op_storeN (Ev.rfl' rfl) (Ev.rfl' rfl) cellsT replT nrmT (by rfl) (by rfl) (by rfl)) ?_
      refine JL_1 rfl (op_assign rfl) (JL_nil (JQ_then (JC_region (JL_1 rfl (op_move rfl) (JL_1 rfl (by exact op_loadPtrsN (n := 9) (Ev.rfl' rfl) memT (by rfl) (by rfl) (by rfl) (by rfl) nrmT) ?_)))))
      refine JL_1 rfl (op_buildSlice (size := 9) (qs := [(0, _)]) rfl rfl rfl ⟨⟨rfl, _, (Ev.rfl' rfl), cellsT⟩, trivial⟩ (by rfl) (by rfl)) ?_
      (refine JL_s rfl (op_app (Ev.rfl' rfl) (fun _ => replT) (by exact Ev.sub rfl (by exact SubL.row (xs := [(writeH (headV ks s).1 (newHd ks (s, q))).1]) (by rfl) (by rfl) subsT)) (by exact appT rfl rfl rfl) lenT) ?_; intro i250)
      refine JL_1 rfl (op_assign rfl) (JL_nil ?_)
      refine JQ_block (JQ_then ?_)
      refine JC_region (JL_1 rfl (op_add (Ev.rfl' rfl) (Ev.rfl' rfl) wrapT) ?_)
      refine JL_1 rfl (op_move rfl) (JL_nil ?_)
      rw [← hwt]
      exact JQ_roundP (k + 1, i250) (by dsimp only; omega) (by dsimp only; omega) esubT lessT
    have hqn : q = [] := Classical.byContradiction fun e => by rw [hcg, if_neg e] at h62; cases h62
    rw [if_pos hqn] at hwt
    clear h62
    refine JC_skip (JQ_block (JQ_then ?_))
    refine JC_region (JL_1 rfl (op_add (Ev.rfl' rfl) (Ev.rfl' rfl) wrapT) ?_)
    refine JL_1 rfl (op_move rfl) (JL_nil ?_)
    rw [← hwt]
    exact JQ_roundP (k + 1, a3) (by dsimp only; omega) (by dsimp only; omega) esubT lessT
  have hke : k = ps.length := by have := of_decide_eq_false h59; omega
  subst hke
  clear h59
  rw [List.take_length]
  refine JC_exit (JQ_then_exit (JQ_then_exit (JQ_hit (JQ_then (JC_seq ?_)))))
  refine JC_region (JL_1 rfl (op_move rfl) (JL_1 rfl (op_move rfl) (JL_1 rfl (op_assign rfl) (JL_1 rfl (op_assign rfl) (JL_1 rfl (op_assign rfl) (JL_1 rfl (op_assign rfl) (JL_1 rfl (op_assign rfl) (JL_nil ?_))))))))
  refine JQ_then (JC_ret ?_)
  exact JQ_retP (Bs := [IsSl tI64 [], Is (slV (freP ks ps).length b2), Is (slV (wriP ks ps).length a3), Is (.int .i64 0), Is (.bool true)]) Tryz.results15 ⟨⟨_, rfl, subT⟩, ⟨⟨_, rfl, subT⟩, ⟨⟨_, rfl, subT⟩, ⟨⟨_, rfl, subT⟩, ⟨⟨_, rfl, subT⟩, trivial⟩⟩⟩⟩⟩ (b2, a3) SubL.rfl' lessT
end Go.Proofs.YtfkmbdpnjcgimaaGreat

/- Contracts: a segment taken; the written pages are the caller's own. Own work. -/
namespace Go.Proofs.YtfkmbdpnjcgimaaGreat
open Go.RowKit
set_option linter.unusedVariables false
set_option linter.unusedSimpArgs false
set_option maxRecDepth 100000
-- segment.Acquire: function 13
set_option maxHeartbeats 400000 in
theorem AcquireF_ok (ks : List Pg) (cl : Nat) (inc lines : Int) (hc : cl < 6) (hi : 1 ≤ inc ∧ inc ≤ 59) (hz : sizeB lines = true) (h2m : ¬ 0 < (missV ks [98 + (cl : Int)]).length → (missV ks (hdrL lines)).length ≤ 1)
    (hlt : sB ks cl (countN lines) = true → (mineW ks cl inc (sV ks cl (countN lines))).l < (headW ks cl (sV ks cl (countN lines))).l) :
    Fn Tryz.prog 13 [IsAgg [Is (.int .i64 (cl : Nat)), Is (.int .i64 inc), Is (.int .i64 lines), Is (.int .i64 (-1))], IsSl tPg ks] [] (fun i : Option Addr × Nat => IsTup [IsSl tI64 (acqV ks cl inc lines).1, Is (slV (acqV ks cl inc lines).2.1.length i), Is (.int .i64 ((acqV ks cl inc lines).2.2.1 : Nat)), Is (.int .i64 (acqV ks cl inc lines).2.2.2.1), Is (.bool (acqV ks cl inc lines).2.2.2.2)]) (fun i => [buf (slV (acqV ks cl inc lines).2.1.length i) 51 tPg (acqV ks cl inc lines).2.1]) := by
  have hcn := countN_le lines
  have hm1 := miss1 ks (98 + (cl : Int))
  have hol := ownV_len 511#32 (countN lines)
  have hcb : clientB (cl : Nat) = true := by unfold clientB; simp; omega
  refine Fn.enterN Tryz.func13 Tryz.ntmps13 rfl rfl ?_
  intro c hX
  refine JC_seq (JC_region ?_)
  (refine JL_n rfl (op_box (Ev.rfl' rfl) cellsT) ?_; intro i2)
  refine JL_1 rfl (op_assign rfl) (JL_1 rfl (op_assign rfl) (JL_1 rfl (op_assign rfl) (JL_1 rfl (op_assign rfl) (JL_1 rfl (op_assign rfl) (JL_nil ?_)))))
  refine JQ_then (JC_seq (JC_seq ?_))
  refine JC_region (JL_1 rfl (by exact op_fieldPtr (k := 0) (Ev.rfl' rfl) rfl rfl rfl rfl) ?_)
  refine JL_1 rfl (by exact op_loadPtr (Ev.rfl' rfl) memT (by rfl) (by rfl) (by rfl)) ?_
  refine JL_1 rfl (op_call Tryz.call23 (isClient_ok _) ⟨evS, trivial⟩) ?_
  refine JL_1 rfl (op_not (Ev.rfl' rfl)) (JL_1 rfl (op_move rfl) ?_)
  (refine JL_i0 rfl rfl rfl (fun hg => (by have hg0 := hg; (try simp at hg); exact op_fieldPtr (k := 1) evG rfl rfl rfl rfl)) ?_)
  (refine JL_i0 rfl rfl rfl (fun hg => (by have hg0 := hg; (try simp at hg); exact op_loadPtr evG memT (by rfl) (by rfl) (by rfl))) ?_)
  (refine JL_i0 rfl rfl rfl (fun hg => (by have hg0 := hg; (try simp at hg); exact op_lss evG evG)) ?_)
  refine JL_1 rfl (op_or (Ev.rfl' rfl) rfl (fun h => by exact SubL.iteT (by (rw [h]; rfl)) SubL.rfl')) ?_
  refine JL_1 rfl (op_move rfl) ?_
  (refine JL_i0 rfl rfl rfl (fun hg => (by have hg0 := hg; (try simp at hg); exact op_fieldPtr (k := 1) evG rfl rfl rfl rfl)) ?_)
  (refine JL_i0 rfl rfl rfl (fun hg => (by have hg0 := hg; (try simp at hg); exact op_loadPtr evG memT (by rfl) (by rfl) (by rfl))) ?_)
  (refine JL_i0 rfl rfl rfl (fun hg => (by have hg0 := hg; (try simp at hg); exact op_gtr evG evG)) ?_)
  refine JL_1 rfl (op_or (Ev.rfl' rfl) rfl (fun h => by exact SubL.iteT (by (rw [h]; rfl)) SubL.rfl')) ?_
  refine JL_1 rfl (op_move rfl) ?_
  (refine JL_i0 rfl rfl rfl (fun hg => (by have hg0 := hg; (try simp at hg); exact op_fieldPtr (k := 2) evG rfl rfl rfl rfl)) ?_)
  (refine JL_i0 rfl rfl rfl (fun hg => (by have hg0 := hg; (try simp at hg); exact op_loadPtr evG memT (by rfl) (by rfl) (by rfl))) ?_)
  (refine JL_i0 rfl rfl rfl (fun hg => (by have hg0 := hg; (try simp at hg); exact op_call Tryz.call24 (isSize_ok _) ⟨evS, trivial⟩)) ?_)
  (refine JL_i0 rfl rfl rfl (fun hg => (by have hg0 := hg; (try simp at hg); exact op_not evG)) ?_)
  refine JL_1 rfl (op_or (Ev.rfl' rfl) rfl (fun h => by exact SubL.iteT (by (rw [h]; rfl)) SubL.rfl')) ?_
  refine JL_1 rfl (op_move rfl) ?_
  (refine JL_i0 rfl rfl rfl (fun hg => (by have hg0 := hg; (try simp at hg); exact op_fieldPtr (k := 3) evG rfl rfl rfl rfl)) ?_)
  (refine JL_i0 rfl rfl rfl (fun hg => (by have hg0 := hg; (try simp at hg); exact op_loadPtr evG memT (by rfl) (by rfl) (by rfl))) ?_)
  (refine JL_i0 rfl rfl rfl (fun hg => (by have hg0 := hg; (try simp at hg); exact op_lss evG evG)) ?_)
  refine JL_1 rfl (op_or (Ev.rfl' rfl) rfl (fun h => by exact SubL.iteT (by (rw [h]; rfl)) SubL.rfl')) ?_
  refine JL_1 rfl (op_move rfl) ?_
  (refine JL_i0 rfl rfl rfl (fun hg => (by have hg0 := hg; (try simp at hg); exact op_fieldPtr (k := 3) evG rfl rfl rfl rfl)) ?_)
  (refine JL_i0 rfl rfl rfl (fun hg => (by have hg0 := hg; (try simp at hg); exact op_loadPtr evG memT (by rfl) (by rfl) (by rfl))) ?_)
  (refine JL_i0 rfl rfl rfl (fun hg => (by have hg0 := hg; (try simp at hg); exact op_geq evG evG)) ?_)
  refine JL_1 rfl (op_or (Ev.rfl' rfl) rfl (fun h => by exact SubL.iteT (by (rw [h]; rfl)) SubL.rfl')) ?_
  refine JL_1 rfl (op_move rfl) ?_
  (refine JL_i0 rfl rfl rfl (fun hg => (by have hg0 := hg; (try simp at hg); exact op_fieldPtr (k := 3) evG rfl rfl rfl rfl)) ?_)
  (refine JL_i0 rfl rfl rfl (fun hg => (by have hg0 := hg; (try simp at hg); exact op_loadPtr evG memT (by rfl) (by rfl) (by rfl))) ?_)
  (refine JL_i0 rfl rfl rfl (fun hg => (by have hg0 := hg; (try simp at hg); exact op_fieldPtr (k := 0) evG rfl rfl rfl rfl)) ?_)
  (refine JL_i0 rfl rfl rfl (fun hg => (by have hg0 := hg; (try simp at hg); exact op_loadPtr evG memT (by rfl) (by rfl) (by rfl))) ?_)
  (refine JL_i0 rfl rfl rfl (fun hg => (by have hg0 := hg; (try simp at hg); exact op_eql evG evG)) ?_)
  refine JL_1 rfl (op_or (Ev.rfl' rfl) rfl (fun h => by exact SubL.iteT (by (rw [h]; rfl)) SubL.rfl')) ?_
  refine JL_nil (JQ_then ?_)
  refine JC_cond (Ev.rfl' rfl) (fun h1 => ?_) (fun h1 => ?_)
  · exact absurd h1 (by rw [hcb, hz]; simp; omega)
  clear h1
  refine JC_skip (JQ_then (JC_seq ?_))
  refine JC_region (JL_1 rfl (by exact op_fieldPtr (k := 0) (Ev.rfl' rfl) rfl rfl rfl rfl) ?_)
  refine JL_1 rfl (by exact op_loadPtr (Ev.rfl' rfl) memT (by rfl) (by rfl) (by rfl)) ?_
  refine JL_1 rfl (op_add (Ev.rfl' rfl) (Ev.rfl' rfl) wrapT) ?_
  refine JL_1 rfl (op_buildSlice (size := 1) (qs := [(0, _)]) rfl rfl rfl ⟨⟨rfl, _, (Ev.rfl' rfl), cellsT⟩, trivial⟩ (by rfl) (by rfl)) ?_
  refine JL_1 rfl (op_assign rfl) (JL_nil ?_)
  refine JQ_then (JC_seq (JC_seq ?_))
  refine JC_region (JL_1 rfl (by exact op_fieldPtr (k := 3) (Ev.rfl' rfl) rfl rfl rfl rfl) ?_)
  refine JL_1 rfl (by exact op_loadPtr (Ev.rfl' rfl) memT (by rfl) (by rfl) (by rfl)) ?_
  refine JL_1 rfl (op_neq (Ev.rfl' rfl) (Ev.rfl' rfl)) (JL_nil (JQ_then ?_))
  refine JC_cond (Ev.rfl' rfl) (fun h4 => ?_) (fun h4 => ?_)
  · exact absurd h4 (by simp)
  refine JC_skip (JQ_then (JC_seq (JC_seq ?_)))
  refine JC_region (JL_1 rfl (op_move rfl) (JL_1 rfl (op_move rfl) (JL_1 rfl (op_call Tryz.call25 (missing_ok _ [98 + (cl : Int)] hm1) ⟨evS, ⟨evS, trivial⟩⟩) ?_)))
  refine JL_1 rfl (op_assign rfl) (JL_nil ?_)
  refine JQ_then (JC_seq ?_)
  refine JC_region (JL_1 rfl (op_move rfl) (JL_1 rfl (by exact op_len (Ev.rfl' rfl) rfl) ?_))
  refine JL_1 rfl (op_gtr (Ev.rfl' rfl) (Ev.rfl' rfl)) (JL_nil (JQ_then ?_))
  refine JC_cond (Ev.rfl' rfl) (fun h7 => ?_) (fun h7 => ?_)
  · have g : 0 < (missV ks [98 + (cl : Int)]).length := by have := of_decide_eq_true h7; omega
    have e : acqV ks cl inc lines = (missV ks [98 + (cl : Int)], [], 0, 0, false) := by unfold acqV; rw [if_pos g]
    rw [e]
    refine JC_seq (JC_region (JL_1 rfl (op_move rfl) (JL_1 rfl (op_assign rfl) (JL_1 rfl (op_assign rfl) (JL_1 rfl (op_assign rfl) (JL_1 rfl (op_assign rfl) (JL_1 rfl (op_assign rfl) (JL_nil ?_))))))))
    refine JQ_then (JC_ret (JQ_then_ret ?_))
    refine JQ_buf0 51 tPg ?_
    exact JQ_retP (Bs := [IsSl tI64 (missV ks [98 + (cl : Int)]), Is (.slice none 0 0), Is (.int .i64 (0 : Nat)), Is (.int .i64 0), Is (.bool false)]) Tryz.results13 ⟨⟨_, rfl, subT⟩, ⟨⟨_, rfl, subT⟩, ⟨⟨_, rfl, subT⟩, ⟨⟨_, rfl, subT⟩, ⟨⟨_, rfl, subT⟩, trivial⟩⟩⟩⟩⟩ (none, 0) SubL.rfl' lessT
  have g : ¬ 0 < (missV ks [98 + (cl : Int)]).length := by have := of_decide_eq_false h7; omega
  clear h7
  refine JC_skip (JQ_then (JC_seq ?_))
  refine JC_region (JL_1 rfl (op_move rfl) (JL_1 rfl (by exact op_fieldPtr (k := 0) (Ev.rfl' rfl) rfl rfl rfl rfl) ?_))
  refine JL_1 rfl (by exact op_loadPtr (Ev.rfl' rfl) memT (by rfl) (by rfl) (by rfl)) ?_
  refine JL_1 rfl (by ((refine op_call Tryz.call26 (node_ok _ _ ?_) ⟨evS, ⟨evS, trivial⟩⟩); all_goals (omega))) ?_
  refine JL_1 rfl (op_move rfl) (JL_1 rfl (op_extract (Ev.rfl' rfl) rfl) (JL_1 rfl (op_extract (Ev.rfl' rfl) rfl) (JL_1 rfl (op_extract (Ev.rfl' rfl) rfl) (JL_1 rfl (op_extract (Ev.rfl' rfl) rfl) ?_))))
  (refine JL_n rfl (op_allocN rfl nrmT rfl) ?_; intro i10)
  (refine JL_n rfl (op_allocN rfl nrmT rfl) ?_; intro i11)
  refine JL_s0 (op_storeN (Ev.rfl' rfl) (Ev.rfl' rfl) cellsT replT nrmT (by rfl) (by rfl) (by rfl)) ?_
  refine JL_s0 (op_storeN (Ev.rfl' rfl) (Ev.rfl' rfl) cellsT replT nrmT (by rfl) (by rfl) (by rfl)) ?_
  refine JL_1 rfl (op_assign rfl) (JL_1 rfl (op_assign rfl) (JL_nil ?_))
  refine JQ_then (JC_seq (JC_seq ?_))
  refine JC_region (JL_1 rfl (op_move rfl) (JL_1 rfl (op_neq (Ev.rfl' rfl) (Ev.rfl' rfl)) (JL_nil (JQ_then ?_))))
  refine JC_cond (Ev.rfl' rfl) (fun h10 => ?_) (fun h10 => ?_)
  · have g2 : (nodeV ks cl).2.2.2 ≠ 0 := by simpa using h10
    have e : acqV ks cl inc lines = ([], [], 0, (nodeV ks cl).2.2.2, true) := by unfold acqV; rw [if_neg g, if_pos g2]
    rw [e]
    refine JC_seq (JC_region (JL_1 rfl (op_move rfl) (JL_1 rfl (op_assign rfl) (JL_1 rfl (op_assign rfl) (JL_1 rfl (op_assign rfl) (JL_1 rfl (op_assign rfl) (JL_1 rfl (op_assign rfl) (JL_nil ?_))))))))
    refine JQ_then (JC_ret (JQ_then_ret ?_))
    refine JQ_buf0 51 tPg ?_
    exact JQ_retP (Bs := [IsSl tI64 [], Is (.slice none 0 0), Is (.int .i64 (0 : Nat)), Is (.int .i64 (nodeV ks cl).2.2.2), Is (.bool true)]) Tryz.results13 ⟨⟨_, rfl, subT⟩, ⟨⟨_, rfl, subT⟩, ⟨⟨_, rfl, subT⟩, ⟨⟨_, rfl, subT⟩, ⟨⟨_, rfl, subT⟩, trivial⟩⟩⟩⟩⟩ (none, 0) SubL.rfl' lessT
  have g2 : ¬ (nodeV ks cl).2.2.2 ≠ 0 := by simpa using h10
  clear h10
  refine JC_skip (JQ_then (JC_seq ?_))
  refine JC_region ?_
  (refine JL_n rfl (op_allocN rfl nrmT rfl) ?_; intro i13)
  refine JL_nil ?_
  refine JQ_then (JC_seq ?_)
  refine JC_region ?_
  (refine JL_n rfl (op_allocN rfl nrmT rfl) ?_; intro i14)
  refine JL_nil ?_
  refine JQ_then (JC_seq (JC_seq ?_))
  refine JC_region (JL_1 rfl (by exact op_fieldPtr (k := 3) (Ev.rfl' rfl) rfl rfl rfl rfl) ?_)
  refine JL_1 rfl (by exact op_loadPtr (Ev.rfl' rfl) memT (by rfl) (by rfl) (by rfl)) ?_
  refine JL_1 rfl (op_neq (Ev.rfl' rfl) (Ev.rfl' rfl)) (JL_nil (JQ_then ?_))
  refine JC_cond (Ev.rfl' rfl) (fun h14 => ?_) (fun h14 => ?_)
  · exact absurd h14 (by simp)
  refine JC_skip (JQ_then (JC_seq ?_))
  refine JC_region (JL_1 rfl (by exact op_fieldPtr (k := 2) (Ev.rfl' rfl) rfl rfl rfl rfl) ?_)
  refine JL_1 rfl (by exact op_loadPtr (Ev.rfl' rfl) memT (by rfl) (by rfl) (by rfl)) ?_
  refine JL_1 rfl (op_call Tryz.call27 (CountN_ok _) ⟨evS, trivial⟩) ?_
  refine JL_1 rfl (op_assign rfl) (JL_nil ?_)
  refine JQ_then (JC_seq (JC_seq ?_))
  refine JC_region (JL_1 rfl (by exact op_fieldPtr (k := 3) (Ev.rfl' rfl) rfl rfl rfl rfl) ?_)
  refine JL_1 rfl (by exact op_loadPtr (Ev.rfl' rfl) memT (by rfl) (by rfl) (by rfl)) ?_
  refine JL_1 rfl (op_eql (Ev.rfl' rfl) (Ev.rfl' rfl)) (JL_nil (JQ_then ?_))
  refine JC_cond (Ev.rfl' rfl) (fun h19 => ?_) (fun h19 => ?_)
  · refine JC_seq (JC_seq ?_)
    refine JC_region (JL_1 rfl (op_move rfl) (JL_1 rfl (op_move rfl) (JL_1 rfl (op_call Tryz.call29 (owned_ok (511#32) _ hcn) ⟨evS, ⟨evS, trivial⟩⟩) ?_)))
    refine JL_1 rfl (by ((refine op_call Tryz.call28 (headerLines_ok _ ?_) ⟨evS, trivial⟩); all_goals (omega))) ?_
    refine JL_1 rfl (op_call Tryz.call25 (missing_ok _ _ (h2m g)) ⟨evS, ⟨evS, trivial⟩⟩) ?_
    refine JL_1 rfl (op_assign rfl) (JL_nil ?_)
    refine JQ_then (JC_seq ?_)
    refine JC_region (JL_1 rfl (op_move rfl) (JL_1 rfl (by exact op_len (Ev.rfl' rfl) rfl) ?_))
    refine JL_1 rfl (op_gtr (Ev.rfl' rfl) (Ev.rfl' rfl)) (JL_nil (JQ_then ?_))
    refine JC_cond (Ev.rfl' rfl) (fun h21 => ?_) (fun h21 => ?_)
    · have g3 : 0 < (missV ks (hdrL lines)).length := by have := of_decide_eq_true h21; omega
      have e : acqV ks cl inc lines = (missV ks (hdrL lines), [], 0, 0, false) := by unfold acqV; rw [if_neg g, if_neg g2, if_pos g3]
      rw [e]
      refine JC_seq (JC_region (JL_1 rfl (op_move rfl) (JL_1 rfl (op_assign rfl) (JL_1 rfl (op_assign rfl) (JL_1 rfl (op_assign rfl) (JL_1 rfl (op_assign rfl) (JL_1 rfl (op_assign rfl) (JL_nil ?_))))))))
      refine JQ_then (JC_ret (JQ_then_ret (JQ_then_ret ?_)))
      refine JQ_buf0 51 tPg ?_
      exact JQ_retP (Bs := [IsSl tI64 (missV ks (hdrL lines)), Is (.slice none 0 0), Is (.int .i64 (0 : Nat)), Is (.int .i64 0), Is (.bool false)]) Tryz.results13 ⟨⟨_, rfl, subT⟩, ⟨⟨_, rfl, subT⟩, ⟨⟨_, rfl, subT⟩, ⟨⟨_, rfl, subT⟩, ⟨⟨_, rfl, subT⟩, trivial⟩⟩⟩⟩⟩ (none, 0) SubL.rfl' lessT
    have g3 : ¬ 0 < (missV ks (hdrL lines)).length := by have := of_decide_eq_false h21; omega
    clear h21
    refine JC_skip (JQ_then (JC_seq ?_))
    refine JC_region (JL_1 rfl (op_assign rfl) (JL_nil ?_))
    refine JQ_then (JC_seq ?_)
    refine JC_region (JL_1 rfl (op_move rfl) (JL_1 rfl (by exact op_fieldPtr (k := 0) (Ev.rfl' rfl) rfl rfl rfl rfl) ?_))
    refine JL_1 rfl (by exact op_loadPtr (Ev.rfl' rfl) memT (by rfl) (by rfl) (by rfl)) ?_
    refine JL_1 rfl (op_move rfl) (JL_1 rfl (by ((refine op_call Tryz.call30 (unowned_ok _ _ _ ?_ hcn) ⟨evS, ⟨evS, ⟨evS, trivial⟩⟩⟩); all_goals (omega))) ?_)
    refine JL_1 rfl (op_move rfl) (JL_1 rfl (op_extract (Ev.rfl' rfl) rfl) (JL_1 rfl (op_extract (Ev.rfl' rfl) rfl) (JL_1 rfl (op_assign rfl) (JL_1 rfl (op_assign rfl) (JL_nil ?_)))))
    refine JQ_then (JC_seq ?_)
    refine JC_region (JL_1 rfl (op_move rfl) (JL_1 rfl (op_not (Ev.rfl' rfl)) (JL_nil (JQ_then ?_))))
    refine JC_cond (Ev.rfl' rfl) (fun h25 => ?_) (fun h25 => ?_)
    · have g4 : ¬ sB ks cl (countN lines) = true := by simpa using h25
      have e : acqV ks cl inc lines = ([], [], 0, 12, true) := by unfold acqV; rw [if_neg g, if_neg g2, if_neg g3, if_neg g4]
      rw [e]
      refine JC_seq (JC_region (JL_1 rfl (op_assign rfl) (JL_1 rfl (op_assign rfl) (JL_1 rfl (op_assign rfl) (JL_1 rfl (op_assign rfl) (JL_1 rfl (op_assign rfl) (JL_nil ?_)))))))
      refine JQ_then (JC_ret (JQ_then_ret ?_))
      refine JQ_buf0 51 tPg ?_
      exact JQ_retP (Bs := [IsSl tI64 [], Is (.slice none 0 0), Is (.int .i64 (0 : Nat)), Is (.int .i64 12), Is (.bool true)]) Tryz.results13 ⟨⟨_, rfl, subT⟩, ⟨⟨_, rfl, subT⟩, ⟨⟨_, rfl, subT⟩, ⟨⟨_, rfl, subT⟩, ⟨⟨_, rfl, subT⟩, trivial⟩⟩⟩⟩⟩ (none, 0) SubL.rfl' lessT
    have g4 : sB ks cl (countN lines) = true := by simpa using h25
    obtain ⟨hfr, hsn⟩ := sB_yes g4
    obtain ⟨q1, q2, q3⟩ := free_have hfr
    have hlt' := hlt g4
    have e : acqV ks cl inc lines = ([], [mineW ks cl inc (sV ks cl (countN lines)), headW ks cl (sV ks cl (countN lines))], sV ks cl (countN lines), 0, true) := by unfold acqV; rw [if_neg g, if_neg g2, if_neg g3, if_pos g4]
    rw [e]
    unfold mineW headW at hlt' ⊢
    obtain ⟨s, hs⟩ : ∃ s, sV ks cl (countN lines) = s := ⟨_, rfl⟩
    rw [hs] at hlt' q1 q2 q3 hsn
    rw [hs]
    clear h25
    refine JC_skip (JQ_then (JC_seq ?_))
    refine JC_region (JL_1 rfl (op_move rfl) (JL_1 rfl (op_move rfl) (JL_1 rfl (op_call Tryz.call31 (header_ok _ _) ⟨evS, ⟨evS, trivial⟩⟩) ?_)))
    refine JL_1 rfl (op_move rfl) (JL_1 rfl (op_extract (Ev.rfl' rfl) rfl) (JL_1 rfl (op_extract (Ev.rfl' rfl) rfl) (JL_1 rfl (op_extract (Ev.rfl' rfl) rfl) (JL_1 rfl (op_extract (Ev.rfl' rfl) rfl) ?_))))
    (refine JL_n rfl (op_allocN rfl nrmT rfl) ?_; intro i18)
    (refine JL_n rfl (op_allocN rfl nrmT rfl) ?_; intro i19)
    refine JL_s0 (op_storeN (Ev.rfl' rfl) (Ev.rfl' rfl) cellsT replT nrmT (by rfl) (by rfl) (by rfl)) ?_
    refine JL_s0 (op_storeN (Ev.rfl' rfl) (Ev.rfl' rfl) cellsT replT nrmT (by rfl) (by rfl) (by rfl)) ?_
    refine JL_1 rfl (op_assign rfl) (JL_1 rfl (op_assign rfl) (JL_nil ?_))
    refine JQ_then (JC_seq (JC_block (JC_seq ?_)))
    refine JC_region (JL_1 rfl (op_move rfl) (JL_1 rfl (op_not (Ev.rfl' rfl)) (JL_1 rfl (op_assign rfl) (JL_nil (JQ_then ?_)))))
    refine JC_cond (Ev.rfl' rfl) (fun h32 => ?_) (fun h32 => ?_)
    · exact absurd h32 (by rw [q1]; simp)
    refine JC_seq (JC_region (JL_1 rfl (op_move rfl) (JL_1 rfl (op_neq (Ev.rfl' rfl) (Ev.rfl' rfl)) (JL_1 rfl (op_assign rfl) (JL_nil (JQ_then ?_))))))
    refine JC_cond (Ev.rfl' rfl) (fun h34 => ?_) (fun h34 => ?_)
    · exact absurd h34 (by rw [q2]; simp)
    refine JC_seq (JC_region (JL_1 rfl (by exact op_fieldPtr (k := 0) (Ev.rfl' rfl) rfl rfl rfl rfl) ?_))
    refine JL_1 rfl (by exact op_loadPtr (Ev.rfl' rfl) memT (by rfl) (by rfl) (by rfl)) ?_
    refine JL_1 rfl (by exact op_fieldPtr (k := 3) (Ev.rfl' rfl) rfl rfl rfl rfl) ?_
    refine JL_1 rfl (by exact op_loadPtr (Ev.rfl' rfl) memT (by rfl) (by rfl) (by rfl)) ?_
    refine JL_1 rfl (op_neq (Ev.rfl' rfl) (Ev.rfl' rfl)) (JL_1 rfl (op_assign rfl) (JL_nil (JQ_then ?_)))
    refine JC_cond (Ev.rfl' rfl) (fun h36 => ?_) (fun h36 => ?_)
    · exact absurd h36 (by rw [q3]; simp)
    refine JC_skip (JQ_block (JQ_then (JC_seq ?_)))
    refine JC_region (JL_1 rfl (by exact op_fieldPtr (k := 2) (Ev.rfl' rfl) rfl rfl rfl rfl) ?_)
    refine JL_1 rfl (by exact op_loadPtr (Ev.rfl' rfl) memT (by rfl) (by rfl) (by rfl)) ?_
    refine JL_1 rfl (op_move rfl) (JL_1 rfl (op_conv (Ev.rfl' rfl) rfl rfl convT) ?_)
    refine JL_1 rfl (by exact op_shlU32 (k := _) ev32 (Ev.rfl' rfl) (by omega) idxT) ?_
    refine JL_1 rfl (by exact op_bits ev32 ev32 (by simp) (or_u32 _ _)) ?_
    refine JL_1 rfl (by exact op_fieldPtr (k := 2) (Ev.rfl' rfl) rfl rfl rfl rfl) ?_
    refine JL_s0 (op_storeN (Ev.rfl' rfl) (Ev.rfl' rfl) cellsT replT nrmT (by rfl) (by rfl) (by rfl)) ?_
    refine JL_nil ?_
    refine JQ_then (JC_seq ?_)
    refine JC_region (JL_1 rfl (by exact op_fieldPtr (k := 1) (Ev.rfl' rfl) rfl rfl rfl rfl) ?_)
    refine JL_1 rfl (by exact op_loadPtr (Ev.rfl' rfl) memT (by rfl) (by rfl) (by rfl)) ?_
    refine JL_1 rfl (by exact op_fieldPtr (k := 3) (Ev.rfl' rfl) rfl rfl rfl rfl) ?_
    refine JL_s0 (op_storeN (Ev.rfl' rfl) (Ev.rfl' rfl) cellsT replT nrmT (by rfl) (by rfl) (by rfl)) ?_
    refine JL_nil ?_
    refine JQ_then (JC_seq ?_)
    refine JC_region (JL_1 rfl (by exact op_fieldPtr (k := 0) (Ev.rfl' rfl) rfl rfl rfl rfl) ?_)
    refine JL_1 rfl (by exact op_loadPtr (Ev.rfl' rfl) memT (by rfl) (by rfl) (by rfl)) ?_
    refine JL_1 rfl (by exact op_fieldPtr (k := 0) (Ev.rfl' rfl) rfl rfl rfl rfl) ?_
    refine JL_s0 (op_storeN (Ev.rfl' rfl) (Ev.rfl' rfl) cellsT replT nrmT (by rfl) (by rfl) (by rfl)) ?_
    refine JL_nil ?_
    refine JQ_then (JC_seq ?_)
    refine JC_region (JL_1 rfl (by exact op_loadPtrsN (n := 9) (Ev.rfl' rfl) memT (by rfl) (by rfl) (by rfl) (by rfl) nrmT) ?_)
    refine JL_1 rfl (by exact op_loadPtrsN (n := 16) (Ev.rfl' rfl) memT (by rfl) (by rfl) (by rfl) (by rfl) nrmT) ?_
    refine JL_1 rfl (op_call Tryz.call33 (WriteNode_ok _ (ndS (nodeV ks cl).2.1 s inc)) ⟨evS, ⟨evS, trivial⟩⟩) ?_
    refine JL_1 rfl (op_move rfl) (JL_1 rfl (op_extract (Ev.rfl' rfl) rfl) (JL_1 rfl (op_extract (Ev.rfl' rfl) rfl) (JL_s0 (op_storeN (Ev.rfl' rfl) (Ev.rfl' rfl) cellsT replT nrmT (by rfl) (by rfl) (by rfl)) ?_)))
    refine JL_nil ?_
    refine JQ_then (JC_seq ?_)
    refine JC_region (JL_1 rfl (by exact op_loadPtrsN (n := 9) (Ev.rfl' rfl) memT (by rfl) (by rfl) (by rfl) (by rfl) nrmT) ?_)
    refine JL_1 rfl (by exact op_loadPtrsN (n := 2) (Ev.rfl' rfl) memT (by rfl) (by rfl) (by rfl) (by rfl) nrmT) ?_
    refine JL_1 rfl (op_call Tryz.call34 (WriteHeader_ok _ (hdS (headV ks s).2.1 cl)) ⟨evS, ⟨evS, trivial⟩⟩) ?_
    refine JL_1 rfl (op_move rfl) (JL_1 rfl (op_extract (Ev.rfl' rfl) rfl) (JL_1 rfl (op_extract (Ev.rfl' rfl) rfl) (JL_s0 (op_storeN (Ev.rfl' rfl) (Ev.rfl' rfl) cellsT replT nrmT (by rfl) (by rfl) (by rfl)) ?_)))
    refine JL_nil ?_
    refine JQ_then (JC_seq ?_)
    obtain ⟨a, ha⟩ : ∃ a, (writeN (nodeV ks cl).1 (ndS (nodeV ks cl).2.1 s inc)).1 = a := ⟨_, rfl⟩
    rw [ha] at hlt' ⊢
    obtain ⟨b, hb⟩ : ∃ b, (writeH (headV ks s).1 (hdS (headV ks s).2.1 cl)).1 = b := ⟨_, rfl⟩
    rw [hb] at hlt' ⊢
    refine JC_region (JL_1 rfl (by exact op_loadPtrsN (n := 9) (Ev.rfl' rfl) memT (by rfl) (by rfl) (by rfl) (by rfl) nrmT) ?_)
    refine JL_1 rfl (by exact op_loadPtrsN (n := 9) (Ev.rfl' rfl) memT (by rfl) (by rfl) (by rfl) (by rfl) nrmT) ?_
    (refine JL_n rfl (op_buildSliceO (T := tPg) ([a, b]) (size := 9) (Rs := [a, b].flatMap tPg.cells) (qs := [(0, tPg.cells a), (1, tPg.cells b)]) rfl rfl rfl ⟨⟨rfl, _, (Ev.rfl' rfl), cellsT⟩, ⟨⟨rfl, _, (Ev.rfl' rfl), cellsT⟩, trivial⟩⟩ (by rfl) (by rfl) SubLs.rfl') ?_; intro i191)
    refine JL_1 rfl (op_assign rfl) (JL_nil ?_)
    refine JQ_then (JC_seq (JC_seq ?_))
    refine JC_region (JL_1 rfl (by exact op_fieldPtr (k := 3) (Ev.rfl' rfl) rfl rfl rfl rfl) ?_)
    refine JL_1 rfl (by exact op_loadPtr (Ev.rfl' rfl) memT (by rfl) (by rfl) (by rfl)) ?_
    refine JL_1 rfl (op_neq (Ev.rfl' rfl) (Ev.rfl' rfl)) (JL_nil (JQ_then ?_))
    refine JC_cond (Ev.rfl' rfl) (fun h44 => ?_) (fun h44 => ?_)
    · exact absurd h44 (by simp)
    refine JC_skip (JQ_then (JC_seq ?_))
    refine JC_region (JL_1 rfl (op_move rfl) ?_)
    (refine JL_s rfl (by ((refine op_callT drop1T Tryz.call35 (ascending_ok [a, b] 2 (some ⟨i191, 0, none⟩, 2) rfl ?_) ⟨evS, trivial⟩); all_goals (simp))) ?_; intro i213)
    refine JL_1 rfl (op_move rfl) (JL_1 rfl (op_assign rfl) (JL_1 rfl (op_assign rfl) (JL_1 rfl (op_assign rfl) (JL_1 rfl (op_assign rfl) (JL_1 rfl (op_assign rfl) (JL_nil ?_))))))
    refine JQ_then (JC_ret ?_)
    obtain ⟨ys, hy1, hy2⟩ := i213
    dsimp only
    have hy := two_asc hlt' hy1 hy2
    subst hy
    exact JQ_retP (Bs := [IsSl tI64 [], Is (slV 2 (some ⟨i191, 0, none⟩, 2)), Is (.int .i64 (s : Nat)), Is (.int .i64 0), Is (.bool true)]) Tryz.results13 ⟨⟨_, rfl, subT⟩, ⟨⟨_, rfl, subT⟩, ⟨⟨_, rfl, subT⟩, ⟨⟨_, rfl, subT⟩, ⟨⟨_, rfl, subT⟩, trivial⟩⟩⟩⟩⟩ (some ⟨i191, 0, none⟩, 2) SubL.rfl' lessT
  exact absurd h19 (by simp)
end Go.Proofs.YtfkmbdpnjcgimaaGreat

/- Plain laws: bits; the pages that are free; what is taken where nothing is in the way. Own work. -/
namespace Go.Proofs.YtfkmbdpnjcgimaaGreat
open Go.RowKit
set_option linter.unusedVariables false
set_option linter.unusedSimpArgs false
set_option maxRecDepth 100000
theorem bit_num (u : BitVec 32) (i : Nat) : bitB u i = decide (UV u / 2 ^ i % 2 = 1) := by
  unfold bitB
  rw [UV_low 32 1 (u >>> i) _ rfl, UV_shr]
  rfl
theorem bit_lsb (u : BitVec 32) (i : Nat) : bitB u i = u.getLsbD i := by
  rw [bit_num, BitVec.getLsbD, Nat.testBit_eq_decide_div_mod_eq]
  unfold UV
  have e : ((u.toNat : Int) / 2 ^ i % 2 = 1) ↔ (u.toNat / 2 ^ i % 2 = 1) := by
    rw [show ((u.toNat : Int) / 2 ^ i % 2) = ((u.toNat / 2 ^ i % 2 : Nat) : Int) by push_cast; rfl]
    omega
  simp only [e]
theorem one_lsb (j i : Nat) (hj : j < 32) : (BitVec.ofInt 32 1 <<< j).getLsbD i = decide (i = j) := by
  rw [show BitVec.ofInt 32 1 = 1#32 from rfl, BitVec.getLsbD_shiftLeft]
  by_cases h : i = j
  · subst h; simp [hj]
  · simp only [h, decide_false]
    by_cases h1 : i < j
    · simp [h1]
    · have : i - j ≠ 0 := by omega
      rw [BitVec.getLsbD_one]
      simp [this]
theorem bit_or (u : BitVec 32) (j i : Nat) (hj : j < 32) : bitB (u ||| BitVec.ofInt 32 1 <<< j) i = (bitB u i || decide (i = j)) := by
  rw [bit_lsb, bit_lsb, BitVec.getLsbD_or, one_lsb j i hj]
theorem bit_clear (u : BitVec 32) (j i : Nat) (hj : j < 32) (hi : i < 32) : bitB (u &&& ~~~(BitVec.ofInt 32 1 <<< j)) i = (bitB u i && !decide (i = j)) := by
  rw [bit_lsb, bit_lsb, BitVec.getLsbD_and, BitVec.getLsbD_not, one_lsb j i hj]
  simp [hi]
theorem bit_orb (i : Nat) : ∀ (q : List Nat) (u : BitVec 32), (∀ j, j ∈ q → j < 32) → bitB (orb u q) i = (bitB u i || decide (i ∈ q))
  | [], u, _ => by simp [orb]
  | j :: q, u, h => by
    have e : orb u (j :: q) = orb (u ||| BitVec.ofInt 32 1 <<< j) q := rfl
    rw [e, bit_orb i q _ fun x hx => h x (List.mem_cons_of_mem _ hx), bit_or u j i (h j (List.mem_cons_self ..))]
    by_cases h1 : i = j <;> simp [h1]
/-- A header's bits: those of a segment's pages alone. -/
def usable (u : BitVec 32) : Prop := ∀ i, bitB u i = true → 1 ≤ i ∧ i ≤ 15
theorem usable_iff (u : BitVec 32) : usable u ↔ UV (u &&& ~~~BitVec.ofInt 32 65534) = 0 := by
  rw [uv0_iff]
  constructor
  · intro h
    apply BitVec.eq_of_getLsbD_eq
    intro i hi
    rw [BitVec.getLsbD_and, BitVec.getLsbD_not]
    simp only [hi, decide_true, Bool.true_and]
    cases hb : u.getLsbD i with
    | false => simp
    | true =>
      have h1 := h i (by rw [bit_lsb]; exact hb)
      have h2 : (BitVec.ofInt 32 65534).getLsbD i = true := by
        have : ∀ k : Fin 16, 1 ≤ k.val → (BitVec.ofInt 32 65534).getLsbD k.val = true := by decide +kernel
        exact this ⟨i, by omega⟩ h1.1
      rw [h2]; simp
  · intro h i hb
    rw [bit_lsb] at hb
    have hi : i < 32 := BitVec.lt_of_getLsbD hb
    have h1 := congrArg (fun x : BitVec 32 => x.getLsbD i) h
    simp only [BitVec.getLsbD_and, BitVec.getLsbD_not, hi, decide_true, Bool.true_and, hb] at h1
    have h2 : (BitVec.ofInt 32 65534).getLsbD i = true := by simpa using h1
    have h3 : ∀ k : Fin 32, (BitVec.ofInt 32 65534).getLsbD k.val = true → 1 ≤ k.val ∧ k.val ≤ 15 := by decide +kernel
    exact h3 ⟨i, hi⟩ h2
/-! ### The free pages of a segment -/
def frL (u : BitVec 32) : List Nat := (List.range' 1 15).filter fun i => !bitB u i
theorem mem_frL {u : BitVec 32} {i : Nat} : i ∈ frL u ↔ (1 ≤ i ∧ i ≤ 15) ∧ bitB u i = false := by
  unfold frL
  rw [List.mem_filter, List.mem_range']
  constructor
  · rintro ⟨⟨j, h1, h2⟩, h3⟩
    exact ⟨by omega, by simpa using h3⟩
  · rintro ⟨h1, h2⟩
    exact ⟨⟨i - 1, by omega, by omega⟩, by simp [h2]⟩
theorem frL_nodup (u : BitVec 32) : (frL u).Nodup := by
  unfold frL
  exact (List.nodup_range' (step := 1)).filter _
theorem pop8_bits : ∀ n : Fin 256, Lib.pop8 (n.val : Int) = ((n.val % 2 + n.val / 2 % 2 + n.val / 4 % 2 + n.val / 8 % 2 + n.val / 16 % 2 + n.val / 32 % 2 + n.val / 64 % 2 + n.val / 128 % 2 : Nat) : Int) := by decide +kernel
theorem pop8_sum {j : Int} (h0 : 0 ≤ j) (h1 : j ≤ 255) : Lib.pop8 j = j % 2 + j / 2 % 2 + j / 4 % 2 + j / 8 % 2 + j / 16 % 2 + j / 32 % 2 + j / 64 % 2 + j / 128 % 2 := by
  obtain ⟨n, rfl⟩ : ∃ n : Nat, j = n := ⟨j.toNat, by omega⟩
  have h : Lib.pop8 ((n : Nat) : Int) = _ := pop8_bits ⟨n, by omega⟩
  rw [h]
  push_cast
  rfl
theorem len_filter {α : Type} (p : α → Bool) : ∀ l : List α, ((l.filter p).length : Int) = (l.map fun x => if p x = true then (1 : Int) else 0).sum
  | [] => rfl
  | x :: l => by
    rw [List.filter_cons, List.map_cons, List.sum_cons, ← len_filter p l]
    by_cases h : p x = true
    · rw [if_pos h, if_pos h, List.length_cons]; omega
    · rw [if_neg h, if_neg h]; omega
theorem nb (x : Int) (i : Nat) : (if (!decide (x / 2 ^ i % 2 = 1)) = true then (1 : Int) else 0) = 1 - x / 2 ^ i % 2 := by
  have h : 0 ≤ x / 2 ^ i % 2 ∧ x / 2 ^ i % 2 < 2 := ⟨Int.emod_nonneg _ (by decide), Int.emod_lt_of_pos _ (by decide)⟩
  by_cases h1 : x / 2 ^ i % 2 = 1
  · simp [h1]
  · simp [h1]; omega
theorem bl1 (x : Int) : x / 2 ^ 1 % 2 = x % 256 / 2 % 2 := by omega
theorem bl2 (x : Int) : x / 2 ^ 2 % 2 = x % 256 / 4 % 2 := by omega
theorem bl3 (x : Int) : x / 2 ^ 3 % 2 = x % 256 / 8 % 2 := by omega
theorem bl4 (x : Int) : x / 2 ^ 4 % 2 = x % 256 / 16 % 2 := by omega
theorem bl5 (x : Int) : x / 2 ^ 5 % 2 = x % 256 / 32 % 2 := by omega
theorem bl6 (x : Int) : x / 2 ^ 6 % 2 = x % 256 / 64 % 2 := by omega
theorem bl7 (x : Int) : x / 2 ^ 7 % 2 = x % 256 / 128 % 2 := by omega
theorem bl8 (x : Int) : x / 2 ^ 8 % 2 = x / 256 % 2 := by omega
theorem bl9 (x : Int) : x / 2 ^ 9 % 2 = x / 256 / 2 % 2 := by omega
theorem bl10 (x : Int) : x / 2 ^ 10 % 2 = x / 256 / 4 % 2 := by omega
theorem bl11 (x : Int) : x / 2 ^ 11 % 2 = x / 256 / 8 % 2 := by omega
theorem bl12 (x : Int) : x / 2 ^ 12 % 2 = x / 256 / 16 % 2 := by omega
theorem bl13 (x : Int) : x / 2 ^ 13 % 2 = x / 256 / 32 % 2 := by omega
theorem bl14 (x : Int) : x / 2 ^ 14 % 2 = x / 256 / 64 % 2 := by omega
theorem bl15 (x : Int) : x / 2 ^ 15 % 2 = x / 256 / 128 % 2 := by omega
theorem frL_len {u : BitVec 32} (h : usable u) : ((frL u).length : Int) = 15 - popV u := by
  have hb : ∀ i, i < 32 → ¬ (1 ≤ i ∧ i ≤ 15) → UV u / 2 ^ i % 2 = 0 := fun i h32 hi => by
    have h1 : bitB u i = false := Bool.eq_false_iff.2 fun e => hi (h i e)
    rw [bit_num] at h1
    have h2 := of_decide_eq_false h1
    have h3 : 0 ≤ UV u / 2 ^ i % 2 ∧ UV u / 2 ^ i % 2 < 2 := ⟨Int.emod_nonneg _ (by decide), Int.emod_lt_of_pos _ (by decide)⟩
    omega
  have h0 := UV_nonneg u
  have hlt : UV u < 65536 := by
    have e := (usable_iff u).1 h
    have h16 : UV u / 65536 = 0 := by
      have e2 := (uv0_iff).1 e
      have e3 : u >>> 16 = 0#32 := by
        apply BitVec.eq_of_getLsbD_eq
        intro i hi
        rw [BitVec.getLsbD_ushiftRight]
        cases hb2 : u.getLsbD (16 + i) with
        | false => simp
        | true => have := h (16 + i) (by rw [bit_lsb]; exact hb2); omega
      have e4 := UV_shr 32 u 16
      rw [e3] at e4
      have e5 : UV (0#32) = 0 := rfl
      rw [e5] at e4
      exact e4.symm
    omega
  have b0 := hb 0 (by decide) (by decide)
  unfold frL
  rw [len_filter]
  simp only [bit_num, nb]
  unfold popV
  have w1 : UV (u >>> 24) = 0 := by rw [UV_shr]; omega
  have w2 : UV (u >>> 16 &&& BitVec.ofInt 32 255) = 0 := by rw [UV_low 32 8 _ _ rfl, UV_shr]; omega
  have w3 : UV (u >>> 8 &&& BitVec.ofInt 32 255) = UV u / 256 := by rw [UV_low 32 8 _ _ rfl, UV_shr]; omega
  have w4 : UV (u &&& BitVec.ofInt 32 255) = UV u % 256 := by rw [UV_low 32 8 _ _ rfl]; omega
  rw [w1, w2, w3, w4, pop8_sum (j := UV u / 256) (by omega) (by omega), pop8_sum (j := UV u % 256) (by omega) (by omega), pop8_sum (j := 0) (by decide) (by decide)]
  have hr : List.range' 1 15 = [1, 2, 3, 4, 5, 6, 7, 8, 9, 10, 11, 12, 13, 14, 15] := by decide
  rw [hr]
  have b1 : UV u % 256 % 2 = 0 := by clear hb h w1 w2 w3 w4 hr hlt h0; omega
  rw [b1]
  clear b0 b1 w1 w2 w3 w4 hb h
  generalize UV u = x at *
  have e1 := bl1 x
  have e2 := bl2 x
  have e3 := bl3 x
  have e4 := bl4 x
  have e5 := bl5 x
  have e6 := bl6 x
  have e7 := bl7 x
  have e8 := bl8 x
  have e9 := bl9 x
  have e10 := bl10 x
  have e11 := bl11 x
  have e12 := bl12 x
  have e13 := bl13 x
  have e14 := bl14 x
  have e15 := bl15 x
  simp only [List.map_cons, List.map_nil, List.sum_cons, List.sum_nil]
  rw [e1, e2, e3, e4, e5, e6, e7, e8, e9, e10, e11, e12, e13, e14, e15]
  clear e1 e2 e3 e4 e5 e6 e7 e8 e9 e10 e11 e12 e13 e14 e15 h0 hlt
  generalize x % 256 / 2 % 2 = a1
  generalize x % 256 / 4 % 2 = a2
  generalize x % 256 / 8 % 2 = a3
  generalize x % 256 / 16 % 2 = a4
  generalize x % 256 / 32 % 2 = a5
  generalize x % 256 / 64 % 2 = a6
  generalize x % 256 / 128 % 2 = a7
  generalize x / 256 / 128 % 2 = b15
  generalize x / 256 / 64 % 2 = b14
  generalize x / 256 / 32 % 2 = b13
  generalize x / 256 / 16 % 2 = b12
  generalize x / 256 / 8 % 2 = b11
  generalize x / 256 / 4 % 2 = b10
  generalize x / 256 / 2 % 2 = b9
  generalize x / 256 % 2 = b8
  omega
/-! ### What is taken -/
theorem filter_range_cons (p : Nat → Bool) (i f : Nat) : (List.range' i (f + 1)).filter p = if p i = true then i :: (List.range' (i + 1) f).filter p else (List.range' (i + 1) f).filter p := by
  rw [List.range'_succ, List.filter_cons]
theorem inn_all {ks : List Pg} {s : Int} {cnt : Nat} {u : BitVec 32} (hp : ∀ i : Nat, 1 ≤ i → i ≤ 15 → bitB u i = false → pkV ks (lineV s + i) = 0) :
    ∀ (f i ch : Nat) (q : List Nat), i + f = 16 → 1 ≤ i → (∀ j, j ∈ q → j < i) → inn ks s cnt f i ch (orb u q) q = .ok (q ++ (((List.range' i f).filter fun i => !bitB u i).take (cnt - ch)))
  | 0, i, ch, q, _, _, _ => by simp [inn]
  | f + 1, i, ch, q, he, h1, hq => by
    have hbit : bitB (orb u q) i = bitB u i := by
      rw [bit_orb i q u fun j hj => by have := hq j hj; omega]
      have : ¬ i ∈ q := fun hm => absurd (hq i hm) (by omega)
      simp [this]
    unfold inn
    rw [filter_range_cons, hbit]
    by_cases hc : ch < cnt
    · rw [if_pos hc]
      cases hb : bitB u i with
      | true =>
        simp only [if_true, Bool.not_true, Bool.false_eq_true, if_false]
        exact inn_all hp f (i + 1) ch q (by omega) (by omega) fun j hj => by have := hq j hj; omega
      | false =>
        have hpk := hp i h1 (by omega) hb
        simp only [Bool.false_eq_true, if_false, Bool.not_false, if_true, hpk]
        rw [if_neg (by decide), ← orb_snoc, inn_all hp f (i + 1) (ch + 1) (q ++ [i]) (by omega) (by omega) fun j hj => by
          rcases List.mem_append.1 hj with hj | hj
          · have := hq j hj; omega
          · have := List.mem_singleton.1 hj; omega]
        obtain ⟨m, hm⟩ : ∃ m, cnt - ch = m + 1 := ⟨cnt - ch - 1, by omega⟩
        rw [hm, show cnt - (ch + 1) = m by omega, List.take_succ_cons]
        simp
    · rw [if_neg hc, show cnt - ch = 0 by omega, List.take_zero, List.append_nil]
theorem inn_free {ks : List Pg} {s : Int} {cnt ch : Nat} {u : BitVec 32} (hp : ∀ i : Nat, 1 ≤ i → i ≤ 15 → bitB u i = false → pkV ks (lineV s + i) = 0) : inn ks s cnt 15 1 ch u [] = .ok ((frL u).take (cnt - ch)) :=
  inn_all hp 15 1 ch [] rfl (Nat.le_refl _) (fun j hj => by cases hj)
def frS (ks : List Pg) (T : List Int) : Nat := (T.map fun s => (frL (hdS' ks s).used).length).sum
theorem frS_cons (ks : List Pg) (s : Int) (T : List Int) : frS ks (s :: T) = (frL (hdS' ks s).used).length + frS ks T := by unfold frS; simp
theorem frS_mem {ks : List Pg} {s : Int} : ∀ {T : List Int}, s ∈ T → (frL (hdS' ks s).used).length ≤ frS ks T
  | t :: T, h => by
    rw [frS_cons]
    rcases List.mem_cons.1 h with h | h
    · subst h; omega
    · have := frS_mem (ks := ks) h; omega
def Free (ks : List Pg) (s : Int) : Prop := ∀ i : Nat, 1 ≤ i → i ≤ 15 → bitB (hdS' ks s).used i = false → latB ks (lineV s + i) = true ∧ pkV ks (lineV s + i) = 0
theorem outS_all {ks : List Pg} {cnt : Nat} : ∀ (T : List Int) (ch : Nat) (ps : Pk), (∀ s, s ∈ T → Free ks s) → ch ≤ cnt →
    ∃ rs : Pk, outS ks cnt T ch ps = .ok (ps ++ rs) ∧ rs.map Prod.fst = T ∧ (∀ x, x ∈ rs → ∃ m, x.2 = (frL (hdS' ks x.1).used).take m) ∧ ch + totP rs = min cnt (ch + frS ks T)
  | [], ch, ps, _, hc => ⟨[], by simp [outS], rfl, (fun x hx => by cases hx), by simp [totP, frS]; omega⟩
  | s :: T, ch, ps, hF, hc => by
    have hin := inn_free (ks := ks) (s := s) (cnt := cnt) (ch := ch) fun i h1 h2 h3 => (hF s (List.mem_cons_self ..) i h1 h2 h3).2
    have hl : ((frL (hdS' ks s).used).take (cnt - ch)).length = min (cnt - ch) (frL (hdS' ks s).used).length := List.length_take
    have hle : ch + ((frL (hdS' ks s).used).take (cnt - ch)).length ≤ cnt := by omega
    obtain ⟨rs, e1, e2, e3, e4⟩ := outS_all T (ch + ((frL (hdS' ks s).used).take (cnt - ch)).length) (ps ++ [(s, (frL (hdS' ks s).used).take (cnt - ch))]) (fun t ht => hF t (List.mem_cons_of_mem _ ht)) hle
    refine ⟨(s, (frL (hdS' ks s).used).take (cnt - ch)) :: rs, ?_, by simp [e2], fun x hx => ?_, ?_⟩
    · conv => lhs; unfold outS
      rw [hin]
      simp only
      rw [e1, List.append_assoc]
      rfl
    · rcases List.mem_cons.1 hx with hx | hx
      · subst hx; exact ⟨_, rfl⟩
      · exact e3 x hx
    · rw [frS_cons]
      have : totP ((s, (frL (hdS' ks s).used).take (cnt - ch)) :: rs) = ((frL (hdS' ks s).used).take (cnt - ch)).length + totP rs := by unfold totP; simp
      rw [this]
      omega
/-- Pages are allocated where nothing is in the way. -/
theorem alo_all {ks : List Pg} {cl : Int} {cnt : Nat} {S : List Int} (hn : S.Nodup) (hH : ∀ s, s ∈ S → (headV ks s).2.2.2 = 0 ∧ (hdS' ks s).owner = cl ∧ usable (hdS' ks s).used) (hF : ∀ s, s ∈ S → Free ks s) :
    (frS ks S < cnt ∧ aloH ks cl cnt S S = errA 12) ∨ (cnt ≤ frS ks S ∧ ∃ rs : Pk, (rs.map Prod.fst).Nodup ∧ (∀ x, x ∈ rs → x.1 ∈ S ∧ ∃ m, x.2 = (frL (hdS' ks x.1).used).take m) ∧ totP rs = cnt ∧ aloH ks cl cnt S S = ([], freP ks rs, wriP ks rs, 0, true)) := by
  have hE : ∀ T : List Int, (∀ s, s ∈ T → s ∈ S) → hdE ks cl T = none := fun T => by
    induction T with
    | nil => intro _; rfl
    | cons s T ih =>
      intro h
      obtain ⟨h1, h2, _⟩ := hH s (h s (List.mem_cons_self ..))
      unfold hdE
      rw [if_neg (by rw [h1]; simp), if_neg (by rw [h2]; simp)]
      exact ih fun t ht => h t (List.mem_cons_of_mem _ ht)
  have hvac : ∀ s, s ∈ S → vacV (hdS' ks s) = ((frL (hdS' ks s).used).length : Int) := fun s hs => (frL_len (hH s hs).2.2).symm
  have hal : aloH ks cl cnt S S = excA ks cnt (outS ks cnt (srcV ks cnt S) 0 []) := by
    unfold aloH
    rw [hE S fun _ h => h]
  obtain ⟨hsn, hss⟩ := src_sub (ks := ks) (cnt := cnt) hn
  obtain ⟨rs, e1, e2, e3, e4⟩ := outS_all (ks := ks) (cnt := cnt) (srcV ks cnt S) 0 [] (fun s hs => hF s (hss s hs)) (Nat.zero_le _)
  rw [List.nil_append] at e1
  rw [e1] at hal
  have hrs : ∀ x, x ∈ rs → x.1 ∈ S := fun x hx => hss _ (by rw [← e2]; exact List.mem_map.2 ⟨x, hx, rfl⟩)
  have hneed : needP ks rs = [] := by
    unfold needP
    rw [List.filter_eq_nil_iff]
    intro l hl
    unfold linP at hl
    obtain ⟨x, hx, hl⟩ := List.mem_flatMap.1 hl
    obtain ⟨i, hi, rfl⟩ := List.mem_map.1 hl
    obtain ⟨m, hm⟩ := e3 x hx
    rw [hm] at hi
    obtain ⟨h1, h2⟩ := mem_frL.1 (List.mem_of_mem_take hi)
    rw [(hF _ (hrs x hx) i h1.1 h1.2 h2).1]
    simp
  have hfin : ¬ totP rs < cnt → aloH ks cl cnt S S = ([], freP ks rs, wriP ks rs, 0, true) := fun h => by
    rw [hal]
    show finA ks cnt rs = _
    unfold finA
    rw [if_neg h, hneed, if_neg (by simp)]
  have hfull : totP rs < cnt → aloH ks cl cnt S S = errA 12 := fun h => by
    rw [hal]
    show finA ks cnt rs = _
    unfold finA
    rw [if_pos h]
  have hle : frS ks (srcV ks cnt S) ≤ frS ks S ∧ (frS ks S < cnt → frS ks (srcV ks cnt S) < cnt) ∧ (cnt ≤ frS ks S → cnt ≤ frS ks (srcV ks cnt S)) := by
    unfold srcV
    split
    · rename_i s hs
      have hm := List.mem_of_find?_eq_some hs
      have hv := List.find?_some hs
      have hv2 : vacV (hdS' ks s) ≥ (cnt : Int) := by simpa using hv
      rw [hvac s hm] at hv2
      have h1 := frS_mem (ks := ks) hm
      have h2 : frS ks [s] = (frL (hdS' ks s).used).length := by rw [frS_cons]; simp [frS]
      rw [h2]
      exact ⟨h1, fun h => by omega, fun h => by omega⟩
    · exact ⟨Nat.le_refl _, fun h => h, fun h => h⟩
  rcases Nat.lt_or_ge (frS ks S) cnt with h | h
  · exact .inl ⟨h, hfull (by have := hle.2.1 h; omega)⟩
  · refine .inr ⟨h, rs, by rw [e2]; exact hsn, fun x hx => ⟨hrs x hx, e3 x hx⟩, ?_, hfin ?_⟩
    · have := hle.2.2 h; omega
    · have := hle.2.2 h; omega
end Go.Proofs.YtfkmbdpnjcgimaaGreat

/- Plain laws: a heap of which all pages are known; what stays true when pages are committed. Own work. -/
namespace Go.Proofs.YtfkmbdpnjcgimaaGreat
open Go.RowKit
set_option linter.unusedVariables false
set_option linter.unusedSimpArgs false
set_option maxRecDepth 100000
def ndB (b : BitVec 32) (inc : Int) : Nd := ⟨false, 0#32, b, inc, Re.nil, Re.nil, Re.nil, Re.nil⟩
/-- What is said of a heap of n segments: B has the bitmaps of the compute nodes, A the owners and the bits of the segments, D the pages that are taken and not yet written. -/
structure Inv (n : Nat) (G : Int) (B : Nat → BitVec 32) (A : Nat → Int × BitVec 32) (D : List (Nat × Nat)) (H : List Pg) : Prop where
  len : H.length = 8 + 16 * n
  ln : ∀ (k : Nat) p, H[k]? = some p → p.l = 96 + (k : Int)
  un : ∀ (k : Nat) p, H[k]? = some p → lockB p = false
  nd : ∀ (c : Nat) p, c < 6 → H[2 + c]? = some p → ∃ inc, (0 ≤ inc ∧ inc ≤ 59) ∧ readN p = (ndB (B c) inc, 0)
  hd : ∀ (s : Nat) p, s < n → H[8 + 16 * s]? = some p → readH p = (⟨(A s).1, (A s).2⟩, 0)
  dp : ∀ (s i : Nat) p, s < n → 1 ≤ i → i ≤ 15 → H[8 + 16 * s + i]? = some p → (kindV p.d0 = 0 ↔ (bitB (A s).2 i = false ∨ (s, i) ∈ D)) ∧ genV p.d0 ≤ G
theorem com_set {H : List Pg} {w : Pg} {k : Nat} (hk : k < H.length) (hl : w.l = 96 + (k : Int)) : comP H w = H.set k { w with h := nextH (H.getD k Pg.nil).h } := by
  unfold comP
  rw [if_pos (by omega), show (w.l - 96).toNat = k by omega]
theorem nextH_un (w : Pg) (x : BitVec 64) : lockB { w with h := nextH x } = false := by
  unfold lockB
  have e : UV (nextH x &&& 255#64) = 0 := by
    rw [UV_low 64 8 _ _ rfl, ← nextH_eq, wrap_u64_mod]
    omega
  show (UV (nextH x &&& 255#64) != 0) = false
  rw [e]; rfl
theorem set_get {H : List Pg} {k j : Nat} {w p : Pg} (h : (H.set k w)[j]? = some p) : (j = k ∧ p = w) ∨ (j ≠ k ∧ H[j]? = some p) := by
  rw [List.getElem?_set] at h
  by_cases e : k = j
  · rw [if_pos e] at h
    split at h
    · exact .inl ⟨e.symm, (Option.some.inj h).symm⟩
    · cases h
  · rw [if_neg e] at h
    exact .inr ⟨fun e2 => e e2.symm, h⟩
section
variable {n : Nat} {G : Int} {B : Nat → BitVec 32} {A : Nat → Int × BitVec 32} {D : List (Nat × Nat)} {H : List Pg}
theorem Inv.at_ (h : Inv n G B A D H) {k : Nat} (hk : k < 8 + 16 * n) : ∃ p, H[k]? = some p := ⟨H[k]'(by rw [h.len]; exact hk), List.getElem?_eq_getElem _⟩
theorem Inv.lat (h : Inv n G B A D H) {k : Nat} {p : Pg} (hk : H[k]? = some p) : latO H (96 + (k : Int)) = some p :=
  lat_hit hk (h.ln k p hk) fun j q hj hq => by rw [h.ln j q hq]; omega
theorem Inv.lat2 (h : Inv n G B A D H) {k : Nat} {p : Pg} (hk : H[k]? = some p) : latP H (96 + (k : Int)) = p ∧ latB H (96 + (k : Int)) = true := by
  unfold latP latB
  rw [h.lat hk]
  exact ⟨rfl, rfl⟩
theorem Inv.miss (h : Inv n G B A D H) {ls : List Int} (hl : ∀ l, l ∈ ls → ∃ k : Nat, k < 8 + 16 * n ∧ l = 96 + (k : Int)) : missV H ls = [] := by
  unfold missV
  rw [List.filter_eq_nil_iff]
  intro l hm
  obtain ⟨k, hk, rfl⟩ := hl l hm
  obtain ⟨p, hp⟩ := h.at_ hk
  rw [h.lat hp]
  simp
theorem Inv.node (h : Inv n G B A D H) {c : Nat} (hc : c < 6) : ∃ p inc, H[2 + c]? = some p ∧ (0 ≤ inc ∧ inc ≤ 59) ∧ nodeV H c = (p, ndB (B c) inc, true, 0) := by
  obtain ⟨p, hp⟩ := h.at_ (k := 2 + c) (by omega)
  obtain ⟨inc, hi, hr⟩ := h.nd c p hc hp
  refine ⟨p, inc, hp, hi, ?_⟩
  obtain ⟨e1, e2⟩ := h.lat2 hp
  have e0 : (96 + ((2 + c : Nat) : Int)) = 98 + (c : Int) := by omega
  rw [e0] at e1 e2
  have e3 := h.un _ p hp
  unfold nodeV
  rw [if_pos e2, e1, if_neg (by rw [e3]; simp), hr]
theorem line_seg {s : Nat} (hs : s ≤ 8) : lineV (s : Int) = 96 + ((8 + 16 * s : Nat) : Int) := by unfold lineV; rw [if_pos (by omega)]; omega
theorem Inv.head (h : Inv n G B A D H) {s : Nat} (hs : s < n) (hn : n ≤ 9) : ∃ p, H[8 + 16 * s]? = some p ∧ headV H s = (p, ⟨(A s).1, (A s).2⟩, true, 0) := by
  obtain ⟨p, hp⟩ := h.at_ (k := 8 + 16 * s) (by omega)
  refine ⟨p, hp, ?_⟩
  obtain ⟨e1, e2⟩ := h.lat2 hp
  rw [← line_seg (by omega)] at e1 e2
  unfold headV
  rw [if_pos e2, e1, if_neg (by rw [h.un _ p hp]; simp), h.hd s p hs hp]
theorem Inv.page (h : Inv n G B A D H) {s i : Nat} (hs : s < n) (hn : n ≤ 9) (hi : i ≤ 15) : ∃ p, H[8 + 16 * s + i]? = some p ∧ latP H (lineV s + i) = p ∧ latB H (lineV s + i) = true := by
  obtain ⟨p, hp⟩ := h.at_ (k := 8 + 16 * s + i) (by omega)
  obtain ⟨e1, e2⟩ := h.lat2 hp
  rw [show (96 + ((8 + 16 * s + i : Nat) : Int)) = lineV s + i by rw [line_seg (by omega)]; omega] at e1 e2
  exact ⟨p, hp, e1, e2⟩
/-! ### Commits -/
theorem Inv.com (h : Inv n G B A D H) {k : Nat} {w : Pg} (hk : k < 8 + 16 * n) (hl : w.l = 96 + (k : Int)) :
    ∃ w', comP H w = H.set k w' ∧ w'.l = w.l ∧ lockB w' = false ∧ readN w' = readN w ∧ readH w' = readH w ∧ w'.d0 = w.d0 :=
  ⟨_, com_set (by rw [h.len]; exact hk) hl, rfl, nextH_un _ _, rfl, rfl, rfl⟩
theorem Inv.comNode (h : Inv n G B A D H) {c : Nat} {w : Pg} {b : BitVec 32} {inc : Int} (hc : c < 6) (hl : w.l = 98 + (c : Int)) (hi : 0 ≤ inc ∧ inc ≤ 59) (hw : readN w = (ndB b inc, 0)) :
    Inv n G (fun x => if x = c then b else B x) A D (comP H w) := by
  obtain ⟨w', e, l1, l2, l3, l4, l5⟩ := h.com (k := 2 + c) (w := w) (by omega) (by omega)
  rw [e]
  refine ⟨by rw [List.length_set, h.len], fun k p hp => ?_, fun k p hp => ?_, fun d p hd hp => ?_, fun s p hs hp => ?_, fun s i p hs h1 h2 hp => ?_⟩
  · rcases set_get hp with ⟨rfl, rfl⟩ | ⟨_, hp⟩
    · rw [l1, hl]; omega
    · exact h.ln k p hp
  · rcases set_get hp with ⟨rfl, rfl⟩ | ⟨_, hp⟩
    · exact l2
    · exact h.un k p hp
  · rcases set_get hp with ⟨e1, rfl⟩ | ⟨e1, hp⟩
    · have : d = c := by omega
      subst this
      rw [if_pos rfl]
      exact ⟨inc, hi, l3.trans hw⟩
    · rw [if_neg (by omega)]
      exact h.nd d p hd hp
  · rcases set_get hp with ⟨e1, rfl⟩ | ⟨e1, hp⟩
    · omega
    · exact h.hd s p hs hp
  · rcases set_get hp with ⟨e1, rfl⟩ | ⟨e1, hp⟩
    · omega
    · exact h.dp s i p hs h1 h2 hp
theorem Inv.comHead (h : Inv n G B A D H) {s : Nat} {w : Pg} {o : Int} {u : BitVec 32} {D' : List (Nat × Nat)} (hs : s < n) (hl : w.l = 104 + 16 * (s : Int)) (hw : readH w = (⟨o, u⟩, 0))
    (hD : ∀ i, 1 ≤ i → i ≤ 15 → ((bitB (A s).2 i = false ∨ (s, i) ∈ D) ↔ (bitB u i = false ∨ (s, i) ∈ D'))) (hD2 : ∀ t i, t ≠ s → ((t, i) ∈ D ↔ (t, i) ∈ D')) :
    Inv n G B (fun x => if x = s then (o, u) else A x) D' (comP H w) := by
  obtain ⟨w', e, l1, l2, l3, l4, l5⟩ := h.com (k := 8 + 16 * s) (w := w) (by omega) (by omega)
  rw [e]
  refine ⟨by rw [List.length_set, h.len], fun k p hp => ?_, fun k p hp => ?_, fun d p hd hp => ?_, fun t p ht hp => ?_, fun t i p ht h1 h2 hp => ?_⟩
  · rcases set_get hp with ⟨rfl, rfl⟩ | ⟨_, hp⟩
    · rw [l1, hl]; omega
    · exact h.ln k p hp
  · rcases set_get hp with ⟨rfl, rfl⟩ | ⟨_, hp⟩
    · exact l2
    · exact h.un k p hp
  · rcases set_get hp with ⟨e1, rfl⟩ | ⟨e1, hp⟩
    · omega
    · exact h.nd d p hd hp
  · rcases set_get hp with ⟨e1, rfl⟩ | ⟨e1, hp⟩
    · have : t = s := by omega
      subst this
      rw [if_pos rfl]
      exact l4.trans hw
    · rw [if_neg (by omega)]
      exact h.hd t p ht hp
  · rcases set_get hp with ⟨e1, rfl⟩ | ⟨e1, hp⟩
    · omega
    · have h3 := h.dp t i p ht h1 h2 hp
      by_cases e2 : t = s
      · subst e2
        rw [if_pos rfl, ← hD i h1 h2]
        exact h3
      · rw [if_neg e2, ← hD2 t i e2]
        exact h3
theorem Inv.comPage (h : Inv n G B A D H) {s i : Nat} {w : Pg} {G' : Int} {D' : List (Nat × Nat)} (hs : s < n) (hi : 1 ≤ i ∧ i ≤ 15) (hl : w.l = 104 + 16 * (s : Int) + i) (hG : G ≤ G') (hg : genV w.d0 ≤ G')
    (hk : kindV w.d0 = 0 ↔ (bitB (A s).2 i = false ∨ (s, i) ∈ D')) (hD : ∀ t j, (t, j) ≠ (s, i) → ((t, j) ∈ D ↔ (t, j) ∈ D')) :
    Inv n G' B A D' (comP H w) := by
  obtain ⟨w', e, l1, l2, l3, l4, l5⟩ := h.com (k := 8 + 16 * s + i) (w := w) (by omega) (by omega)
  rw [e]
  refine ⟨by rw [List.length_set, h.len], fun k p hp => ?_, fun k p hp => ?_, fun d p hd hp => ?_, fun t p ht hp => ?_, fun t j p ht h1 h2 hp => ?_⟩
  · rcases set_get hp with ⟨rfl, rfl⟩ | ⟨_, hp⟩
    · rw [l1, hl]; omega
    · exact h.ln k p hp
  · rcases set_get hp with ⟨rfl, rfl⟩ | ⟨_, hp⟩
    · exact l2
    · exact h.un k p hp
  · rcases set_get hp with ⟨e1, rfl⟩ | ⟨e1, hp⟩
    · omega
    · exact h.nd d p hd hp
  · rcases set_get hp with ⟨e1, rfl⟩ | ⟨e1, hp⟩
    · omega
    · exact h.hd t p ht hp
  · rcases set_get hp with ⟨e1, rfl⟩ | ⟨e1, hp⟩
    · have e2 : t = s := by omega
      have e3 : j = i := by omega
      subst e2 e3
      rw [l5]
      exact ⟨hk, hg⟩
    · obtain ⟨h3, h4⟩ := h.dp t j p ht h1 h2 hp
      rw [← hD t j (fun e2 => by injection e2 with e2 e3; omega)]
      exact ⟨h3, by omega⟩
end
/-! ### Written pages are read -/
theorem sg_le {b : BitVec 32} (h : ∀ i, bitB b i = true → i < 9) : UV b ≤ 511 := by
  have e3 : b >>> 9 = 0#32 := by
    apply BitVec.eq_of_getLsbD_eq
    intro i hi
    rw [BitVec.getLsbD_ushiftRight]
    cases hb : b.getLsbD (9 + i) with
    | false => simp
    | true => have := h (9 + i) (by rw [bit_lsb]; exact hb); omega
  have e4 := UV_shr 32 b 9
  rw [e3] at e4
  have e5 : UV (0#32) = 0 := rfl
  rw [e5] at e4
  have := UV_nonneg b
  omega
theorem write_nd {p : Pg} {b : BitVec 32} {inc : Int} (hl : 98 ≤ p.l ∧ p.l < 104) (hb : ∀ i, bitB b i = true → i < 9) (hi : 0 ≤ inc ∧ inc ≤ 59) : (writeN p (ndB b inc)).2 = 0 := by
  have h := sg_le hb
  have e : badW p (ndB b inc) = false := by
    unfold badW ownB ndB
    simp
    refine ⟨by omega, ?_⟩
    refine ⟨?_, by omega, by omega, by omega⟩
    rfl
  rw [writeN_0 e rfl]
theorem write_hd {p : Pg} {o : Int} {u : BitVec 32} (hl : hdrB p.l = true) (ho : -1 ≤ o ∧ o < 6) (hu : usable u) : (writeH p ⟨o, u⟩).2 = 0 := by
  have e : hdBad p ⟨o, u⟩ = false := by
    unfold hdBad
    rw [hl, (usable_iff u).1 hu]
    simp
    omega
  unfold writeH
  rw [if_neg (by rw [e]; simp)]
theorem hdr_seg {s : Nat} (hs : s ≤ 8) {l : Int} (hl : l = 104 + 16 * (s : Int)) : hdrB l = true := by
  unfold hdrB
  rw [decide_eq_true]
  omega
end Go.Proofs.YtfkmbdpnjcgimaaGreat

/- Plain laws: a segment taken, pages allocated, a page written, on a heap of which all pages are known. Own work. -/
namespace Go.Proofs.YtfkmbdpnjcgimaaGreat
open Go.RowKit
set_option linter.unusedVariables false
set_option linter.unusedSimpArgs false
set_option maxRecDepth 100000
/-! ### Tags -/
theorem m8 : ∀ i : Fin 64, (BitVec.ofInt 64 255).getLsbD i.val = decide (i.val < 8) := by decide +kernel
theorem m24 : ∀ i : Fin 64, (BitVec.ofInt 64 16777215).getLsbD i.val = decide (i.val < 24) := by decide +kernel
theorem kind_pack (t : Tg) (h : 0 ≤ t.kind ∧ t.kind < 256) : kindV (packT t) = t.kind := by
  have e : packT t &&& BitVec.ofInt 64 255 = BitVec.ofInt 64 t.kind &&& BitVec.ofInt 64 255 := by
    apply BitVec.eq_of_getLsbD_eq
    intro i hi
    have h1 := m8 ⟨i, hi⟩
    simp only at h1
    unfold packT
    simp only [BitVec.getLsbD_and, BitVec.getLsbD_or, BitVec.getLsbD_shiftLeft, h1]
    by_cases h8 : i < 8
    · simp [h8, show i < 32 by omega]
    · simp [h8]
  have e1 : kindV (packT t) = UV (packT t &&& BitVec.ofInt 64 255) := rfl
  rw [e1, e, UV_low 64 8 _ _ rfl, UV_ofInt64 (by omega)]
  omega
theorem gen_pack (t : Tg) (h : 0 ≤ t.gen ∧ t.gen ≤ 16777215) : genV (packT t) = t.gen := by
  have e : packT t >>> 8 &&& BitVec.ofInt 64 16777215 = BitVec.ofInt 64 t.gen &&& BitVec.ofInt 64 16777215 := by
    apply BitVec.eq_of_getLsbD_eq
    intro i hi
    have h1 := m24 ⟨i, hi⟩
    simp only at h1
    unfold packT
    simp only [BitVec.getLsbD_and, BitVec.getLsbD_or, BitVec.getLsbD_shiftLeft, BitVec.getLsbD_ushiftRight, h1]
    by_cases h8 : i < 24
    · have h2 : (BitVec.ofInt 64 255).getLsbD (8 + i) = false := by
        have := m8 ⟨8 + i, by omega⟩
        simp only at this
        rw [this]; simp
      have e1 : 8 + i - 8 = i := by omega
      have d1 : decide (8 + i < 64) = true := decide_eq_true (by omega)
      have d2 : decide (8 + i < 8) = false := decide_eq_false (by omega)
      have d3 : decide (8 + i < 32) = true := decide_eq_true (by omega)
      have d4 : decide (i < 24) = true := decide_eq_true h8
      simp only [h2, e1, h1, d1, d2, d3, d4, Bool.and_true, Bool.and_false, Bool.false_or, Bool.not_false, Bool.true_and, Bool.not_true, Bool.false_and, Bool.or_false]
    · simp [h8]
  have e1 : genV (packT t) = UV (packT t >>> 8 &&& BitVec.ofInt 64 16777215) := rfl
  rw [e1, e, UV_low 64 24 _ _ rfl, UV_ofInt64 (by omega)]
  omega
/-! ### Who owns what -/
theorem mem_ownV {b : BitVec 32} {x : Int} : ∀ {n : Nat}, x ∈ ownV b n ↔ ∃ s : Nat, s < n ∧ x = (s : Int) ∧ bitB b s = true
  | 0 => ⟨(fun h => by cases h), fun ⟨s, h, _⟩ => absurd h (Nat.not_lt_zero _)⟩
  | n + 1 => by
    unfold ownV
    by_cases hb : bitB b n = true
    · rw [if_pos hb, List.mem_append, mem_ownV]
      constructor
      · rintro (⟨s, h1, h2, h3⟩ | h)
        · exact ⟨s, by omega, h2, h3⟩
        · exact ⟨n, by omega, List.mem_singleton.1 h, hb⟩
      · rintro ⟨s, h1, h2, h3⟩
        by_cases e : s = n
        · subst e; exact .inr (by rw [h2]; simp)
        · exact .inl ⟨s, by omega, h2, h3⟩
    · rw [if_neg hb, mem_ownV]
      constructor
      · rintro ⟨s, h1, h2, h3⟩
        exact ⟨s, by omega, h2, h3⟩
      · rintro ⟨s, h1, h2, h3⟩
        by_cases e : s = n
        · subst e; exact absurd h3 hb
        · exact ⟨s, by omega, h2, h3⟩
structure Coh (n : Nat) (B : Nat → BitVec 32) (A : Nat → Int × BitVec 32) : Prop where
  bn : ∀ c i : Nat, c < 6 → (bitB (B c) i = true ↔ i < n ∧ (A i).1 = (c : Int))
  ow : ∀ s : Nat, s < n → -1 ≤ (A s).1 ∧ (A s).1 < 6
  us : ∀ s : Nat, s < n → usable (A s).2
section
variable {n : Nat} {G : Int} {B : Nat → BitVec 32} {A : Nat → Int × BitVec 32} {D : List (Nat × Nat)} {H : List Pg}
theorem sV_none {ks : List Pg} {st n : Nat} (h : ¬ sB ks st n = true) : ∀ s, s < n → freeB ks s = false := fun s hs => by
  have h0 : unO ks st n = none := by
    unfold sB at h
    cases hq : unO ks st n with
    | none => rfl
    | some i => rw [hq] at h; simp at h
  have key : ∀ (f : Nat → Bool) (m k : Nat), fstF f k m = none → ∀ i, k ≤ i → i < k + m → f i = false := fun f m => by
    induction m with
    | zero => intro k _ i h1 h2; omega
    | succ m ih =>
      intro k hk i h1 h2
      unfold fstF at hk
      split at hk
      · cases hk
      · rename_i g
        by_cases e : i = k
        · subst e; simpa using g
        · exact ih (k + 1) hk i (by omega) (by omega)
  have hi : (st + (s + n - st % n) % n) % n = s := by
    have h1 : st % n < n := Nat.mod_lt _ (by omega)
    rw [Nat.add_mod, Nat.mod_mod]
    rcases Nat.lt_or_ge s (st % n) with h2 | h2
    · rw [Nat.mod_eq_of_lt (a := s + n - st % n) (by omega), show st % n + (s + n - st % n) = s + n by omega, Nat.add_mod_right, Nat.mod_eq_of_lt hs]
    · rw [show s + n - st % n = (s - st % n) + n by omega, Nat.add_mod_right, Nat.mod_eq_of_lt (a := s - st % n) (by omega), show st % n + (s - st % n) = s by omega, Nat.mod_eq_of_lt hs]
  have := key _ n 0 h0 ((s + n - st % n) % n) (Nat.zero_le _) (by have := Nat.mod_lt (s + n - st % n) (show 0 < n by omega); omega)
  rw [hi] at this
  exact this
theorem free_own (h : Inv n G B A D H) (hn : n ≤ 9) {s : Nat} (hs : s < n) : freeB H s = decide ((A s).1 = -1) := by
  obtain ⟨p, _, e⟩ := h.head hs hn
  unfold freeB
  rw [e]
  simp
  rfl
theorem count_n {n : Nat} (hn : n ≤ 9) : countN (104 + 16 * (n : Int)) = n := by
  unfold countN countV
  rw [if_pos (by omega)]
  omega
theorem Inv.hdr0 (h : Inv n G B A D H) (hn : n ≤ 9) (b : BitVec 32) : missV H ((ownV b n).map lineV) = [] := h.miss fun l hl => by
  obtain ⟨x, hx, rfl⟩ := List.mem_map.1 hl
  obtain ⟨s, h1, rfl, _⟩ := mem_ownV.1 hx
  exact ⟨8 + 16 * s, by omega, line_seg (by omega)⟩
def updA (A : Nat → Int × BitVec 32) (s : Nat) (x : Int × BitVec 32) : Nat → Int × BitVec 32 := fun t => if t = s then x else A t
def updB (B : Nat → BitVec 32) (c : Nat) (b : BitVec 32) : Nat → BitVec 32 := fun t => if t = c then b else B t
/-- A segment is taken. -/
theorem acq_step (h : Inv n G B A D H) (hC : Coh n B A) (hn : n ≤ 9) {c : Nat} (hc : c < 6) :
    (sB H c (countN (104 + 16 * (n : Int))) = true → (mineW H c 1 (sV H c (countN (104 + 16 * (n : Int))))).l < (headW H c (sV H c (countN (104 + 16 * (n : Int))))).l) ∧ missV H (hdrL (104 + 16 * (n : Int))) = [] ∧
    (((∀ s, s < n → (A s).1 ≠ -1) ∧ acqV H c 1 (104 + 16 * (n : Int)) = ([], [], 0, 12, true)) ∨
     (∃ s w1 w2, s < n ∧ (A s).1 = -1 ∧ acqV H c 1 (104 + 16 * (n : Int)) = ([], [w1, w2], s, 0, true) ∧ (w1.l = 98 + (c : Int) ∧ w2.l = 104 + 16 * (s : Int)) ∧
      Inv n G (updB B c (B c ||| BitVec.ofInt 32 1 <<< s)) (updA A s (c, (A s).2)) D (comP (comP H w1) w2) ∧ Coh n (updB B c (B c ||| BitVec.ofInt 32 1 <<< s)) (updA A s (c, (A s).2)))) := by
  rw [count_n hn]
  have hm0 : missV H (hdrL (104 + 16 * (n : Int))) = [] := by
    unfold hdrL
    rw [count_n hn]
    exact h.hdr0 hn _
  obtain ⟨pn, inc, hpn, hinc, hnode⟩ := h.node hc
  have hm1 : missV H [98 + (c : Int)] = [] := h.miss fun l hl => ⟨2 + c, by omega, by rw [List.mem_singleton.1 hl]; omega⟩
  have hpl := h.ln _ _ hpn
  by_cases g : sB H c n = true
  · obtain ⟨hfr, hsn⟩ := sB_yes g
    obtain ⟨s, hs⟩ : ∃ s, sV H c n = s := ⟨_, rfl⟩
    rw [hs] at hfr hsn
    have hown : (A s).1 = -1 := by
      have := free_own h hn hsn
      rw [hfr] at this
      exact of_decide_eq_true this.symm
    obtain ⟨ph, hph, hhead⟩ := h.head hsn hn
    have hphl := h.ln _ _ hph
    have hbits : ∀ i, bitB (B c ||| BitVec.ofInt 32 1 <<< s) i = true → i < 9 := fun i hi => by
      rw [bit_or _ _ _ (by omega)] at hi
      rcases (Bool.or_eq_true_iff.1 hi) with hi | hi
      · have := ((hC.bn c i hc).1 hi).1; omega
      · have := of_decide_eq_true hi; omega
    have e1 : mineW H c 1 s = (writeN pn (ndB (B c ||| BitVec.ofInt 32 1 <<< s) 1)).1 := by
      unfold mineW
      rw [hnode]
      rfl
    have e2 : headW H c s = (writeH ph ⟨(c : Int), (A s).2⟩).1 := by
      unfold headW
      rw [hhead]
    have w1 := back_node (write_nd (p := pn) (b := B c ||| BitVec.ofInt 32 1 <<< s) (inc := 1) (by omega) hbits (by decide))
    have w2 := back_header (write_hd (p := ph) (o := (c : Int)) (u := (A s).2) (hdr_seg (s := s) (by omega) (by omega)) (by omega) (hC.us s hsn))
    rw [← e1] at w1
    rw [← e2] at w2
    have l1 : (mineW H c 1 s).l = 98 + (c : Int) := by rw [w1.2.1]; omega
    have l2 : (headW H c s).l = 104 + 16 * (s : Int) := by rw [w2.2.1]; omega
    refine ⟨fun _ => by rw [hs, l1, l2]; omega, hm0, .inr ⟨s, mineW H c 1 s, headW H c s, hsn, hown, ?_, ⟨l1, l2⟩, ?_, ?_⟩⟩
    · unfold acqV
      rw [hm1, hm0, hnode, if_neg (by simp), if_neg (by simp), if_neg (by simp), count_n hn, if_pos g, hs]
    · have h1 := h.comNode (c := c) (w := mineW H c 1 s) hc l1 (by decide) w1.1
      have h2 := h1.comHead (s := s) (w := headW H c s) (D' := D) hsn l2 w2.1 (fun i _ _ => Iff.rfl) (fun t i _ => Iff.rfl)
      exact h2
    · refine ⟨fun d i hd => ?_, fun t ht => ?_, fun t ht => ?_⟩
      · unfold updB updA
        have hbs := hC.bn d i hd
        by_cases hdc : d = c
        · subst hdc
          rw [if_pos rfl, bit_or _ _ _ (by omega), Bool.or_eq_true, hbs, decide_eq_true_iff]
          by_cases his : i = s
          · rw [if_pos his]; subst his; simp [hsn]
          · rw [if_neg his]; simp [his]
        · rw [if_neg hdc, hbs]
          by_cases his : i = s
          · rw [if_pos his]
            subst his
            rw [hown]
            simp only
            omega
          · rw [if_neg his]
      · unfold updA
        by_cases hts : t = s
        · rw [if_pos hts]; simp only; omega
        · rw [if_neg hts]; exact hC.ow t ht
      · unfold updA
        by_cases hts : t = s
        · rw [if_pos hts]; subst hts; exact hC.us t ht
        · rw [if_neg hts]; exact hC.us t ht
  · refine ⟨fun e => absurd e g, hm0, .inl ⟨fun s hs e => ?_, ?_⟩⟩
    · have h1 := sV_none g s hs
      rw [free_own h hn hs, e] at h1
      simp at h1
    · unfold acqV
      rw [hm1, hm0, hnode, if_neg (by simp), if_neg (by simp), if_neg (by simp), count_n hn, if_neg g]
/-! ### Pages allocated -/
def pkl (rs : Pk) : List (Nat × Nat) := rs.flatMap fun x => x.2.map fun i => (x.1.toNat, i)
theorem pkl_cons (x : Int × List Nat) (rs : Pk) : pkl (x :: rs) = (x.2.map fun i => (x.1.toNat, i)) ++ pkl rs := by unfold pkl; simp
theorem pkl_len (rs : Pk) : (pkl rs).length = totP rs := by
  induction rs with
  | nil => rfl
  | cons x rs ih => rw [pkl_cons, List.length_append, ih]; unfold totP; simp
theorem mem_pkl {rs : Pk} {t i : Nat} : (t, i) ∈ pkl rs ↔ ∃ x, x ∈ rs ∧ x.1.toNat = t ∧ i ∈ x.2 := by
  unfold pkl
  rw [List.mem_flatMap]
  constructor
  · rintro ⟨x, h1, h2⟩
    obtain ⟨j, h3, h4⟩ := List.mem_map.1 h2
    injection h4 with h4 h5
    exact ⟨x, h1, h4, h5 ▸ h3⟩
  · rintro ⟨x, h1, h2, h3⟩
    exact ⟨x, h1, List.mem_map.2 ⟨i, h3, by rw [h2]⟩⟩
theorem pkl_nodup : ∀ {rs : Pk}, (rs.map Prod.fst).Nodup → (∀ x, x ∈ rs → 0 ≤ x.1 ∧ x.2.Nodup) → (pkl rs).Nodup
  | [], _, _ => List.nodup_nil
  | x :: rs, hn, hq => by
    rw [pkl_cons]
    rw [List.map_cons, List.nodup_cons] at hn
    refine List.nodup_append.2 ⟨?_, pkl_nodup hn.2 fun y hy => hq y (List.mem_cons_of_mem _ hy), fun a ha b hb e => ?_⟩
    · refine List.Pairwise.map _ (fun a b hab e => ?_) (hq x (List.mem_cons_self ..)).2
      injection e with e1 e2
      exact hab e2
    · obtain ⟨i, hi, rfl⟩ := List.mem_map.1 ha
      rw [← e] at hb
      obtain ⟨y, h1, h2, h3⟩ := mem_pkl.1 hb
      have h4 := (hq x (List.mem_cons_self ..)).1
      have h5 := (hq y (List.mem_cons_of_mem _ h1)).1
      exact hn.1 (List.mem_map.2 ⟨y, h1, by omega⟩)
theorem wri_cons (ks : List Pg) (x : Int × List Nat) (rs : Pk) : wriP ks (x :: rs) = if x.2 = [] then wriP ks rs else (writeH (headV ks x.1).1 (newHd ks x)).1 :: wriP ks rs := by
  unfold wriP
  cases h : x.2 with
  | nil => rw [if_pos rfl, List.filter_cons_of_neg (by rw [h]; simp)]
  | cons a q => rw [if_neg (by simp), List.filter_cons_of_pos (by rw [h]; simp)]; rfl
theorem heads_step (hn : n ≤ 9) {H0 : List Pg} {A0 : Nat → Int × BitVec 32} {B0 : Nat → BitVec 32} {D0 : List (Nat × Nat)} (h0 : Inv n G B0 A0 D0 H0) (hus : ∀ s : Nat, s < n → usable (A0 s).2) (how : ∀ s : Nat, s < n → -1 ≤ (A0 s).1 ∧ (A0 s).1 < 6) :
    ∀ (rs : Pk) (A : Nat → Int × BitVec 32) (D : List (Nat × Nat)) (H : List Pg), Inv n G B A D H → (rs.map Prod.fst).Nodup →
    (∀ x, x ∈ rs → ∃ s : Nat, s < n ∧ x.1 = (s : Int) ∧ A s = A0 s ∧ (∀ i, i ∈ x.2 → (1 ≤ i ∧ i ≤ 15) ∧ bitB (A0 s).2 i = false) ∧ ∀ i, (s, i) ∉ D) →
    (∀ w, w ∈ wriP H0 rs → ∃ t : Nat, t < n ∧ w.l = 104 + 16 * (t : Int)) ∧
    ∃ A' : Nat → Int × BitVec 32, (∀ s, (A' s).1 = (A s).1) ∧ (∀ s i, bitB (A' s).2 i = (bitB (A s).2 i || decide ((s, i) ∈ pkl rs))) ∧ Inv n G B A' (D ++ pkl rs) ((wriP H0 rs).foldl comP H)
  | [], A, D, H, h, _, _ => ⟨fun w hw => by simp [wriP] at hw, A, fun _ => rfl, fun s i => by simp [pkl], by simpa [pkl, wriP] using h⟩
  | x :: rs, A, D, H, h, hnd, hx => by
    obtain ⟨s, hs, hxs, hAs, hi, hD⟩ := hx x (List.mem_cons_self ..)
    rw [List.map_cons, List.nodup_cons] at hnd
    rw [wri_cons, pkl_cons, hxs, Int.toNat_natCast]
    by_cases hq : x.2 = []
    · rw [if_pos hq, hq, List.map_nil, List.nil_append]
      exact heads_step hn h0 hus how rs A D H h hnd.2 fun y hy => hx y (List.mem_cons_of_mem _ hy)
    · rw [if_neg hq]
      obtain ⟨ph, hph, hhead⟩ := h0.head hs hn
      have hphl := h0.ln _ _ hph
      have hlt : ∀ j, j ∈ x.2 → j < 32 := fun j hj => by have := (hi j hj).1; omega
      have hu : usable (orb (A0 s).2 x.2) := fun j hj => by
        rw [bit_orb j _ _ hlt] at hj
        rcases Bool.or_eq_true_iff.1 hj with hj | hj
        · exact hus s hs j hj
        · exact (hi j (of_decide_eq_true hj)).1
      have ew : (writeH (headV H0 (s : Int)).1 (newHd H0 x)).1 = (writeH ph ⟨(A0 s).1, orb (A0 s).2 x.2⟩).1 := by
        unfold newHd hdS'
        rw [hxs, hhead]
      have w2 := back_header (write_hd (p := ph) (o := (A0 s).1) (u := orb (A0 s).2 x.2) (hdr_seg (s := s) (by omega) (by omega)) (how s hs) hu)
      rw [ew]
      obtain ⟨w, hw⟩ : ∃ w, (writeH ph ⟨(A0 s).1, orb (A0 s).2 x.2⟩).1 = w := ⟨_, rfl⟩
      rw [hw] at w2 ⊢
      have hl : w.l = 104 + 16 * (s : Int) := by rw [w2.2.1]; omega
      have h1 := h.comHead (s := s) (w := w) (D' := D ++ x.2.map fun i => (s, i)) hs hl w2.1 (fun i h1 h2 => by
        rw [hAs, bit_orb i _ _ hlt]
        constructor
        · rintro (hb | hb)
          · by_cases hm : i ∈ x.2
            · exact .inr (List.mem_append_right _ (List.mem_map.2 ⟨i, hm, rfl⟩))
            · exact .inl (by rw [hb]; simp [hm])
          · exact absurd hb (hD i)
        · rintro (hb | hb)
          · exact .inl (by rw [Bool.or_eq_false_iff] at hb; exact hb.1)
          · rcases List.mem_append.1 hb with hb | hb
            · exact absurd hb (hD i)
            · obtain ⟨j, hj, e⟩ := List.mem_map.1 hb
              injection e with _ e
              exact .inl (e ▸ (hi j hj).2)) (fun t i ht => by
        constructor
        · exact fun hm => List.mem_append_left _ hm
        · intro hm
          rcases List.mem_append.1 hm with hm | hm
          · exact hm
          · obtain ⟨j, _, e⟩ := List.mem_map.1 hm
            injection e with e _
            exact absurd e.symm ht)
      obtain ⟨q1, A', q2, q3, q4⟩ := heads_step hn h0 hus how rs _ _ _ h1 hnd.2 fun y hy => by
        obtain ⟨t, ht, hyt, hAt, hti, hDt⟩ := hx y (List.mem_cons_of_mem _ hy)
        have hne : t ≠ s := fun e => hnd.1 (List.mem_map.2 ⟨y, hy, by rw [hyt, hxs, e]⟩)
        refine ⟨t, ht, hyt, by rw [if_neg hne]; exact hAt, hti, fun i hm => ?_⟩
        rcases List.mem_append.1 hm with hm | hm
        · exact hDt i hm
        · obtain ⟨j, _, e⟩ := List.mem_map.1 hm
          injection e with e _
          exact hne e.symm
      refine ⟨fun v hv => ?_, A', fun t => ?_, fun t i => ?_, ?_⟩
      · rcases List.mem_cons.1 hv with hv | hv
        · rw [hv]; exact ⟨s, hs, hl⟩
        · exact q1 v hv
      · rw [q2]
        by_cases e : t = s
        · rw [if_pos e, e, hAs]
        · rw [if_neg e]
      · rw [q3]
        by_cases e : t = s
        · subst e
          rw [if_pos rfl, bit_orb i _ _ hlt, hAs]
          by_cases hm : i ∈ x.2 <;> simp [hm]
        · rw [if_neg e]
          have : ¬ (t, i) ∈ x.2.map fun i => (s, i) := fun hm => by
            obtain ⟨j, _, e2⟩ := List.mem_map.1 hm
            injection e2 with e2 _
            exact e e2.symm
          rw [show decide ((t, i) ∈ (x.2.map fun i => (s, i)) ++ pkl rs) = decide ((t, i) ∈ pkl rs) by simp only [List.mem_append, this, false_or]]
      · rw [List.foldl_cons]
        rw [List.append_assoc] at q4
        exact q4
theorem Inv.free (h : Inv n G B A [] H) (hn : n ≤ 9) (hG : G < 16777215) {s : Nat} (hs : s < n) : Free H s := fun i h1 h2 h3 => by
  obtain ⟨ph, hph, hhead⟩ := h.head hs hn
  have e : (hdS' H s).used = (A s).2 := by unfold hdS'; rw [hhead]
  rw [e] at h3
  obtain ⟨p, hp, hp1, hp2⟩ := h.page (i := i) hs hn h2
  obtain ⟨h4, h5⟩ := h.dp s i p hs h1 h2 hp
  refine ⟨hp2, ?_⟩
  unfold pkV
  rw [if_pos hp2, hp1, if_neg (by rw [h.un _ p hp]; simp), if_neg (by rw [h4.2 (.inl h3)]; simp), if_neg (by omega)]
def freN (n : Nat) (A : Nat → Int × BitVec 32) (c : Nat) : Nat := ((List.range n).map fun s => if (A s).1 = (c : Int) then (frL (A s).2).length else 0).sum
theorem sum_own {f : Int → Nat} {b : BitVec 32} {g : Nat → Nat} : ∀ {n : Nat}, (∀ s : Nat, s < n → (if bitB b s = true then f s else 0) = g s) → ((ownV b n).map f).sum = ((List.range n).map g).sum
  | 0, _ => rfl
  | n + 1, h => by
    have ih := sum_own (f := f) (b := b) (g := g) (n := n) fun s hs => h s (by omega)
    have h1 := h n (by omega)
    unfold ownV
    rw [List.range_succ, List.map_append, List.sum_append]
    by_cases hb : bitB b n = true
    · rw [if_pos hb] at h1
      rw [if_pos hb, List.map_append, List.sum_append, ih]
      simp [h1]
    · rw [if_neg hb] at h1
      rw [if_neg hb, ih]
      simp [← h1]
theorem flatMap_cg {α β : Type} {f g : α → List β} : ∀ {l : List α}, (∀ x, x ∈ l → f x = g x) → l.flatMap f = l.flatMap g
  | [], _ => rfl
  | x :: l, h => by rw [List.flatMap_cons, List.flatMap_cons, h x (List.mem_cons_self ..), flatMap_cg fun y hy => h y (List.mem_cons_of_mem _ hy)]
theorem alo_step (h : Inv n G B A [] H) (hC : Coh n B A) (hn : n ≤ 9) {c cnt : Nat} (hc : c < 6) (hG : G < 16777215) :
    (freN n A c < cnt ∧ aloH H c cnt (ownV (B c) n) (ownV (B c) n) = errA 12) ∨
    (cnt ≤ freN n A c ∧ ∃ (pk : List (Nat × Nat)) (W : List Pg), pk.length = cnt ∧ pk.Nodup ∧ (∀ s i, (s, i) ∈ pk → s < n ∧ (1 ≤ i ∧ i ≤ 15) ∧ (A s).1 = (c : Int) ∧ bitB (A s).2 i = false) ∧
      aloH H c cnt (ownV (B c) n) (ownV (B c) n) = ([], pk.map (fun x => latP H (lineV (x.1 : Int) + (x.2 : Int))), W, 0, true) ∧ (∀ w, w ∈ W → ∃ t : Nat, t < n ∧ w.l = 104 + 16 * (t : Int)) ∧
      ∃ A' : Nat → Int × BitVec 32, (∀ s, (A' s).1 = (A s).1) ∧ (∀ s i, bitB (A' s).2 i = (bitB (A s).2 i || decide ((s, i) ∈ pk))) ∧ Inv n G B A' pk (W.foldl comP H)) := by
  have hS : ∀ x, x ∈ ownV (B c) n → ∃ s : Nat, s < n ∧ x = (s : Int) ∧ (A s).1 = (c : Int) ∧ headV H x = ((headV H x).1, ⟨(c : Int), (A s).2⟩, true, 0) := fun x hx => by
    obtain ⟨s, hs, rfl, hb⟩ := mem_ownV.1 hx
    obtain ⟨ph, hph, hhead⟩ := h.head hs hn
    have ho := ((hC.bn c s hc).1 hb).2
    exact ⟨s, hs, rfl, ho, by rw [hhead, ho]⟩
  have hfr : frS H (ownV (B c) n) = freN n A c := by
    unfold frS freN
    refine sum_own fun s hs => ?_
    obtain ⟨ph, hph, hhead⟩ := h.head hs hn
    have e : (hdS' H s).used = (A s).2 := by unfold hdS'; rw [hhead]
    rw [e]
    by_cases hb : (A s).1 = (c : Int)
    · rw [if_pos hb, if_pos ((hC.bn c s hc).2 ⟨hs, hb⟩)]
    · rw [if_neg hb, if_neg (fun hh => hb ((hC.bn c s hc).1 hh).2)]
  rw [← hfr]
  rcases alo_all (ks := H) (cl := (c : Int)) (cnt := cnt) (S := ownV (B c) n) (ownV_nodup _ _) (fun x hx => by
      obtain ⟨s, hs, rfl, ho, he⟩ := hS x hx
      unfold hdS'
      rw [he]
      exact ⟨rfl, rfl, hC.us s hs⟩) (fun x hx => by
      obtain ⟨s, hs, rfl, ho, he⟩ := hS x hx
      exact h.free hn hG hs) with ⟨h1, h2⟩ | ⟨h1, rs, r1, r2, r3, r4⟩
  · exact .inl ⟨h1, h2⟩
  · have r2' : ∀ x, x ∈ rs → ∃ s : Nat, s < n ∧ x.1 = (s : Int) ∧ (A s).1 = (c : Int) ∧ x.2.Nodup ∧ (∀ i, i ∈ x.2 → (1 ≤ i ∧ i ≤ 15) ∧ bitB (A s).2 i = false) := fun x hx => by
      obtain ⟨q1, m, q2⟩ := r2 x hx
      obtain ⟨s, hs, hxs, ho, he⟩ := hS _ q1
      have e : (hdS' H x.1).used = (A s).2 := by unfold hdS'; rw [he]
      rw [e] at q2
      refine ⟨s, hs, hxs, ho, ?_, fun i hi => ?_⟩
      · rw [q2]
        exact (List.take_sublist _ _).nodup (frL_nodup _)
      · rw [q2] at hi
        exact mem_frL.1 (List.mem_of_mem_take hi)
    obtain ⟨k1, A', k2, k3, k4⟩ := heads_step hn h hC.us hC.ow rs A [] H h r1 fun x hx => by
      obtain ⟨s, hs, hxs, ho, _, hi⟩ := r2' x hx
      exact ⟨s, hs, hxs, rfl, hi, fun i hm => by cases hm⟩
    refine .inr ⟨h1, pkl rs, wriP H rs, by rw [pkl_len, r3], pkl_nodup r1 fun x hx => ?_, fun s i hm => ?_, ?_, k1, A', k2, k3, by simpa using k4⟩
    · obtain ⟨s, hs, hxs, ho, hq, hi⟩ := r2' x hx
      exact ⟨by omega, hq⟩
    · obtain ⟨x, q1, q2, q3⟩ := mem_pkl.1 hm
      obtain ⟨t, hs, hxs, ho, hq, hi⟩ := r2' x q1
      have e : t = s := by omega
      subst e
      exact ⟨hs, (hi i q3).1, ho, (hi i q3).2⟩
    · rw [r4]
      have e : freP H rs = (pkl rs).map fun x => latP H (lineV (x.1 : Int) + (x.2 : Int)) := by
        have e1 : (linP rs).filter (fun l => latB H l) = linP rs := List.filter_eq_self.2 fun l hl => by
          unfold linP at hl
          obtain ⟨x, hx, hl⟩ := List.mem_flatMap.1 hl
          obtain ⟨i, hi, rfl⟩ := List.mem_map.1 hl
          obtain ⟨s, hs, hxs, ho, hq, hii⟩ := r2' x hx
          rw [hxs]
          obtain ⟨p, _, _, hp⟩ := h.page (i := i) hs hn (hii i hi).1.2
          exact hp
        unfold freP
        rw [e1]
        unfold linP pkl
        rw [List.map_flatMap, List.map_flatMap]
        refine flatMap_cg fun x hx => ?_
        obtain ⟨s, hs, hxs, _⟩ := r2' x hx
        rw [List.map_map, List.map_map]
        refine List.map_congr_left fun i hi => ?_
        simp only [Function.comp]
        rw [hxs]
        rfl
      rw [e]
/-! ### A page is written -/
theorem page_step {s i : Nat} (h : Inv n G B A ((s, i) :: D) H) {p : Pg} {kind : Int} (hs : s < n) (hi : 1 ≤ i ∧ i ≤ 15) (hb : bitB (A s).2 i = true) (hD : (s, i) ∉ D) (hl : p.l = 104 + 16 * (s : Int) + i) (hg : genV p.d0 + 1 ≤ G) (hG : G ≤ 16777215) (hk : 1 ≤ kind ∧ kind ≤ 4) :
    Inv n G B A D (comP H (tagP p ⟨kind, genV p.d0 + 1, 0#32⟩)) := by
  have h0 : 0 ≤ genV p.d0 := by rw [gen_eq]; omega
  have e1 : kindV (tagP p ⟨kind, genV p.d0 + 1, 0#32⟩).d0 = kind := kind_pack _ (by simp only; omega)
  have e2 : genV (tagP p ⟨kind, genV p.d0 + 1, 0#32⟩).d0 = genV p.d0 + 1 := gen_pack _ (by simp only; omega)
  refine h.comPage (s := s) (i := i) hs hi hl (Int.le_refl _) (by rw [e2]; exact hg) ?_ fun t j hne => ?_
  · rw [e1, hb]
    constructor
    · intro e; omega
    · rintro (e | e)
      · cases e
      · exact absurd e hD
  · constructor
    · intro hm
      rcases List.mem_cons.1 hm with e | hm
      · exact absurd e hne
      · exact hm
    · exact fun hm => List.mem_cons_of_mem _ hm
end
end Go.Proofs.YtfkmbdpnjcgimaaGreat

/- The law SegmentWhole: a new heap; free pages counted; the walk. Own work. -/
namespace Go.Proofs.YtfkmbdpnjcgimaaGreat
open Go.RowKit
set_option linter.unusedVariables false
set_option linter.unusedSimpArgs false
set_option maxRecDepth 100000
theorem pure_pg : ∀ p : Pg, PureVs (tPg.cells p) := fun p => ⟨pure_is, pure_is, pure_is, pure_is, pure_is, pure_is, pure_is, pure_is, pure_is, trivial⟩
theorem AcquireW_ok (ks : List Pg) (cl : Nat) (inc lines : Int) (hc : cl < 6) (hi : 1 ≤ inc ∧ inc ≤ 59) (hz : sizeB lines = true) (h2m : ¬ 0 < (missV ks [98 + (cl : Int)]).length → (missV ks (hdrL lines)).length ≤ 1)
    (hlt : sB ks cl (countN lines) = true → (mineW ks cl inc (sV ks cl (countN lines))).l < (headW ks cl (sV ks cl (countN lines))).l) (r : List Int × List Pg × Nat × Int × Bool) (hr : acqV ks cl inc lines = r) :
    Fn Tryz.prog 13 [IsAgg [Is (.int .i64 (cl : Nat)), Is (.int .i64 inc), Is (.int .i64 lines), Is (.int .i64 (-1))], IsSl tPg ks] [] (fun i : Option Addr × Nat => IsTup [Top, Is (slV r.2.1.length i), Is (.int .i64 (r.2.2.1 : Nat)), Is (.int .i64 r.2.2.2.1), Is (.bool r.2.2.2.2)]) (fun i => [buf (slV r.2.1.length i) 51 tPg r.2.1]) := by
  subst hr
  exact (AcquireF_ok ks cl inc lines hc hi hz h2m hlt).weak fun i φ v h => tup_top h
theorem AllocateW_ok (ks : List Pg) (cl cnt : Nat) (lines : Int) (pn : Pg) (nd : Nd) (R : Alo) (hc : cl < 6) (hz0 : sizeB lines = true) (hcnt : 1 ≤ cnt ∧ cnt ≤ 12) (hN : nodeV ks cl = (pn, nd, true, 0)) (hM0 : missV ks ((ownV nd.sg (countN lines)).map lineV) = []) (hR0 : aloH ks cl cnt (ownV nd.sg (countN lines)) (ownV nd.sg (countN lines)) = R) :
    Fn Tryz.prog 15 [IsAgg [Is (.int .i64 (cl : Nat)), Is (.int .i64 lines), Is (.int .i64 (cnt : Nat))], IsSl tPg ks] [] (fun i : (Option Addr × Nat) × (Option Addr × Nat) => IsTup [Top, Is (slV R.2.1.length i.1), Is (slV R.2.2.1.length i.2), Is (.int .i64 R.2.2.2.1), Is (.bool R.2.2.2.2)])
      (fun i => [buf (slV R.2.1.length i.1) 51 tPg R.2.1, buf (slV R.2.2.1.length i.2) 51 tPg R.2.2.1]) :=
  (Allocate_ok ks cl cnt lines pn nd R hc hz0 hcnt hN hM0 hR0).weak fun i φ v h => tup_top h
theorem pure_r1 {a b c d : Value} : PureV (IsTup [Top, Is a, Is b, Is c, Is d]) := pure_tup ⟨pure_top, pure_is, pure_is, pure_is, pure_is, trivial⟩
/-! ### A new heap -/
theorem newL_get : ∀ (n k : Nat) (p : Pg), (newL n)[k]? = some p → p = pgN k
  | 0, k, p, h => by simp [newL] at h
  | n + 1, k, p, h => by
    rw [newL_succ, List.getElem?_append] at h
    split at h
    · exact newL_get n k p h
    · rename_i hk
      rw [newL_len] at h hk
      have : k - n = 0 := by
        rcases Nat.eq_zero_or_pos (k - n) with e | e
        · exact e
        · rw [List.getElem?_eq_none (by simp; omega)] at h; cases h
      rw [this] at h
      simp at h
      rw [← h, show k = n by omega]
theorem bit0 (i : Nat) : bitB 0#32 i = false := by rw [bit_lsb]; simp
theorem usable0 : usable 0#32 := fun i h => by rw [bit0] at h; cases h
theorem new_inv (n : Nat) (hn : n ≤ 9) : Inv n 0 (fun _ => 0#32) (fun _ => (-1, 0#32)) [] (newL (8 + 16 * n)) ∧ Coh n (fun _ => 0#32) (fun _ => (-1, 0#32)) := by
  refine ⟨⟨newL_len _, fun k p h => by rw [newL_get _ _ _ h]; rfl, fun k p h => by rw [newL_get _ _ _ h]; show (UV (256#64 &&& 255#64) != 0) = false; decide +kernel, fun c p hc h => ?_, fun s p hs h => ?_, fun s i p hs h1 h2 h => ?_⟩, fun c i hc => ?_, fun s hs => by simp, fun s hs => usable0⟩
  · rw [newL_get _ _ _ h]
    refine ⟨0, by decide, ?_⟩
    match c, hc with
    | 0, _ => rfl
    | 1, _ => rfl
    | 2, _ => rfl
    | 3, _ => rfl
    | 4, _ => rfl
    | 5, _ => rfl
  · rw [newL_get _ _ _ h]
    unfold readH
    rw [if_pos (hdr_seg (s := s) (by omega) (by show (96 : Int) + ((8 + 16 * s : Nat) : Int) = _; omega)), if_neg (by show ¬ (useB (pgN 0) || !zB (pgN 0)) = true; decide +kernel)]
    show ((⟨UV 0#64 - 1, (0#64).setWidth 32⟩ : Hd), (0 : Int)) = _
    decide +kernel
  · rw [newL_get _ _ _ h]
    have e1 : kindV (pgN (8 + 16 * s + i)).d0 = 0 := by show kindV 0#64 = 0; decide +kernel
    have e2 : genV (pgN (8 + 16 * s + i)).d0 = 0 := by show genV 0#64 = 0; decide +kernel
    rw [e1, e2]
    exact ⟨⟨fun _ => .inl (bit0 i), fun _ => rfl⟩, Int.le_refl _⟩
  · rw [bit0]
    constructor
    · intro h; cases h
    · rintro ⟨_, h⟩
      have h' : (-1 : Int) = (c : Int) := h
      omega
/-! ### Sums -/
end Go.Proofs.YtfkmbdpnjcgimaaGreat

/- Contracts: one page freed. Own work. -/
namespace Go.Proofs.YtfkmbdpnjcgimaaGreat
open Go.RowKit
set_option linter.unusedVariables false
set_option linter.unusedSimpArgs false
set_option maxRecDepth 100000
-- slices.IndexFunc[[]bodega/pointer.Pointer,bodega/pointer.Pointer]: function 116
-- slices.ContainsFunc[[]bodega/pointer.Pointer,bodega/pointer.Pointer]: function 98
theorem nod1 {S : List Nat} (hn : S.Nodup) (h : ∀ j, j ∈ S → j < 1) (h0 : 0 ∈ S) : S.length = 1 := by
  have h1 := nodup_len _ hn h
  have h2 := List.length_pos_of_mem h0
  omega
theorem bit_no {u : BitVec 32} {i : Nat} (h : bitB u i = true) : ¬ UV (u >>> i &&& BitVec.ofInt 32 1) = 0 := fun e => by
  unfold bitB at h
  rw [show (1#32 : BitVec 32) = BitVec.ofInt 32 1 from rfl, e] at h
  cases h
-- segment.Free: function 78
end Go.Proofs.YtfkmbdpnjcgimaaGreat

/- The law SegmentOnce: plain laws of its rounds. Own work. -/
namespace Go.Proofs.YtfkmbdpnjcgimaaGreat
open Go.RowKit
set_option linter.unusedVariables false
set_option linter.unusedSimpArgs false
set_option maxRecDepth 100000
section
variable {n : Nat} {G : Int} {B : Nat → BitVec 32} {A : Nat → Int × BitVec 32} {D : List (Nat × Nat)} {H : List Pg}
theorem Inv.up' (h : Inv n G B A D H) {G' : Int} (hG : G ≤ G') : Inv n G' B A D H :=
  ⟨h.len, h.ln, h.un, h.nd, h.hd, fun s i p a b c d => ⟨(h.dp s i p a b c d).1, by have := (h.dp s i p a b c d).2; omega⟩⟩
theorem com_get {H : List Pg} {w : Pg} {k j : Nat} (hl : w.l = 96 + (k : Int)) (hj : j ≠ k) : (comP H w)[j]? = H[j]? := by
  unfold comP
  split
  · rw [show (w.l - 96).toNat = k by omega, List.getElem?_set, if_neg (fun e => hj e.symm)]
  · rfl
def PtAt (n : Nat) (A : Nat → Int × BitVec 32) (D : List (Nat × Nat)) (H : List Pg) (x : Pt) (s i : Nat) : Prop :=
  s < n ∧ (1 ≤ i ∧ i ≤ 15) ∧ x.line = 104 + 16 * (s : Int) + i ∧ bitB (A s).2 i = true ∧ (s, i) ∉ D ∧ 1 ≤ x.gen ∧ ∃ q, H[8 + 16 * s + i]? = some q ∧ genV q.d0 = x.gen
def OutOK (n : Nat) (A : Nat → Int × BitVec 32) (D : List (Nat × Nat)) (H : List Pg) (out : List Pt) : Prop := (∀ x, x ∈ out → ∃ s i, PtAt n A D H x s i) ∧ (out.map Pt.line).Nodup
def OwOK (n : Nat) (A : Nat → Int × BitVec 32) (ow : List Int) : Prop := ow.length = 12 ∧ (∀ s : Nat, s < n → ow[s]? = some ((A s).1 + 1)) ∧ ∀ s : Nat, s < n → (A s).1 < 3
def On (n i : Nat) (ow : List Int) (out : List Pt) (H : List Pg) : Prop := ∃ B A, Inv n (i : Nat) B A [] H ∧ Coh n B A ∧ OwOK n A ow ∧ OutOK n A [] H out
def OnH (n i : Nat) (ow : List Int) (out : List Pt) (pk : List (Nat × Nat)) (H : List Pg) : Prop := ∃ B A, Inv n ((i + 1 : Nat) : Int) B A pk H ∧ Coh n B A ∧ OwOK n A ow ∧ OutOK n A pk H out ∧ ∀ x, x ∈ pk → x.1 < n ∧ (1 ≤ x.2 ∧ x.2 ≤ 15) ∧ bitB (A x.1).2 x.2 = true
theorem On.len {i : Nat} {ow : List Int} {out : List Pt} (h : On n i ow out H) : H.length = 8 + 16 * n := by
  obtain ⟨_, _, h1, _⟩ := h
  exact h1.len
theorem OnH.len {i : Nat} {ow : List Int} {out : List Pt} {pk : List (Nat × Nat)} (h : OnH n i ow out pk H) : H.length = 8 + 16 * n := by
  obtain ⟨_, _, h1, _⟩ := h
  exact h1.len
theorem loc_seg (hn : n ≤ 9) {s i : Nat} (hs : s < n) (hi : 1 ≤ i ∧ i ≤ 15) {l : Int} (hl : l = 104 + 16 * (s : Int) + i) : locV (104 + 16 * (n : Int)) l = ((s : Int), (i : Int), true) := by
  have hc : countV (104 + 16 * (n : Int)) = n := by unfold countV; rw [if_pos (by omega)]; omega
  unfold locV
  rw [hc, if_pos (by omega)]
  rw [show (l - 104) / 16 = (s : Int) by omega, show (l - 104) % 16 = (i : Int) by omega]
end
end Go.Proofs.YtfkmbdpnjcgimaaGreat

/- Plain laws: epochs, pins and retired entries, told without pages. Own work. -/
namespace Go.Proofs.YtfkmbdpnjcgimaaGreat
set_option linter.unusedVariables false
set_option linter.unusedSimpArgs false
structure AW where
  g : Nat
  pin : Nat → Option Nat
  slot : Nat → Nat → Option (Nat × Nat)
  ret : Nat → Option Nat
  fre : Nat → Bool
structure AI (w : AW) : Prop where
  s1 : ∀ c j k e, w.slot c j = some (k, e) → k < 12 ∧ c < 6 ∧ j < 4 ∧ w.ret k = some e ∧ w.fre k = false
  s2 : ∀ c j c' j' k e e', w.slot c j = some (k, e) → w.slot c' j' = some (k, e') → c = c' ∧ j = j'
  r1 : ∀ k e, w.ret k = some e → e ≤ w.g
  f1 : ∀ k, w.fre k = true → w.ret k ≠ none
  p1 : ∀ c e, w.pin c = some e → e ≤ w.g ∧ w.g ≤ e + 1
  all : ∀ k e, k < 12 → w.ret k = some e → w.fre k = false → ∃ c j, w.slot c j = some (k, e)
def AW.setPin (w : AW) (c : Nat) (x : Option Nat) : AW := { w with pin := fun d => if d = c then x else w.pin d }
def AW.adv (w : AW) : AW := { w with g := w.g + 1 }
def AW.retire (w : AW) (c j k : Nat) : AW := { w with slot := fun d i => if d = c ∧ i = j then some (k, w.g) else w.slot d i, ret := fun i => if i = k then some w.g else w.ret i }
/-- The entries of node c at the places of S are taken out, their pages freed. -/
def AW.free (w : AW) (c : Nat) (S : Nat → Bool) : AW := { w with slot := fun d i => if d = c ∧ S i = true then none else w.slot d i, fre := fun k => w.fre k || (List.range 4).any fun j => S j && match w.slot c j with | some (k', _) => k' == k | none => false }
theorem AI.pin {w : AW} (h : AI w) (c : Nat) : AI (w.setPin c (some w.g)) := ⟨h.s1, h.s2, h.r1, h.f1, fun d e hd => by
  unfold AW.setPin at hd ⊢
  dsimp only at hd ⊢
  split at hd
  · injection hd with hd; omega
  · exact h.p1 d e hd, h.all⟩
theorem AI.unpin {w : AW} (h : AI w) (c : Nat) : AI (w.setPin c none) := ⟨h.s1, h.s2, h.r1, h.f1, fun d e hd => by
  unfold AW.setPin at hd ⊢
  dsimp only at hd ⊢
  split at hd
  · cases hd
  · exact h.p1 d e hd, h.all⟩
theorem AI.adv {w : AW} (h : AI w) (hp : ∀ c e, w.pin c = some e → e = w.g) : AI w.adv := ⟨h.s1, h.s2, fun k e hk => by have := h.r1 k e hk; unfold AW.adv; dsimp only; omega, h.f1, fun c e hc => by
  have := hp c e hc
  unfold AW.adv
  dsimp only
  omega, h.all⟩
theorem AI.retire {w : AW} (h : AI w) {c j k : Nat} (hc : c < 6) (hj : j < 4) (hk : k < 12) (hs : w.slot c j = none) (hr : w.ret k = none) : AI (w.retire c j k) := by
  have hf : w.fre k = false := by
    cases hv : w.fre k with
    | false => rfl
    | true => exact absurd hr (h.f1 k hv)
  have hnk : ∀ d i e, w.slot d i ≠ some (k, e) := fun d i e hd => by
    have := (h.s1 d i k e hd).2.2.2.1
    rw [hr] at this; cases this
  refine ⟨fun d i k' e hd => ?_, fun d i d' i' k' e e' h1 h2 => ?_, fun k' e hk' => ?_, fun k' hk' => ?_, h.p1, fun k' e hk1 hk2 hk3 => ?_⟩
  · unfold AW.retire at hd ⊢
    dsimp only at hd ⊢
    split at hd
    · rename_i e1
      injection hd with hd
      injection hd with hd1 hd2
      subst hd1 hd2
      exact ⟨hk, by omega, by omega, by rw [if_pos rfl], hf⟩
    · obtain ⟨a1, a2, a3, a4, a5⟩ := h.s1 d i k' e hd
      refine ⟨a1, a2, a3, ?_, a5⟩
      rw [if_neg (fun e1 => hnk d i e (by rw [← e1]; exact hd))]; exact a4
  · unfold AW.retire at h1 h2
    dsimp only at h1 h2
    split at h1
    · rename_i e1
      split at h2
      · rename_i e2; exact ⟨by omega, by omega⟩
      · injection h1 with h1; injection h1 with h1 _
        subst h1
        exact absurd h2 (hnk _ _ _)
    · split at h2
      · injection h2 with h2; injection h2 with h2 _
        subst h2
        exact absurd h1 (hnk _ _ _)
      · exact h.s2 _ _ _ _ _ _ _ h1 h2
  · unfold AW.retire at hk' ⊢
    dsimp only at hk' ⊢
    split at hk'
    · injection hk' with hk'; omega
    · exact h.r1 k' e hk'
  · unfold AW.retire at hk' ⊢
    dsimp only at hk' ⊢
    split
    · simp
    · exact h.f1 k' hk'
  · unfold AW.retire at hk2 hk3 ⊢
    dsimp only at hk2 hk3 ⊢
    split at hk2
    · rename_i e1
      injection hk2 with hk2
      subst hk2 e1
      exact ⟨c, j, by rw [if_pos ⟨rfl, rfl⟩]⟩
    · obtain ⟨d, i, hd⟩ := h.all k' e hk1 hk2 hk3
      refine ⟨d, i, ?_⟩
      rw [if_neg (fun e1 => by rw [e1.1, e1.2, hs] at hd; cases hd)]; exact hd
theorem free_fre {w : AW} {c : Nat} {S : Nat → Bool} {k : Nat} : (w.free c S).fre k = true ↔ w.fre k = true ∨ ∃ j e, j < 4 ∧ S j = true ∧ w.slot c j = some (k, e) := by
  unfold AW.free
  dsimp only
  rw [Bool.or_eq_true, List.any_eq_true]
  refine or_congr Iff.rfl ⟨fun ⟨j, h1, h2⟩ => ?_, fun ⟨j, e, h1, h2, h3⟩ => ⟨j, List.mem_range.2 h1, by rw [h2, h3]; simp⟩⟩
  rw [Bool.and_eq_true] at h2
  obtain ⟨h2, h3⟩ := h2
  cases hs : w.slot c j with
  | none => rw [hs] at h3; cases h3
  | some x =>
    obtain ⟨k', e⟩ := x
    rw [hs] at h3
    have : k' = k := by simpa using h3
    subst this
    exact ⟨j, e, List.mem_range.1 h1, h2, hs⟩
theorem AI.free {w : AW} (h : AI w) (c : Nat) (S : Nat → Bool) : AI (w.free c S) := by
  have hfr := @free_fre w c S
  refine ⟨fun d i k e hd => ?_, fun d i d' i' k e e' h1 h2 => ?_, h.r1, fun k hk => ?_, h.p1, fun k e hk1 hk2 hk3 => ?_⟩
  · have hd' : (if d = c ∧ S i = true then none else w.slot d i) = some (k, e) := hd
    split at hd'
    · cases hd'
    · rename_i hn
      obtain ⟨a1, a2, a3, a4, a5⟩ := h.s1 d i k e hd'
      refine ⟨a1, a2, a3, a4, ?_⟩
      cases hv : (w.free c S).fre k with
      | false => rfl
      | true =>
        rcases hfr.1 hv with h1 | ⟨j, e', h1, h2, h3⟩
        · rw [a5] at h1; cases h1
        · obtain ⟨b1, b2⟩ := h.s2 _ _ _ _ _ _ _ hd' h3
          subst b1 b2
          exact absurd ⟨rfl, h2⟩ hn
  · have h1' : (if d = c ∧ S i = true then none else w.slot d i) = some (k, e) := h1
    have h2' : (if d' = c ∧ S i' = true then none else w.slot d' i') = some (k, e') := h2
    split at h1'
    · cases h1'
    · split at h2'
      · cases h2'
      · exact h.s2 _ _ _ _ _ _ _ h1' h2'
  · rcases hfr.1 hk with h1 | ⟨j, e, h1, h2, h3⟩
    · exact h.f1 k h1
    · have := (h.s1 _ _ _ _ h3).2.2.2.1
      show w.ret k ≠ none
      rw [this]; simp
  · have hk3' : w.fre k = false := by
      cases hv : w.fre k with
      | false => rfl
      | true => rw [hfr.2 (.inl hv)] at hk3; cases hk3
    obtain ⟨d, i, hd⟩ := h.all k e hk1 hk2 hk3'
    refine ⟨d, i, ?_⟩
    show (if d = c ∧ S i = true then none else w.slot d i) = _
    rw [if_neg ?_]
    · exact hd
    · rintro ⟨rfl, h2⟩
      have := hfr.2 (.inr ⟨i, e, (h.s1 _ _ _ _ hd).2.2.1, h2, hd⟩)
      rw [this] at hk3; cases hk3
/-- Guards: who was pinned when a page was retired, and still is. -/
def AG (w : AW) (G : Nat → Nat → Bool) : Prop := ∀ k c, G k c = true → ∃ p e, w.pin c = some p ∧ w.ret k = some e ∧ p ≤ e
/-- What is freed is not guarded. -/
theorem AG.free {w : AW} {G : Nat → Nat → Bool} (h : AI w) (hG : AG w G) {c : Nat} {S : Nat → Bool} (hS : ∀ j k e, S j = true → w.slot c j = some (k, e) → e + 2 ≤ w.g) {k : Nat} (h1 : (w.free c S).fre k = true) (h2 : w.fre k = false) (d : Nat) : G k d = false := by
  cases hv : G k d with
  | false => rfl
  | true =>
    obtain ⟨p, e, a1, a2, a3⟩ := hG k d hv
    rcases free_fre.1 h1 with h3 | ⟨j, e', h3, h4, h5⟩
    · rw [h2] at h3; cases h3
    · have h6 := hS j k e' h4 h5
      have h7 := (h.s1 _ _ _ _ h5).2.2.2.1
      rw [a2] at h7
      injection h7 with h7
      have := h.p1 d p a1
      omega
def safeJ (w : AW) (c j : Nat) : Bool := match w.slot c j with
  | some (_, e) => decide (e + 2 ≤ w.g)
  | none => false
def selJ (w : AW) (c j : Nat) : Bool := safeJ w c j && decide (((List.range j).filter (safeJ w c)).length < 2)
def AW.col (w : AW) (c : Nat) : AW := w.free c (selJ w c)
def nilJ (w : AW) (c : Nat) : Option Nat := (List.range 4).find? fun j => (w.slot c j).isNone
def AW.ret1 (w : AW) (c k : Nat) : AW := if ((w.ret k).isSome || w.fre k) = true then w else match nilJ w c with
  | some j => w.retire c j k
  | none => w
def late (w : AW) (c : Nat) : Bool := match w.pin c with
  | some e => decide (e ≠ w.g)
  | none => false
def AW.adv1 (w : AW) : AW := if ((List.range 6).any (late w)) = true then w else w.adv
def AW.pin1 (w : AW) (c : Nat) : AW := if (w.pin c).isSome = true then w else w.setPin c (some w.g)
def AW.move (w : AW) (kind c other k : Nat) : AW :=
  if kind = 0 then w.pin1 c else if kind = 1 ∨ kind = 7 then w.setPin c none else if kind = 2 ∨ kind = 3 then w.adv1 else if kind = 4 ∨ kind = 5 then w.ret1 c k else w.col other
theorem nilJ_some {w : AW} {c j : Nat} (h : nilJ w c = some j) : j < 4 ∧ w.slot c j = none := by
  have h1 := List.mem_of_find?_eq_some h
  have h2 := List.find?_some h
  exact ⟨List.mem_range.1 h1, by simpa using h2⟩
/-- pinned nodes below 6 alone. -/
def PB (w : AW) : Prop := ∀ c e, w.pin c = some e → c < 6
theorem adv1_pin {w : AW} (hb : PB w) (h : ¬ ((List.range 6).any (late w)) = true) : ∀ c e, w.pin c = some e → e = w.g := fun c e hc => by
  refine Classical.byContradiction fun hne => h (List.any_eq_true.2 ⟨c, List.mem_range.2 (hb c e hc), ?_⟩)
  unfold late
  rw [hc]
  simpa using hne
theorem AI.move {w : AW} (h : AI w) (hb : PB w) {kind c other k : Nat} (hc : c < 6) (hk : k < 12) : AI (w.move kind c other k) ∧ PB (w.move kind c other k) := by
  unfold AW.move
  split
  · unfold AW.pin1
    split
    · exact ⟨h, hb⟩
    · refine ⟨h.pin c, fun d e hd => ?_⟩
      have hd' : (if d = c then some w.g else w.pin d) = some e := hd
      split at hd'
      · omega
      · exact hb d e hd'
  · split
    · refine ⟨h.unpin c, fun d e hd => ?_⟩
      have hd' : (if d = c then none else w.pin d) = some e := hd
      split at hd'
      · cases hd'
      · exact hb d e hd'
    · split
      · unfold AW.adv1
        split
        · exact ⟨h, hb⟩
        · rename_i hn
          exact ⟨h.adv (adv1_pin hb hn), hb⟩
      · split
        · unfold AW.ret1
          split
          · exact ⟨h, hb⟩
          · rename_i hn
            have hr : w.ret k = none := by
              cases hv : w.ret k with
              | none => rfl
              | some e => rw [hv] at hn; simp at hn
            split
            · rename_i j hj
              obtain ⟨h1, h2⟩ := nilJ_some hj
              exact ⟨h.retire hc h1 hk h2 hr, hb⟩
            · exact ⟨h, hb⟩
        · exact ⟨h.free other _, hb⟩
/-- The guards behind a move. -/
def updG (w w' : AW) (G : Nat → Nat → Bool) (k c : Nat) : Bool := if (w'.pin c).isNone = true then false else if ((w.ret k).isNone && (w'.ret k).isSome) = true then true else G k c
theorem AG.same {w w' : AW} {G : Nat → Nat → Bool} (h : AG w G) (hp : ∀ c, (w'.pin c).isSome = true → w.pin c = w'.pin c ∨ w.pin c = none) (hr : ∀ k, w'.ret k = w.ret k) : AG w' (updG w w' G) := fun k c hk => by
  unfold updG at hk
  split at hk
  · cases hk
  · rename_i hn
    rw [hr k] at hk
    have hx : ((w.ret k).isNone && (w.ret k).isSome) = false := by cases w.ret k <;> rfl
    rw [hx] at hk
    simp only [Bool.false_eq_true, if_false] at hk
    obtain ⟨p, e, a1, a2, a3⟩ := h k c hk
    have hs : (w'.pin c).isSome = true := by cases hv : w'.pin c with
      | none => rw [hv] at hn; simp at hn
      | some _ => rfl
    rcases hp c hs with h1 | h1
    · exact ⟨p, e, by rw [← h1]; exact a1, by rw [hr k]; exact a2, a3⟩
    · rw [h1] at a1; cases a1
theorem AG.move {w : AW} {G : Nat → Nat → Bool} (hI : AI w) (h : AG w G) {kind c other k : Nat} : AG (w.move kind c other k) (updG w (w.move kind c other k) G) := by
  unfold AW.move
  split
  · unfold AW.pin1
    split
    · exact h.same (fun _ _ => .inl rfl) fun _ => rfl
    · rename_i hn
      refine h.same (fun d hd => ?_) fun _ => rfl
      show w.pin d = (if d = c then some w.g else w.pin d) ∨ _
      by_cases e : d = c
      · subst e
        right
        cases hv : w.pin d with
        | none => rfl
        | some _ => rw [hv] at hn; simp at hn
      · left; rw [if_neg e]
  · split
    · refine h.same (fun d hd => ?_) fun _ => rfl
      have hd' : (if d = c then none else w.pin d).isSome = true := hd
      show w.pin d = (if d = c then none else w.pin d) ∨ _
      by_cases e : d = c
      · rw [if_pos e] at hd'; cases hd'
      · left; rw [if_neg e]
    · split
      · unfold AW.adv1
        split
        · exact h.same (fun _ _ => .inl rfl) fun _ => rfl
        · exact h.same (fun _ _ => .inl rfl) fun _ => rfl
      · split
        · unfold AW.ret1
          split
          · exact h.same (fun _ _ => .inl rfl) fun _ => rfl
          · rename_i hn
            have hr : w.ret k = none := by
              cases hv : w.ret k with
              | none => rfl
              | some e => rw [hv] at hn; simp at hn
            split
            · rename_i j hj
              intro k' d hk
              unfold updG at hk
              split at hk
              · cases hk
              · rename_i hpn
                have hret : (w.retire c j k).ret k' = if k' = k then some w.g else w.ret k' := rfl
                have hpin : (w.retire c j k).pin d = w.pin d := rfl
                rw [hpin] at hpn
                by_cases ek : k' = k
                · subst ek
                  cases hv : w.pin d with
                  | none => rw [hv] at hpn; simp at hpn
                  | some p => exact ⟨p, w.g, by rw [hpin, hv], by rw [hret, if_pos rfl], (hI.p1 d p hv).1⟩
                · rw [hret, if_neg ek] at hk
                  have hx : ((w.ret k').isNone && (w.ret k').isSome) = false := by cases w.ret k' <;> rfl
                  rw [hx] at hk
                  simp only [Bool.false_eq_true, if_false] at hk
                  obtain ⟨p, e, a1, a2, a3⟩ := h k' d hk
                  exact ⟨p, e, a1, by rw [hret, if_neg ek]; exact a2, a3⟩
            · exact h.same (fun _ _ => .inl rfl) fun _ => rfl
        · exact h.same (fun _ _ => .inl rfl) fun _ => rfl
def Safe (w : AW) : Prop := ∀ c j k e, w.slot c j = some (k, e) → e + 2 ≤ w.g
def hasJ (w : AW) (c j : Nat) : Bool := (w.slot c j).isSome
def cntS (w : AW) (c : Nat) : Nat := ((List.range 4).filter (hasJ w c)).length
theorem cntS_le (w : AW) (c : Nat) : cntS w c ≤ 4 := Nat.le_trans (List.length_filter_le _ _) (by simp)
theorem safe_has {w : AW} (h : Safe w) (c j : Nat) : safeJ w c j = hasJ w c j := by
  unfold safeJ hasJ
  cases hs : w.slot c j with
  | none => rfl
  | some x =>
    obtain ⟨k, e⟩ := x
    have := h c j k e hs
    simp [this]
theorem col_has (w : AW) (c j : Nat) : hasJ (w.col c) c j = (hasJ w c j && !selJ w c j) := by
  have e : (w.col c).slot c j = if selJ w c j = true then none else w.slot c j := by
    show (if c = c ∧ selJ w c j = true then none else w.slot c j) = _
    by_cases hs : selJ w c j = true
    · rw [if_pos ⟨rfl, hs⟩, if_pos hs]
    · rw [if_neg (fun h => hs h.2), if_neg hs]
  unfold hasJ
  rw [e]
  cases selJ w c j <;> simp
theorem col_cnt {w : AW} (h : Safe w) (c : Nat) : cntS (w.col c) c = cntS w c - 2 := by
  have hsel : ∀ j, selJ w c j = (hasJ w c j && decide (((List.range j).filter (hasJ w c)).length < 2)) := fun j => by
    unfold selJ
    rw [safe_has h c j, show safeJ w c = hasJ w c from funext fun j => safe_has h c j]
  unfold cntS
  have e : ∀ j, hasJ (w.col c) c j = (hasJ w c j && !(hasJ w c j && decide (((List.range j).filter (hasJ w c)).length < 2))) := fun j => by rw [col_has, hsel]
  rw [show hasJ (w.col c) c = fun j => (hasJ w c j && !(hasJ w c j && decide (((List.range j).filter (hasJ w c)).length < 2))) from funext e]
  generalize hasJ w c = b
  simp only [show List.range 4 = [0, 1, 2, 3] from rfl, show List.range 3 = [0, 1, 2] from rfl, show List.range 2 = [0, 1] from rfl, show List.range 1 = [0] from rfl, show List.range 0 = [] from rfl, List.filter_cons, List.filter_nil]
  cases h0 : b 0 <;> cases h1 : b 1 <;> cases h2 : b 2 <;> cases h3 : b 3 <;> simp [h0, h1, h2, h3]
theorem col_other {w : AW} {c d : Nat} (h : d ≠ c) : cntS (w.col c) d = cntS w d := by
  unfold cntS
  congr 2
  funext j
  unfold hasJ
  show (if d = c ∧ selJ w c j = true then none else w.slot d j).isSome = _
  rw [if_neg (fun e => h e.1)]
theorem Safe.col {w : AW} (h : Safe w) (c : Nat) : Safe (w.col c) := fun d j k e hs => by
  have hs' : (if d = c ∧ selJ w c j = true then none else w.slot d j) = some (k, e) := hs
  split at hs'
  · cases hs'
  · exact h d j k e hs'
/-- Behind i collections, node by node in turn. -/
structure Col (i : Nat) (w : AW) : Prop where
  inv : AI w
  np : ∀ c, w.pin c = none
  safe : Safe w
  two : ∀ c, c < 6 → c < i → cntS w c ≤ 2
  none_ : ∀ c, c < 6 → c + 6 < i → cntS w c = 0
theorem Col.start {w : AW} (h : AI w) (hp : ∀ c, w.pin c = none) : Col 0 w.adv.adv :=
  ⟨(h.adv fun c e hc => by rw [hp c] at hc; cases hc).adv fun c e hc => (by have hc' : w.pin c = some e := hc; rw [hp c] at hc'; cases hc'), hp, fun c j k e hs => by
    have h1 := (h.s1 c j k e hs).2.2.2.1
    have h2 := h.r1 k e h1
    show e + 2 ≤ w.g + 1 + 1
    omega, fun c _ h => absurd h (Nat.not_lt_zero _), fun c _ h => absurd h (by omega)⟩
theorem Col.step {i : Nat} {w : AW} (h : Col i w) : Col (i + 1) (w.col (i % 6)) := by
  refine ⟨h.inv.free _ _, h.np, h.safe.col _, fun c hc hi => ?_, fun c hc hi => ?_⟩
  · by_cases e : c = i % 6
    · rw [← e, col_cnt h.safe]
      have := cntS_le w c
      omega
    · rw [col_other e]
      exact h.two c hc (by omega)
  · by_cases e : c = i % 6
    · rw [← e, col_cnt h.safe]
      have := h.two c hc (by omega)
      omega
    · rw [col_other e]
      exact h.none_ c hc (by omega)
theorem Col.done {w : AW} (h : Col 60 w) : (∀ c j, w.slot c j = none) ∧ ∀ k e, k < 12 → w.ret k = some e → w.fre k = true := by
  have h1 : ∀ c j, w.slot c j = none := fun c j => by
    cases hs : w.slot c j with
    | none => rfl
    | some x =>
      exfalso
      obtain ⟨k, e⟩ := x
      obtain ⟨_, h2, h3, _⟩ := h.inv.s1 c j k e hs
      have h4 := h.none_ c h2 (by omega)
      unfold cntS at h4
      have h5 : j ∈ (List.range 4).filter (hasJ w c) := List.mem_filter.2 ⟨List.mem_range.2 h3, by unfold hasJ; rw [hs]; rfl⟩
      rw [List.eq_nil_of_length_eq_zero h4] at h5
      cases h5
  refine ⟨h1, fun k e hk hr => ?_⟩
  cases hv : w.fre k with
  | true => rfl
  | false =>
    obtain ⟨c, j, hs⟩ := h.inv.all k e hk hr hv
    rw [h1 c j] at hs; cases hs
theorem adv1_free {w : AW} (hp : ∀ c, w.pin c = none) : w.adv1 = w.adv := by
  unfold AW.adv1
  rw [if_neg]
  intro h
  obtain ⟨c, _, h2⟩ := List.any_eq_true.1 h
  unfold late at h2
  rw [hp c] at h2; cases h2
end Go.Proofs.YtfkmbdpnjcgimaaGreat

/- Plain laws: the pages that stand for epochs, pins and retired entries. Own work. -/
namespace Go.Proofs.YtfkmbdpnjcgimaaGreat
open Go.RowKit
set_option linter.unusedVariables false
set_option linter.unusedSimpArgs false
set_option maxRecDepth 100000
/-! ### The epoch page -/
def zE (p : Pg) : Bool := decide (p.d1 = 0#64) && (decide (p.d2 = 0#64) && (decide (p.d3 = 0#64) && (decide (p.d4 = 0#64) && (decide (p.d5 = 0#64) && decide (p.d6 = 0#64)))))
def readE (p : Pg) : BitVec 32 × Int := if p.l = 97 then (if (!zE p || decide (UV p.d0 > 4294967295)) = true then (0#32, 14) else (p.d0.setWidth 32, 0)) else (0#32, 1)
def putE' (p : Pg) (e : BitVec 32) : Pg := ⟨p.l, p.h, e.setWidth 64, 0#64, 0#64, 0#64, 0#64, 0#64, 0#64⟩
def writeE (p : Pg) (e : BitVec 32) : Pg × Int := if p.l = 97 then (putE' p e, 0) else (Pg.nil, 1)
theorem back_epoch {p : Pg} {e : BitVec 32} (h : p.l = 97) : readE (writeE p e).1 = (e, 0) ∧ (writeE p e).1.l = 97 := by
  unfold writeE
  rw [if_pos h]
  refine ⟨?_, h⟩
  have e1 : (putE' p e).l = 97 := h
  have e2 : zE (putE' p e) = true := rfl
  have e3 : UV (e.setWidth 64) = UV e := UV_set32 e
  have e4 := UV_lt e
  unfold readE
  rw [if_pos e1, e2]
  have e5 : (putE' p e).d0 = e.setWidth 64 := rfl
  rw [e5, e3, if_neg (by simp; omega)]
  have e6 : (e.setWidth 64).setWidth 32 = e := by
    apply BitVec.eq_of_toNat_eq
    have := e.isLt
    simp [Nat.mod_eq_of_lt]
  rw [e6]
/-! ### Nodes -/
def rj (n : Nd) : Nat → Re
  | 0 => n.r0
  | 1 => n.r1
  | 2 => n.r2
  | 3 => n.r3
  | _ => Re.nil
def reOf (tos : List Pt) : Option (Nat × Nat) → Re
  | none => Re.nil
  | some x => ⟨tos.getD x.1 Pt.nil, BitVec.ofNat 32 x.2⟩
/-- A node page says what is said of a node. -/
structure NdG (tos : List Pt) (w : AW) (c : Nat) (n : Nd) : Prop where
  pin : n.pin = (w.pin c).isSome
  ep : n.ep = BitVec.ofNat 32 ((w.pin c).getD 0)
  inc : (w.pin c).isSome = true → n.inc = 1
  inc2 : 0 ≤ n.inc ∧ n.inc ≤ 59
  sg : UV n.sg ≤ 511
  re : ∀ j, j < 4 → rj n j = reOf tos (w.slot c j)
/-- What is said of a heap: the pages is of segment s0, their bits Ub and kinds Kd. -/
structure EI (n s0 : Nat) (is : List Nat) (g : Nat) (N : Nat → Nd) (Ub Kd : Nat → Bool) (H : List Pg) : Prop where
  len : H.length = 8 + 16 * n
  ln : ∀ (k : Nat) p, H[k]? = some p → p.l = 96 + (k : Int)
  un : ∀ (k : Nat) p, H[k]? = some p → lockB p = false
  ep : ∀ p, H[1]? = some p → readE p = (BitVec.ofNat 32 g, 0)
  nd : ∀ (c : Nat) p, c < 6 → H[2 + c]? = some p → readN p = (N c, 0)
  hd : ∃ u, usable u ∧ (∀ k i, is[k]? = some i → bitB u i = Ub k) ∧ ∀ p, H[8 + 16 * s0]? = some p → readH p = (⟨0, u⟩, 0)
  dp : ∀ (k i : Nat) p, is[k]? = some i → H[8 + 16 * s0 + i]? = some p → (kindV p.d0 = if Kd k = true then 0 else 1) ∧ genV p.d0 = 1
/-- What stays as it is. -/
structure ES (n s0 : Nat) (is : List Nat) : Prop where
  n5 : 1 ≤ n ∧ n ≤ 5
  s : s0 < n
  len : is.length = 12
  nod : is.Nodup
  rng : ∀ i, i ∈ is → 1 ≤ i ∧ i ≤ 15
section
variable {n s0 g : Nat} {is : List Nat} {N : Nat → Nd} {Ub Kd : Nat → Bool} {H : List Pg}
theorem EI.at_ (h : EI n s0 is g N Ub Kd H) {k : Nat} (hk : k < 8 + 16 * n) : ∃ p, H[k]? = some p := ⟨H[k]'(by rw [h.len]; exact hk), List.getElem?_eq_getElem _⟩
theorem EI.lat (h : EI n s0 is g N Ub Kd H) {k : Nat} {p : Pg} (hk : H[k]? = some p) : latP H (96 + (k : Int)) = p ∧ latB H (96 + (k : Int)) = true := by
  have e : latO H (96 + (k : Int)) = some p := lat_hit hk (h.ln k p hk) fun j q hj hq => by rw [h.ln j q hq]; omega
  unfold latP latB
  rw [e]
  exact ⟨rfl, rfl⟩
theorem EI.com (h : EI n s0 is g N Ub Kd H) {k : Nat} {w : Pg} (hk : k < 8 + 16 * n) (hl : w.l = 96 + (k : Int)) :
    ∃ w', comP H w = H.set k w' ∧ w'.l = w.l ∧ lockB w' = false ∧ readN w' = readN w ∧ readH w' = readH w ∧ readE w' = readE w ∧ w'.d0 = w.d0 :=
  ⟨_, com_set (by rw [h.len]; exact hk) hl, rfl, nextH_un _ _, rfl, rfl, rfl, rfl⟩
theorem EI.comNode (h : EI n s0 is g N Ub Kd H) (hS : ES n s0 is) {c : Nat} {w : Pg} {nd : Nd} (hc : c < 6) (hl : w.l = 98 + (c : Int)) (hw : readN w = (nd, 0)) : EI n s0 is g (fun x => if x = c then nd else N x) Ub Kd (comP H w) := by
  obtain ⟨w', e, l1, l2, l3, l4, l5, l6⟩ := h.com (k := 2 + c) (w := w) (by have := hS.n5; omega) (by omega)
  rw [e]
  obtain ⟨u, u1, u2, u3⟩ := h.hd
  refine ⟨by rw [List.length_set, h.len], fun k p hp => ?_, fun k p hp => ?_, fun p hp => ?_, fun d p hd hp => ?_, ⟨u, u1, u2, fun p hp => ?_⟩, fun k i p hi hp => ?_⟩
  · rcases set_get hp with ⟨rfl, rfl⟩ | ⟨_, hp⟩
    · rw [l1, hl]; omega
    · exact h.ln k p hp
  · rcases set_get hp with ⟨rfl, rfl⟩ | ⟨_, hp⟩
    · exact l2
    · exact h.un k p hp
  · rcases set_get hp with ⟨e1, rfl⟩ | ⟨_, hp⟩
    · omega
    · exact h.ep p hp
  · rcases set_get hp with ⟨e1, rfl⟩ | ⟨e1, hp⟩
    · have : d = c := by omega
      subst this
      rw [if_pos rfl]
      exact l3.trans hw
    · rw [if_neg (by omega)]
      exact h.nd d p hd hp
  · rcases set_get hp with ⟨e1, rfl⟩ | ⟨e1, hp⟩
    · omega
    · exact u3 p hp
  · rcases set_get hp with ⟨e1, rfl⟩ | ⟨e1, hp⟩
    · omega
    · exact h.dp k i p hi hp
theorem EI.comEpoch (h : EI n s0 is g N Ub Kd H) (hS : ES n s0 is) {w : Pg} {g' : Nat} (hl : w.l = 97) (hw : readE w = (BitVec.ofNat 32 g', 0)) : EI n s0 is g' N Ub Kd (comP H w) := by
  obtain ⟨w', e, l1, l2, l3, l4, l5, l6⟩ := h.com (k := 1) (w := w) (by have := hS.n5; omega) (by omega)
  rw [e]
  obtain ⟨u, u1, u2, u3⟩ := h.hd
  refine ⟨by rw [List.length_set, h.len], fun k p hp => ?_, fun k p hp => ?_, fun p hp => ?_, fun d p hd hp => ?_, ⟨u, u1, u2, fun p hp => ?_⟩, fun k i p hi hp => ?_⟩
  · rcases set_get hp with ⟨rfl, rfl⟩ | ⟨_, hp⟩
    · rw [l1, hl]; omega
    · exact h.ln k p hp
  · rcases set_get hp with ⟨rfl, rfl⟩ | ⟨_, hp⟩
    · exact l2
    · exact h.un k p hp
  · rcases set_get hp with ⟨e1, rfl⟩ | ⟨e1, hp⟩
    · exact l5.trans hw
    · exact absurd rfl e1
  · rcases set_get hp with ⟨e1, rfl⟩ | ⟨e1, hp⟩
    · omega
    · exact h.nd d p hd hp
  · rcases set_get hp with ⟨e1, rfl⟩ | ⟨e1, hp⟩
    · omega
    · exact u3 p hp
  · rcases set_get hp with ⟨e1, rfl⟩ | ⟨e1, hp⟩
    · omega
    · exact h.dp k i p hi hp
theorem EI.comHead (h : EI n s0 is g N Ub Kd H) (hS : ES n s0 is) {w : Pg} {u' : BitVec 32} {Ub' : Nat → Bool} (hl : w.l = 104 + 16 * (s0 : Int)) (hw : readH w = (⟨0, u'⟩, 0)) (hu : usable u') (hb : ∀ k i, is[k]? = some i → bitB u' i = Ub' k) : EI n s0 is g N Ub' Kd (comP H w) := by
  have hs := hS.s
  obtain ⟨w', e, l1, l2, l3, l4, l5, l6⟩ := h.com (k := 8 + 16 * s0) (w := w) (by omega) (by omega)
  rw [e]
  refine ⟨by rw [List.length_set, h.len], fun k p hp => ?_, fun k p hp => ?_, fun p hp => ?_, fun d p hd hp => ?_, ⟨u', hu, hb, fun p hp => ?_⟩, fun k i p hi hp => ?_⟩
  · rcases set_get hp with ⟨rfl, rfl⟩ | ⟨_, hp⟩
    · rw [l1, hl]; omega
    · exact h.ln k p hp
  · rcases set_get hp with ⟨rfl, rfl⟩ | ⟨_, hp⟩
    · exact l2
    · exact h.un k p hp
  · rcases set_get hp with ⟨e1, rfl⟩ | ⟨_, hp⟩
    · omega
    · exact h.ep p hp
  · rcases set_get hp with ⟨e1, rfl⟩ | ⟨e1, hp⟩
    · omega
    · exact h.nd d p hd hp
  · rcases set_get hp with ⟨e1, rfl⟩ | ⟨e1, hp⟩
    · exact l4.trans hw
    · exact absurd rfl e1
  · rcases set_get hp with ⟨e1, rfl⟩ | ⟨e1, hp⟩
    · have := hS.rng i (List.mem_of_getElem? hi)
      omega
    · exact h.dp k i p hi hp
theorem EI.comPage (h : EI n s0 is g N Ub Kd H) (hS : ES n s0 is) {w : Pg} {k0 i0 : Nat} (hk : is[k0]? = some i0) (hl : w.l = 104 + 16 * (s0 : Int) + i0) (h1 : kindV w.d0 = 0) (h2 : genV w.d0 = 1) : EI n s0 is g N Ub (fun k => if k = k0 then true else Kd k) (comP H w) := by
  have hs := hS.s
  have hr := hS.rng i0 (List.mem_of_getElem? hk)
  obtain ⟨w', e, l1, l2, l3, l4, l5, l6⟩ := h.com (k := 8 + 16 * s0 + i0) (w := w) (by omega) (by omega)
  rw [e]
  obtain ⟨u, u1, u2, u3⟩ := h.hd
  refine ⟨by rw [List.length_set, h.len], fun k p hp => ?_, fun k p hp => ?_, fun p hp => ?_, fun d p hd hp => ?_, ⟨u, u1, u2, fun p hp => ?_⟩, fun k i p hi hp => ?_⟩
  · rcases set_get hp with ⟨rfl, rfl⟩ | ⟨_, hp⟩
    · rw [l1, hl]; omega
    · exact h.ln k p hp
  · rcases set_get hp with ⟨rfl, rfl⟩ | ⟨_, hp⟩
    · exact l2
    · exact h.un k p hp
  · rcases set_get hp with ⟨e1, rfl⟩ | ⟨_, hp⟩
    · omega
    · exact h.ep p hp
  · rcases set_get hp with ⟨e1, rfl⟩ | ⟨e1, hp⟩
    · omega
    · exact h.nd d p hd hp
  · rcases set_get hp with ⟨e1, rfl⟩ | ⟨e1, hp⟩
    · omega
    · exact u3 p hp
  · rcases set_get hp with ⟨e1, rfl⟩ | ⟨e1, hp⟩
    · have e2 : i = i0 := by omega
      subst e2
      have e3 : k = k0 := by
        exact (List.getElem?_inj (List.getElem?_eq_some_iff.1 hi).1 hS.nod).1 (hi.trans hk.symm)
      rw [if_pos e3, l6]
      exact ⟨by rw [if_pos rfl]; exact h1, h2⟩
    · have hne : k ≠ k0 := fun e2 => by
        subst e2
        rw [hk] at hi
        injection hi with hi
        omega
      rw [if_neg hne]
      exact h.dp k i p hi hp
end
end Go.Proofs.YtfkmbdpnjcgimaaGreat

/- A drawn region in which what one operation makes is named before all others have come up: two phases. Own work. -/
namespace Go.Proofs.YtfkmbdpnjcgimaaGreat
open Go.RowKit
set_option linter.unusedVariables false
set_option linter.unusedSimpArgs false
section
variable {P : Program} {ops : Array Oper} {c : Ctx} {N : Nat} {L : List Item}
theorem LocOp.more {o : Oper} {A : Nat → Option Out} {F : Out} {kl : Option Tmp} {it : Item} (h : LocOp P ops c L o A F kl) : LocOp P ops c (it :: L) o A F kl := fun φ a w K Q M hm ht hl hk =>
  h φ a w K Q M (hm.less (List.Sublist.append (List.Sublist.refl M) (List.sublist_cons_self it L))) ht hl hk
/-- What lies under a temporary is named. -/
theorem SS.openT {A : Nat → Option Out} {φ : Fz} {a : Act} {w : World} {t : Tmp} {ι : Type} {val : ι → Value} {I : ι → Item} (h : SS c N A L φ a w) (ht : A t = some (.own val I)) :
    ∃ i, SS c N (fun s => if s = t then some (.v (Is (val i))) else A s) (I i :: L) φ a w := by
  obtain ⟨β, hβ, hap⟩ := h.own
  obtain ⟨⟨i, h1, h2⟩, h3, h4⟩ := hβ t ι val I ht
  have key : ∀ (s : Tmp) (ι' : Type) (val' : ι' → Value) (I' : ι' → Item), (if s = t then some (Out.v (Is (val i))) else A s) = some (.own val' I') → s ≠ t ∧ A s = some (.own val' I') := fun s ι' val' I' hs => by
    by_cases e : s = t
    · rw [if_pos e] at hs; cases hs
    · rw [if_neg e] at hs; exact ⟨e, hs⟩
  refine ⟨i, h.defers, h.size, fun s B hB => ?_, ⟨⟨h.mem.mem.base, fun it hi => ?_, List.pairwise_cons.2 ⟨fun y hy b hb hyb => ?_, h.mem.mem.sep⟩⟩, h.mem.kept, fun b hb => ?_, h.mem.old⟩, β, fun s ι' val' I' hs => ?_, fun s s' ι' ι'' val' I' val'' I'' hne hs hs' => ?_⟩
  · by_cases e : s = t
    · subst e
      rw [if_pos rfl] at hB
      injection hB with hB
      injection hB with hB
      subst hB
      exact h1
    · rw [if_neg e] at hB; exact h.env s B hB
  · rcases List.mem_cons.1 hi with rfl | hi
    · rw [← h2]; exact h3
    · exact h.mem.mem.items it hi
  · exact (h4 b (by rw [h2]; exact hb)).2 (mem_names.2 ⟨y, hy, hyb⟩)
  · obtain ⟨x, hx, hxb⟩ := mem_names.1 hb
    rcases List.mem_cons.1 hx with rfl | hx
    · exact (h4 b (by rw [h2]; exact hxb)).1
    · exact h.mem.mine b (mem_names.2 ⟨x, hx, hxb⟩)
  · obtain ⟨e, hs⟩ := key s _ _ _ hs
    obtain ⟨g1, g2, g3⟩ := hβ s ι' val' I' hs
    refine ⟨g1, g2, fun b hb => ⟨(g3 b hb).1, fun hn => ?_⟩⟩
    obtain ⟨x, hx, hxb⟩ := mem_names.1 hn
    rcases List.mem_cons.1 hx with rfl | hx
    · exact hap s t _ _ val' I' val I e hs ht b hb (by rw [h2]; exact hxb)
    · exact (g3 b hb).2 (mem_names.2 ⟨x, hx, hxb⟩)
  · obtain ⟨_, hs⟩ := key s _ _ _ hs
    obtain ⟨_, hs'⟩ := key s' _ _ _ hs'
    exact hap s s' _ _ val' I' val'' I'' hne hs hs'
/-- A walk that ends in whatever is asked; of each operation it is told what it takes. -/
def JWG (P : Program) (ops : Array Oper) (c : Ctx) (nd : List Nat) (G : Option Tmp → Prop) (K : EnvO → Prop) (k : Nat) : Nat → List Oper → EnvO → List Item → Prop
  | 0, _, EO, _ => K EO
  | _ + 1, [], _, _ => False
  | n + 1, o :: rest, EO, L => ∃ F kl, G kl ∧ KillOk ops nd k o (lookO EO) kl ∧ LocOp P ops c L o (lookO EO) F kl ∧ JWG P ops c nd G K (k + 1) n rest (putEO (killE EO kl) (tgt o kl) F) L
theorem JWG.out {nd : List Nat} {G : Option Tmp → Prop} {K : EnvO → Prop} : ∀ {n k : Nat} {rest : List Oper} {EO : EnvO}, JWG P ops c nd G K k n rest EO L →
    ∃ m : List Ent, m.length = n ∧ n ≤ rest.length ∧ (∀ i x, m[i]? = some x → x.i = k + i ∧ rest[i]? = some x.o ∧ G x.kl) ∧
      (∀ m1 x m2, m = m1 ++ x :: m2 → LocOp P ops c L x.o (acc (fun _ => true) m1 (lookO EO)) x.F x.kl ∧ KillOk ops nd x.i x.o (acc (fun _ => true) m1 (lookO EO)) x.kl) ∧ ∃ E', lookO E' = acc (fun _ => true) m (lookO EO) ∧ K E'
  | 0, k, rest, EO, h => ⟨[], rfl, Nat.zero_le _, fun i x hx => by simp at hx, fun m1 x m2 hm => by simp at hm, EO, rfl, h⟩
  | n + 1, k, [], EO, h => h.elim
  | n + 1, k, o :: rest, EO, ⟨F, kl, hG, h0, h1, h2⟩ => by
    obtain ⟨m, e1, e0, e2, e3, E', e4, e5⟩ := JWG.out h2
    have hA : lookO (putEO (killE EO kl) (tgt o kl) F) = (⟨k, o, F, kl⟩ : Ent).app (lookO EO) := by rw [lookO_put, lookO_kill]; rfl
    rw [hA] at e3 e4
    refine ⟨⟨k, o, F, kl⟩ :: m, by simp [e1], by simp; omega, fun i x hx => ?_, fun m1 x m2 hm => ?_, E', e4, e5⟩
    · cases i with
      | zero => simp at hx; subst hx; exact ⟨rfl, rfl, hG⟩
      | succ i =>
        obtain ⟨h3, h4, h5⟩ := e2 i x (by simpa using hx)
        exact ⟨by omega, by simpa using h4, h5⟩
    · cases m1 with
      | nil =>
        simp only [List.nil_append, List.cons.injEq] at hm
        obtain ⟨rfl, rfl⟩ := hm
        exact ⟨h1, h0⟩
      | cons y m1 =>
        simp only [List.cons_append, List.cons.injEq] at hm
        obtain ⟨rfl, hm⟩ := hm
        exact e3 m1 x m2 hm
theorem acc_not {p : Nat → Bool} {s : Nat} : ∀ {m m' : List Ent} {A : Nat → Option Out}, m.length = m'.length → (∀ (j : Nat) (x x' : Ent), m[j]? = some x → m'[j]? = some x' → x'.i = x.i ∧ ∀ A B : Nat → Option Out, A s = B s → x.app A s = x'.app B s) → ∀ {B : Nat → Option Out}, A s = B s → acc p m A s = acc p m' B s
  | [], [], A, _, _, B, hA => hA
  | [], _ :: _, A, h, _, B, hA => by simp at h
  | _ :: _, [], A, h, _, B, hA => by simp at h
  | x :: m, x' :: m', A, h, hx, B, hA => by
    refine acc_not (m := m) (m' := m') (by simpa using h) (fun j y y' h1 h2 => hx (j + 1) y y' (by simpa using h1) (by simpa using h2)) ?_
    obtain ⟨e1, e2⟩ := hx 0 x x' (by simp) (by simp)
    rw [e1]
    cases p x.i
    · exact hA
    · exact e2 A B hA
theorem acc_at {p : Nat → Bool} {t d : Nat} {F : Out} (hp : p d = true) : ∀ {m : List Ent} {A : Nat → Option Out}, (∀ x, x ∈ m → (x.i = d → ∀ A, x.app A t = some F) ∧ (x.i ≠ d → ¬ x.tch t)) → (A t = some F ∨ ∃ x, x ∈ m ∧ x.i = d) → acc p m A t = some F
  | [], A, _, h => h.elim id fun ⟨x, hx, _⟩ => by cases hx
  | x :: m, A, hm, h => by
    refine acc_at hp (m := m) (fun y hy => hm y (List.mem_cons_of_mem _ hy)) ?_
    by_cases hx : x.i = d
    · refine .inl ?_
      rw [hx, hp]
      exact (hm x (List.mem_cons_self ..)).1 hx A
    · rcases h with h | ⟨y, hy, hyd⟩
      · refine .inl ?_
        cases p x.i
        · exact h
        · exact (Ent.app_ne ((hm x (List.mem_cons_self ..)).2 hx)).trans h
      · rcases List.mem_cons.1 hy with rfl | hy
        · exact absurd hyd hx
        · exact .inr ⟨y, hy, hyd⟩
section
variable {nd : List Nat} {G : Option Tmp → Prop} {K : EnvO → Prop} {k n : Nat} {rest : List Oper} {EO : EnvO} {t : Tmp} {op : Op} {ty : TypeId} {pos : String} {af : Array Edge}
end
end
end Go.Proofs.YtfkmbdpnjcgimaaGreat

/- Rules: make of a row of elements of several cells. Own work. -/
namespace Go.Proofs.YtfkmbdpnjcgimaaGreat
open Go.RowKit
set_option linter.unusedVariables false
set_option linter.unusedSimpArgs false
section
variable {P : Program} {c : Ctx} {A : Nat → Option VP} {L : List Item} {d : Option Tmp} {ty : TypeId} {pos : String} {af : Array Edge} {g : Option (Nat × Bool)} {x y : Operand} {t e : TypeId} {α : Type}
end
end Go.Proofs.YtfkmbdpnjcgimaaGreat
