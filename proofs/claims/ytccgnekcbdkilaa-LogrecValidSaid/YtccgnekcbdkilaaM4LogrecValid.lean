/- Texts of this claim, laid together (part 4): walks of functions, what they compute, and plain laws of it. Own work. -/
import Derived.ProofKit
import Derived.Deep.Slices
import Derived.OpenShut
import Derived.Test.YtccgnekcbdkilaaM3LogrecValid
/- Contracts: chunks of words, as a loop gets them. Own work. -/
namespace Go.Proofs.Ytccgnekcbdkilaa
open Go.RowKit
set_option linter.unusedVariables false
set_option linter.unusedSimpArgs false
set_option maxRecDepth 100000
-- slices.Chunk[[]uint64,uint64]: function 47
theorem Chunk_ok (xs : List (BitVec 64)) : FnP Try.prog 47 [IsSl tU64 xs, Is (.int .i64 9)] (IsFn 59 [IsRef [IsSl tU64 xs], IsRef [Is (.int .i64 9)]]) := by
  refine FnP.enter Try.func47 Try.ntmps47 rfl rfl ?_
  intro c hX
  (repeat (first | with_reducible refine JC_seq ?_ | with_reducible refine JQ_then ?_ | with_reducible refine JC_block ?_ | with_reducible refine JC_skip ?_ | with_reducible refine JC_exit ?_ | with_reducible refine JQ_then_exit ?_ | with_reducible refine JQ_then_ret ?_ | with_reducible refine JQ_block ?_ | with_reducible refine JQ_block_ret ?_ | with_reducible refine JQ_hit ?_ | ((with_reducible refine JQ_block_miss ?_ ?_); (focus exact rfl)) | with_reducible refine JC_ret ?_ | with_reducible refine JQ_end ?_))
  refine JC_region ?_
  (refine JL_n rfl (op_box (Ev.rfl' rfl) cellsT) ?_; intro i2)
  (refine JL_n rfl (op_box (Ev.rfl' rfl) cellsT) ?_; intro i3)
  refine JL_1 rfl (op_assign rfl) ?_
  refine JL_nil ?_
  (repeat (first | with_reducible refine JC_seq ?_ | with_reducible refine JQ_then ?_ | with_reducible refine JC_block ?_ | with_reducible refine JC_skip ?_ | with_reducible refine JC_exit ?_ | with_reducible refine JQ_then_exit ?_ | with_reducible refine JQ_then_ret ?_ | with_reducible refine JQ_block ?_ | with_reducible refine JQ_block_ret ?_ | with_reducible refine JQ_hit ?_ | ((with_reducible refine JQ_block_miss ?_ ?_); (focus exact rfl)) | with_reducible refine JC_ret ?_ | with_reducible refine JQ_end ?_))
  (repeat (first | with_reducible refine JC_seq ?_ | with_reducible refine JQ_then ?_ | with_reducible refine JC_block ?_ | with_reducible refine JC_skip ?_ | with_reducible refine JC_exit ?_ | with_reducible refine JQ_then_exit ?_ | with_reducible refine JQ_then_ret ?_ | with_reducible refine JQ_block ?_ | with_reducible refine JQ_block_ret ?_ | with_reducible refine JQ_hit ?_ | ((with_reducible refine JQ_block_miss ?_ ?_); (focus exact rfl)) | with_reducible refine JC_ret ?_ | with_reducible refine JQ_end ?_))
  refine JC_region ?_
  refine JL_1 rfl (by first | exact op_loadRef (Ev.rfl' rfl) rfl rfl rfl | exact op_loadPtr (Ev.rfl' rfl) memT (by rfl) (by rfl) (by rfl)) ?_
  refine JL_1 rfl (op_lss (Ev.rfl' rfl) (Ev.rfl' rfl)) ?_
  refine JL_nil ?_
  (repeat (first | with_reducible refine JC_seq ?_ | with_reducible refine JQ_then ?_ | with_reducible refine JC_block ?_ | with_reducible refine JC_skip ?_ | with_reducible refine JC_exit ?_ | with_reducible refine JQ_then_exit ?_ | with_reducible refine JQ_then_ret ?_ | with_reducible refine JQ_block ?_ | with_reducible refine JQ_block_ret ?_ | with_reducible refine JQ_hit ?_ | ((with_reducible refine JQ_block_miss ?_ ?_); (focus exact rfl)) | with_reducible refine JC_ret ?_ | with_reducible refine JQ_end ?_))
  refine JC_cond (Ev.rfl' rfl) (fun h => ?_) (fun h => ?_)
  · simp at h
  (repeat (first | with_reducible refine JC_seq ?_ | with_reducible refine JQ_then ?_ | with_reducible refine JC_block ?_ | with_reducible refine JC_skip ?_ | with_reducible refine JC_exit ?_ | with_reducible refine JQ_then_exit ?_ | with_reducible refine JQ_then_ret ?_ | with_reducible refine JQ_block ?_ | with_reducible refine JQ_block_ret ?_ | with_reducible refine JQ_hit ?_ | ((with_reducible refine JQ_block_miss ?_ ?_); (focus exact rfl)) | with_reducible refine JC_ret ?_ | with_reducible refine JQ_end ?_))
  refine JC_freezeB hX (b := i2) replT ?_
  refine JC_freezeB hX (b := i3) replT ?_
  (repeat (first | with_reducible refine JC_seq ?_ | with_reducible refine JQ_then ?_ | with_reducible refine JC_block ?_ | with_reducible refine JC_skip ?_ | with_reducible refine JC_exit ?_ | with_reducible refine JQ_then_exit ?_ | with_reducible refine JQ_then_ret ?_ | with_reducible refine JQ_block ?_ | with_reducible refine JQ_block_ret ?_ | with_reducible refine JQ_hit ?_ | ((with_reducible refine JQ_block_miss ?_ ?_); (focus exact rfl)) | with_reducible refine JC_ret ?_ | with_reducible refine JQ_end ?_))
  refine JC_region ?_
  refine JL_1 rfl (op_makeFunc (Cs := [IsRef [IsSl tU64 xs], IsRef [Is (.int .i64 9)]]) ⟨evS, ⟨evS, trivial⟩⟩) ?_
  refine JL_1 rfl (op_assign rfl) ?_
  refine JL_nil ?_
  (repeat (first | with_reducible refine JC_seq ?_ | with_reducible refine JQ_then ?_ | with_reducible refine JC_block ?_ | with_reducible refine JC_skip ?_ | with_reducible refine JC_exit ?_ | with_reducible refine JQ_then_exit ?_ | with_reducible refine JQ_then_ret ?_ | with_reducible refine JQ_block ?_ | with_reducible refine JQ_block_ret ?_ | with_reducible refine JQ_hit ?_ | ((with_reducible refine JQ_block_miss ?_ ?_); (focus exact rfl)) | with_reducible refine JC_ret ?_ | with_reducible refine JQ_end ?_))
  exact JQ_ret1 Try.results47 rfl () SubL.rfl' (List.nil_sublist _)
/-- The chunk at k. -/
def chunkAt (xs : List (BitVec 64)) (k : Nat) : List (BitVec 64) := (xs.take (9 * k + 9)).drop (9 * k)
set_option maxHeartbeats 1000000 in
-- slices.Chunk[[]uint64,uint64]$1: function 59
theorem chunk_in {ι : Type} (n : Nat) (xs : List (BitVec 64)) (m : Nat) (hx : xs.length = 9 * m) (hm : m ≤ 1000) (l p : Nat) (rec : Loop) (Lf : Nat → ι → List Item) (hLf : ∀ k s, loopI l rec ∈ Lf k s) (hp : rec.params = #[p]) (φ0 : Fz) (w0 : World) (s0 : ι) (hm0 : Mem φ0 (Lf 0 s0) w0) (cs : List Value)
    (hcs : Alls φ0 [IsRef [IsSl tU64 xs], IsRef [Is (.int .i64 9)]] cs)
    (hY : ∀ n' k s, k < m → ∀ φ w v, Fle φ0 φ → Mem φ (Lf k s) w → (IsSl tU64 (chunkAt xs k)).ok φ v → RoundIn (WF none) n' Try.prog l rec.fn (rec.tmps.setIfInBounds p v) rec.assign rec.body w fun e w' => ∃ s' φ', e = .returned (.bool true) ∧ HP ⟨w, φ, names (Lf k s), []⟩ φ' (Lf (k + 1) s') w') :
    CallsIn (WF none) n Try.prog 59 (#[.func (.yield l) #[] #[]] ++ cs.toArray) w0 fun e w' => ∃ v s φ', e = .returned v ∧ HP ⟨w0, φ0, names (Lf 0 s0), []⟩ φ' (Lf m s) w' := by
  have HY := Lib.hid hY
  clear hY
  obtain ⟨c, hc⟩ : ∃ c : Ctx, c = ⟨w0, φ0, names (Lf 0 s0), []⟩ := ⟨_, rfl⟩
  have hcb : ∀ b i v, c.φ b i = some v → c.w.cell? ⟨b, i, none⟩ = some v := by rw [hc]; exact hm0.base
  have hcφ : c.φ = φ0 := by rw [hc]
  have hds : c.ds = [] := by rw [hc]
  have key : JCI Try.prog none n c (Try.f59.ntmps) (Try.f59.body.getD .skip) (argE 0 [Is (.func (.yield l) #[] #[]), IsRef [IsSl tU64 xs], IsRef [Is (.int .i64 9)]]) (Lf 0 s0) (bodyPost Try.prog Try.f59 (Post c (fun _ : ι => Top) (fun s => Lf m s))) := by
    show JCI Try.prog none n c 31 _ _ _ _
    simp only [Try.f59, Option.getD_some]
    (repeat (first | with_reducible refine JCI_seq ?_ | with_reducible refine JQ_thenI ?_ | with_reducible refine JCI_block ?_ | with_reducible refine JCI_skip ?_ | with_reducible refine JCI_exit ?_ | with_reducible refine JQ_then_exit ?_ | with_reducible refine JQ_then_ret ?_ | with_reducible refine JQ_block ?_ | with_reducible refine JQ_block_ret ?_ | with_reducible refine JQ_hit ?_ | ((with_reducible refine JQ_block_miss ?_ ?_); (focus exact rfl)) | with_reducible refine JCI_ret ?_))
    (repeat (first | with_reducible refine JCI_seq ?_ | with_reducible refine JQ_thenI ?_ | with_reducible refine JCI_block ?_ | with_reducible refine JCI_skip ?_ | with_reducible refine JCI_exit ?_ | with_reducible refine JQ_then_exit ?_ | with_reducible refine JQ_then_ret ?_ | with_reducible refine JQ_block ?_ | with_reducible refine JQ_block_ret ?_ | with_reducible refine JQ_hit ?_ | ((with_reducible refine JQ_block_miss ?_ ?_); (focus exact rfl)) | with_reducible refine JCI_ret ?_))
    refine JCI_region (by rintro ⟨a, w, h⟩; first | exact h.elim | (obtain ⟨_, _, _, h, _⟩ := h; cases h)) rfl ?_
    refine JL_1 rfl (op_assign rfl) ?_
    refine JL_nil ?_
    (repeat (first | with_reducible refine JCI_seq ?_ | with_reducible refine JQ_thenI ?_ | with_reducible refine JCI_block ?_ | with_reducible refine JCI_skip ?_ | with_reducible refine JCI_exit ?_ | with_reducible refine JQ_then_exit ?_ | with_reducible refine JQ_then_ret ?_ | with_reducible refine JQ_block ?_ | with_reducible refine JQ_block_ret ?_ | with_reducible refine JQ_hit ?_ | ((with_reducible refine JQ_block_miss ?_ ?_); (focus exact rfl)) | with_reducible refine JCI_ret ?_))
    refine JCI_loop (fun i : Nat × Int × ι => i.1 ≤ m ∧ i.2.1 = 9 * i.1) (fun i => [(0, Is (.func (.yield l) #[] #[])), (1, IsRef [IsSl tU64 xs]), (2, IsRef [Is (.int .i64 9)]), (4, Is (.int .i64 i.2.1))]) (fun i => Lf i.1 i.2.2) (fun i => m - i.1) (0, 0, s0) ⟨Nat.zero_le _, rfl⟩ esubT (SubP.refl' _) ?_
    rintro ⟨k, z, s⟩ ⟨hk, hz⟩
    dsimp only at hk hz ⊢
    (repeat (first | with_reducible refine JCI_seq ?_ | with_reducible refine JQ_thenI ?_ | with_reducible refine JCI_block ?_ | with_reducible refine JCI_skip ?_ | with_reducible refine JCI_exit ?_ | with_reducible refine JQ_then_exit ?_ | with_reducible refine JQ_then_ret ?_ | with_reducible refine JQ_block ?_ | with_reducible refine JQ_block_ret ?_ | with_reducible refine JQ_hit ?_ | ((with_reducible refine JQ_block_miss ?_ ?_); (focus exact rfl)) | with_reducible refine JCI_ret ?_))
    refine JCI_region (by rintro ⟨a, w, h⟩; first | exact h.elim | (obtain ⟨_, _, _, h, _⟩ := h; cases h)) rfl ?_
    refine JL_1 rfl (op_move rfl) ?_
    refine JL_1 rfl (by first | exact op_loadRef (Ev.rfl' rfl) rfl rfl rfl | exact op_loadPtr (Ev.rfl' rfl) memT (by rfl) (by rfl) (by rfl)) ?_
    refine JL_1 rfl (by first | exact op_len (Ev.rfl' rfl) rfl | exact op_lenLit (Ev.rfl' rfl) rfl) ?_
    refine JL_1 rfl (op_lss (Ev.rfl' rfl) (Ev.rfl' rfl)) ?_
    refine JL_nil ?_
    (repeat (first | with_reducible refine JCI_seq ?_ | with_reducible refine JQ_thenI ?_ | with_reducible refine JCI_block ?_ | with_reducible refine JCI_skip ?_ | with_reducible refine JCI_exit ?_ | with_reducible refine JQ_then_exit ?_ | with_reducible refine JQ_then_ret ?_ | with_reducible refine JQ_block ?_ | with_reducible refine JQ_block_ret ?_ | with_reducible refine JQ_hit ?_ | ((with_reducible refine JQ_block_miss ?_ ?_); (focus exact rfl)) | with_reducible refine JCI_ret ?_))
    refine JCI_cond (Ev.rfl' rfl) (fun h => ?_) (fun h => ?_)
    · have hkm : k < m := by have := of_decide_eq_true h; omega
      clear h
      (repeat (first | with_reducible refine JCI_seq ?_ | with_reducible refine JQ_thenI ?_ | with_reducible refine JCI_block ?_ | with_reducible refine JCI_skip ?_ | with_reducible refine JCI_exit ?_ | with_reducible refine JQ_then_exit ?_ | with_reducible refine JQ_then_ret ?_ | with_reducible refine JQ_block ?_ | with_reducible refine JQ_block_ret ?_ | with_reducible refine JQ_hit ?_ | ((with_reducible refine JQ_block_miss ?_ ?_); (focus exact rfl)) | with_reducible refine JCI_ret ?_))
      have hlen : ((xs.take xs.length).drop (9 * k)).length = 9 * (m - k) := by simp; omega
      (repeat (first | with_reducible refine JCI_seq ?_ | with_reducible refine JQ_thenI ?_ | with_reducible refine JCI_block ?_ | with_reducible refine JCI_skip ?_ | with_reducible refine JCI_exit ?_ | with_reducible refine JQ_then_exit ?_ | with_reducible refine JQ_then_ret ?_ | with_reducible refine JQ_block ?_ | with_reducible refine JQ_block_ret ?_ | with_reducible refine JQ_hit ?_ | ((with_reducible refine JQ_block_miss ?_ ?_); (focus exact rfl)) | with_reducible refine JCI_ret ?_))
      refine JCI_dr (by rintro ⟨a, w, h⟩; first | exact h.elim | (obtain ⟨_, _, _, h, _⟩ := h; cases h)) rfl rfl (by kernel_rfl) ?_
      refine JD_stretch 7 (by kernel_rfl) ?_
      refine JW_1 (by first | exact op_loadRef (Ev.rfl' rfl) rfl rfl rfl | exact op_loadPtr (Ev.rfl' rfl) memT (by rfl) (by rfl) (by rfl)) ?_
      refine JW_1 (by first | exact op_loadRef (Ev.rfl' rfl) rfl rfl rfl | exact op_loadPtr (Ev.rfl' rfl) memT (by rfl) (by rfl) (by rfl)) ?_
      refine JW_1 (op_move rfl) ?_
      refine JW_1 (op_slice (Ev.rfl' rfl) rfl rfl ⟨_, _, (Ev.rfl' rfl), (show _ = ((9 * k : Nat) : Int) by first | rfl | omega)⟩ rfl (by omega) (by omega)) ?_
      refine JW_1 (by first | exact op_len (Ev.rfl' rfl) rfl | exact op_lenLit (Ev.rfl' rfl) rfl) ?_
      refine JW_1 (op_min (Ev.rfl' rfl) (Ev.rfl' rfl)) ?_
      refine JW_1 (op_assign rfl) ?_
      refine ⟨rfl, ?_⟩
      refine JD_end ?_
      (repeat (first | with_reducible refine JCI_seq ?_ | with_reducible refine JQ_thenI ?_ | with_reducible refine JCI_block ?_ | with_reducible refine JCI_skip ?_ | with_reducible refine JCI_exit ?_ | with_reducible refine JQ_then_exit ?_ | with_reducible refine JQ_then_ret ?_ | with_reducible refine JQ_block ?_ | with_reducible refine JQ_block_ret ?_ | with_reducible refine JQ_hit ?_ | ((with_reducible refine JQ_block_miss ?_ ?_); (focus exact rfl)) | with_reducible refine JCI_ret ?_))
      refine JCI_set 5 (Is (.int .i64 9)) rfl (SubL.eq (by rw [if_neg (by rw [hlen]; omega)])) ?_
      refine JCI_regionI ?_
      refine JLI_1 rfl rfl (op_move rfl) ?_
      refine JLI_1 rfl rfl (by first | exact op_loadRef (Ev.rfl' rfl) rfl rfl rfl | exact op_loadPtr (Ev.rfl' rfl) (by repeat (first | exact List.Mem.head _ | apply List.Mem.tail)) (by rfl) (by rfl) (by rfl)) ?_
      refine JLI_1 rfl rfl (op_move rfl) ?_
      refine JLI_1 rfl rfl (op_move rfl) ?_
      refine JLI_1 rfl rfl (op_move rfl) ?_
      refine JLI_1 rfl rfl (op_add (Ev.rfl' rfl) (Ev.rfl' rfl) (by first | exact wI64 (by omega) | exact wU64 (by omega) | exact wU32 (by omega) | rfl)) ?_
      refine JLI_1 rfl rfl (op_move rfl) ?_
      refine JLI_1 rfl rfl (op_move rfl) ?_
      refine JLI_1 rfl rfl (op_add (Ev.rfl' rfl) (Ev.rfl' rfl) (by first | exact wI64 (by omega) | exact wU64 (by omega) | exact wU32 (by omega) | rfl)) ?_
      refine JLI_1 rfl rfl (op_slice3 (l := 9 * k) (h := 9 * k + 9) (Ev.rfl' rfl) rfl rfl (Ev.rfl' rfl) (Ev.rfl' rfl) (Ev.rfl' rfl) (by first | assumption | rfl | omega) (by first | assumption | rfl | omega) (by first | assumption | rfl | omega) (by omega) (by omega)) ?_
      refine JLI_yield (l := l) (rec := rec) (p := p) (L' := fun s' => Lf (k + 1) s') hcb rfl rfl rfl (hLf k s) hp (fun φ w v hle hm hv => HY.out _ k s hkm φ w v (by rw [← hcφ]; exact hle) hm hv) (fun s' => ?_)
      refine JLI_1 rfl rfl (op_not (Ev.rfl' rfl)) ?_
      refine JLI_nil ?_
      (repeat (first | with_reducible refine JCI_seq ?_ | with_reducible refine JQ_thenI ?_ | with_reducible refine JCI_block ?_ | with_reducible refine JCI_skip ?_ | with_reducible refine JCI_exit ?_ | with_reducible refine JQ_then_exit ?_ | with_reducible refine JQ_then_ret ?_ | with_reducible refine JQ_block ?_ | with_reducible refine JQ_block_ret ?_ | with_reducible refine JQ_hit ?_ | ((with_reducible refine JQ_block_miss ?_ ?_); (focus exact rfl)) | with_reducible refine JCI_ret ?_))
      refine JCI_cond (Ev.rfl' rfl) (fun h => ?_) (fun h => ?_)
      · simp at h
      (repeat (first | with_reducible refine JCI_seq ?_ | with_reducible refine JQ_thenI ?_ | with_reducible refine JCI_block ?_ | with_reducible refine JCI_skip ?_ | with_reducible refine JCI_exit ?_ | with_reducible refine JQ_then_exit ?_ | with_reducible refine JQ_then_ret ?_ | with_reducible refine JQ_block ?_ | with_reducible refine JQ_block_ret ?_ | with_reducible refine JQ_hit ?_ | ((with_reducible refine JQ_block_miss ?_ ?_); (focus exact rfl)) | with_reducible refine JCI_ret ?_))
      (repeat (first | with_reducible refine JCI_seq ?_ | with_reducible refine JQ_thenI ?_ | with_reducible refine JCI_block ?_ | with_reducible refine JCI_skip ?_ | with_reducible refine JCI_exit ?_ | with_reducible refine JQ_then_exit ?_ | with_reducible refine JQ_then_ret ?_ | with_reducible refine JQ_block ?_ | with_reducible refine JQ_block_ret ?_ | with_reducible refine JQ_hit ?_ | ((with_reducible refine JQ_block_miss ?_ ?_); (focus exact rfl)) | with_reducible refine JCI_ret ?_))
      refine JCI_region (by rintro ⟨a, w, h⟩; first | exact h.elim | (obtain ⟨_, _, _, h, _⟩ := h; cases h)) rfl ?_
      refine JL_1 rfl (op_move rfl) ?_
      refine JL_1 rfl (by first | exact op_loadRef (Ev.rfl' rfl) rfl rfl rfl | exact op_loadPtr (Ev.rfl' rfl) memT (by rfl) (by rfl) (by rfl)) ?_
      refine JL_1 rfl (op_add (Ev.rfl' rfl) (Ev.rfl' rfl) wrapT) ?_
      refine JL_1 rfl (op_assign rfl) ?_
      refine JL_nil ?_
      (repeat (first | with_reducible refine JCI_seq ?_ | with_reducible refine JQ_thenI ?_ | with_reducible refine JCI_block ?_ | with_reducible refine JCI_skip ?_ | with_reducible refine JCI_exit ?_ | with_reducible refine JQ_then_exit ?_ | with_reducible refine JQ_then_ret ?_ | with_reducible refine JQ_block ?_ | with_reducible refine JQ_block_ret ?_ | with_reducible refine JQ_hit ?_ | ((with_reducible refine JQ_block_miss ?_ ?_); (focus exact rfl)) | with_reducible refine JCI_ret ?_))
      exact JQ_roundP (k + 1, z + 9, s') ⟨by dsimp only; omega, by dsimp only; omega⟩ (by dsimp only; omega) esubT (SubP.refl' _)
    · have hkm : k = m := by have := of_decide_eq_false h; omega
      subst hkm
      clear h
      (repeat (first | with_reducible refine JCI_seq ?_ | with_reducible refine JQ_thenI ?_ | with_reducible refine JCI_block ?_ | with_reducible refine JCI_skip ?_ | with_reducible refine JCI_exit ?_ | with_reducible refine JQ_then_exit ?_ | with_reducible refine JQ_then_ret ?_ | with_reducible refine JQ_block ?_ | with_reducible refine JQ_block_ret ?_ | with_reducible refine JQ_hit ?_ | ((with_reducible refine JQ_block_miss ?_ ?_); (focus exact rfl)) | with_reducible refine JCI_ret ?_))
      refine JQ_end ?_
      exact JQ_retP (rs := []) (Bs := []) rfl trivial s SubL.top (SubP.refl' _) hds
  match cs, hcs with
  | [v1, v2], hcs =>
    have ha : (#[Value.func (.yield l) #[] #[]] ++ [v1, v2].toArray : Array Value) = [Value.func (.yield l) #[] #[], v1, v2].toArray := rfl
    rw [ha]
    have h0 := key φ0 { tmps := [Value.func (.yield l) #[] #[], v1, v2].toArray ++ Array.replicate (Try.f59.ntmps - ([Value.func (.yield l) #[] #[], v1, v2].toArray).size) undef, defers := [] } w0
      ⟨by rw [hds], by simp only [Array.size_append, List.size_toArray, Array.size_replicate]; rfl, argE_look _ [Value.func (.yield l) #[] #[], v1, v2] 0 ⟨rfl, hcs⟩ (fun j hj => by
        simp only [Nat.zero_add]
        rw [Array.getD_eq_getD_getElem?, Array.getElem?_append_left (by simpa using hj), List.getD_eq_getElem?_getD]
        simp), by rw [hc]; exact HP.start hm0⟩
    refine (callsIn_of_wp (F := WF none) Try.func59 rfl trivial h0 rfl).mono ?_
    rintro e w' ⟨s, v, φ', he, _, h1⟩
    rw [hc] at h1
    exact ⟨v, s, φ', he, h1⟩
end Go.Proofs.Ytccgnekcbdkilaa

/- Contract of logrec.Parse. Own work. -/
namespace Go.Proofs.Ytccgnekcbdkilaa
open Go.RowKit
set_option linter.unusedVariables false
set_option linter.unusedSimpArgs false
set_option maxRecDepth 100000
theorem chunk_words {b : List (BitVec 64)} {n k : Nat} (h : 2 + 9 * n ≤ b.length) (hk : k < n) : chunkAt ((b.take (2 + 9 * n)).drop 2) k = (List.range 9).map fun j => wd b (2 + 9 * k + j) := by
  refine List.ext_getElem? fun j => ?_
  unfold chunkAt
  rw [List.getElem?_drop, List.getElem?_map]
  by_cases hj : j < 9
  · rw [List.getElem?_take_of_lt (by omega), List.getElem?_drop, List.getElem?_take_of_lt (by omega), List.getElem?_range hj, show 2 + (9 * k + j) = 2 + 9 * k + j by omega, wd_get (by omega)]
    rfl
  · rw [List.getElem?_eq_none (by rw [List.length_take]; omega), List.getElem?_eq_none (by simp; omega)]
    rfl
theorem chunk_pg {b : List (BitVec 64)} {n k : Nat} (h : 2 + 9 * n ≤ b.length) (hk : k < n) : pgL (chunkAt ((b.take (2 + 9 * n)).drop 2) k) = pgAt b k := by
  rw [chunk_words h hk]; rfl
theorem chunk_len {b : List (BitVec 64)} {n k : Nat} (h : 2 + 9 * n ≤ b.length) (hk : k < n) : (chunkAt ((b.take (2 + 9 * n)).drop 2) k).length = 9 := by
  rw [chunk_words h hk]; rfl
theorem no_writes {s lines : Int} : validR s [] lines ≠ 0 := fun h => by
  have := (validR_ok h).2.1
  unfold okR1 at this
  simp at this
set_option maxHeartbeats 4000000 in
-- logrec.Parse: function 20
theorem ParseLO_ok (b : List (BitVec 64)) (lines : Int) : Fn Try.prog 20 [IsSl tU64 b, Is (.int .i64 lines)] [] (IsParseO (parseV b lines)) (pgsI (parseV b lines).2.1) := by
  have hz := Lib.hid (show ∀ k : Nat, k < b.length → b[k]? = some (wd b k) from fun k h => wd_get h)
  have hn : (nW b : Int) = UV (wd b 1) := rfl
  have q0 := UV_nonneg (wd b 0)
  refine Fn.enterI Try.func20 Try.ntmps20 rfl rfl ?_
  intro c hX
  (repeat (first | with_reducible refine JCI_seq ?_ | with_reducible refine JQ_thenI ?_ | with_reducible refine JCI_block ?_ | with_reducible refine JCI_skip ?_ | with_reducible refine JCI_exit ?_ | with_reducible refine JQ_then_exit ?_ | with_reducible refine JQ_then_ret ?_ | with_reducible refine JQ_block ?_ | with_reducible refine JQ_block_ret ?_ | with_reducible refine JQ_hit ?_ | ((with_reducible refine JQ_block_miss ?_ ?_); (focus exact rfl)) | with_reducible refine JCI_ret ?_))
  (repeat (first | with_reducible refine JCI_seq ?_ | with_reducible refine JQ_thenI ?_ | with_reducible refine JCI_block ?_ | with_reducible refine JCI_skip ?_ | with_reducible refine JCI_exit ?_ | with_reducible refine JQ_then_exit ?_ | with_reducible refine JQ_then_ret ?_ | with_reducible refine JQ_block ?_ | with_reducible refine JQ_block_ret ?_ | with_reducible refine JQ_hit ?_ | ((with_reducible refine JQ_block_miss ?_ ?_); (focus exact rfl)) | with_reducible refine JCI_ret ?_))
  refine JCI_region (by rintro ⟨a, w, h⟩; first | exact h.elim | (obtain ⟨_, _, _, h, _⟩ := h; cases h)) rfl ?_
  (refine JL_n rfl (op_allocN rfl nrmT rfl) ?_; intro i4)
  refine JL_1 rfl (op_assign rfl) ?_
  refine JL_nil ?_
  (repeat (first | with_reducible refine JCI_seq ?_ | with_reducible refine JQ_thenI ?_ | with_reducible refine JCI_block ?_ | with_reducible refine JCI_skip ?_ | with_reducible refine JCI_exit ?_ | with_reducible refine JQ_then_exit ?_ | with_reducible refine JQ_then_ret ?_ | with_reducible refine JQ_block ?_ | with_reducible refine JQ_block_ret ?_ | with_reducible refine JQ_hit ?_ | ((with_reducible refine JQ_block_miss ?_ ?_); (focus exact rfl)) | with_reducible refine JCI_ret ?_))
  (repeat (first | with_reducible refine JCI_seq ?_ | with_reducible refine JQ_thenI ?_ | with_reducible refine JCI_block ?_ | with_reducible refine JCI_skip ?_ | with_reducible refine JCI_exit ?_ | with_reducible refine JQ_then_exit ?_ | with_reducible refine JQ_then_ret ?_ | with_reducible refine JQ_block ?_ | with_reducible refine JQ_block_ret ?_ | with_reducible refine JQ_hit ?_ | ((with_reducible refine JQ_block_miss ?_ ?_); (focus exact rfl)) | with_reducible refine JCI_ret ?_))
  refine JCI_region (by rintro ⟨a, w, h⟩; first | exact h.elim | (obtain ⟨_, _, _, h, _⟩ := h; cases h)) rfl ?_
  refine JL_1 rfl (op_move rfl) ?_
  refine JL_1 rfl (op_call Try.call35 (isLines_ok _) ⟨evS, trivial⟩) ?_
  refine JL_1 rfl (op_not (Ev.rfl' rfl)) ?_
  refine JL_nil ?_
  (repeat (first | with_reducible refine JCI_seq ?_ | with_reducible refine JQ_thenI ?_ | with_reducible refine JCI_block ?_ | with_reducible refine JCI_skip ?_ | with_reducible refine JCI_exit ?_ | with_reducible refine JQ_then_exit ?_ | with_reducible refine JQ_then_ret ?_ | with_reducible refine JQ_block ?_ | with_reducible refine JQ_block_ret ?_ | with_reducible refine JQ_hit ?_ | ((with_reducible refine JQ_block_miss ?_ ?_); (focus exact rfl)) | with_reducible refine JCI_ret ?_))
  refine JCI_cond (Ev.rfl' rfl) (fun h => ?_) (fun h => ?_)
  · have g1 : ¬ (98 ≤ lines ∧ lines ≤ 256) := by simp at h; omega
    (repeat (first | with_reducible refine JCI_seq ?_ | with_reducible refine JQ_thenI ?_ | with_reducible refine JCI_block ?_ | with_reducible refine JCI_skip ?_ | with_reducible refine JCI_exit ?_ | with_reducible refine JQ_then_exit ?_ | with_reducible refine JQ_then_ret ?_ | with_reducible refine JQ_block ?_ | with_reducible refine JQ_block_ret ?_ | with_reducible refine JQ_hit ?_ | ((with_reducible refine JQ_block_miss ?_ ?_); (focus exact rfl)) | with_reducible refine JCI_ret ?_))
    refine JCI_region (by rintro ⟨a, w, h⟩; first | exact h.elim | (obtain ⟨_, _, _, h, _⟩ := h; cases h)) rfl ?_
    refine JL_1 rfl (op_buildN (qs := []) rfl rfl rfl rfl trivial (by rfl) nrmT) ?_
    refine JL_s0 (op_storeN (Ev.rfl' rfl) (Ev.rfl' rfl) cellsT replT nrmT (by rfl) (by rfl) (by rfl)) ?_
    refine JL_1 rfl (op_assign rfl) ?_
    refine JL_nil ?_
    (repeat (first | with_reducible refine JCI_seq ?_ | with_reducible refine JQ_thenI ?_ | with_reducible refine JCI_block ?_ | with_reducible refine JCI_skip ?_ | with_reducible refine JCI_exit ?_ | with_reducible refine JQ_then_exit ?_ | with_reducible refine JQ_then_ret ?_ | with_reducible refine JQ_block ?_ | with_reducible refine JQ_block_ret ?_ | with_reducible refine JQ_hit ?_ | ((with_reducible refine JQ_block_miss ?_ ?_); (focus exact rfl)) | with_reducible refine JCI_ret ?_))
    refine JQ_buf0 31 tPg ?_
    exact JQ_retM (none, 0) (Bs := [IsRecO 0 0 (none, 0), Is (.int .i64 18)]) Try.results20 ⟨⟨_, _, _, _, rfl, memT, rfl, .inr ⟨rfl, _, rfl, rfl, subT⟩⟩, ⟨⟨_, rfl, subT⟩, trivial⟩⟩ (SubL.eq (by rw [parseV_18 g1]; rfl)) (by rw [parseV_18 g1]; exact lessT) hX.2
  have g1 : 98 ≤ lines ∧ lines ≤ 256 := by simp at h; omega
  clear h
  (repeat (first | with_reducible refine JCI_seq ?_ | with_reducible refine JQ_thenI ?_ | with_reducible refine JCI_block ?_ | with_reducible refine JCI_skip ?_ | with_reducible refine JCI_exit ?_ | with_reducible refine JQ_then_exit ?_ | with_reducible refine JQ_then_ret ?_ | with_reducible refine JQ_block ?_ | with_reducible refine JQ_block_ret ?_ | with_reducible refine JQ_hit ?_ | ((with_reducible refine JQ_block_miss ?_ ?_); (focus exact rfl)) | with_reducible refine JCI_ret ?_))
  refine JCI_region (by rintro ⟨a, w, h⟩; first | exact h.elim | (obtain ⟨_, _, _, h, _⟩ := h; cases h)) rfl ?_
  refine JL_1 rfl (op_move rfl) ?_
  refine JL_1 rfl (by first | exact op_len (Ev.rfl' rfl) rfl | exact op_lenLit (Ev.rfl' rfl) rfl) ?_
  refine JL_1 rfl (op_lss (Ev.rfl' rfl) (Ev.rfl' rfl)) ?_
  refine JL_1 rfl (op_move rfl) ?_
  (first | refine JL_i0 rfl rfl rfl (fun hg => (by have hg0 := hg; (try simp at hg); first | exact op_moveE (Ev.sub rfl (SubL.iteT (by first | assumption | (simp; done) | (simp; omega) | (simp_all; done)) SubL.rfl')) | exact op_moveE (Ev.rfl' rfl))) ?_ | refine JL_i rfl rfl rfl (fun hp hg => (by have hpg := Bool.and_eq_true_iff.2 ⟨hp, hg⟩; have hg0 := hg; (try simp at hg); first | exact op_moveE (Ev.sub rfl (SubL.iteT (by first | assumption | (simp; done) | (simp; omega) | (simp_all; done)) SubL.rfl')) | exact op_moveE (Ev.rfl' rfl))) ?_)
  (first | refine JL_i0 rfl rfl rfl (fun hg => (by have hg0 := hg; (try simp at hg); first | exact op_index (j := 0) evG evG rfl rfl (by first | rfl | omega) (hz.out _ (by omega)) | exact op_index (j := 0) evG evG rfl rfl (by first | rfl | omega) (by assumption))) ?_ | refine JL_i rfl rfl rfl (fun hp hg => (by have hpg := Bool.and_eq_true_iff.2 ⟨hp, hg⟩; have hg0 := hg; (try simp at hg); first | exact op_index (j := 0) evG evG rfl rfl (by first | rfl | omega) (hz.out _ (by omega)) | exact op_index (j := 0) evG evG rfl rfl (by first | rfl | omega) (by assumption))) ?_)
  (first | refine JL_i0 rfl rfl rfl (fun hg => (by have hg0 := hg; (try simp at hg); first | exact op_loadRef evG rfl rfl rfl | exact op_loadPtr evG memT (by rfl) (by rfl) (by rfl))) ?_ | refine JL_i rfl rfl rfl (fun hp hg => (by have hpg := Bool.and_eq_true_iff.2 ⟨hp, hg⟩; have hg0 := hg; (try simp at hg); first | exact op_loadRef evG rfl rfl rfl | exact op_loadPtr evG memT (by rfl) (by rfl) (by rfl))) ?_)
  (first | refine JL_i0 rfl rfl rfl (fun hg => (by have hg0 := hg; (try simp at hg); exact op_geq evG evG)) ?_ | refine JL_i rfl rfl rfl (fun hp hg => (by have hpg := Bool.and_eq_true_iff.2 ⟨hp, hg⟩; have hg0 := hg; (try simp at hg); exact op_geq evG evG)) ?_)
  refine JL_1 rfl (op_or (Ev.rfl' rfl) rfl (fun h => by first | exact SubL.rfl' | exact SubL.iteT (by first | (rw [h]; rfl) | (simp_all; done)) SubL.rfl')) ?_
  refine JL_1 rfl (op_move rfl) ?_
  (first | refine JL_i0 rfl rfl rfl (fun hg => (by have hg0 := hg; (try simp at hg); first | exact op_moveE (Ev.sub rfl (SubL.iteT (by first | assumption | (simp; done) | (simp; omega) | (simp_all; done)) SubL.rfl')) | exact op_moveE (Ev.rfl' rfl))) ?_ | refine JL_i rfl rfl rfl (fun hp hg => (by have hpg := Bool.and_eq_true_iff.2 ⟨hp, hg⟩; have hg0 := hg; (try simp at hg); first | exact op_moveE (Ev.sub rfl (SubL.iteT (by first | assumption | (simp; done) | (simp; omega) | (simp_all; done)) SubL.rfl')) | exact op_moveE (Ev.rfl' rfl))) ?_)
  (first | refine JL_i0 rfl rfl rfl (fun hg => (by have hg0 := hg; (try simp at hg); first | exact op_index (j := 1) evG evG rfl rfl (by first | rfl | omega) (hz.out _ (by omega)) | exact op_index (j := 1) evG evG rfl rfl (by first | rfl | omega) (by assumption))) ?_ | refine JL_i rfl rfl rfl (fun hp hg => (by have hpg := Bool.and_eq_true_iff.2 ⟨hp, hg⟩; have hg0 := hg; (try simp at hg); first | exact op_index (j := 1) evG evG rfl rfl (by first | rfl | omega) (hz.out _ (by omega)) | exact op_index (j := 1) evG evG rfl rfl (by first | rfl | omega) (by assumption))) ?_)
  (first | refine JL_i0 rfl rfl rfl (fun hg => (by have hg0 := hg; (try simp at hg); first | exact op_loadRef evG rfl rfl rfl | exact op_loadPtr evG memT (by rfl) (by rfl) (by rfl))) ?_ | refine JL_i rfl rfl rfl (fun hp hg => (by have hpg := Bool.and_eq_true_iff.2 ⟨hp, hg⟩; have hg0 := hg; (try simp at hg); first | exact op_loadRef evG rfl rfl rfl | exact op_loadPtr evG memT (by rfl) (by rfl) (by rfl))) ?_)
  (first | refine JL_i0 rfl rfl rfl (fun hg => (by have hg0 := hg; (try simp at hg); exact op_gtr evG evG)) ?_ | refine JL_i rfl rfl rfl (fun hp hg => (by have hpg := Bool.and_eq_true_iff.2 ⟨hp, hg⟩; have hg0 := hg; (try simp at hg); exact op_gtr evG evG)) ?_)
  refine JL_1 rfl (op_or (Ev.rfl' rfl) rfl (fun h => by first | exact SubL.rfl' | exact SubL.iteT (by first | (rw [h]; rfl) | (simp_all; done)) SubL.rfl')) ?_
  refine JL_nil ?_
  (repeat (first | with_reducible refine JCI_seq ?_ | with_reducible refine JQ_thenI ?_ | with_reducible refine JCI_block ?_ | with_reducible refine JCI_skip ?_ | with_reducible refine JCI_exit ?_ | with_reducible refine JQ_then_exit ?_ | with_reducible refine JQ_then_ret ?_ | with_reducible refine JQ_block ?_ | with_reducible refine JQ_block_ret ?_ | with_reducible refine JQ_hit ?_ | ((with_reducible refine JQ_block_miss ?_ ?_); (focus exact rfl)) | with_reducible refine JCI_ret ?_))
  refine JCI_cond (Ev.rfl' rfl) (fun h => ?_) (fun h => ?_)
  · have g2 : ¬ preB b := by unfold preB; simp at h; omega
    (repeat (first | with_reducible refine JCI_seq ?_ | with_reducible refine JQ_thenI ?_ | with_reducible refine JCI_block ?_ | with_reducible refine JCI_skip ?_ | with_reducible refine JCI_exit ?_ | with_reducible refine JQ_then_exit ?_ | with_reducible refine JQ_then_ret ?_ | with_reducible refine JQ_block ?_ | with_reducible refine JQ_block_ret ?_ | with_reducible refine JQ_hit ?_ | ((with_reducible refine JQ_block_miss ?_ ?_); (focus exact rfl)) | with_reducible refine JCI_ret ?_))
    refine JCI_region (by rintro ⟨a, w, h⟩; first | exact h.elim | (obtain ⟨_, _, _, h, _⟩ := h; cases h)) rfl ?_
    refine JL_1 rfl (op_buildN (qs := []) rfl rfl rfl rfl trivial (by rfl) nrmT) ?_
    refine JL_s0 (op_storeN (Ev.rfl' rfl) (Ev.rfl' rfl) cellsT replT nrmT (by rfl) (by rfl) (by rfl)) ?_
    refine JL_1 rfl (op_assign rfl) ?_
    refine JL_nil ?_
    (repeat (first | with_reducible refine JCI_seq ?_ | with_reducible refine JQ_thenI ?_ | with_reducible refine JCI_block ?_ | with_reducible refine JCI_skip ?_ | with_reducible refine JCI_exit ?_ | with_reducible refine JQ_then_exit ?_ | with_reducible refine JQ_then_ret ?_ | with_reducible refine JQ_block ?_ | with_reducible refine JQ_block_ret ?_ | with_reducible refine JQ_hit ?_ | ((with_reducible refine JQ_block_miss ?_ ?_); (focus exact rfl)) | with_reducible refine JCI_ret ?_))
    refine JQ_buf0 31 tPg ?_
    exact JQ_retM (none, 0) (Bs := [IsRecO 0 0 (none, 0), Is (.int .i64 14)]) Try.results20 ⟨⟨_, _, _, _, rfl, memT, rfl, .inr ⟨rfl, _, rfl, rfl, subT⟩⟩, ⟨⟨_, rfl, subT⟩, trivial⟩⟩ (SubL.eq (by rw [parseV_pre g1 g2]; rfl)) (by rw [parseV_pre g1 g2]; exact lessT) hX.2
  have p1 : 2 ≤ b.length ∧ UV (wd b 0) < 1073741824 ∧ nW b ≤ 12 := by simp at h; omega
  obtain ⟨p1, p2, p4⟩ := p1
  clear h
  (repeat (first | with_reducible refine JCI_seq ?_ | with_reducible refine JQ_thenI ?_ | with_reducible refine JCI_block ?_ | with_reducible refine JCI_skip ?_ | with_reducible refine JCI_exit ?_ | with_reducible refine JQ_then_exit ?_ | with_reducible refine JQ_then_ret ?_ | with_reducible refine JQ_block ?_ | with_reducible refine JQ_block_ret ?_ | with_reducible refine JQ_hit ?_ | ((with_reducible refine JQ_block_miss ?_ ?_); (focus exact rfl)) | with_reducible refine JCI_ret ?_))
  refine JCI_region (by rintro ⟨a, w, h⟩; first | exact h.elim | (obtain ⟨_, _, _, h, _⟩ := h; cases h)) rfl ?_
  refine JL_1 rfl (op_move rfl) ?_
  refine JL_1 rfl (by first | exact op_index (j := 0) (Ev.rfl' rfl) (Ev.rfl' rfl) rfl rfl (by first | rfl | omega) (hz.out _ (by omega)) | exact op_index (j := 0) (Ev.rfl' rfl) (Ev.rfl' rfl) rfl rfl (by first | rfl | omega) (by assumption)) ?_
  refine JL_1 rfl (by first | exact op_loadRef (Ev.rfl' rfl) rfl rfl rfl | exact op_loadPtr (Ev.rfl' rfl) memT (by rfl) (by rfl) (by rfl)) ?_
  refine JL_1 rfl (op_conv (Ev.rfl' rfl) rfl rfl convT) ?_
  refine JL_1 rfl (op_buildN (qs := [(0, _)]) rfl rfl rfl rfl ⟨⟨rfl, _, (Ev.rfl' rfl), cellsT⟩, trivial⟩ (by rfl) nrmT) ?_
  (refine JL_n rfl (op_allocN rfl nrmT rfl) ?_; intro i6)
  refine JL_s0 (op_storeN (Ev.rfl' rfl) (Ev.rfl' rfl) cellsT replT nrmT (by rfl) (by rfl) (by rfl)) ?_
  refine JL_nil ?_
  (repeat (first | with_reducible refine JCI_seq ?_ | with_reducible refine JQ_thenI ?_ | with_reducible refine JCI_block ?_ | with_reducible refine JCI_skip ?_ | with_reducible refine JCI_exit ?_ | with_reducible refine JQ_then_exit ?_ | with_reducible refine JQ_then_ret ?_ | with_reducible refine JQ_block ?_ | with_reducible refine JQ_block_ret ?_ | with_reducible refine JQ_hit ?_ | ((with_reducible refine JQ_block_miss ?_ ?_); (focus exact rfl)) | with_reducible refine JCI_ret ?_))
  (repeat (first | with_reducible refine JCI_seq ?_ | with_reducible refine JQ_thenI ?_ | with_reducible refine JCI_block ?_ | with_reducible refine JCI_skip ?_ | with_reducible refine JCI_exit ?_ | with_reducible refine JQ_then_exit ?_ | with_reducible refine JQ_then_ret ?_ | with_reducible refine JQ_block ?_ | with_reducible refine JQ_block_ret ?_ | with_reducible refine JQ_hit ?_ | ((with_reducible refine JQ_block_miss ?_ ?_); (focus exact rfl)) | with_reducible refine JCI_ret ?_))
  refine JCI_region (by rintro ⟨a, w, h⟩; first | exact h.elim | (obtain ⟨_, _, _, h, _⟩ := h; cases h)) rfl ?_
  refine JL_1 rfl (op_move rfl) ?_
  refine JL_1 rfl (by first | exact op_index (j := 1) (Ev.rfl' rfl) (Ev.rfl' rfl) rfl rfl (by first | rfl | omega) (hz.out _ (by omega)) | exact op_index (j := 1) (Ev.rfl' rfl) (Ev.rfl' rfl) rfl rfl (by first | rfl | omega) (by assumption)) ?_
  refine JL_1 rfl (by first | exact op_loadRef (Ev.rfl' rfl) rfl rfl rfl | exact op_loadPtr (Ev.rfl' rfl) memT (by rfl) (by rfl) (by rfl)) ?_
  refine JL_1 rfl (op_conv (Ev.rfl' rfl) rfl rfl convT) ?_
  refine JL_1 rfl (op_mul (Ev.rfl' rfl) (Ev.rfl' rfl) wrapT) ?_
  refine JL_1 rfl (op_add (Ev.rfl' rfl) (Ev.rfl' rfl) wrapT) ?_
  refine JL_1 rfl (op_add (Ev.rfl' rfl) (Ev.rfl' rfl) wrapT) ?_
  refine JL_1 rfl (op_assign rfl) ?_
  refine JL_nil ?_
  (repeat (first | with_reducible refine JCI_seq ?_ | with_reducible refine JQ_thenI ?_ | with_reducible refine JCI_block ?_ | with_reducible refine JCI_skip ?_ | with_reducible refine JCI_exit ?_ | with_reducible refine JQ_then_exit ?_ | with_reducible refine JQ_then_ret ?_ | with_reducible refine JQ_block ?_ | with_reducible refine JQ_block_ret ?_ | with_reducible refine JQ_hit ?_ | ((with_reducible refine JQ_block_miss ?_ ?_); (focus exact rfl)) | with_reducible refine JCI_ret ?_))
  (repeat (first | with_reducible refine JCI_seq ?_ | with_reducible refine JQ_thenI ?_ | with_reducible refine JCI_block ?_ | with_reducible refine JCI_skip ?_ | with_reducible refine JCI_exit ?_ | with_reducible refine JQ_then_exit ?_ | with_reducible refine JQ_then_ret ?_ | with_reducible refine JQ_block ?_ | with_reducible refine JQ_block_ret ?_ | with_reducible refine JQ_hit ?_ | ((with_reducible refine JQ_block_miss ?_ ?_); (focus exact rfl)) | with_reducible refine JCI_ret ?_))
  refine JCI_region (by rintro ⟨a, w, h⟩; first | exact h.elim | (obtain ⟨_, _, _, h, _⟩ := h; cases h)) rfl ?_
  refine JL_1 rfl (op_move rfl) ?_
  refine JL_1 rfl (by first | exact op_len (Ev.rfl' rfl) rfl | exact op_lenLit (Ev.rfl' rfl) rfl) ?_
  refine JL_1 rfl (op_move rfl) ?_
  refine JL_1 rfl (op_lss (Ev.rfl' rfl) (Ev.rfl' rfl)) ?_
  refine JL_nil ?_
  (repeat (first | with_reducible refine JCI_seq ?_ | with_reducible refine JQ_thenI ?_ | with_reducible refine JCI_block ?_ | with_reducible refine JCI_skip ?_ | with_reducible refine JCI_exit ?_ | with_reducible refine JQ_then_exit ?_ | with_reducible refine JQ_then_ret ?_ | with_reducible refine JQ_block ?_ | with_reducible refine JQ_block_ret ?_ | with_reducible refine JQ_hit ?_ | ((with_reducible refine JQ_block_miss ?_ ?_); (focus exact rfl)) | with_reducible refine JCI_ret ?_))
  refine JCI_cond (Ev.rfl' rfl) (fun h => ?_) (fun h => ?_)
  · have g2 : ¬ preB b := by unfold preB; simp at h; omega
    (repeat (first | with_reducible refine JCI_seq ?_ | with_reducible refine JQ_thenI ?_ | with_reducible refine JCI_block ?_ | with_reducible refine JCI_skip ?_ | with_reducible refine JCI_exit ?_ | with_reducible refine JQ_then_exit ?_ | with_reducible refine JQ_then_ret ?_ | with_reducible refine JQ_block ?_ | with_reducible refine JQ_block_ret ?_ | with_reducible refine JQ_hit ?_ | ((with_reducible refine JQ_block_miss ?_ ?_); (focus exact rfl)) | with_reducible refine JCI_ret ?_))
    refine JCI_region (by rintro ⟨a, w, h⟩; first | exact h.elim | (obtain ⟨_, _, _, h, _⟩ := h; cases h)) rfl ?_
    refine JL_1 rfl (op_buildN (qs := []) rfl rfl rfl rfl trivial (by rfl) nrmT) ?_
    refine JL_s0 (op_storeN (Ev.rfl' rfl) (Ev.rfl' rfl) cellsT replT nrmT (by rfl) (by rfl) (by rfl)) ?_
    refine JL_1 rfl (op_assign rfl) ?_
    refine JL_nil ?_
    (repeat (first | with_reducible refine JCI_seq ?_ | with_reducible refine JQ_thenI ?_ | with_reducible refine JCI_block ?_ | with_reducible refine JCI_skip ?_ | with_reducible refine JCI_exit ?_ | with_reducible refine JQ_then_exit ?_ | with_reducible refine JQ_then_ret ?_ | with_reducible refine JQ_block ?_ | with_reducible refine JQ_block_ret ?_ | with_reducible refine JQ_hit ?_ | ((with_reducible refine JQ_block_miss ?_ ?_); (focus exact rfl)) | with_reducible refine JCI_ret ?_))
    refine JQ_buf0 31 tPg ?_
    exact JQ_retM (none, 0) (Bs := [IsRecO 0 0 (none, 0), Is (.int .i64 14)]) Try.results20 ⟨⟨_, _, _, _, rfl, memT, rfl, .inr ⟨rfl, _, rfl, rfl, subT⟩⟩, ⟨⟨_, rfl, subT⟩, trivial⟩⟩ (SubL.eq (by rw [parseV_pre g1 g2]; rfl)) (by rw [parseV_pre g1 g2]; exact lessT) hX.2
  have p5 : 3 + 9 * nW b ≤ b.length := by simp at h; omega
  clear h
  (repeat (first | with_reducible refine JCI_seq ?_ | with_reducible refine JQ_thenI ?_ | with_reducible refine JCI_block ?_ | with_reducible refine JCI_skip ?_ | with_reducible refine JCI_exit ?_ | with_reducible refine JQ_then_exit ?_ | with_reducible refine JQ_then_ret ?_ | with_reducible refine JQ_block ?_ | with_reducible refine JQ_block_ret ?_ | with_reducible refine JQ_hit ?_ | ((with_reducible refine JQ_block_miss ?_ ?_); (focus exact rfl)) | with_reducible refine JCI_ret ?_))
  refine JCI_set 7 (Is (.int .i64 ((3 + 9 * nW b : Nat) : Int))) rfl (SubL.eq (by congr 2; omega)) ?_
  (repeat (first | with_reducible refine JCI_seq ?_ | with_reducible refine JQ_thenI ?_ | with_reducible refine JCI_block ?_ | with_reducible refine JCI_skip ?_ | with_reducible refine JCI_exit ?_ | with_reducible refine JQ_then_exit ?_ | with_reducible refine JQ_then_ret ?_ | with_reducible refine JQ_block ?_ | with_reducible refine JQ_block_ret ?_ | with_reducible refine JQ_hit ?_ | ((with_reducible refine JQ_block_miss ?_ ?_); (focus exact rfl)) | with_reducible refine JCI_ret ?_))
  refine JCI_region (by rintro ⟨a, w, h⟩; first | exact h.elim | (obtain ⟨_, _, _, h, _⟩ := h; cases h)) rfl ?_
  refine JL_1 rfl (op_move rfl) ?_
  refine JL_1 rfl (op_move rfl) ?_
  refine JL_1 rfl (op_sub (Ev.rfl' rfl) (Ev.rfl' rfl) wrapT) ?_
  refine JL_1 rfl (op_slice (Ev.rfl' rfl) rfl rfl ⟨_, _, (Ev.rfl' rfl), (show _ = ((2 : Nat) : Int) by first | rfl | omega)⟩ ⟨_, _, (Ev.rfl' rfl), (show _ = ((2 + 9 * nW b : Nat) : Int) by first | rfl | omega)⟩ (by omega) (by omega)) ?_
  refine JL_1 rfl (op_call Try.call47 (Chunk_ok _) ⟨evS, ⟨evS, trivial⟩⟩) ?_
  refine JL_nil ?_
  (repeat (first | with_reducible refine JCI_seq ?_ | with_reducible refine JQ_thenI ?_ | with_reducible refine JCI_block ?_ | with_reducible refine JCI_skip ?_ | with_reducible refine JCI_exit ?_ | with_reducible refine JQ_then_exit ?_ | with_reducible refine JQ_then_ret ?_ | with_reducible refine JQ_block ?_ | with_reducible refine JQ_block_ret ?_ | with_reducible refine JQ_hit ?_ | ((with_reducible refine JQ_block_miss ?_ ?_); (focus exact rfl)) | with_reducible refine JCI_ret ?_))
  refine JCI_buf0 31 tPg ?_
  obtain ⟨Mf, hMf⟩ : ∃ Mf : Nat → Option Addr × Nat → List Item, Mf = fun k s => [blk i6 35 [Is (.int .i64 (UV (wd b 0))), Is (slV (pagesW b k).length s)], buf (slV (pagesW b k).length s) 31 tPg (pagesW b k), blk i4 35 [Is (.int .i64 0), Is (.slice none 0 0)]] := ⟨_, rfl⟩
  refine JCI_less (E' := [(0, IsSl tU64 b), (1, Is (.int .i64 lines)), (4, Is (.pointer (some ⟨i4, 0, none⟩))), (6, Is (.pointer (some ⟨i6, 0, none⟩))), (7, Is (.int .i64 ((3 + 9 * nW b : Nat) : Int))), (50, IsFn 59 [IsRef [IsSl tU64 ((b.take (2 + 9 * nW b)).drop 2)], IsRef [Is (.int .i64 9)]])]) (L' := Mf 0 (none, 0)) esubT (by rw [hMf]; exact lessT) ?_
  refine JCI_range (L' := fun s => Mf (nW b) s) hX.2 rfl Try.call59 ?_ ?_
  · intro fn φ tmps l d rec W1 cs hE hN hrec hm hcs
    refine chunk_in 0 ((b.take (2 + 9 * nW b)).drop 2) (nW b) (by simp; omega) (by omega) l 51 rec (fun k s => loopI l rec :: defI d :: Mf k s) (fun k s => List.mem_cons_self ..) (by rw [hrec]) φ W1 (none, 0) hm cs hcs ?_
    intro n' k s hk φ' w v hle hm' hv
    have hE2 : ∀ t D, look [(6, Is (.pointer (some ⟨i6, 0, none⟩)))] t = some D → D.ok φ (rec.tmps.getD t undef) := fun t D hD => by
      rw [show rec.tmps = tmps by rw [hrec]]
      refine hE t D ?_
      simp only [look] at hD ⊢
      by_cases h6 : Nat.beq 6 t = true
      · rw [h6] at hD
        have : t = 6 := (Nat.eq_of_beq_eq_true h6).symm
        subst this
        exact hD
      · rw [Bool.eq_false_iff.mpr h6] at hD
        cases hD
    refine roundIn_J (N := 74) (φ0 := φ) (L' := fun s => loopI l rec :: defI d :: Mf (k + 1) s) (E := [(6, Is (.pointer (some ⟨i6, 0, none⟩)))]) hE2 (by rw [hrec]; exact hN) rfl hle hm' hv ?_
    have hcp := chunk_pg (b := b) (n := nW b) (k := k) (by omega) hk
    have hcl := chunk_len (b := b) (n := nW b) (k := k) (by omega) hk
    have hpl := pagesW_len b k
    rw [show rec.assign = _ by rw [hrec], show rec.body = _ by rw [hrec]]
    rw [hMf]
    dsimp only
    generalize chunkAt ((b.take (2 + 9 * nW b)).drop 2) k = ch at *
    have hcx : (⟨w, φ', names (loopI l rec :: defI d :: Mf k s), []⟩ : Ctx).X = names (loopI l rec :: defI d :: Mf k s) := rfl
    generalize (⟨w, φ', names _, []⟩ : Ctx) = cr at *
    (repeat (first | with_reducible refine JCI_seq ?_ | with_reducible refine JQ_thenI ?_ | with_reducible refine JCI_block ?_ | with_reducible refine JCI_skip ?_ | with_reducible refine JCI_exit ?_ | with_reducible refine JQ_then_exit ?_ | with_reducible refine JQ_then_ret ?_ | with_reducible refine JQ_block ?_ | with_reducible refine JQ_block_ret ?_ | with_reducible refine JQ_hit ?_ | ((with_reducible refine JQ_block_miss ?_ ?_); (focus exact rfl)) | with_reducible refine JCI_ret ?_))
    refine JCI_region (by rintro ⟨a, w, h⟩; first | exact h.elim | (obtain ⟨_, _, _, h, _⟩ := h; cases h)) rfl ?_
    refine JL_1 rfl (op_assign rfl) ?_
    refine JL_nil ?_
    (repeat (first | with_reducible refine JCI_seq ?_ | with_reducible refine JQ_thenI ?_ | with_reducible refine JCI_block ?_ | with_reducible refine JCI_skip ?_ | with_reducible refine JCI_exit ?_ | with_reducible refine JQ_then_exit ?_ | with_reducible refine JQ_then_ret ?_ | with_reducible refine JQ_block ?_ | with_reducible refine JQ_block_ret ?_ | with_reducible refine JQ_hit ?_ | ((with_reducible refine JQ_block_miss ?_ ?_); (focus exact rfl)) | with_reducible refine JCI_ret ?_))
    refine JQ_begin (by rw [hrec]) (Repl.head _ _ _) ?_
    (repeat (first | with_reducible refine JCI_seq ?_ | with_reducible refine JQ_thenI ?_ | with_reducible refine JCI_block ?_ | with_reducible refine JCI_skip ?_ | with_reducible refine JCI_exit ?_ | with_reducible refine JQ_then_exit ?_ | with_reducible refine JQ_then_ret ?_ | with_reducible refine JQ_block ?_ | with_reducible refine JQ_block_ret ?_ | with_reducible refine JQ_hit ?_ | ((with_reducible refine JQ_block_miss ?_ ?_); (focus exact rfl)) | with_reducible refine JCI_ret ?_))
    refine JCI_dr (by rintro ⟨a, w, h⟩; first | exact h.elim | (obtain ⟨_, _, _, h, _⟩ := h; cases h)) rfl rfl (by kernel_rfl) ?_
    refine JD_stretch 5 (by kernel_rfl) ?_
    refine JW_1 (by first | exact op_fieldPtr (k := 1) (Ev.rfl' rfl) rfl rfl rfl rfl | exact op_fieldRefN (k := 1) (Ev.rfl' rfl) rfl rfl rfl rfl nrmT) ?_
    refine JW_1 (by first | exact op_loadRef (Ev.rfl' rfl) rfl rfl rfl | exact op_loadPtr (Ev.rfl' rfl) memT (by rfl) (by rfl) (by rfl)) ?_
    refine JW_1 (op_move rfl) ?_
    refine JW_1 (by first | ((refine op_call Try.call48 (page_ok _ ?_) ⟨evS, trivial⟩); all_goals (first | first | assumption | (simp; omega)))) ?_
    refine JW_1 (op_buildSlice (size := 9) (qs := [(0, _)]) rfl rfl rfl ⟨⟨rfl, _, (Ev.rfl' rfl), cellsT⟩, trivial⟩ (by rfl) (by rfl)) ?_
    refine ⟨rfl, ?_⟩
    (refine JD_s (by kernel_rfl) rfl rfl (op_app (Ev.rfl' rfl) (fun _ => replT) (by first | exact Ev.rfl' rfl | exact Ev.sub rfl (by first | exact SubL.row (xs := [pgL ch]) (by rfl) (by rfl) subsT | exact subT)) (by exact appT rfl rfl rfl) lenT) ?_; intro i57)
    refine JD_stretch 1 (by kernel_rfl) ?_
    refine JW_1 (by first | exact op_fieldPtr (k := 1) (Ev.rfl' rfl) rfl rfl rfl rfl | exact op_fieldRefN (k := 1) (Ev.rfl' rfl) rfl rfl rfl rfl nrmT) ?_
    refine ⟨rfl, ?_⟩
    refine JD_s0 (by kernel_rfl) rfl (op_storeN (Ev.rfl' rfl) (Ev.rfl' rfl) cellsT replT nrmT (by rfl) (by rfl) (by rfl)) ?_
    refine JD_end ?_
    (repeat (first | with_reducible refine JCI_seq ?_ | with_reducible refine JQ_thenI ?_ | with_reducible refine JCI_block ?_ | with_reducible refine JCI_skip ?_ | with_reducible refine JCI_exit ?_ | with_reducible refine JQ_then_exit ?_ | with_reducible refine JQ_then_ret ?_ | with_reducible refine JQ_block ?_ | with_reducible refine JQ_block_ret ?_ | with_reducible refine JQ_hit ?_ | ((with_reducible refine JQ_block_miss ?_ ?_); (focus exact rfl)) | with_reducible refine JCI_ret ?_))
    refine JQ_endRound (by rw [hrec]) (by rw [hrec]) (Repl.head _ _ _) i57 ?_
    rw [pagesW_succ, ← hcp]
    exact lessT
  intro d s
  rw [hMf]
  dsimp only
  obtain ⟨cd, hcd⟩ : ∃ cd : Ctx, cd = { c with ds := [{ target := .collected d, args := #[] }] } := ⟨_, rfl⟩
  rw [← hcd]
  have hcX : cd.X = [] ∧ True := ⟨by rw [hcd]; exact hX.1, trivial⟩
  have hpl := pagesW_len b (nW b)
  (repeat (first | with_reducible refine JCI_seq ?_ | with_reducible refine JQ_thenI ?_ | with_reducible refine JCI_block ?_ | with_reducible refine JCI_skip ?_ | with_reducible refine JCI_exit ?_ | with_reducible refine JQ_then_exit ?_ | with_reducible refine JQ_then_ret ?_ | with_reducible refine JQ_block ?_ | with_reducible refine JQ_block_ret ?_ | with_reducible refine JQ_hit ?_ | ((with_reducible refine JQ_block_miss ?_ ?_); (focus exact rfl)) | with_reducible refine JCI_ret ?_))
  (repeat (first | with_reducible refine JCI_seq ?_ | with_reducible refine JQ_thenI ?_ | with_reducible refine JCI_block ?_ | with_reducible refine JCI_skip ?_ | with_reducible refine JCI_exit ?_ | with_reducible refine JQ_then_exit ?_ | with_reducible refine JQ_then_ret ?_ | with_reducible refine JQ_block ?_ | with_reducible refine JQ_block_ret ?_ | with_reducible refine JQ_hit ?_ | ((with_reducible refine JQ_block_miss ?_ ?_); (focus exact rfl)) | with_reducible refine JCI_ret ?_))
  refine JCI_dr (by rintro ⟨a, w, h⟩; first | exact h.elim | (obtain ⟨_, _, _, h, _⟩ := h; cases h)) rfl rfl (by kernel_rfl) ?_
  refine JD_stretch 13 (by kernel_rfl) ?_
  refine JW_1 (by first | exact op_loadRefsN (n := 2) (Ev.rfl' rfl) rfl rfl rfl (by rfl) nrmT | exact op_loadPtrsN (n := 2) (Ev.rfl' rfl) memT (by rfl) (by rfl) (by rfl) (by rfl) nrmT) ?_
  refine JW_1 (op_move rfl) ?_
  refine JW_1 (by first | ((refine op_call Try.call12 (ValidL_ok _ _ _) ⟨evS, ⟨evS, trivial⟩⟩)) | ((refine op_callB lendT Try.call12 (ValidL_ok _ _ _) ⟨evS, ⟨evS, trivial⟩⟩ pureT))) ?_
  refine JW_1 (op_neq (Ev.rfl' rfl) (Ev.rfl' rfl)) ?_
  refine JW_1 (op_move rfl) ?_
  (first | refine JW_i0 rfl rfl (fun hg => (by have hg0 := hg; (try simp at hg); first | exact op_loadRefsN (n := 2) evG rfl rfl rfl (by rfl) nrmT | exact op_loadPtrsN (n := 2) evG memT (by rfl) (by rfl) (by rfl) (by rfl) nrmT)) ?_ | refine JW_i rfl rfl (fun hp hg => (by have hpg := Bool.and_eq_true_iff.2 ⟨hp, hg⟩; have hg0 := hg; (try simp at hg); first | exact op_loadRefsN (n := 2) evG rfl rfl rfl (by rfl) nrmT | exact op_loadPtrsN (n := 2) evG memT (by rfl) (by rfl) (by rfl) (by rfl) nrmT)) ?_)
  (first | refine JW_i0 rfl rfl (fun hg => (by have hg0 := hg; (try simp at hg); first | ((refine op_callBF lendT Try.call17 (BodyF_ok _ _) ⟨evS, trivial⟩ (freshR_v))))) ?_ | refine JW_i rfl rfl (fun hp hg => (by have hpg := Bool.and_eq_true_iff.2 ⟨hp, hg⟩; have hg0 := hg; (try simp at hg); first | ((refine op_callBF lendT Try.call17 (BodyF_ok _ _) ⟨evS, trivial⟩ (freshR_v))))) ?_)
  (first | refine JW_i0 rfl rfl (fun hg => (by have hg0 := hg; (try simp at hg); first | exact op_moveE (Ev.sub rfl (SubL.iteT (by first | assumption | (simp; done) | (simp; omega) | (simp_all; done)) SubL.rfl')) | exact op_moveE (Ev.rfl' rfl))) ?_ | refine JW_i rfl rfl (fun hp hg => (by have hpg := Bool.and_eq_true_iff.2 ⟨hp, hg⟩; have hg0 := hg; (try simp at hg); first | exact op_moveE (Ev.sub rfl (SubL.iteT (by first | assumption | (simp; done) | (simp; omega) | (simp_all; done)) SubL.rfl')) | exact op_moveE (Ev.rfl' rfl))) ?_)
  (first | refine JW_i0 rfl rfl (fun hg => (by have hg0 := hg; (try simp at hg); first | exact op_moveE (Ev.sub rfl (SubL.iteT (by first | assumption | (simp; done) | (simp; omega) | (simp_all; done)) SubL.rfl')) | exact op_moveE (Ev.rfl' rfl))) ?_ | refine JW_i rfl rfl (fun hp hg => (by have hpg := Bool.and_eq_true_iff.2 ⟨hp, hg⟩; have hg0 := hg; (try simp at hg); first | exact op_moveE (Ev.sub rfl (SubL.iteT (by first | assumption | (simp; done) | (simp; omega) | (simp_all; done)) SubL.rfl')) | exact op_moveE (Ev.rfl' rfl))) ?_)
  (first | refine JW_i0 rfl rfl (fun hg => (by have hg0 := hg; (try simp at hg); exact op_slice evG rfl rfl rfl ⟨_, _, evG, (show _ = ((3 + 9 * nW b : Nat) : Int) by first | rfl | omega)⟩ (by omega) (by omega))) ?_ | refine JW_i rfl rfl (fun hp hg => (by have hpg := Bool.and_eq_true_iff.2 ⟨hp, hg⟩; have hg0 := hg; (try simp at hg); exact op_slice evG rfl rfl rfl ⟨_, _, evG, (show _ = ((3 + 9 * nW b : Nat) : Int) by first | rfl | omega)⟩ (by omega) (by omega))) ?_)
  (first | refine JW_i0 rfl rfl (fun hg => (by have hg0 := hg; (try simp at hg); exact op_call Try.call49 (EqualU_ok _ _) ⟨evS, ⟨evS, trivial⟩⟩)) ?_ | refine JW_i rfl rfl (fun hp hg => (by have hpg := Bool.and_eq_true_iff.2 ⟨hp, hg⟩; have hg0 := hg; (try simp at hg); exact op_call Try.call49 (EqualU_ok _ _) ⟨evS, ⟨evS, trivial⟩⟩)) ?_)
  (first | refine JW_i0 rfl rfl (fun hg => (by have hg0 := hg; (try simp at hg); exact op_not evG)) ?_ | refine JW_i rfl rfl (fun hp hg => (by have hpg := Bool.and_eq_true_iff.2 ⟨hp, hg⟩; have hg0 := hg; (try simp at hg); exact op_not evG)) ?_)
  refine JW_1 (op_or (Ev.rfl' rfl) rfl (fun h => by first | exact SubL.rfl' | exact SubL.iteT (by first | (rw [h]; rfl) | (simp_all; done)) SubL.rfl')) ?_
  refine ⟨rfl, ?_⟩
  refine JD_end ?_
  (repeat (first | with_reducible refine JCI_seq ?_ | with_reducible refine JQ_thenI ?_ | with_reducible refine JCI_block ?_ | with_reducible refine JCI_skip ?_ | with_reducible refine JCI_exit ?_ | with_reducible refine JQ_then_exit ?_ | with_reducible refine JQ_then_ret ?_ | with_reducible refine JQ_block ?_ | with_reducible refine JQ_block_ret ?_ | with_reducible refine JQ_hit ?_ | ((with_reducible refine JQ_block_miss ?_ ?_); (focus exact rfl)) | with_reducible refine JCI_ret ?_))
  refine JCI_cond (Ev.rfl' rfl) (fun h => ?_) (fun h => ?_)
  · have e : parseV b lines = (0, [], 14) := by
      by_cases g2 : preB b
      · refine parseV_bad g1 g2 fun ⟨e1, e2⟩ => ?_
        rw [e1, e2] at h; simp at h
      · exact parseV_pre g1 g2
    (repeat (first | with_reducible refine JCI_seq ?_ | with_reducible refine JQ_thenI ?_ | with_reducible refine JCI_block ?_ | with_reducible refine JCI_skip ?_ | with_reducible refine JCI_exit ?_ | with_reducible refine JQ_then_exit ?_ | with_reducible refine JQ_then_ret ?_ | with_reducible refine JQ_block ?_ | with_reducible refine JQ_block_ret ?_ | with_reducible refine JQ_hit ?_ | ((with_reducible refine JQ_block_miss ?_ ?_); (focus exact rfl)) | with_reducible refine JCI_ret ?_))
    refine JCI_region (by rintro ⟨a, w, h⟩; first | exact h.elim | (obtain ⟨_, _, _, h, _⟩ := h; cases h)) rfl ?_
    refine JL_1 rfl (op_buildN (qs := []) rfl rfl rfl rfl trivial (by rfl) nrmT) ?_
    refine JL_s0 (op_storeN (Ev.rfl' rfl) (Ev.rfl' rfl) cellsT replT nrmT (by rfl) (by rfl) (by rfl)) ?_
    refine JL_1 rfl (op_assign rfl) ?_
    refine JL_nil ?_
    (repeat (first | with_reducible refine JCI_seq ?_ | with_reducible refine JQ_thenI ?_ | with_reducible refine JCI_block ?_ | with_reducible refine JCI_skip ?_ | with_reducible refine JCI_exit ?_ | with_reducible refine JQ_then_exit ?_ | with_reducible refine JQ_then_ret ?_ | with_reducible refine JQ_block ?_ | with_reducible refine JQ_block_ret ?_ | with_reducible refine JQ_hit ?_ | ((with_reducible refine JQ_block_miss ?_ ?_); (focus exact rfl)) | with_reducible refine JCI_ret ?_))
    refine JQ_buf0 31 tPg ?_
    exact JQ_retD (none, 0) (Bs := [IsRecO 0 0 (none, 0), Is (.int .i64 14)]) c Try.results20 (by repeat (first | exact Drop1.here _ _ | apply Drop1.next)) ⟨⟨_, _, _, _, rfl, memT, rfl, .inr ⟨rfl, _, rfl, rfl, subT⟩⟩, ⟨⟨_, rfl, subT⟩, trivial⟩⟩ (SubL.eq (by rw [e]; rfl)) (by rw [e]; exact lessT) hcd
  · have g3 : validR (UV (wd b 0)) (pagesW b (nW b)) lines = 0 ∧ bodyW (UV (wd b 0)) (pagesW b (nW b)) = b.take (3 + 9 * nW b) := by simpa using h
    have g2 : preB b := by
      refine ⟨by omega, p2, ?_, p4, p5⟩
      rcases Nat.eq_zero_or_pos (nW b) with h0 | h0
      · exfalso
        have := g3.1
        rw [h0] at this
        exact no_writes this
      · exact h0
    (repeat (first | with_reducible refine JCI_seq ?_ | with_reducible refine JQ_thenI ?_ | with_reducible refine JCI_block ?_ | with_reducible refine JCI_skip ?_ | with_reducible refine JCI_exit ?_ | with_reducible refine JQ_then_exit ?_ | with_reducible refine JQ_then_ret ?_ | with_reducible refine JQ_block ?_ | with_reducible refine JQ_block_ret ?_ | with_reducible refine JQ_hit ?_ | ((with_reducible refine JQ_block_miss ?_ ?_); (focus exact rfl)) | with_reducible refine JCI_ret ?_))
    refine JCI_region (by rintro ⟨a, w, h⟩; first | exact h.elim | (obtain ⟨_, _, _, h, _⟩ := h; cases h)) rfl ?_
    refine JL_1 rfl (by first | exact op_loadRefsN (n := 2) (Ev.rfl' rfl) rfl rfl rfl (by rfl) nrmT | exact op_loadPtrsN (n := 2) (Ev.rfl' rfl) memT (by rfl) (by rfl) (by rfl) (by rfl) nrmT) ?_
    refine JL_s0 (op_storeN (Ev.rfl' rfl) (Ev.rfl' rfl) cellsT replT nrmT (by rfl) (by rfl) (by rfl)) ?_
    refine JL_1 rfl (op_assign rfl) ?_
    refine JL_nil ?_
    (repeat (first | with_reducible refine JCI_seq ?_ | with_reducible refine JQ_thenI ?_ | with_reducible refine JCI_block ?_ | with_reducible refine JCI_skip ?_ | with_reducible refine JCI_exit ?_ | with_reducible refine JQ_then_exit ?_ | with_reducible refine JQ_then_ret ?_ | with_reducible refine JQ_block ?_ | with_reducible refine JQ_block_ret ?_ | with_reducible refine JQ_hit ?_ | ((with_reducible refine JQ_block_miss ?_ ?_); (focus exact rfl)) | with_reducible refine JCI_ret ?_))
    exact JQ_retD s (Bs := [IsRecO (UV (wd b 0)) (pagesW b (nW b)).length s, Is (.int .i64 0)]) c Try.results20 (by repeat (first | exact Drop1.here _ _ | apply Drop1.next)) ⟨⟨_, _, _, _, rfl, memT, rfl, .inr ⟨rfl, _, rfl, rfl, subT⟩⟩, ⟨⟨_, rfl, subT⟩, trivial⟩⟩ (SubL.eq (by rw [parseV_ok g1 g2 g3]; rfl)) (by rw [parseV_ok g1 g2 g3]; exact lessT) hcd
theorem ParseLF_ok (b : List (BitVec 64)) (lines : Int) : FnF Try.prog 20 [IsSl tU64 b, Is (.int .i64 lines)] (IsParseF (parseV b lines)) := (ParseLO_ok b lines).toF pure_pg fun i B φ v h1 h2 => parseF h1 h2
theorem ParseL_ok (b : List (BitVec 64)) (lines : Int) : FnP Try.prog 20 [IsSl tU64 b, Is (.int .i64 lines)] (IsParse (parseV b lines)) := (ParseLF_ok b lines).toP fun B φ v h => parseP h
end Go.Proofs.Ytccgnekcbdkilaa

/- Contracts: whole logs, committed logs, locked and applied pages. Own work. -/
namespace Go.Proofs.Ytccgnekcbdkilaa
open Go.RowKit
set_option linter.unusedVariables false
set_option linter.unusedSimpArgs false
set_option maxRecDepth 100000
@[reducible] def IsWhole (v : Int × List Pg × Bool) : VP := IsTup [IsRec v.1 v.2.1, Is (.bool v.2.2)]
@[reducible] def IsWholeO (v : Int × List Pg × Bool) (i : Option Addr × Nat) : VP := IsTup [IsRecO v.1 v.2.1.length i, Is (.bool v.2.2)]
@[reducible] def IsWholeF (v : Int × List Pg × Bool) (B : Nat) : VP := IsTup [IsRecF v.1 v.2.1 B, Is (.bool v.2.2)]
theorem wholeF {r : Int × List Pg × Bool} {i : Option Addr × Nat} {B : Nat} {φ : Fz} {v : Value} (h : (FreshV B (IsSl tPg r.2.1)).ok φ (slV r.2.1.length i)) (k : (IsWholeO r i).ok φ v) : (IsWholeF r B).ok φ v := by
  obtain ⟨vs, e, k1⟩ := k
  match vs, k1 with
  | [a, b], ⟨h1, h2, _⟩ => exact ⟨[a, b], e, recF h h1, h2, trivial⟩
theorem freshR_whole (r : Int × List Pg × Bool) : FreshR (IsWholeF r) := freshR_tup [IsRecF r.1 r.2.1, fun _ => Is (.bool r.2.2)] ⟨freshR_agg [fun _ => Is (.int .i64 r.1), fun B => FreshV B (IsSl tPg r.2.1)] ⟨freshR_pure pure_is, freshR_v, trivial⟩, freshR_pure pure_is, trivial⟩
noncomputable def wholeV (l : List (BitVec 64)) (lines : Int) : Int × List Pg × Bool :=
  if l.length ≠ 120 then (0, [], false) else ((parseV (l.drop 8) lines).1, (parseV (l.drop 8) lines).2.1, (parseV (l.drop 8) lines).2.2 == 0)
theorem whole_no {l : List (BitVec 64)} {lines : Int} (h : l.length ≠ 120) : wholeV l lines = (0, [], false) := by unfold wholeV; rw [if_pos h]
theorem whole_yes {l : List (BitVec 64)} {lines : Int} (h : l.length = 120) : wholeV l lines = ((parseV (l.drop 8) lines).1, (parseV (l.drop 8) lines).2.1, (parseV (l.drop 8) lines).2.2 == 0) := by unfold wholeV; rw [if_neg (not_not_intro h)]
noncomputable def commV (l : List (BitVec 64)) (lines : Int) : Int × List Pg × Bool :=
  if (wholeV l lines).2.2 = false then (0, [], false) else if markU (wholeV l lines).1 ≠ wd l 0 then (0, [], false) else ((wholeV l lines).1, (wholeV l lines).2.1, true)
-- logrec.Whole: function 30
theorem WholeO_ok (l : List (BitVec 64)) (lines : Int) : Fn Try.prog 30 [IsSl tU64 l, Is (.int .i64 lines)] [] (IsWholeO (wholeV l lines)) (pgsI (wholeV l lines).2.1) := by
  refine Fn.enterN Try.func30 Try.ntmps30 rfl rfl ?_
  intro c hX
  refine JC_seq ?_
  refine JC_region ?_
  (refine JL_n rfl (op_allocN rfl nrmT rfl) ?_; intro i4)
  refine JL_1 rfl (op_assign rfl) ?_
  refine JL_nil ?_
  refine JQ_then (JC_seq (JC_seq ?_))
  refine JC_region ?_
  refine JL_1 rfl (op_move rfl) ?_
  refine JL_1 rfl (by first | exact op_len (Ev.rfl' rfl) rfl | exact op_lenLit (Ev.rfl' rfl) rfl) ?_
  refine JL_1 rfl (op_neq (Ev.rfl' rfl) (Ev.rfl' rfl)) ?_
  refine JL_nil ?_
  refine JQ_then ?_
  refine JC_cond (Ev.rfl' rfl) (fun h1 => ?_) (fun h1 => ?_)
  · have g : l.length ≠ 120 := by simp at h1; omega
    refine JC_seq ?_
    refine JC_region ?_
    refine JL_1 rfl (op_buildN (qs := []) rfl rfl rfl rfl trivial (by rfl) nrmT) ?_
    refine JL_s0 (op_storeN (Ev.rfl' rfl) (Ev.rfl' rfl) cellsT replT nrmT (by rfl) (by rfl) (by rfl)) ?_
    refine JL_1 rfl (op_assign rfl) ?_
    refine JL_nil ?_
    refine JQ_then (JC_ret (JQ_then_ret ?_))
    refine JQ_buf0 31 tPg ?_
    exact JQ_retP (Bs := [IsRecO 0 0 (none, 0), Is (.bool false)]) Try.results30 ⟨⟨_, _, _, _, rfl, memT, rfl, .inr ⟨rfl, _, rfl, rfl, subT⟩⟩, ⟨⟨_, rfl, subT⟩, trivial⟩⟩ (none, 0) (SubL.eq (by rw [whole_no g]; rfl)) (by rw [whole_no g]; exact lessT)
  have g : l.length = 120 := by simp at h1; omega
  refine JC_skip (JQ_then (JC_seq ?_))
  refine JC_region ?_
  refine JL_1 rfl (op_move rfl) ?_
  refine JL_1 rfl (op_slice (Ev.rfl' rfl) rfl rfl ⟨_, _, (Ev.rfl' rfl), (show _ = ((8 : Nat) : Int) by first | rfl | omega)⟩ rfl (by omega) (by omega)) ?_
  refine JL_1 rfl (op_move rfl) ?_
  (refine JL_s rfl (op_callN Try.call20 (ParseLO_ok _ _) ⟨evS, ⟨evS, trivial⟩⟩) ?_; intro i16)
  refine JL_1 rfl (op_move rfl) ?_
  refine JL_1 rfl (op_extract (Ev.rfl' rfl) rfl) ?_
  refine JL_1 rfl (op_extract (Ev.rfl' rfl) rfl) ?_
  (refine JL_n rfl (op_allocN rfl nrmT rfl) ?_; intro i6)
  refine JL_s0 (op_storeN (Ev.rfl' rfl) (Ev.rfl' rfl) cellsT replT nrmT (by rfl) (by rfl) (by rfl)) ?_
  refine JL_1 rfl (op_assign rfl) ?_
  refine JL_nil ?_
  refine JQ_then (JC_seq ?_)
  rw [List.take_length]
  refine JC_region ?_
  refine JL_1 rfl (by first | exact op_loadRefsN (n := 2) (Ev.rfl' rfl) rfl rfl rfl (by rfl) nrmT | exact op_loadPtrsN (n := 2) (Ev.rfl' rfl) memT (by rfl) (by rfl) (by rfl) (by rfl) nrmT) ?_
  refine JL_1 rfl (op_move rfl) ?_
  refine JL_1 rfl (op_eql (Ev.rfl' rfl) (Ev.rfl' rfl)) ?_
  refine JL_s0 (op_storeN (Ev.rfl' rfl) (Ev.rfl' rfl) cellsT replT nrmT (by rfl) (by rfl) (by rfl)) ?_
  refine JL_1 rfl (op_assign rfl) ?_
  refine JL_nil ?_
  refine JQ_then (JC_ret ?_)
  exact JQ_retP (Bs := [IsRecO (parseV (l.drop 8) lines).1 (parseV (l.drop 8) lines).2.1.length i16, Is (.bool ((parseV (l.drop 8) lines).2.2 == 0))]) Try.results30 ⟨⟨_, _, _, _, rfl, memT, rfl, .inr ⟨rfl, _, rfl, rfl, subT⟩⟩, ⟨⟨_, rfl, subT⟩, trivial⟩⟩ i16 (SubL.eq (by rw [whole_yes g]; rfl)) (by rw [whole_yes g]; exact lessT)
-- bodegaref4.Whole: function 31
theorem WholeRO_ok (l : List (BitVec 64)) (lines : Int) : Fn Try.prog 31 [IsSl tU64 l, Is (.int .i64 lines)] [] (IsWholeO (wholeV l lines)) (pgsI (wholeV l lines).2.1) := by
  refine Fn.enterN Try.func31 Try.ntmps31 rfl rfl ?_
  intro c hX
  refine JC_seq ?_
  refine JC_region ?_
  (refine JL_n rfl (op_allocN rfl nrmT rfl) ?_; intro i4)
  refine JL_1 rfl (op_assign rfl) ?_
  refine JL_nil ?_
  refine JQ_then (JC_seq (JC_seq ?_))
  refine JC_region ?_
  refine JL_1 rfl (op_move rfl) ?_
  refine JL_1 rfl (by first | exact op_len (Ev.rfl' rfl) rfl | exact op_lenLit (Ev.rfl' rfl) rfl) ?_
  refine JL_1 rfl (op_neq (Ev.rfl' rfl) (Ev.rfl' rfl)) ?_
  refine JL_nil ?_
  refine JQ_then ?_
  refine JC_cond (Ev.rfl' rfl) (fun h1 => ?_) (fun h1 => ?_)
  · have g : l.length ≠ 120 := by simp at h1; omega
    refine JC_seq ?_
    refine JC_region ?_
    refine JL_1 rfl (op_buildN (qs := []) rfl rfl rfl rfl trivial (by rfl) nrmT) ?_
    refine JL_s0 (op_storeN (Ev.rfl' rfl) (Ev.rfl' rfl) cellsT replT nrmT (by rfl) (by rfl) (by rfl)) ?_
    refine JL_1 rfl (op_assign rfl) ?_
    refine JL_nil ?_
    refine JQ_then (JC_ret (JQ_then_ret ?_))
    refine JQ_buf0 31 tPg ?_
    exact JQ_retP (Bs := [IsRecO 0 0 (none, 0), Is (.bool false)]) Try.results31 ⟨⟨_, _, _, _, rfl, memT, rfl, .inr ⟨rfl, _, rfl, rfl, subT⟩⟩, ⟨⟨_, rfl, subT⟩, trivial⟩⟩ (none, 0) (SubL.eq (by rw [whole_no g]; rfl)) (by rw [whole_no g]; exact lessT)
  have g : l.length = 120 := by simp at h1; omega
  refine JC_skip (JQ_then (JC_seq ?_))
  refine JC_region ?_
  refine JL_1 rfl (op_move rfl) ?_
  refine JL_1 rfl (op_slice (Ev.rfl' rfl) rfl rfl ⟨_, _, (Ev.rfl' rfl), (show _ = ((8 : Nat) : Int) by first | rfl | omega)⟩ rfl (by omega) (by omega)) ?_
  refine JL_1 rfl (op_move rfl) ?_
  (refine JL_s rfl (op_callN Try.call21 (ParseRO_ok _ _) ⟨evS, ⟨evS, trivial⟩⟩) ?_; intro i16)
  refine JL_1 rfl (op_move rfl) ?_
  refine JL_1 rfl (op_extract (Ev.rfl' rfl) rfl) ?_
  refine JL_1 rfl (op_extract (Ev.rfl' rfl) rfl) ?_
  (refine JL_n rfl (op_allocN rfl nrmT rfl) ?_; intro i6)
  refine JL_s0 (op_storeN (Ev.rfl' rfl) (Ev.rfl' rfl) cellsT replT nrmT (by rfl) (by rfl) (by rfl)) ?_
  refine JL_1 rfl (op_assign rfl) ?_
  refine JL_nil ?_
  refine JQ_then (JC_seq ?_)
  rw [List.take_length]
  refine JC_region ?_
  refine JL_1 rfl (by first | exact op_loadRefsN (n := 2) (Ev.rfl' rfl) rfl rfl rfl (by rfl) nrmT | exact op_loadPtrsN (n := 2) (Ev.rfl' rfl) memT (by rfl) (by rfl) (by rfl) (by rfl) nrmT) ?_
  refine JL_1 rfl (op_move rfl) ?_
  refine JL_1 rfl (op_eql (Ev.rfl' rfl) (Ev.rfl' rfl)) ?_
  refine JL_s0 (op_storeN (Ev.rfl' rfl) (Ev.rfl' rfl) cellsT replT nrmT (by rfl) (by rfl) (by rfl)) ?_
  refine JL_1 rfl (op_assign rfl) ?_
  refine JL_nil ?_
  refine JQ_then (JC_ret ?_)
  exact JQ_retP (Bs := [IsRecO (parseV (l.drop 8) lines).1 (parseV (l.drop 8) lines).2.1.length i16, Is (.bool ((parseV (l.drop 8) lines).2.2 == 0))]) Try.results31 ⟨⟨_, _, _, _, rfl, memT, rfl, .inr ⟨rfl, _, rfl, rfl, subT⟩⟩, ⟨⟨_, rfl, subT⟩, trivial⟩⟩ i16 (SubL.eq (by rw [whole_yes g]; rfl)) (by rw [whole_yes g]; exact lessT)
theorem WholeF_ok (l : List (BitVec 64)) (lines : Int) : FnF Try.prog 30 [IsSl tU64 l, Is (.int .i64 lines)] (IsWholeF (wholeV l lines)) := (WholeO_ok l lines).toF pure_pg fun i B φ v h1 h2 => wholeF h1 h2
theorem WholeRF_ok (l : List (BitVec 64)) (lines : Int) : FnF Try.prog 31 [IsSl tU64 l, Is (.int .i64 lines)] (IsWholeF (wholeV l lines)) := (WholeRO_ok l lines).toF pure_pg fun i B φ v h1 h2 => wholeF h1 h2
theorem whole_len {l : List (BitVec 64)} {lines : Int} (h : (wholeV l lines).2.2 = true) : l.length = 120 := Classical.byContradiction fun g => by
  rw [whole_no g] at h; cases h
-- logrec.Committed: function 32
theorem CommittedO_ok (l : List (BitVec 64)) (lines : Int) : Fn Try.prog 32 [IsSl tU64 l, Is (.int .i64 lines)] [] (IsWholeO (commV l lines)) (pgsI (commV l lines).2.1) := by
  refine Fn.enterN Try.func32 Try.ntmps32 rfl rfl ?_
  intro c hX
  refine JC_seq ?_
  refine JC_region ?_
  (refine JL_n rfl (op_allocN rfl nrmT rfl) ?_; intro i4)
  refine JL_1 rfl (op_assign rfl) ?_
  refine JL_nil ?_
  refine JQ_then (JC_seq ?_)
  refine JC_region ?_
  refine JL_1 rfl (op_move rfl) ?_
  refine JL_1 rfl (op_move rfl) ?_
  (refine JL_s rfl (op_callN Try.call30 (WholeO_ok _ _) ⟨evS, ⟨evS, trivial⟩⟩) ?_; intro i13)
  refine JL_1 rfl (op_move rfl) ?_
  refine JL_1 rfl (op_extract (Ev.rfl' rfl) rfl) ?_
  refine JL_1 rfl (op_extract (Ev.rfl' rfl) rfl) ?_
  (refine JL_n rfl (op_allocN rfl nrmT rfl) ?_; intro i6)
  refine JL_s0 (op_storeN (Ev.rfl' rfl) (Ev.rfl' rfl) cellsT replT nrmT (by rfl) (by rfl) (by rfl)) ?_
  refine JL_1 rfl (op_assign rfl) ?_
  refine JL_nil ?_
  refine JQ_then (JC_seq (JC_seq ?_))
  refine JC_region ?_
  refine JL_1 rfl (op_move rfl) ?_
  refine JL_1 rfl (op_not (Ev.rfl' rfl)) ?_
  refine JL_nil ?_
  refine JQ_then ?_
  refine JC_cond (Ev.rfl' rfl) (fun h2 => ?_) (fun h2 => ?_)
  · have g : (wholeV l lines).2.2 = false := by simpa using h2
    have e : commV l lines = (0, [], false) := by unfold commV; rw [if_pos g]
    refine JC_seq ?_
    refine JC_region ?_
    refine JL_1 rfl (op_buildN (qs := []) rfl rfl rfl rfl trivial (by rfl) nrmT) ?_
    refine JL_s0 (op_storeN (Ev.rfl' rfl) (Ev.rfl' rfl) cellsT replT nrmT (by rfl) (by rfl) (by rfl)) ?_
    refine JL_1 rfl (op_assign rfl) ?_
    refine JL_nil ?_
    refine JQ_then (JC_ret (JQ_then_ret ?_))
    refine JQ_buf0 31 tPg ?_
    exact JQ_retP (Bs := [IsRecO 0 0 (none, 0), Is (.bool false)]) Try.results32 ⟨⟨_, _, _, _, rfl, memT, rfl, .inr ⟨rfl, _, rfl, rfl, subT⟩⟩, ⟨⟨_, rfl, subT⟩, trivial⟩⟩ (none, 0) (SubL.eq (by rw [e]; rfl)) (by rw [e]; exact lessT)
  have g : (wholeV l lines).2.2 = true := by simpa using h2
  have hl := whole_len g
  have hz := wd_get (b := l) (k := 0) (by omega)
  clear h2
  refine JC_skip (JQ_then (JC_seq (JC_seq ?_)))
  refine JC_region ?_
  refine JL_1 rfl (by first | exact op_fieldPtr (k := 0) (Ev.rfl' rfl) rfl rfl rfl rfl | exact op_fieldRefN (k := 0) (Ev.rfl' rfl) rfl rfl rfl rfl nrmT) ?_
  refine JL_1 rfl (by first | exact op_loadRef (Ev.rfl' rfl) rfl rfl rfl | exact op_loadPtr (Ev.rfl' rfl) memT (by rfl) (by rfl) (by rfl)) ?_
  refine JL_1 rfl (op_call Try.call52 (Mark_ok _) ⟨evS, trivial⟩) ?_
  refine JL_1 rfl (op_move rfl) ?_
  refine JL_1 rfl (op_extract (Ev.rfl' rfl) rfl) ?_
  refine JL_1 rfl (op_extract (Ev.rfl' rfl) rfl) ?_
  refine JL_1 rfl (op_assign rfl) ?_
  refine JL_1 rfl (op_assign rfl) ?_
  refine JL_nil ?_
  refine JQ_then (JC_seq ?_)
  refine JC_region ?_
  refine JL_1 rfl (op_move rfl) ?_
  refine JL_1 rfl (op_move rfl) ?_
  refine JL_1 rfl (by first | exact op_index (j := 0) (Ev.rfl' rfl) (Ev.rfl' rfl) rfl rfl (by first | rfl | omega) hz | exact op_index (j := 0) (Ev.rfl' rfl) (Ev.rfl' rfl) rfl rfl (by first | rfl | omega) (by assumption)) ?_
  refine JL_1 rfl (by first | exact op_loadRef (Ev.rfl' rfl) rfl rfl rfl | exact op_loadPtr (Ev.rfl' rfl) memT (by rfl) (by rfl) (by rfl)) ?_
  refine JL_1 rfl (op_neq (Ev.rfl' rfl) (Ev.rfl' rfl)) ?_
  refine JL_nil ?_
  refine JQ_then ?_
  refine JC_cond (Ev.rfl' rfl) (fun h5 => ?_) (fun h5 => ?_)
  · have e : commV l lines = (0, [], false) := by
      unfold commV; rw [if_neg (by rw [g]; simp), if_pos (by simpa [UV_inj] using h5)]
    refine JC_seq ?_
    refine JC_region ?_
    refine JL_1 rfl (op_buildN (qs := []) rfl rfl rfl rfl trivial (by rfl) nrmT) ?_
    refine JL_s0 (op_storeN (Ev.rfl' rfl) (Ev.rfl' rfl) cellsT replT nrmT (by rfl) (by rfl) (by rfl)) ?_
    refine JL_1 rfl (op_assign rfl) ?_
    refine JL_nil ?_
    refine JQ_then (JC_ret (JQ_then_ret ?_))
    refine JQ_buf0 31 tPg ?_
    exact JQ_retP (Bs := [IsRecO 0 0 (none, 0), Is (.bool false)]) Try.results32 ⟨⟨_, _, _, _, rfl, memT, rfl, .inr ⟨rfl, _, rfl, rfl, subT⟩⟩, ⟨⟨_, rfl, subT⟩, trivial⟩⟩ (none, 0) (SubL.eq (by rw [e]; rfl)) (by rw [e]; exact lessT)
  have e : commV l lines = ((wholeV l lines).1, (wholeV l lines).2.1, true) := by
    unfold commV; rw [if_neg (by rw [g]; simp), if_neg (by simpa [UV_inj] using h5)]
  refine JC_skip (JQ_then (JC_seq ?_))
  refine JC_region ?_
  refine JL_1 rfl (by first | exact op_loadRefsN (n := 2) (Ev.rfl' rfl) rfl rfl rfl (by rfl) nrmT | exact op_loadPtrsN (n := 2) (Ev.rfl' rfl) memT (by rfl) (by rfl) (by rfl) (by rfl) nrmT) ?_
  refine JL_s0 (op_storeN (Ev.rfl' rfl) (Ev.rfl' rfl) cellsT replT nrmT (by rfl) (by rfl) (by rfl)) ?_
  refine JL_1 rfl (op_assign rfl) ?_
  refine JL_nil ?_
  refine JQ_then (JC_ret ?_)
  exact JQ_retP (Bs := [IsRecO (wholeV l lines).1 (wholeV l lines).2.1.length i13, Is (.bool true)]) Try.results32 ⟨⟨_, _, _, _, rfl, memT, rfl, .inr ⟨rfl, _, rfl, rfl, subT⟩⟩, ⟨⟨_, rfl, subT⟩, trivial⟩⟩ i13 (SubL.eq (by rw [e]; rfl)) (by rw [e]; exact lessT)
-- bodegaref4.Committed: function 33
theorem CommittedRO_ok (l : List (BitVec 64)) (lines : Int) : Fn Try.prog 33 [IsSl tU64 l, Is (.int .i64 lines)] [] (IsWholeO (commV l lines)) (pgsI (commV l lines).2.1) := by
  refine Fn.enterN Try.func33 Try.ntmps33 rfl rfl ?_
  intro c hX
  refine JC_seq ?_
  refine JC_region ?_
  (refine JL_n rfl (op_allocN rfl nrmT rfl) ?_; intro i4)
  refine JL_1 rfl (op_assign rfl) ?_
  refine JL_nil ?_
  refine JQ_then (JC_seq ?_)
  refine JC_region ?_
  refine JL_1 rfl (op_move rfl) ?_
  refine JL_1 rfl (op_move rfl) ?_
  (refine JL_s rfl (op_callN Try.call31 (WholeRO_ok _ _) ⟨evS, ⟨evS, trivial⟩⟩) ?_; intro i13)
  refine JL_1 rfl (op_move rfl) ?_
  refine JL_1 rfl (op_extract (Ev.rfl' rfl) rfl) ?_
  refine JL_1 rfl (op_extract (Ev.rfl' rfl) rfl) ?_
  (refine JL_n rfl (op_allocN rfl nrmT rfl) ?_; intro i6)
  refine JL_s0 (op_storeN (Ev.rfl' rfl) (Ev.rfl' rfl) cellsT replT nrmT (by rfl) (by rfl) (by rfl)) ?_
  refine JL_1 rfl (op_assign rfl) ?_
  refine JL_nil ?_
  refine JQ_then (JC_seq (JC_seq ?_))
  refine JC_region ?_
  refine JL_1 rfl (op_move rfl) ?_
  refine JL_1 rfl (op_not (Ev.rfl' rfl)) ?_
  refine JL_nil ?_
  refine JQ_then ?_
  refine JC_cond (Ev.rfl' rfl) (fun h2 => ?_) (fun h2 => ?_)
  · have g : (wholeV l lines).2.2 = false := by simpa using h2
    have e : commV l lines = (0, [], false) := by unfold commV; rw [if_pos g]
    refine JC_seq ?_
    refine JC_region ?_
    refine JL_1 rfl (op_buildN (qs := []) rfl rfl rfl rfl trivial (by rfl) nrmT) ?_
    refine JL_s0 (op_storeN (Ev.rfl' rfl) (Ev.rfl' rfl) cellsT replT nrmT (by rfl) (by rfl) (by rfl)) ?_
    refine JL_1 rfl (op_assign rfl) ?_
    refine JL_nil ?_
    refine JQ_then (JC_ret (JQ_then_ret ?_))
    refine JQ_buf0 31 tPg ?_
    exact JQ_retP (Bs := [IsRecO 0 0 (none, 0), Is (.bool false)]) Try.results33 ⟨⟨_, _, _, _, rfl, memT, rfl, .inr ⟨rfl, _, rfl, rfl, subT⟩⟩, ⟨⟨_, rfl, subT⟩, trivial⟩⟩ (none, 0) (SubL.eq (by rw [e]; rfl)) (by rw [e]; exact lessT)
  have g : (wholeV l lines).2.2 = true := by simpa using h2
  have hl := whole_len g
  have hz := wd_get (b := l) (k := 0) (by omega)
  clear h2
  refine JC_skip (JQ_then (JC_seq ?_))
  refine JC_region ?_
  refine JL_1 rfl (by first | exact op_fieldPtr (k := 0) (Ev.rfl' rfl) rfl rfl rfl rfl | exact op_fieldRefN (k := 0) (Ev.rfl' rfl) rfl rfl rfl rfl nrmT) ?_
  refine JL_1 rfl (by first | exact op_loadRef (Ev.rfl' rfl) rfl rfl rfl | exact op_loadPtr (Ev.rfl' rfl) memT (by rfl) (by rfl) (by rfl)) ?_
  refine JL_1 rfl (op_call Try.call28 (MarkR_ok _) ⟨evS, trivial⟩) ?_
  refine JL_1 rfl (op_move rfl) ?_
  refine JL_1 rfl (op_extract (Ev.rfl' rfl) rfl) ?_
  refine JL_1 rfl (op_extract (Ev.rfl' rfl) rfl) ?_
  refine JL_1 rfl (op_assign rfl) ?_
  refine JL_1 rfl (op_assign rfl) ?_
  refine JL_nil ?_
  refine JQ_then (JC_seq (JC_seq ?_))
  refine JC_region ?_
  refine JL_1 rfl (op_move rfl) ?_
  refine JL_1 rfl (by first | exact op_index (j := 0) (Ev.rfl' rfl) (Ev.rfl' rfl) rfl rfl (by first | rfl | omega) hz | exact op_index (j := 0) (Ev.rfl' rfl) (Ev.rfl' rfl) rfl rfl (by first | rfl | omega) (by assumption)) ?_
  refine JL_1 rfl (by first | exact op_loadRef (Ev.rfl' rfl) rfl rfl rfl | exact op_loadPtr (Ev.rfl' rfl) memT (by rfl) (by rfl) (by rfl)) ?_
  refine JL_1 rfl (op_move rfl) ?_
  refine JL_1 rfl (op_neq (Ev.rfl' rfl) (Ev.rfl' rfl)) ?_
  refine JL_nil ?_
  refine JQ_then ?_
  refine JC_cond (Ev.rfl' rfl) (fun h5 => ?_) (fun h5 => ?_)
  · have e : commV l lines = (0, [], false) := by
      unfold commV; rw [if_neg (by rw [g]; simp), if_pos (fun e => by rw [e] at h5; simp at h5)]
    refine JC_seq ?_
    refine JC_region ?_
    refine JL_1 rfl (op_buildN (qs := []) rfl rfl rfl rfl trivial (by rfl) nrmT) ?_
    refine JL_s0 (op_storeN (Ev.rfl' rfl) (Ev.rfl' rfl) cellsT replT nrmT (by rfl) (by rfl) (by rfl)) ?_
    refine JL_1 rfl (op_assign rfl) ?_
    refine JL_nil ?_
    refine JQ_then (JC_ret (JQ_then_ret ?_))
    refine JQ_buf0 31 tPg ?_
    exact JQ_retP (Bs := [IsRecO 0 0 (none, 0), Is (.bool false)]) Try.results33 ⟨⟨_, _, _, _, rfl, memT, rfl, .inr ⟨rfl, _, rfl, rfl, subT⟩⟩, ⟨⟨_, rfl, subT⟩, trivial⟩⟩ (none, 0) (SubL.eq (by rw [e]; rfl)) (by rw [e]; exact lessT)
  have e : commV l lines = ((wholeV l lines).1, (wholeV l lines).2.1, true) := by
    have h6 : wd l 0 = markU (wholeV l lines).1 := by simpa [UV_inj] using h5
    unfold commV; rw [if_neg (by rw [g]; simp), if_neg (not_not_intro h6.symm)]
  refine JC_skip (JQ_then (JC_seq ?_))
  refine JC_region ?_
  refine JL_1 rfl (by first | exact op_loadRefsN (n := 2) (Ev.rfl' rfl) rfl rfl rfl (by rfl) nrmT | exact op_loadPtrsN (n := 2) (Ev.rfl' rfl) memT (by rfl) (by rfl) (by rfl) (by rfl) nrmT) ?_
  refine JL_s0 (op_storeN (Ev.rfl' rfl) (Ev.rfl' rfl) cellsT replT nrmT (by rfl) (by rfl) (by rfl)) ?_
  refine JL_1 rfl (op_assign rfl) ?_
  refine JL_nil ?_
  refine JQ_then (JC_ret ?_)
  exact JQ_retP (Bs := [IsRecO (wholeV l lines).1 (wholeV l lines).2.1.length i13, Is (.bool true)]) Try.results33 ⟨⟨_, _, _, _, rfl, memT, rfl, .inr ⟨rfl, _, rfl, rfl, subT⟩⟩, ⟨⟨_, rfl, subT⟩, trivial⟩⟩ i13 (SubL.eq (by rw [e]; rfl)) (by rw [e]; exact lessT)
theorem CommittedF_ok (l : List (BitVec 64)) (lines : Int) : FnF Try.prog 32 [IsSl tU64 l, Is (.int .i64 lines)] (IsWholeF (commV l lines)) := (CommittedO_ok l lines).toF pure_pg fun i B φ v h1 h2 => wholeF h1 h2
theorem CommittedRF_ok (l : List (BitVec 64)) (lines : Int) : FnF Try.prog 33 [IsSl tU64 l, Is (.int .i64 lines)] (IsWholeF (commV l lines)) := (CommittedRO_ok l lines).toF pure_pg fun i B φ v h1 h2 => wholeF h1 h2
-- logrec.Locked: function 24
theorem Locked_ok (p : Pg) (cl : Int) : FnP Try.prog 24 [IsPg p, Is (.int .i64 cl)] (IsTup [Is (.int .u64 (UV (lockU p.h cl))), Is (.int .i64 (lockC p.h cl))]) := by
  refine FnP.enter Try.func24 Try.ntmps24 rfl rfl ?_
  intro c hX
  refine JC_seq ?_
  refine JC_region ?_
  (refine JL_n rfl (op_box (Ev.rfl' rfl) cellsT) ?_; intro i2)
  refine JL_1 rfl (op_assign rfl) ?_
  refine JL_1 rfl (op_assign rfl) ?_
  refine JL_nil ?_
  refine JQ_then (JC_seq ?_)
  refine JC_region ?_
  refine JL_1 rfl (by first | exact op_fieldPtr (k := 1) (Ev.rfl' rfl) rfl rfl rfl rfl | exact op_fieldRefN (k := 1) (Ev.rfl' rfl) rfl rfl rfl rfl nrmT) ?_
  refine JL_1 rfl (by first | exact op_loadRef (Ev.rfl' rfl) rfl rfl rfl | exact op_loadPtr (Ev.rfl' rfl) memT (by rfl) (by rfl) (by rfl)) ?_
  refine JL_1 rfl (op_move rfl) ?_
  refine JL_1 rfl (op_call Try.call50 (Lock_ok _ _) ⟨evS, ⟨evS, trivial⟩⟩) ?_
  refine JL_1 rfl (op_extract (Ev.rfl' rfl) rfl) ?_
  refine JL_1 rfl (op_extract (Ev.rfl' rfl) rfl) ?_
  refine JL_1 rfl (op_assign rfl) ?_
  refine JL_1 rfl (op_assign rfl) ?_
  refine JL_nil ?_
  refine JQ_then (JC_ret ?_)
  refine JQ_ret (Bs := [_, _]) Try.results24 ⟨⟨_, rfl, subT⟩, ⟨⟨_, rfl, subT⟩, trivial⟩⟩ () ?_ (List.nil_sublist _)
  exact SubL.rfl'
-- bodegaref4.Locked: function 25
theorem LockedR_ok (p : Pg) (cl : Int) : FnP Try.prog 25 [IsPg p, Is (.int .i64 cl)] (IsTup [Is (.int .u64 (UV (lockU p.h cl))), Is (.int .i64 (lockC p.h cl))]) := by
  refine FnP.enter Try.func25 Try.ntmps25 rfl rfl ?_
  intro c hX
  refine JC_seq ?_
  refine JC_region ?_
  (refine JL_n rfl (op_box (Ev.rfl' rfl) cellsT) ?_; intro i2)
  refine JL_1 rfl (op_assign rfl) ?_
  refine JL_1 rfl (op_assign rfl) ?_
  refine JL_nil ?_
  refine JQ_then (JC_seq ?_)
  refine JC_region ?_
  refine JL_1 rfl (by first | exact op_fieldPtr (k := 1) (Ev.rfl' rfl) rfl rfl rfl rfl | exact op_fieldRefN (k := 1) (Ev.rfl' rfl) rfl rfl rfl rfl nrmT) ?_
  refine JL_1 rfl (by first | exact op_loadRef (Ev.rfl' rfl) rfl rfl rfl | exact op_loadPtr (Ev.rfl' rfl) memT (by rfl) (by rfl) (by rfl)) ?_
  refine JL_1 rfl (op_move rfl) ?_
  refine JL_1 rfl (op_call Try.call51 (LockR_ok _ _) ⟨evS, ⟨evS, trivial⟩⟩) ?_
  refine JL_1 rfl (op_extract (Ev.rfl' rfl) rfl) ?_
  refine JL_1 rfl (op_extract (Ev.rfl' rfl) rfl) ?_
  refine JL_1 rfl (op_assign rfl) ?_
  refine JL_1 rfl (op_assign rfl) ?_
  refine JL_nil ?_
  refine JQ_then (JC_ret ?_)
  refine JQ_ret (Bs := [_, _]) Try.results25 ⟨⟨_, rfl, subT⟩, ⟨⟨_, rfl, subT⟩, trivial⟩⟩ () ?_ (List.nil_sublist _)
  exact SubL.rfl'
def applW (p : Pg) : List (BitVec 64) := if nextOk p.h then [nextU p.h] ++ p.data else []
theorem nextC_ne {x : BitVec 64} (h : (nextC x != 0) = true) : nextOk x = false := by
  unfold nextC at h
  cases g : nextOk x
  · rfl
  · rw [g] at h; simp at h
theorem nextC_eq {x : BitVec 64} (h : (nextC x != 0) = false) : nextOk x = true := by
  unfold nextC at h
  cases g : nextOk x
  · rw [g] at h; simp at h
  · rfl
-- logrec.Applied: function 26
theorem Applied_ok (p : Pg) : FnP Try.prog 26 [IsPg p] (IsTup [IsSl tU64 (applW p), Is (.int .i64 (nextC p.h))]) := by
  refine FnP.enter Try.func26 Try.ntmps26 rfl rfl ?_
  intro c hX
  refine JC_seq ?_
  refine JC_region ?_
  (refine JL_n rfl (op_box (Ev.rfl' rfl) cellsT) ?_; intro i1)
  refine JL_1 rfl (op_assign rfl) ?_
  refine JL_1 rfl (op_assign rfl) ?_
  refine JL_nil ?_
  refine JQ_then (JC_seq ?_)
  refine JC_region ?_
  refine JL_1 rfl (by first | exact op_fieldPtr (k := 1) (Ev.rfl' rfl) rfl rfl rfl rfl | exact op_fieldRefN (k := 1) (Ev.rfl' rfl) rfl rfl rfl rfl nrmT) ?_
  refine JL_1 rfl (by first | exact op_loadRef (Ev.rfl' rfl) rfl rfl rfl | exact op_loadPtr (Ev.rfl' rfl) memT (by rfl) (by rfl) (by rfl)) ?_
  refine JL_1 rfl (op_call Try.call38 (Next_ok _) ⟨evS, trivial⟩) ?_
  refine JL_1 rfl (op_move rfl) ?_
  refine JL_1 rfl (op_extract (Ev.rfl' rfl) rfl) ?_
  refine JL_1 rfl (op_extract (Ev.rfl' rfl) rfl) ?_
  refine JL_1 rfl (op_assign rfl) ?_
  refine JL_1 rfl (op_assign rfl) ?_
  refine JL_nil ?_
  refine JQ_then (JC_seq (JC_seq ?_))
  refine JC_region ?_
  refine JL_1 rfl (op_move rfl) ?_
  refine JL_1 rfl (op_neq (Ev.rfl' rfl) (Ev.rfl' rfl)) ?_
  refine JL_nil ?_
  refine JQ_then ?_
  refine JC_cond (Ev.rfl' rfl) (fun h2 => ?_) (fun h2 => ?_)
  · have g := nextC_ne h2
    refine JC_seq ?_
    refine JC_region ?_
    refine JL_1 rfl (op_move rfl) ?_
    refine JL_1 rfl (op_assign rfl) ?_
    refine JL_1 rfl (op_assign rfl) ?_
    refine JL_nil ?_
    refine JQ_then (JC_ret (JQ_then_ret ?_))
    exact JQ_ret (Bs := [IsSl tU64 [], Is (.int .i64 (nextC p.h))]) Try.results26 ⟨⟨_, rfl, subT⟩, ⟨⟨_, rfl, subT⟩, trivial⟩⟩ () (SubL.eq (by unfold applW; rw [g]; rfl)) (List.nil_sublist _)
  have g := nextC_eq h2
  refine JC_skip (JQ_then (JC_seq ?_))
  refine JC_freezeB hX (b := i1) replT ?_
  refine JC_set 1 (IsRef (tPg.cells p)) rfl (SubL.fact memT) ?_
  refine JC_region ?_
  refine JL_1 rfl (op_move rfl) ?_
  (refine JL_n rfl (op_buildSliceO (T := tU64) ([nextU p.h]) (size := 1) (qs := [(0, _)]) rfl rfl rfl ⟨⟨rfl, _, (Ev.rfl' rfl), cellsT⟩, trivial⟩ (by rfl) (by rfl) subzT) ?_; intro i16)
  refine JL_1 rfl (by first | exact op_fieldPtr (k := 2) (Ev.rfl' rfl) rfl rfl rfl rfl | exact op_fieldRefN (k := 2) (Ev.rfl' rfl) rfl rfl rfl rfl nrmT) ?_
  refine JL_1 rfl (op_sliceRef (T := tU64) (p.data) (Ev.rfl' rfl) rfl rfl (by rfl) (by rfl) subzT) ?_
  (refine JL_s rfl (op_app (Ev.rfl' rfl) (fun _ => replT) evS (by exact appT rfl rfl rfl) lenT) ?_; intro i19)
  refine JL_1 rfl (op_assign rfl) ?_
  refine JL_1 rfl (op_assign rfl) ?_
  refine JL_nil ?_
  refine JQ_then (JC_ret ?_)
  refine JQ_freeze hX replT ?_
  exact JQ_ret (Bs := [IsSl tU64 ([nextU p.h] ++ p.data), Is (.int .i64 0)]) Try.results26 ⟨⟨_, rfl, subT⟩, ⟨⟨_, rfl, subT⟩, trivial⟩⟩ () (SubL.eq (by unfold applW nextC; rw [g]; rfl)) (List.nil_sublist _)
-- bodegaref4.Applied: function 27
theorem AppliedR_ok (p : Pg) : FnP Try.prog 27 [IsPg p] (IsTup [IsSl tU64 (applW p), Is (.int .i64 (nextC p.h))]) := by
  refine FnP.enter Try.func27 Try.ntmps27 rfl rfl ?_
  intro c hX
  refine JC_seq ?_
  refine JC_region ?_
  (refine JL_n rfl (op_box (Ev.rfl' rfl) cellsT) ?_; intro i1)
  refine JL_1 rfl (op_assign rfl) ?_
  refine JL_1 rfl (op_assign rfl) ?_
  refine JL_nil ?_
  refine JQ_then (JC_seq ?_)
  refine JC_region ?_
  refine JL_1 rfl (by first | exact op_fieldPtr (k := 1) (Ev.rfl' rfl) rfl rfl rfl rfl | exact op_fieldRefN (k := 1) (Ev.rfl' rfl) rfl rfl rfl rfl nrmT) ?_
  refine JL_1 rfl (by first | exact op_loadRef (Ev.rfl' rfl) rfl rfl rfl | exact op_loadPtr (Ev.rfl' rfl) memT (by rfl) (by rfl) (by rfl)) ?_
  refine JL_1 rfl (op_call Try.call41 (NextR_ok _) ⟨evS, trivial⟩) ?_
  refine JL_1 rfl (op_move rfl) ?_
  refine JL_1 rfl (op_extract (Ev.rfl' rfl) rfl) ?_
  refine JL_1 rfl (op_extract (Ev.rfl' rfl) rfl) ?_
  refine JL_1 rfl (op_assign rfl) ?_
  refine JL_1 rfl (op_assign rfl) ?_
  refine JL_nil ?_
  refine JQ_then (JC_seq (JC_seq ?_))
  refine JC_region ?_
  refine JL_1 rfl (op_move rfl) ?_
  refine JL_1 rfl (op_neq (Ev.rfl' rfl) (Ev.rfl' rfl)) ?_
  refine JL_nil ?_
  refine JQ_then ?_
  refine JC_cond (Ev.rfl' rfl) (fun h2 => ?_) (fun h2 => ?_)
  · have g := nextC_ne h2
    refine JC_seq ?_
    refine JC_region ?_
    refine JL_1 rfl (op_move rfl) ?_
    refine JL_1 rfl (op_assign rfl) ?_
    refine JL_1 rfl (op_assign rfl) ?_
    refine JL_nil ?_
    refine JQ_then (JC_ret (JQ_then_ret ?_))
    exact JQ_ret (Bs := [IsSl tU64 [], Is (.int .i64 (nextC p.h))]) Try.results27 ⟨⟨_, rfl, subT⟩, ⟨⟨_, rfl, subT⟩, trivial⟩⟩ () (SubL.eq (by unfold applW; rw [g]; rfl)) (List.nil_sublist _)
  have g := nextC_eq h2
  refine JC_skip (JQ_then (JC_seq ?_))
  refine JC_region ?_
  refine JL_1 rfl (op_move rfl) ?_
  (refine JL_n rfl (op_buildSliceO (T := tU64) ([nextU p.h]) (size := 1) (qs := [(0, _)]) rfl rfl rfl ⟨⟨rfl, _, (Ev.rfl' rfl), cellsT⟩, trivial⟩ (by rfl) (by rfl) subzT) ?_; intro i18)
  refine JL_1 rfl (op_assign rfl) ?_
  refine JL_nil ?_
  refine JQ_then (JC_seq (JC_seq ?_))
  refine JC_freezeB hX (b := i1) replT ?_
  refine JC_set 1 (IsRef (tPg.cells p)) rfl (SubL.fact memT) ?_
  refine JC_region ?_
  refine JL_1 rfl (op_assign rfl) ?_
  refine JL_nil ?_
  refine JQ_then (JC_block ?_)
  refine JC_loopP (fun i : Nat × (Option Addr × Nat) => i.1 ≤ 7) (fun i => [(1, IsRef (tPg.cells p)), (7, Is (.int .i64 (i.1 : Nat))), (6, Is (slV ([nextU p.h] ++ p.data.take i.1).length i.2))]) (fun i => [buf (slV ([nextU p.h] ++ p.data.take i.1).length i.2) 28 tU64 ([nextU p.h] ++ p.data.take i.1)]) (fun i => 7 - i.1) (0, (some ⟨i18, 0, none⟩, 1)) (Nat.zero_le _) esubT lessT ?_
  rintro ⟨j, i4⟩ hj
  dsimp only at hj ⊢
  refine JC_seq (JC_seq ?_)
  refine JC_region ?_
  refine JL_1 rfl (op_move rfl) ?_
  refine JL_1 rfl (op_lss (Ev.rfl' rfl) (Ev.rfl' rfl)) ?_
  refine JL_nil ?_
  refine JQ_then ?_
  refine JC_cond (Ev.rfl' rfl) (fun h6 => ?_) (fun h6 => ?_)
  · have hj' : (j : Int) < 7 := of_decide_eq_true h6
    obtain ⟨x, hd⟩ : ∃ x, p.data[j]? = some x := ⟨p.data[j]'(by simp; omega), List.getElem?_eq_getElem _⟩
    have hts := take_add1 hd
    clear h6
    refine JC_skip (JQ_then (JC_seq (JC_block ?_)))
    refine JC_region ?_
    refine JL_1 rfl (op_move rfl) ?_
    refine JL_1 rfl (op_move rfl) ?_
    refine JL_1 rfl (by first | exact op_fieldPtr (k := 2) (Ev.rfl' rfl) rfl rfl rfl rfl | exact op_fieldRefN (k := 2) (Ev.rfl' rfl) rfl rfl rfl rfl nrmT) ?_
    refine JL_1 rfl (by first | exact op_indexRef (j := _) (T := tU64) (p.data) (Ev.rfl' rfl) (Ev.rfl' rfl) rfl rfl (by rfl) subsT (by first | rfl | omega) hd | exact op_indexRef (j := _) (T := tU64) (p.data) (Ev.rfl' rfl) (Ev.rfl' rfl) rfl rfl (by rfl) subsT (by first | rfl | omega) (by assumption)) ?_
    refine JL_1 rfl (by first | exact op_loadRef (Ev.rfl' rfl) rfl rfl rfl | exact op_loadPtr (Ev.rfl' rfl) memT (by rfl) (by rfl) (by rfl)) ?_
    refine JL_1 rfl (op_buildSlice (size := 1) (qs := [(0, _)]) rfl rfl rfl ⟨⟨rfl, _, (Ev.rfl' rfl), cellsT⟩, trivial⟩ (by rfl) (by rfl)) ?_
    (refine JL_s rfl (op_app (Ev.rfl' rfl) (fun _ => replT) (by first | exact Ev.rfl' rfl | exact Ev.sub rfl (by first | exact SubL.row (xs := [x]) (by rfl) (by rfl) subsT | exact subT)) (by exact appT rfl rfl rfl) lenT) ?_; intro i29)
    refine JL_1 rfl (op_assign rfl) ?_
    refine JL_nil ?_
    refine JQ_block (JQ_then ?_)
    refine JC_region ?_
    refine JL_1 rfl (op_move rfl) ?_
    refine JL_1 rfl (op_add (Ev.rfl' rfl) (Ev.rfl' rfl) wrapT) ?_
    refine JL_1 rfl (op_assign rfl) ?_
    refine JL_nil ?_
    rw [List.append_assoc [nextU p.h], ← hts]
    exact JQ_roundP (j + 1, i29) (by dsimp only; omega) (by dsimp only; omega) esubT lessT
  have hj7 : j = 7 := by have := of_decide_eq_false h6; omega
  subst hj7
  have hts : p.data.take 7 = p.data := rfl
  clear h6
  refine JC_exit (JQ_then_exit (JQ_then_exit (JQ_hit (JQ_then (JC_seq ?_)))))
  refine JC_region ?_
  refine JL_1 rfl (op_move rfl) ?_
  refine JL_1 rfl (op_assign rfl) ?_
  refine JL_1 rfl (op_assign rfl) ?_
  refine JL_nil ?_
  refine JQ_then (JC_ret ?_)
  refine JQ_freeze hX replT ?_
  exact JQ_ret (Bs := [IsSl tU64 ([nextU p.h] ++ p.data.take 7), Is (.int .i64 0)]) Try.results27 ⟨⟨_, rfl, subT⟩, ⟨⟨_, rfl, subT⟩, trivial⟩⟩ () (SubL.eq (by unfold applW nextC; rw [g, hts]; rfl)) (List.nil_sublist _)
end Go.Proofs.Ytccgnekcbdkilaa

/- The contract of bodegahand.Pick: the remainder that is not negative. Own work. -/
namespace Go.Proofs.Ytccgnekcbdkilaa
open Go.RowKit
set_option linter.unusedVariables false
set_option linter.unusedSimpArgs false
theorem pick_emod (n k : Int) (h : 1 ≤ k) : (n.tmod k + k) % k = n % k := by
  rw [Int.add_emod_right, Int.tmod_eq_emod]
  split
  · show (n % k - 0) % k = _; rw [Int.sub_zero, Int.emod_emod_of_dvd _ (Int.dvd_refl k)]
  · rw [Int.natAbs_of_nonneg (by omega), Int.sub_emod, Int.emod_self]; simp
theorem Pick_any (n k : Int) (w : World) (hb : 1 ≤ k) (hb2 : k ≤ 4611686018427387903) :
    Calls Try.prog 10 #[.int .i64 n, .int .i64 k] w fun e w' => e = .returned (.int .i64 (n % k)) ∧ w = w' := by
  have h1 := Int.tmod_lt_of_pos n (show 0 < k by omega)
  have h2 := Int.lt_tmod_of_pos n (show 0 < k by omega)
  have H := Lib.hid (pick_emod n k hb)
  go_enter Try.func10, Try.ntmps10
  go_wp2
  go_ret
  refine ⟨?_, rfl⟩
  rw [← H.out]
  rfl
/-- The same, the remainder as a new number. -/
theorem Pick_ex (n k : Int) (w : World) (hb : 1 ≤ k) (hb2 : k ≤ 4611686018427387903) :
    Calls Try.prog 10 #[.int .i64 n, .int .i64 k] w fun e w' => ∃ r : Int, e = .returned (.int .i64 r) ∧ 0 ≤ r ∧ r < k ∧ Hid (r = n % k) ∧ w = w' :=
  (Pick_any n k w hb hb2).mono fun e w' ⟨he, hw⟩ => ⟨n % k, he, Int.emod_nonneg _ (by omega), Int.emod_lt_of_pos _ (by omega), rfl, hw⟩
/-- Inside a region that draws: the remainder as a new natural number. -/
theorem call_pick {W : World} {K : Value → Prop} (n k : Int) (hb : 1 ≤ k) (hb2 : k ≤ 4611686018427387903) (h : ∀ j : Nat, (j : Int) < k → Hid ((j : Int) = n % k) → K (.int .i64 (j : Int))) :
    ∃ v, Calls Try.prog 10 #[.int .i64 n, .int .i64 k] W (fun e w'' => e = .returned v ∧ w'' = W) ∧ K v := by
  obtain ⟨j, hj⟩ := Int.eq_ofNat_of_zero_le (Int.emod_nonneg n (show k ≠ 0 by omega))
  have hlt := Int.emod_lt_of_pos n (show 0 < k by omega)
  refine ⟨_, (Pick_any n k W hb hb2).mono fun e w' ⟨he, hw⟩ => ⟨he, hw.symm⟩, ?_⟩
  rw [hj]
  exact h j (by omega) hj.symm
end Go.Proofs.Ytccgnekcbdkilaa

/- From 'well formed' to a bit vector, to bounds. Own work. -/
namespace Go.Proofs.Ytccgnekcbdkilaa
open Go.RowKit
theorem u64_of_wf {a : Int} (h : (Lit.int .u64 a).wf = true) : ∃ x : BitVec 64, a = UV x := by
  simp [Lit.wf, IntKind.min, IntKind.max, IntKind.signed, IntKind.bits] at h
  refine ⟨BitVec.ofNat 64 a.toNat, ?_⟩
  unfold UV
  rw [BitVec.toNat_ofNat]
  omega
theorem u32_of_wf {a : Int} (h : (Lit.int .u32 a).wf = true) : ∃ x : BitVec 32, a = UV x := by
  simp [Lit.wf, IntKind.min, IntKind.max, IntKind.signed, IntKind.bits] at h
  refine ⟨BitVec.ofNat 32 a.toNat, ?_⟩
  unfold UV
  rw [BitVec.toNat_ofNat]
  omega
theorem u8_of_wf {a : Int} (h : (Lit.int .u8 a).wf = true) : ∃ x : BitVec 8, a = UV x := by
  simp [Lit.wf, IntKind.min, IntKind.max, IntKind.signed, IntKind.bits] at h
  refine ⟨BitVec.ofNat 8 a.toNat, ?_⟩
  unfold UV
  rw [BitVec.toNat_ofNat]
  omega
theorem i64_of_wf {a : Int} (h : (Lit.int .i64 a).wf = true) : -9223372036854775808 ≤ a ∧ a ≤ 9223372036854775807 := by
  simp [Lit.wf, IntKind.min, IntKind.max, IntKind.signed, IntKind.bits] at h
  omega
end Go.Proofs.Ytccgnekcbdkilaa

/- From the frame's reading of a slice of integers to a list of bit vectors. Own work. -/
namespace Go.Proofs.Ytccgnekcbdkilaa
open Go.RowKit
set_option linter.unusedVariables false
set_option linter.unusedSimpArgs false
theorem sl_of_row {k : IntKind} {w : World} {a : Option Addr} {len cap : Nat} {zs : List Int}
    (h : (a = none ∧ len = 0 ∧ cap = 0 ∧ zs = []) ∨
      ∃ x, a = some x ∧ len ≤ cap ∧ cap ≤ maxLen ∧ zs.length = cap ∧ (∀ i, i < zs.length → w.cell? (x.add i) = some (.int k (zs.getD i 0))) ∧ ∀ n ∈ zs, (Lit.int k n).wf = true) :
    Sl w (.slice a len cap) ((zs.take len).map (Value.int k)) ∧ (zs.take len).length = len ∧ ∀ n ∈ zs.take len, (Lit.int k n).wf = true := by
  rcases h with ⟨rfl, rfl, rfl, rfl⟩ | ⟨x, rfl, h1, h2, h3, h4, h5⟩
  · exact ⟨⟨rfl, .inl ⟨_, _, rfl, rfl⟩⟩, rfl, by simp⟩
  · have hl : (zs.take len).length = len := by rw [List.length_take]; omega
    refine ⟨⟨by simp, ?_⟩, hl, fun n hn => h5 n (List.mem_of_mem_take hn)⟩
    rw [List.length_map, hl]
    by_cases h0 : len = 0
    · subst h0; exact .inl ⟨_, _, rfl, rfl⟩
    · obtain ⟨b, o, sp⟩ := x
      have hc := h4 0 (by omega)
      have hsp : sp = none := by simpa [Addr.add] using World.cell?_spot hc
      subst hsp
      refine .inr ⟨b, o, cap, rfl, h1, h2, block_lt_of_cell (a := ⟨b, o, none⟩) (by simpa [Addr.add] using hc), fun i u hu => ?_⟩
      rw [List.getElem?_map] at hu
      have hi : i < len := by
        rcases Nat.lt_or_ge i len with g | g
        · exact g
        · rw [List.getElem?_eq_none (by rw [hl]; exact g)] at hu; cases hu
      have hd := h4 i (by omega)
      rw [← Addr.add_lit b o i, hd]
      rw [List.getElem?_take_of_lt hi, List.getElem?_eq_getElem (by omega)] at hu
      simp only [Option.map_some] at hu
      rw [← hu, List.getD_eq_getElem?_getD, List.getElem?_eq_getElem (by omega)]
      rfl
theorem u8s_of_wf : ∀ {l : List Int}, (∀ n ∈ l, (Lit.int .u8 n).wf = true) → ∃ bs : List (BitVec 8), l.map (Value.int .u8) = bs.map fun b => Value.int .u8 (UV b)
  | [], _ => ⟨[], rfl⟩
  | a :: l, h => by
    obtain ⟨x, rfl⟩ := u8_of_wf (h a List.mem_cons_self)
    obtain ⟨bs, e⟩ := u8s_of_wf fun n hn => h n (List.mem_cons_of_mem _ hn)
    exact ⟨x :: bs, by rw [List.map_cons, List.map_cons, e]⟩
theorem u64s_of_wf : ∀ {l : List Int}, (∀ n ∈ l, (Lit.int .u64 n).wf = true) → ∃ bs : List (BitVec 64), l.map (Value.int .u64) = bs.map fun b => Value.int .u64 (UV b)
  | [], _ => ⟨[], rfl⟩
  | a :: l, h => by
    obtain ⟨x, rfl⟩ := u64_of_wf (h a List.mem_cons_self)
    obtain ⟨bs, e⟩ := u64s_of_wf fun n hn => h n (List.mem_cons_of_mem _ hn)
    exact ⟨x :: bs, by rw [List.map_cons, List.map_cons, e]⟩
end Go.Proofs.Ytccgnekcbdkilaa

/- From the frame's readings to lists: integers. Own work. -/
namespace Go.Proofs.Ytccgnekcbdkilaa
open Go.RowKit Go.ChangeShapes Go.WideShapes Go.ChangeAt
set_option linter.unusedVariables false
set_option linter.unusedSimpArgs false
section
variable {H : Type} {enc : TypeId × Value → H} {P : Program} {w : World} {base : Nat} {held : Bool}
theorem open_ints2 {t e : TypeId} {k : IntKind} {r : Reach} {b0 : Nat} {v : Value} {d : DataW H} {ps : List MemPlace} (ht : P.underlying t = some (.slice e)) (he : P.underlying e = some (.int k)) (hc : P.cellsOf e = 1)
    (hval : Value.okWide P w r b0 t v) (h : DataW.Trod enc P w base (fun _ => true) held t v d ps) :
    ∃ zs : List Int, Sl w v (zs.map (Value.int k)) ∧ ∀ n ∈ zs, (Lit.int k n).wf = true := by
  obtain ⟨a, len, cap, rfl⟩ := okWide_slice ht hval
  obtain ⟨fuel, hf⟩ := h
  have hrow : ∃ zs : List Int, (a = none ∧ len = 0 ∧ cap = 0 ∧ zs = []) ∨
      ∃ x, a = some x ∧ len ≤ cap ∧ cap ≤ maxLen ∧ zs.length = cap ∧ (∀ i, i < zs.length → w.cell? (x.add i) = some (.int k (zs.getD i 0))) ∧ ∀ n ∈ zs, (Lit.int k n).wf = true := by
    rcases open_ints ht he hc hf with ⟨hcs, _⟩ | ⟨x, l, c, zs, hcs, _, hl, hm, hz, _, hcell, hwz⟩
    · simp [Value.cells] at hcs
      obtain ⟨rfl, rfl, rfl⟩ := hcs
      exact ⟨[], .inl ⟨rfl, rfl, rfl, rfl⟩⟩
    · simp [Value.cells] at hcs
      obtain ⟨rfl, rfl, rfl⟩ := hcs
      exact ⟨zs, .inr ⟨_, rfl, hl, hm, by simpa using hz, hcell, hwz⟩⟩
  obtain ⟨zs, hz⟩ := hrow
  obtain ⟨h1, _, h2⟩ := sl_of_row hz
  exact ⟨zs.take len, h1, h2⟩
theorem trod_lt0 {t : TypeId} {v : Value} {d : DataW H} {ps : List MemPlace} {sp : Nat → Bool} (h : DataW.Trod enc P w 0 sp held t v d ps) : ∀ x ∈ ps, x.block < w.heap.size := by
  obtain ⟨m, hm⟩ := h; exact DataW.trod_lt m _ _ _ hm
end
end Go.Proofs.Ytccgnekcbdkilaa

/- The bridge: what a call's arguments read as, told by predicates; contracts as statements of the frame. Own work. -/
namespace Go.Proofs.Ytccgnekcbdkilaa
open Go.RowKit Go.ChangeShapes Go.WideShapes Go.ChangeAt
set_option linter.unusedVariables false
set_option linter.unusedSimpArgs false
/-- All cells of a world stay. -/
def phi (w : World) : Fz := fun b i => w.cell? ⟨b, i, none⟩
theorem Fn.run {P : Program} {f : FuncId} {As : List VP} {r : Value} (h : FnP P f As (Is r)) (w : World) (vs : List Value) (hv : Alls (phi w) As vs) : Calls P f vs.toArray w fun e w' => e = .returned r ∧ Below w.heap.size w w' := by
  refine (h (phi w) w vs hv ⟨fun _ _ _ h => h, by simp, List.Pairwise.nil⟩).mono ?_
  rintro e w' ⟨i, v, φ', rfl, h1, h2⟩
  have h1' : v = r := h1
  subst h1'
  exact ⟨rfl, Kpt.below (by simpa [names] using h2.kept)⟩
theorem choose_lt' {α : Type} [Inhabited α] {p : Nat → α → Prop} {n : Nat} (h : ∀ i, i < n → ∃ a, p i a) : ∃ f : Nat → α, ∀ i, i < n → p i (f i) :=
  Go.Deep.choose_lt h
def tU32 : Ty (BitVec 32) := ⟨1, fun n => [Is (.int .u32 (UV n))], fun _ => rfl⟩
def tU8 : Ty (BitVec 8) := ⟨1, fun n => [Is (.int .u8 (UV n))], fun _ => rfl⟩
def tBool : Ty Bool := ⟨1, fun b => [Is (.bool b)], fun _ => rfl⟩
def tSl {α : Type} (T : Ty α) : Ty (List α) := ⟨1, fun xs => [IsSl T xs], fun _ => rfl⟩
def I64ok (a : Int) : Prop := -9223372036854775808 ≤ a ∧ a ≤ 9223372036854775807
section
variable {H : Type} {enc : TypeId × Value → H} {P : Program} {w : World} {base : Nat} {sp : Nat → Bool} {held : Bool}
/-- The cells of a type are read as T tells. -/
def Rds {H : Type} (enc : TypeId × Value → H) (P : Program) (w : World) (base : Nat) (sp : Nat → Bool) (held : Bool) {α : Type} (t : TypeId) (T : Ty α) (R : α → Prop) : Prop :=
  ∀ (fuel : Nat) (cs : List Value) (x : DataW H × List MemPlace), DataW.trod enc P w base sp held fuel t cs = some x → ∃ a, Alls (phi w) (T.cells a) cs ∧ ones cs ∧ R a
theorem ones_app {us vs : List Value} (h : ones us) (k : ones vs) : ones (us ++ vs) := fun u hu => (List.mem_append.1 hu).elim (h u) (k u)
theorem ones_1 {v : Value} (h : v.oneCell' = true) : ones [v] := ones_cons h ones_nil
theorem rds_i64 {t : TypeId} (ht : P.underlying t = some (.int .i64)) : Rds enc P w base sp held t tI64 I64ok := by
  intro fuel cs x h
  obtain ⟨a, rfl, _, hw⟩ := DataW.trod_int ht h
  exact ⟨a, ⟨rfl, trivial⟩, ones_1 rfl, i64_of_wf hw⟩
theorem rds_u64 {t : TypeId} (ht : P.underlying t = some (.int .u64)) : Rds enc P w base sp held t tU64 (fun _ => True) := by
  intro fuel cs x h
  obtain ⟨a, rfl, _, hw⟩ := DataW.trod_int ht h
  obtain ⟨b, rfl⟩ := u64_of_wf hw
  exact ⟨b, ⟨rfl, trivial⟩, ones_1 rfl, trivial⟩
theorem rds_u32 {t : TypeId} (ht : P.underlying t = some (.int .u32)) : Rds enc P w base sp held t tU32 (fun _ => True) := by
  intro fuel cs x h
  obtain ⟨a, rfl, _, hw⟩ := DataW.trod_int ht h
  obtain ⟨b, rfl⟩ := u32_of_wf hw
  exact ⟨b, ⟨rfl, trivial⟩, ones_1 rfl, trivial⟩
theorem rds_u8 {t : TypeId} (ht : P.underlying t = some (.int .u8)) : Rds enc P w base sp held t tU8 (fun _ => True) := by
  intro fuel cs x h
  obtain ⟨a, rfl, _, hw⟩ := DataW.trod_int ht h
  obtain ⟨b, rfl⟩ := u8_of_wf hw
  exact ⟨b, ⟨rfl, trivial⟩, ones_1 rfl, trivial⟩
theorem rds_bool {t : TypeId} (ht : P.underlying t = some .bool) : Rds enc P w base sp held t tBool (fun _ => True) := by
  intro fuel cs x h
  obtain ⟨a, rfl, _⟩ := DataW.trod_bool ht h
  exact ⟨a, ⟨rfl, trivial⟩, ones_1 rfl, trivial⟩
theorem rds_slice {α : Type} {T : Ty α} {R : α → Prop} {t e : TypeId} (ht : P.underlying t = some (.slice e)) (hc : P.cellsOf e = T.size) (hs : Nat.blt 0 T.size = true) (he : Rds enc P w base sp held e T R) : Rds enc P w base sp held t (tSl T) (fun xs => ∀ a ∈ xs, R a) := by
  intro fuel cs x h
  have hs' : 0 < T.size := Nat.le_of_ble_eq_true hs
  rcases Go.Deep.open_slice ht h with ⟨rfl, _⟩ | ⟨a, len, cap, m, n, D, Pl, rfl, _, hl, hm, hmm, _, hx⟩
  · exact ⟨[], ⟨⟨none, 0, 0, rfl, rfl, Nat.le_refl _, Nat.zero_le _, .inl rfl⟩, trivial⟩, ones_1 rfl, fun a ha => absurd ha (List.not_mem_nil)⟩
  have hlm : len ≤ m := by rw [hmm]; split <;> omega
  rcases Nat.eq_zero_or_pos len with h0 | h0
  · subst h0
    exact ⟨[], ⟨⟨some a, 0, cap, rfl, rfl, Nat.zero_le _, hm, .inl rfl⟩, trivial⟩, ones_1 rfl, fun a ha => absurd ha (List.not_mem_nil)⟩
  have hspot : a.spot = none := by
    obtain ⟨cs', h1, h2⟩ := hx 0 (by omega)
    rw [hc] at h1
    obtain ⟨_, hlen, hcell⟩ := World.cells?_some h1
    have h3 := hcell 0 hs'
    rw [List.getElem?_eq_getElem (by omega)] at h3
    simpa [Addr.add] using World.cell?_spot h3
  have key : ∀ i, i < len → ∃ y : α, a.spot = none ∧ RefAt (phi w) a.block (a.off + i * T.size) (T.cells y) ∧ R y := fun i hi => by
    obtain ⟨cs', h1, h2⟩ := hx i (by omega)
    rw [hc] at h1
    obtain ⟨_, hlen, hcell⟩ := World.cells?_some h1
    obtain ⟨y, g1, g2, g3⟩ := he _ _ _ h2
    refine ⟨y, hspot, fun j A hA => ?_, g3⟩
    obtain ⟨u, k1, k2⟩ := g1.get hA
    refine ⟨u, ?_, k2, g2 u (List.mem_of_getElem? k1)⟩
    have hj : j < T.size := by
      have := (List.getElem?_eq_some_iff.1 hA).1
      rw [T.len] at this; exact this
    have h3 := hcell j hj
    rw [k1] at h3
    obtain ⟨b, o, q⟩ := a
    dsimp only at hspot
    subst hspot
    rw [addr_add, addr_add] at h3
    exact h3
  obtain ⟨y0, _, _⟩ := key 0 h0
  have : Inhabited α := ⟨y0⟩
  obtain ⟨A, hA⟩ := Go.Deep.choose_lt key
  obtain ⟨b, o, q⟩ := a
  dsimp only at hspot hA
  subst hspot
  refine ⟨(List.range len).map A, ⟨⟨some ⟨b, o, none⟩, len, cap, rfl, by simp, hl, hm, .inr ⟨b, o, rfl, fun k x hk => ?_⟩⟩, trivial⟩, ones_1 rfl, fun y hy => ?_⟩
  · have hlt : k < len := by
      have := (List.getElem?_eq_some_iff.1 hk).1
      simpa using this
    rw [List.getElem?_map, List.getElem?_range hlt] at hk
    simp only [Option.map_some, Option.some.injEq] at hk
    subst hk
    exact (hA k hlt).2.1
  · obtain ⟨i, hi, rfl⟩ := List.mem_map.1 hy
    exact (hA i (List.mem_range.1 hi)).2.2
/-- An argument of one cell. -/
theorem rds_arg1 {α : Type} {T : Ty α} {R : α → Prop} {t : TypeId} {v : Value} {d : DataW H} {ps : List MemPlace} {A : α → VP} (hT : ∀ a, T.cells a = [A a]) (he : Rds enc P w base sp held t T R) (hv : v.cells.toList = [v])
    (h : DataW.Trod enc P w base sp held t v d ps) : ∃ a, (A a).ok (phi w) v ∧ R a := by
  obtain ⟨fuel, hf⟩ := h
  obtain ⟨a, h1, _, h2⟩ := he _ _ _ hf
  rw [hv, hT] at h1
  exact ⟨a, h1.1, h2⟩
theorem rds_argS {α : Type} {T : Ty α} {R : α → Prop} {t : TypeId} {fs : Array Field} (ht : P.underlying t = some (.struct fs)) {r : Reach} {b0 : Nat} {v : Value} {d : DataW H} {ps : List MemPlace} (he : Rds enc P w base sp held t T R)
    (hval : Value.okWide P w r b0 t v) (h : DataW.Trod enc P w base sp held t v d ps) : ∃ a, (IsAgg (T.cells a)).ok (phi w) v ∧ R a := by
  obtain ⟨cs, rfl, _⟩ := okWide_struct ht hval
  obtain ⟨fuel, hf⟩ := h
  obtain ⟨a, h1, h2, h3⟩ := he _ _ _ hf
  exact ⟨a, ⟨_, rfl, h1, h2⟩, h3⟩
theorem rds_argSl {α : Type} {T : Ty α} {R : List α → Prop} {t e : TypeId} (ht : P.underlying t = some (.slice e)) {r : Reach} {b0 : Nat} {v : Value} {d : DataW H} {ps : List MemPlace} (he : Rds enc P w base sp held t (tSl T) R)
    (hval : Value.okWide P w r b0 t v) (h : DataW.Trod enc P w base sp held t v d ps) : ∃ xs, (IsSl T xs).ok (phi w) v ∧ R xs := by
  obtain ⟨a, len, cap, rfl⟩ := okWide_slice ht hval
  exact rds_arg1 (A := IsSl T) (fun _ => rfl) he rfl h
end
end Go.Proofs.Ytccgnekcbdkilaa

/- Contracts: numbers in range; pages and records made of raw numbers. Own work. -/
namespace Go.Proofs.Ytccgnekcbdkilaa
open Go.RowKit
set_option linter.unusedVariables false
set_option linter.unusedSimpArgs false
set_option maxRecDepth 100000
theorem pick_tmod (n k : Int) (h : 1 ≤ k) : (n.tmod k + k).tmod k = n % k := by
  have h2 := Int.lt_tmod_of_pos n (show 0 < k by omega)
  rw [Int.tmod_eq_emod_of_nonneg (by omega), pick_emod n k h]
-- bodegahand.Pick: function 10
theorem Pick_ok (n k : Int) (hb : 1 ≤ k) (hb2 : k ≤ 4611686018427387903) : FnP Try.prog 10 [Is (.int .i64 n), Is (.int .i64 k)] (Is (.int .i64 (n % k))) := by
  have h1 := Int.tmod_lt_of_pos n (show 0 < k by omega)
  have h2 := Int.lt_tmod_of_pos n (show 0 < k by omega)
  refine FnP.enter Try.func10 Try.ntmps10 rfl rfl ?_
  intro c hX
  (repeat (first | with_reducible refine JC_seq ?_ | with_reducible refine JQ_then ?_ | with_reducible refine JC_block ?_ | with_reducible refine JC_skip ?_ | with_reducible refine JC_exit ?_ | with_reducible refine JQ_then_exit ?_ | with_reducible refine JQ_then_ret ?_ | with_reducible refine JQ_block ?_ | with_reducible refine JQ_block_ret ?_ | with_reducible refine JQ_hit ?_ | ((with_reducible refine JQ_block_miss ?_ ?_); (focus exact rfl)) | with_reducible refine JC_ret ?_ | with_reducible refine JQ_end ?_))
  refine JC_region ?_
  refine JL_1 rfl (op_assign rfl) ?_
  refine JL_nil ?_
  (repeat (first | with_reducible refine JC_seq ?_ | with_reducible refine JQ_then ?_ | with_reducible refine JC_block ?_ | with_reducible refine JC_skip ?_ | with_reducible refine JC_exit ?_ | with_reducible refine JQ_then_exit ?_ | with_reducible refine JQ_then_ret ?_ | with_reducible refine JQ_block ?_ | with_reducible refine JQ_block_ret ?_ | with_reducible refine JQ_hit ?_ | ((with_reducible refine JQ_block_miss ?_ ?_); (focus exact rfl)) | with_reducible refine JC_ret ?_ | with_reducible refine JQ_end ?_))
  (repeat (first | with_reducible refine JC_seq ?_ | with_reducible refine JQ_then ?_ | with_reducible refine JC_block ?_ | with_reducible refine JC_skip ?_ | with_reducible refine JC_exit ?_ | with_reducible refine JQ_then_exit ?_ | with_reducible refine JQ_then_ret ?_ | with_reducible refine JQ_block ?_ | with_reducible refine JQ_block_ret ?_ | with_reducible refine JQ_hit ?_ | ((with_reducible refine JQ_block_miss ?_ ?_); (focus exact rfl)) | with_reducible refine JC_ret ?_ | with_reducible refine JQ_end ?_))
  refine JC_region ?_
  refine JL_1 rfl (op_move rfl) ?_
  refine JL_1 rfl (op_lss (Ev.rfl' rfl) (Ev.rfl' rfl)) ?_
  refine JL_nil ?_
  (repeat (first | with_reducible refine JC_seq ?_ | with_reducible refine JQ_then ?_ | with_reducible refine JC_block ?_ | with_reducible refine JC_skip ?_ | with_reducible refine JC_exit ?_ | with_reducible refine JQ_then_exit ?_ | with_reducible refine JQ_then_ret ?_ | with_reducible refine JQ_block ?_ | with_reducible refine JQ_block_ret ?_ | with_reducible refine JQ_hit ?_ | ((with_reducible refine JQ_block_miss ?_ ?_); (focus exact rfl)) | with_reducible refine JC_ret ?_ | with_reducible refine JQ_end ?_))
  refine JC_cond (Ev.rfl' rfl) (fun h => absurd (of_decide_eq_true h) (by omega)) (fun h => ?_)
  (repeat (first | with_reducible refine JC_seq ?_ | with_reducible refine JQ_then ?_ | with_reducible refine JC_block ?_ | with_reducible refine JC_skip ?_ | with_reducible refine JC_exit ?_ | with_reducible refine JQ_then_exit ?_ | with_reducible refine JQ_then_ret ?_ | with_reducible refine JQ_block ?_ | with_reducible refine JQ_block_ret ?_ | with_reducible refine JQ_hit ?_ | ((with_reducible refine JQ_block_miss ?_ ?_); (focus exact rfl)) | with_reducible refine JC_ret ?_ | with_reducible refine JQ_end ?_))
  refine JC_region ?_
  refine JL_1 rfl (op_move rfl) ?_
  refine JL_1 rfl (op_move rfl) ?_
  refine JL_1 rfl (op_rem (Ev.rfl' rfl) (Ev.rfl' rfl) (by omega) rfl) ?_
  refine JL_1 rfl (op_move rfl) ?_
  refine JL_1 rfl (op_add (Ev.rfl' rfl) (Ev.rfl' rfl) wrapT) ?_
  refine JL_1 rfl (op_move rfl) ?_
  refine JL_1 rfl (op_rem (Ev.rfl' rfl) (Ev.rfl' rfl) (by omega) rfl) ?_
  refine JL_1 rfl (op_assign rfl) ?_
  refine JL_nil ?_
  (repeat (first | with_reducible refine JC_seq ?_ | with_reducible refine JQ_then ?_ | with_reducible refine JC_block ?_ | with_reducible refine JC_skip ?_ | with_reducible refine JC_exit ?_ | with_reducible refine JQ_then_exit ?_ | with_reducible refine JQ_then_ret ?_ | with_reducible refine JQ_block ?_ | with_reducible refine JQ_block_ret ?_ | with_reducible refine JQ_hit ?_ | ((with_reducible refine JQ_block_miss ?_ ?_); (focus exact rfl)) | with_reducible refine JC_ret ?_ | with_reducible refine JQ_end ?_))
  exact JQ_ret1 Try.results10 rfl () (SubL.eq (by rw [pick_tmod n k hb])) (List.nil_sublist _)
structure GoodPg (lines : Int) (p : Pg) : Prop where
  lo : 96 ≤ p.l
  hi : p.l < lines
  h : ∃ k : Nat, 1 ≤ k ∧ k ≤ 4 ∧ p.h = BitVec.ofNat 64 (k * 256)
theorem tdiv64 {n : Int} (h : I64ok n) : -9223372036854775808 ≤ n.tdiv 64 ∧ n.tdiv 64 ≤ 9223372036854775807 := by
  unfold I64ok at h
  rcases Int.le_total 0 n with g | g
  · rw [Int.tdiv_eq_ediv_of_nonneg g]; omega
  · have e : n.tdiv 64 = -((-n) / 64) := by
      rw [← Int.tdiv_eq_ediv_of_nonneg (show 0 ≤ -n by omega), Int.neg_tdiv, Int.neg_neg]
    rw [e]; omega
def shl8 (k : Int) : BitVec 64 := BitVec.ofInt 64 k <<< 8
theorem shl8_eq {k : Nat} (h : k ≤ 4) : shl8 (k : Int) = BitVec.ofNat 64 (k * 256) := by
  match k, h with
  | 0, _ => rfl
  | 1, _ => rfl
  | 2, _ => rfl
  | 3, _ => rfl
  | 4, _ => rfl
theorem data7 {ds : List (BitVec 64)} (h : ds.length = 7) : ∃ a b c d e f g, ds = [a, b, c, d, e, f, g] := by
  match ds, h with
  | [a, b, c, d, e, f, g], _ => exact ⟨a, b, c, d, e, f, g, rfl⟩
set_option maxHeartbeats 2000000 in
-- bodegahand.Page: function 23
theorem Page_ok (n lines : Int) (hn : I64ok n) (hl : 98 ≤ lines ∧ lines ≤ 256) : FnP Try.prog 23 [Is (.int .i64 n), Is (.int .i64 lines)] (VEx fun p : {p : Pg // GoodPg lines p} => IsPg p.1) := by
  have ht := tdiv64 hn
  have hq1 := Int.emod_nonneg n (show lines - 96 ≠ 0 by omega)
  have hq2 := Int.emod_lt_of_pos n (show 0 < lines - 96 by omega)
  have hr : 0 ≤ (n.tdiv 64) % 4 ∧ (n.tdiv 64) % 4 ≤ 3 := by omega
  unfold I64ok at hn
  refine FnP.enter Try.func23 Try.ntmps23 rfl rfl ?_
  intro c hX
  refine JC_seq ?_
  refine JC_region ?_
  (refine JL_n rfl (op_allocN rfl nrmT rfl) ?_; intro i4)
  refine JL_nil ?_
  refine JQ_then (JC_seq ?_)
  refine JC_region ?_
  refine JL_1 rfl (op_move rfl) ?_
  refine JL_1 rfl (op_move rfl) ?_
  refine JL_1 rfl (op_sub (Ev.rfl' rfl) (Ev.rfl' rfl) wrapT) ?_
  refine JL_1 rfl (by first | ((refine op_call Try.call10 (Pick_ok _ _ ?_ ?_) ⟨evS, ⟨evS, trivial⟩⟩); all_goals (first | omega))) ?_
  refine JL_1 rfl (op_add (Ev.rfl' rfl) (Ev.rfl' rfl) wrapT) ?_
  refine JL_1 rfl (op_move rfl) ?_
  refine JL_1 rfl (op_quo (Ev.rfl' rfl) (Ev.rfl' rfl) (by omega) wrapT) ?_
  refine JL_1 rfl (by first | ((refine op_call Try.call10 (Pick_ok _ _ ?_ ?_) ⟨evS, ⟨evS, trivial⟩⟩); all_goals (first | omega))) ?_
  refine JL_1 rfl (op_add (Ev.rfl' rfl) (Ev.rfl' rfl) wrapT) ?_
  refine JL_1 rfl (op_conv (Ev.rfl' rfl) rfl rfl convT) ?_
  refine JL_1 rfl (by first | exact op_shlU (k := 8) ev64 (Ev.rfl' rfl) (by first | omega | exact UV_nonneg _) idxT | exact op_shl (Ev.rfl' rfl) (Ev.rfl' rfl) (by first | omega | exact UV_nonneg _) rfl) ?_
  refine JL_1 rfl (op_buildN (qs := [(0, _), (1, _)]) rfl rfl rfl rfl ⟨⟨rfl, _, (Ev.rfl' rfl), cellsT⟩, ⟨⟨rfl, _, (Ev.rfl' rfl), cellsT⟩, trivial⟩⟩ (by rfl) nrmT) ?_
  (refine JL_n rfl (op_allocN rfl nrmT rfl) ?_; intro i5)
  refine JL_s0 (op_storeN (Ev.rfl' rfl) (Ev.rfl' rfl) cellsT replT nrmT (by rfl) (by rfl) (by rfl)) ?_
  refine JL_nil ?_
  refine JQ_then (JC_seq (JC_seq ?_))
  refine JC_region ?_
  refine JL_1 rfl (op_assign rfl) ?_
  refine JL_nil ?_
  refine JQ_then (JC_block ?_)
  refine JC_loopP (fun i : Nat × List (BitVec 64) => i.1 ≤ 7 ∧ i.2.length = i.1) (fun i => [(0, Is (.int .i64 n)), (4, Is (.pointer (some ⟨i4, 0, none⟩))), (5, Is (.pointer (some ⟨i5, 0, none⟩))), (6, Is (.int .i64 (i.1 : Nat)))]) (fun i => [blk i5 31 (pgPart (96 + n % (lines - 96)) (shl8 ((n.tdiv 64) % 4 + 1)) i.2), blk i4 31 [Is (.int .i64 0), Is (.int .u64 0), Is (.int .u64 0), Is (.int .u64 0), Is (.int .u64 0), Is (.int .u64 0), Is (.int .u64 0), Is (.int .u64 0), Is (.int .u64 0)]]) (fun i => 7 - i.1) (0, []) ⟨Nat.zero_le _, rfl⟩ esubT lessT ?_
  rintro ⟨j, ds⟩ ⟨hj, hd⟩
  dsimp only at hj hd ⊢
  refine JC_seq (JC_seq ?_)
  refine JC_region ?_
  refine JL_1 rfl (op_move rfl) ?_
  refine JL_1 rfl (op_lss (Ev.rfl' rfl) (Ev.rfl' rfl)) ?_
  refine JL_nil ?_
  refine JQ_then ?_
  refine JC_cond (Ev.rfl' rfl) (fun h3 => ?_) (fun h3 => ?_)
  · have hj' : j < 7 := by have := of_decide_eq_true h3; omega
    clear h3
    have hst := pgPart_set (l := 96 + n % (lines - 96)) (h := shl8 ((n.tdiv 64) % 4 + 1)) (x := BitVec.ofInt 64 (n % 1048576) * BitVec.ofInt 64 ((j : Int) + 3)) (ds := ds) hd hj'
    have hpp := pgPart_len (l := 96 + n % (lines - 96)) (h := shl8 ((n.tdiv 64) % 4 + 1)) (ds := ds) (by omega)
    refine JC_skip (JQ_then (JC_seq (JC_block ?_)))
    refine JC_region ?_
    refine JL_1 rfl (op_move rfl) ?_
    refine JL_1 rfl (op_move rfl) ?_
    refine JL_1 rfl (by first | ((refine op_call Try.call10 (Pick_ok _ _ ?_ ?_) ⟨evS, ⟨evS, trivial⟩⟩); all_goals (first | omega))) ?_
    refine JL_1 rfl (op_conv (Ev.rfl' rfl) rfl rfl convT) ?_
    refine JL_1 rfl (op_move rfl) ?_
    refine JL_1 rfl (op_add (Ev.rfl' rfl) (Ev.rfl' rfl) wrapT) ?_
    refine JL_1 rfl (op_conv (Ev.rfl' rfl) rfl rfl convT) ?_
    refine JL_1 rfl (by first | exact op_binU ev64 ev64 (mul_u64 _ _ _) | exact op_mul (Ev.rfl' rfl) (Ev.rfl' rfl) wrapT) ?_
    refine JL_1 rfl (by first | exact op_fieldPtr (k := 2) (Ev.rfl' rfl) rfl rfl rfl rfl | exact op_fieldRefN (k := 2) (Ev.rfl' rfl) rfl rfl rfl rfl nrmT) ?_
    refine JL_1 rfl (op_indexArr (k := j) (sz := 1) (Ev.rfl' rfl) (Ev.rfl' rfl) rfl rfl idxT (by first | decide | omega)) ?_
    refine JL_s0 (op_storeA (n := 1) (Rs := pgPart (96 + n % (lines - 96)) (shl8 ((n.tdiv 64) % 4 + 1)) (ds ++ [BitVec.ofInt 64 (n % 1048576) * BitVec.ofInt 64 ((j : Int) + 3)])) (Ev.rfl' rfl) (Ev.rfl' rfl) cellsT replT hst (by rfl) (by rfl) (by first | (simp; done) | (simp; omega) | omega)) ?_
    refine JL_nil ?_
    refine JQ_block (JQ_then ?_)
    refine JC_region ?_
    refine JL_1 rfl (op_move rfl) ?_
    refine JL_1 rfl (op_add (Ev.rfl' rfl) (Ev.rfl' rfl) wrapT) ?_
    refine JL_1 rfl (op_assign rfl) ?_
    refine JL_nil ?_
    exact JQ_roundP (j + 1, ds ++ [BitVec.ofInt 64 (n % 1048576) * BitVec.ofInt 64 ((j : Int) + 3)]) ⟨by dsimp only; omega, by simp; omega⟩ (by dsimp only; omega) esubT lessT
  have hj7 : j = 7 := by have := of_decide_eq_false h3; omega
  subst hj7
  clear h3
  obtain ⟨a, b, c', d, e, f, g, rfl⟩ := data7 hd
  have hgp : GoodPg lines ⟨96 + n % (lines - 96), shl8 ((n.tdiv 64) % 4 + 1), a, b, c', d, e, f, g⟩ := by
    refine ⟨by show 96 ≤ 96 + _; omega, by show 96 + _ < _; omega, (((n.tdiv 64) % 4).toNat + 1), by omega, by omega, ?_⟩
    show shl8 _ = _
    rw [← shl8_eq (by omega)]
    congr 1
    omega
  refine JC_exit (JQ_then_exit (JQ_then_exit (JQ_hit (JQ_then (JC_seq ?_)))))
  refine JC_blkEq (b := i5) (As' := tPg.cells ⟨96 + n % (lines - 96), shl8 ((n.tdiv 64) % 4 + 1), a, b, c', d, e, f, g⟩) replT (by rfl) ?_
  refine JC_region ?_
  refine JL_1 rfl (by first | exact op_loadRefsN (n := 9) (Ev.rfl' rfl) rfl rfl rfl (by rfl) nrmT | exact op_loadPtrsN (n := 9) (Ev.rfl' rfl) memT (by rfl) (by rfl) (by rfl) (by rfl) nrmT) ?_
  refine JL_s0 (op_storeN (Ev.rfl' rfl) (Ev.rfl' rfl) cellsT replT nrmT (by rfl) (by rfl) (by rfl)) ?_
  refine JL_nil ?_
  refine JQ_then (JC_ret ?_)
  exact JQ_ret (Bs := [IsPg ⟨96 + n % (lines - 96), shl8 ((n.tdiv 64) % 4 + 1), a, b, c', d, e, f, g⟩]) Try.results23 ⟨⟨_, _, _, _, rfl, memT, rfl, .inr ⟨rfl, _, rfl, rfl, subT⟩⟩, trivial⟩ () (fun φ v hf h => ⟨⟨_, hgp⟩, h⟩) (List.nil_sublist _)
end Go.Proofs.Ytccgnekcbdkilaa

/- Contracts: lists of pages, records, made of raw numbers. Own work. -/
namespace Go.Proofs.Ytccgnekcbdkilaa
open Go.RowKit
set_option linter.unusedVariables false
set_option linter.unusedSimpArgs false
set_option maxRecDepth 100000
def GoodPgs (lines : Int) (ms : List Pg) : Prop := (∀ p, p ∈ ms → GoodPg lines p) ∧ ms.Pairwise (fun a b => a.l < b.l)
theorem good_nil {lines : Int} : GoodPgs lines [] := ⟨by simp, List.Pairwise.nil⟩
theorem pg_mem {ms : List Pg} {k : Nat} (h : k < ms.length) : Pg.at ms k ∈ ms := List.mem_of_getElem? (Pg.at_get ms k h)
theorem asc_at {ms : List Pg} (h : ms.Pairwise (fun a b => a.l < b.l)) {i j : Nat} (hij : i < j) (hj : j < ms.length) : (Pg.at ms i).l < (Pg.at ms j).l := by
  have h1 := List.pairwise_iff_getElem.1 h i j (by omega) hj hij
  have e1 := Pg.at_get ms i (by omega)
  have e2 := Pg.at_get ms j hj
  rw [List.getElem?_eq_getElem (by omega)] at e1
  rw [List.getElem?_eq_getElem hj] at e2
  injection e1 with e1
  injection e2 with e2
  rw [← e1, ← e2]; exact h1
theorem good_insert {lines : Int} {ms : List Pg} {p : Pg} {k : Nat} (h : GoodPgs lines ms) (hp : GoodPg lines p) (hk : k ≤ ms.length) (hb : ∀ j, j < k → (Pg.at ms j).l < p.l) (ha : k < ms.length → p.l < (Pg.at ms k).l) : GoodPgs lines (ms.take k ++ p :: ms.drop k) := by
  have htake : ∀ q, q ∈ ms.take k → q.l < p.l := fun q hq => by
    obtain ⟨j, hj⟩ := List.mem_iff_getElem?.1 hq
    have hjk : j < k := by
      have := (List.getElem?_eq_some_iff.1 hj).1
      rw [List.length_take] at this; omega
    rw [List.getElem?_take_of_lt hjk, Pg.at_get ms j (by omega)] at hj
    injection hj with hj
    rw [← hj]; exact hb j hjk
  have hdrop : ∀ q, q ∈ ms.drop k → p.l < q.l := fun q hq => by
    obtain ⟨j, hj⟩ := List.mem_iff_getElem?.1 hq
    have hjl := (List.getElem?_eq_some_iff.1 hj).1
    rw [List.length_drop] at hjl
    rw [List.getElem?_drop, Pg.at_get ms (k + j) (by omega)] at hj
    injection hj with hj
    rw [← hj]
    have h1 := ha (by omega)
    rcases Nat.eq_zero_or_pos j with h0 | h0
    · subst h0; exact h1
    · exact Int.lt_trans h1 (asc_at h.2 (by omega) (by omega))
  refine ⟨fun q hq => ?_, List.pairwise_append.2 ⟨h.2.sublist (List.take_sublist _ _), List.pairwise_cons.2 ⟨hdrop, h.2.sublist (List.drop_sublist _ _)⟩, fun a ha' b hb' => ?_⟩⟩
  · rcases List.mem_append.1 hq with hq | hq
    · exact h.1 q (List.mem_of_mem_take hq)
    · rcases List.mem_cons.1 hq with rfl | hq
      · exact hp
      · exact h.1 q (List.mem_of_mem_drop hq)
  · have h1 := htake a ha'
    rcases List.mem_cons.1 hb' with rfl | hb'
    · exact h1
    · exact Int.lt_trans h1 (hdrop b hb')
def I64at (xs : List Int) (k : Nat) : Int := xs.getD k 0
theorem I64at_get {xs : List Int} {k : Nat} (h : k < xs.length) : xs[k]? = some (I64at xs k) := by
  unfold I64at; rw [List.getD_eq_getElem?_getD, List.getElem?_eq_getElem h]; rfl
theorem I64at_ok {xs : List Int} (h : ∀ x, x ∈ xs → I64ok x) {k : Nat} (hk : k < xs.length) : I64ok (I64at xs k) := h _ (List.mem_of_getElem? (I64at_get hk))
set_option maxHeartbeats 4000000 in
-- bodegahand.Pages: function 34
theorem Pages_ok (raw : List Int) (lines : Int) (hr : ∀ x, x ∈ raw → I64ok x) (hl : 98 ≤ lines ∧ lines ≤ 256) : FnP Try.prog 34 [IsSl tI64 raw, Is (.int .i64 lines), Is (.int .i64 12)] (VEx fun ms : {ms : List Pg // GoodPgs lines ms ∧ ms.length ≤ 12} => IsSl tPg ms.1) := by
  have HR := Lib.hid hr
  clear hr
  refine FnP.enter Try.func34 Try.ntmps34 rfl rfl ?_
  intro c hX
  refine JC_len (t := 0) rfl (fun hlen => ?_)
  refine JC_seq ?_
  refine JC_region ?_
  refine JL_1 rfl (op_assign rfl) ?_
  refine JL_nil ?_
  refine JQ_then (JC_seq ?_)
  refine JC_region ?_
  refine JL_1 rfl (op_assign rfl) ?_
  refine JL_nil ?_
  refine JQ_then (JC_seq (JC_seq ?_))
  refine JC_region ?_
  refine JL_1 rfl (op_assign rfl) ?_
  refine JL_nil ?_
  refine JQ_then (JC_block ?_)
  refine JC_loopP (fun i : Nat × List Pg => i.1 ≤ raw.length ∧ GoodPgs lines i.2 ∧ i.2.length ≤ 12) (fun i => [(0, IsSl tI64 raw), (1, Is (.int .i64 lines)), (2, Is (.int .i64 12)), (7, IsSl tPg i.2), (8, Is (.int .i64 (i.1 : Nat)))]) (fun _ => []) (fun i => raw.length - i.1) (0, []) ⟨Nat.zero_le _, good_nil, Nat.zero_le _⟩ esubT lessT ?_
  rintro ⟨k, ms⟩ ⟨hk, hg, hm⟩
  dsimp only at hk hg hm ⊢
  have HG := Lib.hid hg
  clear hg
  refine JC_seq (JC_seq ?_)
  refine JC_region ?_
  refine JL_1 rfl (op_move rfl) ?_
  refine JL_1 rfl (op_move rfl) ?_
  refine JL_1 rfl (by first | exact op_len (Ev.rfl' rfl) rfl | exact op_lenLit (Ev.rfl' rfl) rfl) ?_
  refine JL_1 rfl (op_lss (Ev.rfl' rfl) (Ev.rfl' rfl)) ?_
  refine JL_nil ?_
  refine JQ_then ?_
  refine JC_cond (Ev.rfl' rfl) (fun h3 => ?_) (fun h3 => ?_)
  · have h' : k < raw.length := by have := of_decide_eq_true h3; omega
    clear h3
    have hz := I64at_get h'
    have ho := I64at_ok HR.out h'
    generalize I64at raw k = x at *
    refine JC_skip (JQ_then (JC_seq (JC_block (JC_seq ?_))))
    refine JC_region ?_
    refine JL_1 rfl (op_move rfl) ?_
    refine JL_1 rfl (op_move rfl) ?_
    refine JL_1 rfl (by first | exact op_index (j := _) (Ev.rfl' rfl) (Ev.rfl' rfl) rfl rfl (by first | rfl | omega) hz | exact op_index (j := _) (Ev.rfl' rfl) (Ev.rfl' rfl) rfl rfl (by first | rfl | omega) (hzz (by omega)) | exact op_index (j := _) (Ev.rfl' rfl) (Ev.rfl' rfl) rfl rfl (by first | rfl | omega) (by assumption)) ?_
    refine JL_1 rfl (by first | exact op_loadRef (Ev.rfl' rfl) rfl rfl rfl | exact op_loadPtr (Ev.rfl' rfl) memT (by rfl) (by rfl) (by rfl)) ?_
    refine JL_1 rfl (op_move rfl) ?_
    refine JL_1 rfl (by first | ((refine op_call Try.call23 (Page_ok _ _ ?_ ?_) ⟨evS, ⟨evS, trivial⟩⟩); all_goals (first | assumption | first | assumption | omega))) ?_
    (refine JL_ex 22 rfl (fun q => ?_)); obtain ⟨p, hp⟩ := q; dsimp only; have HP1 := Lib.hid hp; clear hp
    (refine JL_n rfl (op_allocN rfl nrmT rfl) ?_; intro i9)
    refine JL_s0 (op_storeN (Ev.rfl' rfl) (Ev.rfl' rfl) cellsT replT nrmT (by rfl) (by rfl) (by rfl)) ?_
    refine JL_nil ?_
    refine JQ_then (JC_seq ?_)
    refine JC_region ?_
    refine JL_1 rfl (op_assign rfl) ?_
    refine JL_nil ?_
    refine JQ_then (JC_seq (JC_block ?_))
    refine JC_loopP (fun i : Nat => i ≤ ms.length ∧ Hid (∀ j, j < i → (Pg.at ms j).l < p.l)) (fun i => [(0, IsSl tI64 raw), (1, Is (.int .i64 lines)), (2, Is (.int .i64 12)), (7, IsSl tPg ms), (8, Is (.int .i64 (k : Nat))), (9, Is (.pointer (some ⟨i9, 0, none⟩))), (10, Is (.int .i64 (i : Nat)))]) (fun _ => [blk i9 31 (tPg.cells p)]) (fun i => ms.length - i) 0 ⟨Nat.zero_le _, Lib.hid fun j hj => absurd hj (Nat.not_lt_zero _)⟩ esubT lessT ?_
    rintro at_ ⟨hat, hbf⟩
    have hzz : at_ < ms.length → ms[at_]? = some (Pg.at ms at_) := fun h => Pg.at_get ms at_ h
    refine JC_seq (JC_seq ?_)
    refine JC_dr rfl (by kernel_rfl) ?_
    refine JD_stretch 14 (by kernel_rfl) ?_
    refine JW_1 (op_move rfl) ?_
    refine JW_1 (op_move rfl) ?_
    refine JW_1 (by first | exact op_len (Ev.rfl' rfl) rfl | exact op_lenLit (Ev.rfl' rfl) rfl) ?_
    refine JW_1 (op_lss (Ev.rfl' rfl) (Ev.rfl' rfl)) ?_
    refine JW_1 (op_move rfl) ?_
    (first | refine JW_i0 rfl rfl (fun hg => (by have hg0 := hg; (try simp at hg); first | exact op_moveE (Ev.sub rfl (SubL.iteT (by first | assumption | (simp; done) | (simp; omega) | (simp_all; done)) SubL.rfl')) | exact op_moveE (Ev.rfl' rfl))) ?_ | refine JW_i rfl rfl (fun hp hg => (by have hpg := Bool.and_eq_true_iff.2 ⟨hp, hg⟩; have hg0 := hg; (try simp at hg); first | exact op_moveE (Ev.sub rfl (SubL.iteT (by first | assumption | (simp; done) | (simp; omega) | (simp_all; done)) SubL.rfl')) | exact op_moveE (Ev.rfl' rfl))) ?_)
    (first | refine JW_i0 rfl rfl (fun hg => (by have hg0 := hg; (try simp at hg); first | exact op_moveE (Ev.sub rfl (SubL.iteT (by first | assumption | (simp; done) | (simp; omega) | (simp_all; done)) SubL.rfl')) | exact op_moveE (Ev.rfl' rfl))) ?_ | refine JW_i rfl rfl (fun hp hg => (by have hpg := Bool.and_eq_true_iff.2 ⟨hp, hg⟩; have hg0 := hg; (try simp at hg); first | exact op_moveE (Ev.sub rfl (SubL.iteT (by first | assumption | (simp; done) | (simp; omega) | (simp_all; done)) SubL.rfl')) | exact op_moveE (Ev.rfl' rfl))) ?_)
    (first | refine JW_i0 rfl rfl (fun hg => (by have hg0 := hg; (try simp at hg); first | exact op_index (j := _) evG evG rfl rfl (by first | rfl | omega) hz | exact op_index (j := _) evG evG rfl rfl (by first | rfl | omega) (hzz (by omega)) | exact op_index (j := _) evG evG rfl rfl (by first | rfl | omega) (by assumption))) ?_ | refine JW_i rfl rfl (fun hp hg => (by have hpg := Bool.and_eq_true_iff.2 ⟨hp, hg⟩; have hg0 := hg; (try simp at hg); first | exact op_index (j := _) evG evG rfl rfl (by first | rfl | omega) hz | exact op_index (j := _) evG evG rfl rfl (by first | rfl | omega) (hzz (by omega)) | exact op_index (j := _) evG evG rfl rfl (by first | rfl | omega) (by assumption))) ?_)
    (first | refine JW_i0 rfl rfl (fun hg => (by have hg0 := hg; (try simp at hg); first | exact op_fieldPtr (k := 0) evG rfl rfl rfl rfl | exact op_fieldRefN (k := 0) evG rfl rfl rfl rfl nrmT)) ?_ | refine JW_i rfl rfl (fun hp hg => (by have hpg := Bool.and_eq_true_iff.2 ⟨hp, hg⟩; have hg0 := hg; (try simp at hg); first | exact op_fieldPtr (k := 0) evG rfl rfl rfl rfl | exact op_fieldRefN (k := 0) evG rfl rfl rfl rfl nrmT)) ?_)
    (first | refine JW_i0 rfl rfl (fun hg => (by have hg0 := hg; (try simp at hg); first | exact op_loadRef evG rfl rfl rfl | exact op_loadPtr evG memT (by rfl) (by rfl) (by rfl))) ?_ | refine JW_i rfl rfl (fun hp hg => (by have hpg := Bool.and_eq_true_iff.2 ⟨hp, hg⟩; have hg0 := hg; (try simp at hg); first | exact op_loadRef evG rfl rfl rfl | exact op_loadPtr evG memT (by rfl) (by rfl) (by rfl))) ?_)
    (first | refine JW_i0 rfl rfl (fun hg => (by have hg0 := hg; (try simp at hg); first | exact op_fieldPtr (k := 0) evG rfl rfl rfl rfl | exact op_fieldRefN (k := 0) evG rfl rfl rfl rfl nrmT)) ?_ | refine JW_i rfl rfl (fun hp hg => (by have hpg := Bool.and_eq_true_iff.2 ⟨hp, hg⟩; have hg0 := hg; (try simp at hg); first | exact op_fieldPtr (k := 0) evG rfl rfl rfl rfl | exact op_fieldRefN (k := 0) evG rfl rfl rfl rfl nrmT)) ?_)
    (first | refine JW_i0 rfl rfl (fun hg => (by have hg0 := hg; (try simp at hg); first | exact op_loadRef evG rfl rfl rfl | exact op_loadPtr evG memT (by rfl) (by rfl) (by rfl))) ?_ | refine JW_i rfl rfl (fun hp hg => (by have hpg := Bool.and_eq_true_iff.2 ⟨hp, hg⟩; have hg0 := hg; (try simp at hg); first | exact op_loadRef evG rfl rfl rfl | exact op_loadPtr evG memT (by rfl) (by rfl) (by rfl))) ?_)
    (first | refine JW_i0 rfl rfl (fun hg => (by have hg0 := hg; (try simp at hg); exact op_lss evG evG)) ?_ | refine JW_i rfl rfl (fun hp hg => (by have hpg := Bool.and_eq_true_iff.2 ⟨hp, hg⟩; have hg0 := hg; (try simp at hg); exact op_lss evG evG)) ?_)
    refine JW_1 (op_and (Ev.rfl' rfl) rfl (fun h => by first | exact SubL.rfl' | exact SubL.iteT (by first | (rw [h]; rfl) | (simp_all; done)) SubL.rfl')) ?_
    refine ⟨rfl, ?_⟩
    refine JD_end ?_
    refine JQ_then ?_
    refine JC_cond (Ev.rfl' rfl) (fun h7 => ?_) (fun h7 => ?_)
    · have h7a : at_ < ms.length ∧ (Pg.at ms at_).l < p.l := by simp at h7; omega
      refine JC_skip (JQ_then (JC_block ?_))
      refine JC_region ?_
      refine JL_1 rfl (op_move rfl) ?_
      refine JL_1 rfl (op_add (Ev.rfl' rfl) (Ev.rfl' rfl) wrapT) ?_
      refine JL_1 rfl (op_assign rfl) ?_
      refine JL_nil ?_
      refine JQ_block ?_
      exact JQ_roundP (at_ + 1) ⟨by omega, Lib.hid fun j hj => by
        by_cases e : j = at_
        · subst e; exact h7a.2
        · exact hbf.out j (by omega)⟩ (by omega) esubT lessT
    have h7a : at_ < ms.length → ¬ (Pg.at ms at_).l < p.l := fun h => by simp at h7; omega
    clear h7
    refine JC_exit (JQ_then_exit (JQ_then_exit (JQ_hit (JQ_then (JC_seq (JC_seq ?_))))))
    refine JC_dr rfl (by kernel_rfl) ?_
    refine JD_stretch 20 (by kernel_rfl) ?_
    refine JW_1 (op_move rfl) ?_
    refine JW_1 (op_move rfl) ?_
    refine JW_1 (by first | exact op_len (Ev.rfl' rfl) rfl | exact op_lenLit (Ev.rfl' rfl) rfl) ?_
    refine JW_1 (op_lss (Ev.rfl' rfl) (Ev.rfl' rfl)) ?_
    refine JW_1 (op_move rfl) ?_
    (first | refine JW_i0 rfl rfl (fun hg => (by have hg0 := hg; (try simp at hg); first | exact op_moveE (Ev.sub rfl (SubL.iteT (by first | assumption | (simp; done) | (simp; omega) | (simp_all; done)) SubL.rfl')) | exact op_moveE (Ev.rfl' rfl))) ?_ | refine JW_i rfl rfl (fun hp hg => (by have hpg := Bool.and_eq_true_iff.2 ⟨hp, hg⟩; have hg0 := hg; (try simp at hg); first | exact op_moveE (Ev.sub rfl (SubL.iteT (by first | assumption | (simp; done) | (simp; omega) | (simp_all; done)) SubL.rfl')) | exact op_moveE (Ev.rfl' rfl))) ?_)
    (first | refine JW_i0 rfl rfl (fun hg => (by have hg0 := hg; (try simp at hg); first | exact op_moveE (Ev.sub rfl (SubL.iteT (by first | assumption | (simp; done) | (simp; omega) | (simp_all; done)) SubL.rfl')) | exact op_moveE (Ev.rfl' rfl))) ?_ | refine JW_i rfl rfl (fun hp hg => (by have hpg := Bool.and_eq_true_iff.2 ⟨hp, hg⟩; have hg0 := hg; (try simp at hg); first | exact op_moveE (Ev.sub rfl (SubL.iteT (by first | assumption | (simp; done) | (simp; omega) | (simp_all; done)) SubL.rfl')) | exact op_moveE (Ev.rfl' rfl))) ?_)
    (first | refine JW_i0 rfl rfl (fun hg => (by have hg0 := hg; (try simp at hg); first | exact op_index (j := _) evG evG rfl rfl (by first | rfl | omega) hz | exact op_index (j := _) evG evG rfl rfl (by first | rfl | omega) (hzz (by omega)) | exact op_index (j := _) evG evG rfl rfl (by first | rfl | omega) (by assumption))) ?_ | refine JW_i rfl rfl (fun hp hg => (by have hpg := Bool.and_eq_true_iff.2 ⟨hp, hg⟩; have hg0 := hg; (try simp at hg); first | exact op_index (j := _) evG evG rfl rfl (by first | rfl | omega) hz | exact op_index (j := _) evG evG rfl rfl (by first | rfl | omega) (hzz (by omega)) | exact op_index (j := _) evG evG rfl rfl (by first | rfl | omega) (by assumption))) ?_)
    (first | refine JW_i0 rfl rfl (fun hg => (by have hg0 := hg; (try simp at hg); first | exact op_fieldPtr (k := 0) evG rfl rfl rfl rfl | exact op_fieldRefN (k := 0) evG rfl rfl rfl rfl nrmT)) ?_ | refine JW_i rfl rfl (fun hp hg => (by have hpg := Bool.and_eq_true_iff.2 ⟨hp, hg⟩; have hg0 := hg; (try simp at hg); first | exact op_fieldPtr (k := 0) evG rfl rfl rfl rfl | exact op_fieldRefN (k := 0) evG rfl rfl rfl rfl nrmT)) ?_)
    (first | refine JW_i0 rfl rfl (fun hg => (by have hg0 := hg; (try simp at hg); first | exact op_loadRef evG rfl rfl rfl | exact op_loadPtr evG memT (by rfl) (by rfl) (by rfl))) ?_ | refine JW_i rfl rfl (fun hp hg => (by have hpg := Bool.and_eq_true_iff.2 ⟨hp, hg⟩; have hg0 := hg; (try simp at hg); first | exact op_loadRef evG rfl rfl rfl | exact op_loadPtr evG memT (by rfl) (by rfl) (by rfl))) ?_)
    (first | refine JW_i0 rfl rfl (fun hg => (by have hg0 := hg; (try simp at hg); first | exact op_fieldPtr (k := 0) evG rfl rfl rfl rfl | exact op_fieldRefN (k := 0) evG rfl rfl rfl rfl nrmT)) ?_ | refine JW_i rfl rfl (fun hp hg => (by have hpg := Bool.and_eq_true_iff.2 ⟨hp, hg⟩; have hg0 := hg; (try simp at hg); first | exact op_fieldPtr (k := 0) evG rfl rfl rfl rfl | exact op_fieldRefN (k := 0) evG rfl rfl rfl rfl nrmT)) ?_)
    (first | refine JW_i0 rfl rfl (fun hg => (by have hg0 := hg; (try simp at hg); first | exact op_loadRef evG rfl rfl rfl | exact op_loadPtr evG memT (by rfl) (by rfl) (by rfl))) ?_ | refine JW_i rfl rfl (fun hp hg => (by have hpg := Bool.and_eq_true_iff.2 ⟨hp, hg⟩; have hg0 := hg; (try simp at hg); first | exact op_loadRef evG rfl rfl rfl | exact op_loadPtr evG memT (by rfl) (by rfl) (by rfl))) ?_)
    (first | refine JW_i0 rfl rfl (fun hg => (by have hg0 := hg; (try simp at hg); exact op_eql evG evG)) ?_ | refine JW_i rfl rfl (fun hp hg => (by have hpg := Bool.and_eq_true_iff.2 ⟨hp, hg⟩; have hg0 := hg; (try simp at hg); exact op_eql evG evG)) ?_)
    refine JW_1 (op_and (Ev.rfl' rfl) rfl (fun h => by first | exact SubL.rfl' | exact SubL.iteT (by first | (rw [h]; rfl) | (simp_all; done)) SubL.rfl')) ?_
    refine JW_1 (op_move rfl) ?_
    (first | refine JW_i0 rfl rfl (fun hg => (by have hg0 := hg; (try simp at hg); first | exact op_moveE (Ev.sub rfl (SubL.iteT (by first | assumption | (simp; done) | (simp; omega) | (simp_all; done)) SubL.rfl')) | exact op_moveE (Ev.rfl' rfl))) ?_ | refine JW_i rfl rfl (fun hp hg => (by have hpg := Bool.and_eq_true_iff.2 ⟨hp, hg⟩; have hg0 := hg; (try simp at hg); first | exact op_moveE (Ev.sub rfl (SubL.iteT (by first | assumption | (simp; done) | (simp; omega) | (simp_all; done)) SubL.rfl')) | exact op_moveE (Ev.rfl' rfl))) ?_)
    (first | refine JW_i0 rfl rfl (fun hg => (by have hg0 := hg; (try simp at hg); first | exact op_len evG rfl | exact op_lenLit evG rfl)) ?_ | refine JW_i rfl rfl (fun hp hg => (by have hpg := Bool.and_eq_true_iff.2 ⟨hp, hg⟩; have hg0 := hg; (try simp at hg); first | exact op_len evG rfl | exact op_lenLit evG rfl)) ?_)
    (first | refine JW_i0 rfl rfl (fun hg => (by have hg0 := hg; (try simp at hg); first | exact op_moveE (Ev.sub rfl (SubL.iteT (by first | assumption | (simp; done) | (simp; omega) | (simp_all; done)) SubL.rfl')) | exact op_moveE (Ev.rfl' rfl))) ?_ | refine JW_i rfl rfl (fun hp hg => (by have hpg := Bool.and_eq_true_iff.2 ⟨hp, hg⟩; have hg0 := hg; (try simp at hg); first | exact op_moveE (Ev.sub rfl (SubL.iteT (by first | assumption | (simp; done) | (simp; omega) | (simp_all; done)) SubL.rfl')) | exact op_moveE (Ev.rfl' rfl))) ?_)
    (first | refine JW_i0 rfl rfl (fun hg => (by have hg0 := hg; (try simp at hg); exact op_geq evG evG)) ?_ | refine JW_i rfl rfl (fun hp hg => (by have hpg := Bool.and_eq_true_iff.2 ⟨hp, hg⟩; have hg0 := hg; (try simp at hg); exact op_geq evG evG)) ?_)
    refine JW_1 (op_or (Ev.rfl' rfl) rfl (fun h => by first | exact SubL.rfl' | exact SubL.iteT (by first | (rw [h]; rfl) | (simp_all; done)) SubL.rfl')) ?_
    refine ⟨rfl, ?_⟩
    refine JD_end ?_
    refine JQ_then ?_
    refine JC_cond (Ev.rfl' rfl) (fun h9 => ?_) (fun h9 => ?_)
    · refine JC_exit (JQ_then_exit (JQ_hit (JQ_then ?_)))
      refine JC_region ?_
      refine JL_1 rfl (op_move rfl) ?_
      refine JL_1 rfl (op_add (Ev.rfl' rfl) (Ev.rfl' rfl) wrapT) ?_
      refine JL_1 rfl (op_assign rfl) ?_
      refine JL_nil ?_
      first
        | exact JQ_roundP (k + 1, ms.take at_ ++ p :: ms.drop at_) ⟨by dsimp only; omega, hG2.out, by simp; omega⟩ (by dsimp only; omega) esubT lessT
        | exact JQ_roundP (k + 1, ms) ⟨by dsimp only; omega, HG.out, hm⟩ (by dsimp only; omega) esubT lessT
    have h9a : (at_ < ms.length → (Pg.at ms at_).l ≠ p.l) ∧ ms.length < 12 := by simp at h9; omega
    clear h9
    have hG2 := Lib.hid (good_insert HG.out HP1.out hat hbf.out (fun h => by have := h7a h; have := h9a.1 h; omega))
    refine JC_skip (JQ_then ?_)
    refine JC_dr rfl (by kernel_rfl) ?_
    refine JD_stretch 11 (by kernel_rfl) ?_
    refine JW_1 (op_move rfl) ?_
    refine JW_1 (op_move rfl) ?_
    refine JW_1 (op_slice (Ev.rfl' rfl) rfl rfl rfl ⟨_, _, (Ev.rfl' rfl), (show _ = ((at_ : Nat) : Int) by first | rfl | omega)⟩ (by omega) (by omega)) ?_
    refine JW_n (op_appNil (T := tPg) (Ev.rfl' rfl) evS (by exact appT rfl rfl rfl) lenT) ?_
    refine JW_1 (by first | exact op_loadRefsN (n := 9) (Ev.rfl' rfl) rfl rfl rfl (by rfl) nrmT | exact op_loadPtrsN (n := 9) (Ev.rfl' rfl) memT (by rfl) (by rfl) (by rfl) (by rfl) nrmT) ?_
    refine JW_1 (op_buildSlice (size := 9) (qs := [(0, _)]) rfl rfl rfl ⟨⟨rfl, _, (Ev.rfl' rfl), cellsT⟩, trivial⟩ (by rfl) (by rfl)) ?_
    refine JW_take rfl rfl rfl (by rfl) (by kernel_rfl) (op_appT (by first | exact Ev.rfl' rfl | exact Ev.sub rfl (by first | exact SubL.row (xs := [p]) (by rfl) (by rfl) subsT | exact subT)) (by exact appT rfl rfl rfl) lenT) ?_
    refine JW_1 (op_move rfl) ?_
    refine JW_1 (op_move rfl) ?_
    refine JW_1 (op_slice (Ev.rfl' rfl) rfl rfl ⟨_, _, (Ev.rfl' rfl), (show _ = ((at_ : Nat) : Int) by first | rfl | omega)⟩ rfl (by omega) (by omega)) ?_
    refine JW_take rfl rfl rfl (by rfl) (by kernel_rfl) (op_appT evS (by exact appT rfl rfl rfl) lenT) ?_
    refine ⟨rfl, ?_⟩
    intro i69
    refine JD_1 (by kernel_rfl) rfl rfl (op_assign rfl) ?_
    refine JD_end ?_
    refine JQ_block (JQ_then ?_)
    refine JC_freeze hX replT ?_
    refine JC_set 7 (IsSl tPg (ms.take at_ ++ p :: ms.drop at_)) rfl (SubL.tr (SubL.fact memT) (SubL.eq (by simp))) ?_
    refine JC_region ?_
    refine JL_1 rfl (op_move rfl) ?_
    refine JL_1 rfl (op_add (Ev.rfl' rfl) (Ev.rfl' rfl) wrapT) ?_
    refine JL_1 rfl (op_assign rfl) ?_
    refine JL_nil ?_
    first
      | exact JQ_roundP (k + 1, ms.take at_ ++ p :: ms.drop at_) ⟨by dsimp only; omega, hG2.out, by simp; omega⟩ (by dsimp only; omega) esubT lessT
      | exact JQ_roundP (k + 1, ms) ⟨by dsimp only; omega, HG.out, hm⟩ (by dsimp only; omega) esubT lessT
  refine JC_exit (JQ_then_exit (JQ_then_exit (JQ_hit (JQ_then (JC_seq ?_)))))
  refine JC_region ?_
  refine JL_1 rfl (op_move rfl) ?_
  refine JL_1 rfl (op_assign rfl) ?_
  refine JL_nil ?_
  refine JQ_then (JC_ret ?_)
  exact JQ_ret1 Try.results34 rfl () (fun φ v f h => ⟨⟨ms, HG.out, hm⟩, h⟩) (List.nil_sublist _)
end Go.Proofs.Ytccgnekcbdkilaa

/- Contracts: records and logs made of raw numbers. Own work. -/
namespace Go.Proofs.Ytccgnekcbdkilaa
open Go.RowKit
set_option linter.unusedVariables false
set_option linter.unusedSimpArgs false
set_option maxRecDepth 100000
structure GoodRec (lines : Int) (r : Int × List Pg) : Prop where
  s : 1 ≤ r.1 ∧ r.1 ≤ 1000
  n : 1 ≤ r.2.length ∧ r.2.length ≤ 12
  g : GoodPgs lines r.2
theorem good_one {lines : Int} {p : Pg} (h : GoodPg lines p) : GoodPgs lines [p] := ⟨fun q hq => by rw [List.mem_singleton] at hq; subst hq; exact h, List.pairwise_singleton _ _⟩
theorem good_head {lines : Int} {p : Pg} (h : GoodPg lines p) : headB p = true := by
  obtain ⟨k, h1, h2, h3⟩ := h.h
  unfold headB
  rw [h3]
  match k, h1, h2 with
  | 1, _, _ => decide
  | 2, _, _ => decide
  | 3, _, _ => decide
  | 4, _, _ => decide
/-- Such a record is valid. -/
theorem good_valid {lines l2 : Int} {r : Int × List Pg} (h : GoodRec lines r) (hl : lines ≤ l2) (h1 : 98 ≤ l2) (h2 : l2 ≤ 256) : validR r.1 r.2 l2 = 0 := by
  refine validR_0 ⟨h1, h2⟩ ⟨h.s.1, by have := h.s.2; omega, h.n.1, h.n.2⟩ (any_none fun k hk => ?_) ⟨fun k hk h0 => asc_at h.g.2 (by omega) hk, fun k hk => good_head (h.g.1 _ (pg_mem hk))⟩
  have := h.g.1 _ (pg_mem hk)
  unfold outB
  have h3 := this.lo
  have h4 := this.hi
  simp; omega
set_option maxHeartbeats 1000000 in
-- bodegahand.Record: function 9
theorem Record_ok (n : Int) (raw : List Int) (lines : Int) (hn : I64ok n) (hr : ∀ x, x ∈ raw → I64ok x) (hl : 98 ≤ lines ∧ lines ≤ 256) : FnP Try.prog 9 [Is (.int .i64 n), IsSl tI64 raw, Is (.int .i64 lines)] (VEx fun r : {r : Int × List Pg // GoodRec lines r} => IsRec r.1.1 r.1.2) := by
  have hq : 1 ≤ n % 1000 + 1 ∧ n % 1000 + 1 ≤ 1000 := by omega
  refine FnP.enter Try.func9 Try.ntmps9 rfl rfl ?_
  intro c hX
  refine JC_seq ?_
  refine JC_region ?_
  (refine JL_n rfl (op_allocN rfl nrmT rfl) ?_; intro i6)
  refine JL_nil ?_
  refine JQ_then (JC_seq ?_)
  refine JC_region ?_
  refine JL_1 rfl (op_move rfl) ?_
  refine JL_1 rfl (by first | ((refine op_call Try.call10 (Pick_ok _ _ ?_ ?_) ⟨evS, ⟨evS, trivial⟩⟩); all_goals (first | omega))) ?_
  refine JL_1 rfl (op_add (Ev.rfl' rfl) (Ev.rfl' rfl) wrapT) ?_
  refine JL_1 rfl (op_move rfl) ?_
  refine JL_1 rfl (op_move rfl) ?_
  refine JL_1 rfl (by first | ((refine op_call Try.call34 (Pages_ok _ _ ?_ ?_) ⟨evS, ⟨evS, ⟨evS, trivial⟩⟩⟩); all_goals (first | assumption | first | assumption | omega))) ?_
  (refine JL_ex 13 rfl (fun q => ?_)); obtain ⟨ms, hms, hm⟩ := q; dsimp only; have HG := Lib.hid hms; clear hms
  refine JL_1 rfl (op_buildN (qs := [(0, _), (1, _)]) rfl rfl rfl rfl ⟨⟨rfl, _, (Ev.rfl' rfl), cellsT⟩, ⟨⟨rfl, _, (Ev.rfl' rfl), cellsT⟩, trivial⟩⟩ (by rfl) nrmT) ?_
  (refine JL_n rfl (op_allocN rfl nrmT rfl) ?_; intro i7)
  refine JL_s0 (op_storeN (Ev.rfl' rfl) (Ev.rfl' rfl) cellsT replT nrmT (by rfl) (by rfl) (by rfl)) ?_
  refine JL_nil ?_
  refine JQ_then (JC_seq (JC_seq ?_))
  refine JC_region ?_
  refine JL_1 rfl (by first | exact op_fieldPtr (k := 1) (Ev.rfl' rfl) rfl rfl rfl rfl | exact op_fieldRefN (k := 1) (Ev.rfl' rfl) rfl rfl rfl rfl nrmT) ?_
  refine JL_1 rfl (by first | exact op_loadRef (Ev.rfl' rfl) rfl rfl rfl | exact op_loadPtr (Ev.rfl' rfl) memT (by rfl) (by rfl) (by rfl)) ?_
  refine JL_1 rfl (by first | exact op_len (Ev.rfl' rfl) rfl | exact op_lenLit (Ev.rfl' rfl) rfl) ?_
  refine JL_1 rfl (op_eql (Ev.rfl' rfl) (Ev.rfl' rfl)) ?_
  refine JL_nil ?_
  refine JQ_then ?_
  refine JC_cond (Ev.rfl' rfl) (fun h2 => ?_) (fun h2 => ?_)
  · refine JC_region ?_
    refine JL_1 rfl (op_move rfl) ?_
    refine JL_1 rfl (op_move rfl) ?_
    refine JL_1 rfl (by first | ((refine op_call Try.call23 (Page_ok _ _ ?_ ?_) ⟨evS, ⟨evS, trivial⟩⟩); all_goals (first | assumption | first | assumption | omega))) ?_
    (refine JL_ex 21 rfl (fun q => ?_)); obtain ⟨p, hp⟩ := q; dsimp only; have HP1 := Lib.hid hp; clear hp
    refine JL_1 rfl (op_buildSlice (size := 9) (qs := [(0, _)]) rfl rfl rfl ⟨⟨rfl, _, (Ev.rfl' rfl), cellsT⟩, trivial⟩ (by rfl) (by rfl)) ?_
    refine JL_set 22 (IsSl tPg [p]) rfl (by exact SubL.row (by rfl) (by rfl) (by (repeat' (first | exact SubL.rfl' | exact trivial | refine ⟨?_, ?_⟩)))) ?_
    refine JL_1 rfl (by first | exact op_fieldPtr (k := 1) (Ev.rfl' rfl) rfl rfl rfl rfl | exact op_fieldRefN (k := 1) (Ev.rfl' rfl) rfl rfl rfl rfl nrmT) ?_
    refine JL_s0 (op_storeN (Ev.rfl' rfl) (Ev.rfl' rfl) cellsT replT nrmT (by rfl) (by rfl) (by rfl)) ?_
    refine JL_nil ?_
    refine JQ_then (JC_seq ?_)
    refine JC_region ?_
    refine JL_1 rfl (by first | exact op_loadRefsN (n := 2) (Ev.rfl' rfl) rfl rfl rfl (by rfl) nrmT | exact op_loadPtrsN (n := 2) (Ev.rfl' rfl) memT (by rfl) (by rfl) (by rfl) (by rfl) nrmT) ?_
    refine JL_s0 (op_storeN (Ev.rfl' rfl) (Ev.rfl' rfl) cellsT replT nrmT (by rfl) (by rfl) (by rfl)) ?_
    refine JL_nil ?_
    refine JQ_then (JC_ret ?_)
    first
      | exact JQ_ret (Bs := [IsRec (n % 1000 + 1) [p]]) Try.results9 ⟨⟨_, _, _, _, rfl, memT, rfl, .inr ⟨rfl, _, rfl, rfl, subT⟩⟩, trivial⟩ () (fun φ v f h => ⟨⟨(n % 1000 + 1, [p]), ⟨hq, by simp, good_one HP1.out⟩⟩, h⟩) (List.nil_sublist _)
      | exact JQ_ret (Bs := [IsRec (n % 1000 + 1) ms]) Try.results9 ⟨⟨_, _, _, _, rfl, memT, rfl, .inr ⟨rfl, _, rfl, rfl, subT⟩⟩, trivial⟩ () (fun φ v f h => ⟨⟨(n % 1000 + 1, ms), ⟨hq, ⟨by simp at h2; show 1 ≤ ms.length; rcases ms with _ | ⟨a, b⟩ <;> simp_all, hm⟩, HG.out⟩⟩, h⟩) (List.nil_sublist _)
  refine JC_skip (JQ_then (JC_seq ?_))
  refine JC_region ?_
  refine JL_1 rfl (by first | exact op_loadRefsN (n := 2) (Ev.rfl' rfl) rfl rfl rfl (by rfl) nrmT | exact op_loadPtrsN (n := 2) (Ev.rfl' rfl) memT (by rfl) (by rfl) (by rfl) (by rfl) nrmT) ?_
  refine JL_s0 (op_storeN (Ev.rfl' rfl) (Ev.rfl' rfl) cellsT replT nrmT (by rfl) (by rfl) (by rfl)) ?_
  refine JL_nil ?_
  refine JQ_then (JC_ret ?_)
  first
    | exact JQ_ret (Bs := [IsRec (n % 1000 + 1) [p]]) Try.results9 ⟨⟨_, _, _, _, rfl, memT, rfl, .inr ⟨rfl, _, rfl, rfl, subT⟩⟩, trivial⟩ () (fun φ v f h => ⟨⟨(n % 1000 + 1, [p]), ⟨hq, by simp, good_one HP1.out⟩⟩, h⟩) (List.nil_sublist _)
    | exact JQ_ret (Bs := [IsRec (n % 1000 + 1) ms]) Try.results9 ⟨⟨_, _, _, _, rfl, memT, rfl, .inr ⟨rfl, _, rfl, rfl, subT⟩⟩, trivial⟩ () (fun φ v f h => ⟨⟨(n % 1000 + 1, ms), ⟨hq, ⟨by simp at h2; show 1 ≤ ms.length; rcases ms with _ | ⟨a, b⟩ <;> simp_all, hm⟩, HG.out⟩⟩, h⟩) (List.nil_sublist _)
theorem bodyW_len {seq : Int} {ms : List Pg} (h : validR seq ms 256 = 0) : (bodyW seq ms).length = 3 + 9 * ms.length := by
  unfold bodyW
  rw [if_pos h, List.length_append, bodyP_len seq ms ms.length (Nat.le_refl _)]
  simp; omega
theorem bodyW_le (seq : Int) (ms : List Pg) : (bodyW seq ms).length ≤ 112 := by
  by_cases h : validR seq ms 256 = 0
  · rw [bodyW_len h]
    have := (validR_ok h).2.1.2.2.2
    omega
  · unfold bodyW; rw [if_neg h]; simp
/-- A log: its mark, its body, the rest. -/
noncomputable def logW (mark rest : BitVec 64) (seq : Int) (ms : List Pg) : List (BitVec 64) := mark :: (List.replicate 7 0#64 ++ bodyW seq ms ++ List.replicate (112 - (bodyW seq ms).length) rest)
theorem fill_one (rest : BitVec 64) {k : Nat} (h1 : 8 ≤ k) (h2 : k < 120) : (List.replicate 8 0#64 ++ List.replicate (k - 8) rest ++ List.replicate (120 - k) 0#64).set k rest = List.replicate 8 0#64 ++ List.replicate (k + 1 - 8) rest ++ List.replicate (120 - (k + 1)) 0#64 := by
  rw [List.set_append_right _ _ (by simp; omega), show 120 - k = (120 - (k + 1)) + 1 by omega, List.replicate_succ (n := 120 - (k + 1)), show k + 1 - 8 = (k - 8) + 1 by omega, List.replicate_succ' (n := k - 8)]
  have : k - (List.replicate 8 0#64 ++ List.replicate (k - 8) rest).length = 0 := by simp; omega
  rw [this]
  simp
theorem lay_one {bs : List (BitVec 64)} {k : Nat} {x rest : BitVec 64} (hx : bs[k]? = some x) (hb : bs.length ≤ 112) : (List.replicate 8 0#64 ++ bs.take k ++ List.replicate (112 - k) rest).set (8 + k) x = List.replicate 8 0#64 ++ bs.take (k + 1) ++ List.replicate (112 - (k + 1)) rest := by
  have hk : k < bs.length := (List.getElem?_eq_some_iff.1 hx).1
  rw [List.set_append_right _ _ (by simp; omega), take_add1 hx, show 112 - k = (112 - (k + 1)) + 1 by omega, List.replicate_succ (n := 112 - (k + 1))]
  have : 8 + k - (List.replicate 8 0#64 ++ bs.take k).length = 0 := by simp; omega
  rw [this]
  simp
set_option maxHeartbeats 2000000 in
-- bodegahand.Log: function 29
theorem Log_ok (seq : Int) (ms : List Pg) (mark rest : BitVec 64) : Fn Try.prog 29 [IsRec seq ms, Is (.int .u64 (UV mark)), Is (.int .u64 (UV rest))] [] (fun i : Option Addr × Nat => Is (slV 120 i)) (fun i => [buf (slV 120 i) 28 tU64 (logW mark rest seq ms)]) := by
  have hbl := bodyW_le seq ms
  refine Fn.enterN Try.func29 Try.ntmps29 rfl rfl ?_
  intro c hX
  refine JC_seq ?_
  refine JC_region ?_
  (refine JL_n rfl (op_box (Ev.rfl' rfl) cellsT) ?_; intro i3)
  refine JL_1 rfl (op_assign rfl) ?_
  refine JL_nil ?_
  refine JQ_then (JC_seq ?_)
  refine JC_region ?_
  (refine JL_n rfl (op_makeRow tU64 0#64 (n := 120) (Ev.rfl' rfl) (Ev.rfl' rfl) rfl rfl rfl rfl rfl (by rfl) (by first | decide | omega)) ?_; intro i11)
  refine JL_1 rfl (op_assign rfl) ?_
  refine JL_nil ?_
  refine JQ_then (JC_seq (JC_seq ?_))
  refine JC_region ?_
  refine JL_1 rfl (op_assign rfl) ?_
  refine JL_nil ?_
  refine JQ_then (JC_block ?_)
  refine JC_loopP (fun k : Nat => 8 ≤ k ∧ k ≤ 120) (fun k => [(1, Is (.int .u64 (UV mark))), (2, Is (.int .u64 (UV rest))), (3, Is (.pointer (some ⟨i3, 0, none⟩))), (7, Is (slV 120 (some ⟨i11, 0, none⟩, 120))), (8, Is (.int .i64 (k : Nat)))]) (fun k => [blk i3 25 [Is (.int .i64 seq), IsSl tPg ms], buf (slV 120 (some ⟨i11, 0, none⟩, 120)) 28 tU64 (List.replicate 8 0#64 ++ List.replicate (k - 8) rest ++ List.replicate (120 - k) 0#64)]) (fun k => 120 - k) 8 ⟨by omega, by omega⟩ esubT lessT ?_
  rintro k ⟨hk1, hk2⟩
  refine JC_seq (JC_seq ?_)
  refine JC_region ?_
  refine JL_1 rfl (op_move rfl) ?_
  refine JL_1 rfl (op_move rfl) ?_
  refine JL_1 rfl (by first | exact op_len (Ev.rfl' rfl) rfl | exact op_lenLit (Ev.rfl' rfl) rfl) ?_
  refine JL_1 rfl (op_lss (Ev.rfl' rfl) (Ev.rfl' rfl)) ?_
  refine JL_nil ?_
  refine JQ_then ?_
  refine JC_cond (Ev.rfl' rfl) (fun h3 => ?_) (fun h3 => ?_)
  · have hk : k < 120 := by have := of_decide_eq_true h3; omega
    have hset := fill_one rest hk1 hk
    have hll : (List.replicate 8 0#64 ++ List.replicate (k - 8) rest ++ List.replicate (120 - k) 0#64).length = 120 := by simp; omega
    obtain ⟨y, hy⟩ : ∃ y, (List.replicate 8 0#64 ++ List.replicate (k - 8) rest ++ List.replicate (120 - k) 0#64)[k]? = some y := ⟨_, List.getElem?_eq_getElem (by omega)⟩
    clear h3
    refine JC_skip (JQ_then (JC_seq (JC_block ?_)))
    refine JC_region ?_
    refine JL_1 rfl (op_move rfl) ?_
    refine JL_1 rfl (op_move rfl) ?_
    refine JL_1 rfl (op_move rfl) ?_
    refine JL_1 rfl (by first | exact op_indexBuf (k := k) (Ev.rfl' rfl) memT (Ev.rfl' rfl) rfl rfl idxT lenT | exact op_index (j := _) (Ev.rfl' rfl) (Ev.rfl' rfl) rfl rfl (by first | rfl | omega) hz | exact op_index (j := _) (Ev.rfl' rfl) (Ev.rfl' rfl) rfl rfl (by first | rfl | omega) (by assumption)) ?_
    refine JL_s0 (by first | exact op_storeBuf (z' := rest) (Ev.rfl' rfl) (Ev.rfl' rfl) cellsT replT hy rfl (by rfl) (by rfl) | exact op_storeBuf0 (z' := rest) (Ev.rfl' rfl) (Ev.rfl' rfl) cellsT replT hy rfl (by rfl) (by rfl)) ?_
    refine JL_nil ?_
    refine JQ_block (JQ_then ?_)
    refine JC_bufEq replT hset ?_
    refine JC_region ?_
    refine JL_1 rfl (op_move rfl) ?_
    refine JL_1 rfl (op_add (Ev.rfl' rfl) (Ev.rfl' rfl) wrapT) ?_
    refine JL_1 rfl (op_assign rfl) ?_
    refine JL_nil ?_
    exact JQ_roundP (k + 1) ⟨by omega, by omega⟩ (by omega) esubT lessT
  have hk : k = 120 := by have := of_decide_eq_false h3; omega
  subst hk
  clear h3
  refine JC_exit (JQ_then_exit (JQ_then_exit (JQ_hit (JQ_then (JC_seq ?_)))))
  refine JC_region ?_
  refine JL_1 rfl (by first | exact op_loadRefsN (n := 2) (Ev.rfl' rfl) rfl rfl rfl (by rfl) nrmT | exact op_loadPtrsN (n := 2) (Ev.rfl' rfl) memT (by rfl) (by rfl) (by rfl) (by rfl) nrmT) ?_
  refine JL_1 rfl (op_call Try.call19 (BodyR_ok _ _) ⟨evS, trivial⟩) ?_
  refine JL_1 rfl (op_assign rfl) ?_
  refine JL_nil ?_
  refine JQ_then (JC_seq (JC_seq ?_))
  refine JC_region ?_
  refine JL_1 rfl (op_assign rfl) ?_
  refine JL_nil ?_
  refine JQ_then (JC_block ?_)
  refine JC_loopP (fun k : Nat => k ≤ (bodyW seq ms).length) (fun k => [(1, Is (.int .u64 (UV mark))), (7, Is (slV 120 (some ⟨i11, 0, none⟩, 120))), (9, IsSl tU64 (bodyW seq ms)), (10, Is (.int .i64 (k : Nat)))]) (fun k => [buf (slV 120 (some ⟨i11, 0, none⟩, 120)) 28 tU64 (List.replicate 8 0#64 ++ (bodyW seq ms).take k ++ List.replicate (112 - k) rest)]) (fun k => (bodyW seq ms).length - k) 0 (Nat.zero_le _) esubT lessT ?_
  rintro k hk
  refine JC_seq (JC_seq ?_)
  refine JC_region ?_
  refine JL_1 rfl (op_move rfl) ?_
  refine JL_1 rfl (op_move rfl) ?_
  refine JL_1 rfl (by first | exact op_len (Ev.rfl' rfl) rfl | exact op_lenLit (Ev.rfl' rfl) rfl) ?_
  refine JL_1 rfl (op_lss (Ev.rfl' rfl) (Ev.rfl' rfl)) ?_
  refine JL_nil ?_
  refine JQ_then ?_
  refine JC_cond (Ev.rfl' rfl) (fun h8 => ?_) (fun h8 => ?_)
  · have hk' : k < (bodyW seq ms).length := by have := of_decide_eq_true h8; omega
    obtain ⟨x, hz⟩ : ∃ x, (bodyW seq ms)[k]? = some x := ⟨_, List.getElem?_eq_getElem hk'⟩
    have hset := lay_one (rest := rest) hz hbl
    have hll : (List.replicate 8 0#64 ++ (bodyW seq ms).take k ++ List.replicate (112 - k) rest).length = 120 := by simp; omega
    obtain ⟨y, hy⟩ : ∃ y, (List.replicate 8 0#64 ++ (bodyW seq ms).take k ++ List.replicate (112 - k) rest)[8 + k]? = some y := ⟨_, List.getElem?_eq_getElem (by omega)⟩
    clear h8
    refine JC_skip (JQ_then (JC_seq (JC_block ?_)))
    refine JC_region ?_
    refine JL_1 rfl (op_move rfl) ?_
    refine JL_1 rfl (op_move rfl) ?_
    refine JL_1 rfl (op_add (Ev.rfl' rfl) (Ev.rfl' rfl) wrapT) ?_
    refine JL_1 rfl (op_move rfl) ?_
    refine JL_1 rfl (op_move rfl) ?_
    refine JL_1 rfl (by first | exact op_index (j := _) (Ev.rfl' rfl) (Ev.rfl' rfl) rfl rfl (by first | rfl | omega) hz | exact op_index (j := _) (Ev.rfl' rfl) (Ev.rfl' rfl) rfl rfl (by first | rfl | omega) (by assumption)) ?_
    refine JL_1 rfl (by first | exact op_loadRef (Ev.rfl' rfl) rfl rfl rfl | exact op_loadPtr (Ev.rfl' rfl) memT (by rfl) (by rfl) (by rfl)) ?_
    refine JL_1 rfl (by first | exact op_indexBuf (k := 8 + k) (Ev.rfl' rfl) memT (Ev.rfl' rfl) rfl rfl idxT lenT | exact op_index (j := _) (Ev.rfl' rfl) (Ev.rfl' rfl) rfl rfl (by first | rfl | omega) hz | exact op_index (j := _) (Ev.rfl' rfl) (Ev.rfl' rfl) rfl rfl (by first | rfl | omega) (by assumption)) ?_
    refine JL_s0 (by first | exact op_storeBuf (z' := x) (Ev.rfl' rfl) (Ev.rfl' rfl) cellsT replT hy rfl (by rfl) (by rfl) | exact op_storeBuf0 (z' := x) (Ev.rfl' rfl) (Ev.rfl' rfl) cellsT replT hy rfl (by rfl) (by rfl)) ?_
    refine JL_nil ?_
    refine JQ_block (JQ_then ?_)
    refine JC_bufEq replT hset ?_
    refine JC_region ?_
    refine JL_1 rfl (op_move rfl) ?_
    refine JL_1 rfl (op_add (Ev.rfl' rfl) (Ev.rfl' rfl) wrapT) ?_
    refine JL_1 rfl (op_assign rfl) ?_
    refine JL_nil ?_
    exact JQ_roundP (k + 1) (by omega) (by omega) esubT lessT
  have hk' : k = (bodyW seq ms).length := by have := of_decide_eq_false h8; omega
  subst hk'
  clear h8
  have hll : (List.replicate 8 0#64 ++ (bodyW seq ms).take (bodyW seq ms).length ++ List.replicate (112 - (bodyW seq ms).length) rest).length = 120 := by simp; omega
  obtain ⟨y, hy⟩ : ∃ y, (List.replicate 8 0#64 ++ (bodyW seq ms).take (bodyW seq ms).length ++ List.replicate (112 - (bodyW seq ms).length) rest)[0]? = some y := ⟨_, List.getElem?_eq_getElem (by omega)⟩
  have hset : (List.replicate 8 0#64 ++ (bodyW seq ms).take (bodyW seq ms).length ++ List.replicate (112 - (bodyW seq ms).length) rest).set 0 mark = logW mark rest seq ms := by
    unfold logW
    rw [List.take_length]
    rfl
  refine JC_exit (JQ_then_exit (JQ_then_exit (JQ_hit (JQ_then (JC_seq ?_)))))
  refine JC_region ?_
  refine JL_1 rfl (op_move rfl) ?_
  refine JL_1 rfl (op_move rfl) ?_
  refine JL_1 rfl (by first | exact op_indexBuf (k := 0) (Ev.rfl' rfl) memT (Ev.rfl' rfl) rfl rfl idxT lenT | exact op_index (j := 0) (Ev.rfl' rfl) (Ev.rfl' rfl) rfl rfl (by first | rfl | omega) hz | exact op_index (j := 0) (Ev.rfl' rfl) (Ev.rfl' rfl) rfl rfl (by first | rfl | omega) (by assumption)) ?_
  refine JL_s0 (by first | exact op_storeBuf (z' := mark) (Ev.rfl' rfl) (Ev.rfl' rfl) cellsT replT hy rfl (by rfl) (by rfl) | exact op_storeBuf0 (z' := mark) (Ev.rfl' rfl) (Ev.rfl' rfl) cellsT replT hy rfl (by rfl) (by rfl)) ?_
  refine JL_nil ?_
  refine JQ_then (JC_seq ?_)
  refine JC_bufEq replT hset ?_
  refine JC_region ?_
  refine JL_1 rfl (op_move rfl) ?_
  refine JL_1 rfl (op_assign rfl) ?_
  refine JL_nil ?_
  refine JQ_then (JC_ret ?_)
  exact JQ_retP (Bs := [Is (slV 120 (some ⟨i11, 0, none⟩, 120))]) Try.results29 ⟨⟨_, rfl, subT⟩, trivial⟩ (some ⟨i11, 0, none⟩, 120) SubL.rfl' lessT
end Go.Proofs.Ytccgnekcbdkilaa

/- Plain laws: what is parsed from a body. Own work. -/
namespace Go.Proofs.Ytccgnekcbdkilaa
open Go.RowKit
set_option linter.unusedVariables false
set_option linter.unusedSimpArgs false
set_option maxRecDepth 100000
theorem pgW_len (p : Pg) : (pgW p).length = 9 := rfl
theorem flatW_idx : ∀ {ms : List Pg} {k : Nat} {p : Pg} (j : Nat), ms[k]? = some p → j < 9 → (ms.flatMap pgW)[9 * k + j]? = (pgW p)[j]?
  | [], k, p, j, h, _ => by simp at h
  | q :: ms, 0, p, j, h, hj => by
    simp only [List.getElem?_cons_zero, Option.some.injEq] at h
    subst h
    rw [List.flatMap_cons, List.getElem?_append_left (by rw [pgW_len]; omega)]
    simp
  | q :: ms, k + 1, p, j, h, hj => by
    rw [List.flatMap_cons, List.getElem?_append_right (by rw [pgW_len]; omega), pgW_len, show 9 * (k + 1) + j - 9 = 9 * k + j by omega]
    exact flatW_idx j (by simpa using h) hj
theorem valid_256 {seq lines : Int} {ms : List Pg} (h : validR seq ms lines = 0) : validR seq ms 256 = 0 := by
  obtain ⟨h1, h2, h3, h4⟩ := validR_ok h
  refine validR_0 (by omega) h2 (any_none fun k hk => ?_) h4
  have h5 := List.any_eq_false.1 h3 _ (pg_mem hk)
  unfold outB at h5 ⊢
  simp at h5 ⊢
  omega
section
variable {seq lines : Int} {ms : List Pg} {more : List (BitVec 64)}
theorem bodyW_eq (h : validR seq ms 256 = 0) : bodyW seq ms ++ more = BitVec.ofInt 64 seq :: BitVec.ofInt 64 ms.length :: (ms.flatMap pgW ++ (crcW (bodyP seq ms ms.length) :: more)) := by
  unfold bodyW
  rw [if_pos h]
  unfold bodyP
  rw [List.take_length]
  simp
theorem wd_eq {b : List (BitVec 64)} {k : Nat} {x : BitVec 64} (h : b[k]? = some x) : wd b k = x := by
  unfold wd; rw [List.getD_eq_getElem?_getD, h]; rfl
theorem body_wd0 (h : validR seq ms 256 = 0) : wd (bodyW seq ms ++ more) 0 = BitVec.ofInt 64 seq := wd_eq (by rw [bodyW_eq h]; rfl)
theorem body_wd1 (h : validR seq ms 256 = 0) : wd (bodyW seq ms ++ more) 1 = BitVec.ofInt 64 ms.length := wd_eq (by rw [bodyW_eq h]; rfl)
theorem body_wd (h : validR seq ms 256 = 0) {k j : Nat} {x : BitVec 64} (hk : k < ms.length) (hx : (pgW (Pg.at ms k))[j]? = some x) : wd (bodyW seq ms ++ more) (2 + 9 * k + j) = x := by
  have hj : j < 9 := by have := (List.getElem?_eq_some_iff.1 hx).1; rw [pgW_len] at this; exact this
  have hl : (ms.flatMap pgW).length = 9 * ms.length := by
    have := bodyP_len seq ms ms.length (Nat.le_refl _)
    unfold bodyP at this
    rw [List.take_length, List.length_append] at this
    simp only [List.length_cons, List.length_nil] at this
    omega
  refine wd_eq ?_
  rw [bodyW_eq h, show 2 + 9 * k + j = (9 * k + j) + 1 + 1 by omega, List.getElem?_cons_succ, List.getElem?_cons_succ, List.getElem?_append_left (by rw [hl]; omega), flatW_idx j (Pg.at_get ms k hk) hj]
  exact hx
theorem ofInt_small {n : Int} (h : 0 ≤ n ∧ n < 18446744073709551616) : UV (BitVec.ofInt 64 n) = n := by
  unfold UV; rw [BitVec.toNat_ofInt]; simp; omega
theorem body_pgAt (hv : validR seq ms lines = 0) {k : Nat} (hk : k < ms.length) : pgAt (bodyW seq ms ++ more) k = Pg.at ms k := by
  have h := valid_256 hv
  obtain ⟨h1, h2, h3, h4⟩ := validR_ok h
  have h5 := List.any_eq_false.1 h3 _ (pg_mem hk)
  unfold outB at h5
  have h6 : 96 ≤ (Pg.at ms k).l ∧ (Pg.at ms k).l < 256 := by simp at h5; omega
  have hcap : capL (BitVec.ofInt 64 (Pg.at ms k).l) = (Pg.at ms k).l := by
    unfold capL; rw [ofInt_small (by omega), if_neg (by omega)]
  have w0 := body_wd (more := more) h hk (j := 0) rfl
  rw [Nat.add_zero] at w0
  unfold pgAt
  rw [w0, body_wd (j := 1) h hk rfl, body_wd (j := 2) h hk rfl, body_wd (j := 3) h hk rfl, body_wd (j := 4) h hk rfl, body_wd (j := 5) h hk rfl, body_wd (j := 6) h hk rfl, body_wd (j := 7) h hk rfl, body_wd (j := 8) h hk rfl, hcap]
theorem body_nW (h : validR seq ms 256 = 0) : nW (bodyW seq ms ++ more) = ms.length := by
  have h2 := (validR_ok h).2.1.2.2.2
  have := ofInt_small (n := ms.length) (by omega)
  unfold nW
  rw [body_wd1 h]
  unfold UV at this
  omega
theorem body_pages (hv : validR seq ms lines = 0) : pagesW (bodyW seq ms ++ more) ms.length = ms := by
  refine List.ext_getElem? fun k => ?_
  unfold pagesW
  rw [List.getElem?_map]
  by_cases hk : k < ms.length
  · rw [List.getElem?_range hk, Pg.at_get ms k hk]
    show some _ = _
    rw [body_pgAt hv hk]
  · rw [List.getElem?_eq_none (by simpa using hk), List.getElem?_eq_none (by omega)]; rfl
/-- A record is parsed from its body, whatever stands behind it. -/
theorem parse_body (hv : validR seq ms lines = 0) : parseV (bodyW seq ms ++ more) lines = (seq, ms, 0) := by
  have h := valid_256 hv
  obtain ⟨h1, h2, h3, h4⟩ := validR_ok hv
  have hs : UV (wd (bodyW seq ms ++ more) 0) = seq := by
    rw [body_wd0 h]; unfold okR1 at h2; exact ofInt_small (by omega)
  have hl := bodyW_len h
  have hp : preB (bodyW seq ms ++ more) := by
    unfold preB
    rw [hs, body_nW h, List.length_append, hl]
    unfold okR1 at h2
    omega
  rw [parseV_ok h1 hp (by rw [hs, body_nW h, body_pages hv, ← hl, List.take_left']; exact ⟨hv, rfl⟩; rfl), hs, body_nW h, body_pages hv]
end
def awakeP : Pg := ⟨96, 256#64, 0#64, 0#64, 0#64, 0#64, 0#64, 0#64, 0#64⟩
theorem awake_valid {lines : Int} (h : 98 ≤ lines ∧ lines ≤ 256) : validR 1 [awakeP] lines = 0 := by
  refine validR_0 h (by decide) (any_none fun k hk => ?_) ⟨fun k hk h0 => ?_, fun k hk => ?_⟩
  all_goals (have hk0 : k = 0 := by simp at hk; exact hk)
  all_goals subst hk0
  · unfold outB Pg.at awakeP; simp; omega
  · omega
  · decide
theorem awake_len : (bodyW 1 [awakeP]).length = 12 := by rw [bodyW_len (awake_valid (by omega))]; rfl
theorem awake_words : (bodyW 1 [awakeP])[0]? = some 1#64 ∧ (bodyW 1 [awakeP])[1]? = some 1#64 ∧ (bodyW 1 [awakeP])[2]? = some 96#64 ∧ (bodyW 1 [awakeP])[3]? = some 256#64 := by
  have := bodyW_eq (more := []) (awake_valid (lines := 256) (by omega))
  rw [List.append_nil] at this
  rw [this]
  exact ⟨rfl, rfl, rfl, rfl⟩
theorem awake_parse : parseV (bodyW 1 [awakeP]) 98 = (1, [awakeP], 0) := by
  have := parse_body (more := []) (awake_valid (lines := 98) (by omega))
  rwa [List.append_nil] at this
set_option maxHeartbeats 1000000 in
-- bodegalaw8.awake: function 11
theorem awake_ok : FnP Try.prog 11 [] (Is (.bool true)) := by
  have hw := awake_words
  have hl := awake_len
  have hp := awake_parse
  have hv := awake_valid (lines := 98) (by omega)
  refine FnP.enter Try.func11 Try.ntmps11 rfl rfl ?_
  intro c hX
  refine JC_seq ?_
  refine JC_region ?_
  refine JL_1 rfl (op_assign rfl) ?_
  refine JL_nil ?_
  refine JQ_then (JC_seq ?_)
  refine JC_region ?_
  refine JL_1 rfl (op_buildN (qs := [(0, _), (1, _)]) rfl rfl rfl rfl ⟨⟨rfl, _, (Ev.rfl' rfl), cellsT⟩, ⟨⟨rfl, _, (Ev.rfl' rfl), cellsT⟩, trivial⟩⟩ (by rfl) nrmT) ?_
  refine JL_1 rfl (op_buildSlice (size := 9) (qs := [(0, _)]) rfl rfl rfl ⟨⟨rfl, _, (Ev.rfl' rfl), cellsT⟩, trivial⟩ (by rfl) (by rfl)) ?_
  refine JL_set 6 (IsSl tPg [awakeP]) rfl (by exact SubL.row (by rfl) (by rfl) (by (repeat' (first | exact SubL.rfl' | exact trivial | refine ⟨?_, ?_⟩)))) ?_
  refine JL_1 rfl (op_buildN (qs := [(0, _), (1, _)]) rfl rfl rfl rfl ⟨⟨rfl, _, (Ev.rfl' rfl), cellsT⟩, ⟨⟨rfl, _, (Ev.rfl' rfl), cellsT⟩, trivial⟩⟩ (by rfl) nrmT) ?_
  (refine JL_n rfl (op_allocN rfl nrmT rfl) ?_; intro i1)
  refine JL_s0 (op_storeN (Ev.rfl' rfl) (Ev.rfl' rfl) cellsT replT nrmT (by rfl) (by rfl) (by rfl)) ?_
  refine JL_nil ?_
  refine JQ_then (JC_seq ?_)
  refine JC_region ?_
  refine JL_1 rfl (by first | exact op_loadRefsN (n := 2) (Ev.rfl' rfl) rfl rfl rfl (by rfl) nrmT | exact op_loadPtrsN (n := 2) (Ev.rfl' rfl) memT (by rfl) (by rfl) (by rfl) (by rfl) nrmT) ?_
  refine JL_1 rfl (op_call Try.call17 (Body_ok _ _) ⟨evS, trivial⟩) ?_
  refine JL_1 rfl (op_assign rfl) ?_
  refine JL_nil ?_
  refine JQ_then (JC_seq ?_)
  refine JC_region ?_
  refine JL_1 rfl (op_move rfl) ?_
  refine JL_1 rfl (op_call Try.call20 (ParseL_ok _ _) ⟨evS, ⟨evS, trivial⟩⟩) ?_
  refine JL_1 rfl (op_move rfl) ?_
  refine JL_1 rfl (op_extract (Ev.rfl' rfl) rfl) ?_
  refine JL_1 rfl (op_extract (Ev.rfl' rfl) rfl) ?_
  (refine JL_n rfl (op_allocN rfl nrmT rfl) ?_; intro i3)
  refine JL_s0 (op_storeN (Ev.rfl' rfl) (Ev.rfl' rfl) cellsT replT nrmT (by rfl) (by rfl) (by rfl)) ?_
  refine JL_1 rfl (op_assign rfl) ?_
  refine JL_nil ?_
  refine JQ_then (JC_seq ?_)
  rw [hp]
  refine JC_region ?_
  refine JL_1 rfl (by first | exact op_loadRefsN (n := 2) (Ev.rfl' rfl) rfl rfl rfl (by rfl) nrmT | exact op_loadPtrsN (n := 2) (Ev.rfl' rfl) memT (by rfl) (by rfl) (by rfl) (by rfl) nrmT) ?_
  refine JL_1 rfl (by first | ((refine op_call Try.call12 (ValidL_ok _ _ _) ⟨evS, ⟨evS, trivial⟩⟩)) | ((refine op_callB lendT Try.call12 (ValidL_ok _ _ _) ⟨evS, ⟨evS, trivial⟩⟩ pureT))) ?_
  refine JL_1 rfl (op_eql (Ev.rfl' rfl) (Ev.rfl' rfl)) ?_
  refine JL_1 rfl (op_move rfl) ?_
  (first | refine JL_i0 rfl rfl rfl (fun hg => (by have hg0 := hg; (try simp at hg); first | exact op_moveE (Ev.sub rfl (SubL.iteT (by first | assumption | (simp; done) | (simp; omega) | (simp_all; done)) SubL.rfl')) | exact op_moveE (Ev.rfl' rfl))) ?_ | refine JL_i rfl rfl rfl (fun hp hg => (by have hpg := Bool.and_eq_true_iff.2 ⟨hp, hg⟩; have hg0 := hg; (try simp at hg); first | exact op_moveE (Ev.sub rfl (SubL.iteT (by first | assumption | (simp; done) | (simp; omega) | (simp_all; done)) SubL.rfl')) | exact op_moveE (Ev.rfl' rfl))) ?_)
  (first | refine JL_i0 rfl rfl rfl (fun hg => (by have hg0 := hg; (try simp at hg); first | exact op_len evG rfl | exact op_lenLit evG rfl)) ?_ | refine JL_i rfl rfl rfl (fun hp hg => (by have hpg := Bool.and_eq_true_iff.2 ⟨hp, hg⟩; have hg0 := hg; (try simp at hg); first | exact op_len evG rfl | exact op_lenLit evG rfl)) ?_)
  (first | refine JL_i0 rfl rfl rfl (fun hg => (by have hg0 := hg; (try simp at hg); exact op_eql evG evG)) ?_ | refine JL_i rfl rfl rfl (fun hp hg => (by have hpg := Bool.and_eq_true_iff.2 ⟨hp, hg⟩; have hg0 := hg; (try simp at hg); exact op_eql evG evG)) ?_)
  refine JL_1 rfl (op_and (Ev.rfl' rfl) rfl (fun h => by first | exact SubL.rfl' | exact SubL.iteT (by first | (rw [h]; rfl) | (simp_all; done)) SubL.rfl')) ?_
  refine JL_1 rfl (op_move rfl) ?_
  (first | refine JL_i0 rfl rfl rfl (fun hg => (by have hg0 := hg; (try simp at hg); first | exact op_moveE (Ev.sub rfl (SubL.iteT (by first | assumption | (simp; done) | (simp; omega) | (simp_all; done)) SubL.rfl')) | exact op_moveE (Ev.rfl' rfl))) ?_ | refine JL_i rfl rfl rfl (fun hp hg => (by have hpg := Bool.and_eq_true_iff.2 ⟨hp, hg⟩; have hg0 := hg; (try simp at hg); first | exact op_moveE (Ev.sub rfl (SubL.iteT (by first | assumption | (simp; done) | (simp; omega) | (simp_all; done)) SubL.rfl')) | exact op_moveE (Ev.rfl' rfl))) ?_)
  (first | refine JL_i0 rfl rfl rfl (fun hg => (by have hg0 := hg; (try simp at hg); first | exact op_index (j := 0) evG evG rfl rfl (by first | rfl | omega) hw.1 | exact op_index (j := 0) evG evG rfl rfl (by first | rfl | omega) hw.2.1 | exact op_index (j := 0) evG evG rfl rfl (by first | rfl | omega) hw.2.2.1 | exact op_index (j := 0) evG evG rfl rfl (by first | rfl | omega) hw.2.2.2 | exact op_index (j := 0) evG evG rfl rfl (by first | rfl | omega) (by assumption))) ?_ | refine JL_i rfl rfl rfl (fun hp hg => (by have hpg := Bool.and_eq_true_iff.2 ⟨hp, hg⟩; have hg0 := hg; (try simp at hg); first | exact op_index (j := 0) evG evG rfl rfl (by first | rfl | omega) hw.1 | exact op_index (j := 0) evG evG rfl rfl (by first | rfl | omega) hw.2.1 | exact op_index (j := 0) evG evG rfl rfl (by first | rfl | omega) hw.2.2.1 | exact op_index (j := 0) evG evG rfl rfl (by first | rfl | omega) hw.2.2.2 | exact op_index (j := 0) evG evG rfl rfl (by first | rfl | omega) (by assumption))) ?_)
  (first | refine JL_i0 rfl rfl rfl (fun hg => (by have hg0 := hg; (try simp at hg); first | exact op_loadRef evG rfl rfl rfl | exact op_loadPtr evG memT (by rfl) (by rfl) (by rfl))) ?_ | refine JL_i rfl rfl rfl (fun hp hg => (by have hpg := Bool.and_eq_true_iff.2 ⟨hp, hg⟩; have hg0 := hg; (try simp at hg); first | exact op_loadRef evG rfl rfl rfl | exact op_loadPtr evG memT (by rfl) (by rfl) (by rfl))) ?_)
  (first | refine JL_i0 rfl rfl rfl (fun hg => (by have hg0 := hg; (try simp at hg); exact op_eql evG evG)) ?_ | refine JL_i rfl rfl rfl (fun hp hg => (by have hpg := Bool.and_eq_true_iff.2 ⟨hp, hg⟩; have hg0 := hg; (try simp at hg); exact op_eql evG evG)) ?_)
  refine JL_1 rfl (op_and (Ev.rfl' rfl) rfl (fun h => by first | exact SubL.rfl' | exact SubL.iteT (by first | (rw [h]; rfl) | (simp_all; done)) SubL.rfl')) ?_
  refine JL_1 rfl (op_move rfl) ?_
  (first | refine JL_i0 rfl rfl rfl (fun hg => (by have hg0 := hg; (try simp at hg); first | exact op_moveE (Ev.sub rfl (SubL.iteT (by first | assumption | (simp; done) | (simp; omega) | (simp_all; done)) SubL.rfl')) | exact op_moveE (Ev.rfl' rfl))) ?_ | refine JL_i rfl rfl rfl (fun hp hg => (by have hpg := Bool.and_eq_true_iff.2 ⟨hp, hg⟩; have hg0 := hg; (try simp at hg); first | exact op_moveE (Ev.sub rfl (SubL.iteT (by first | assumption | (simp; done) | (simp; omega) | (simp_all; done)) SubL.rfl')) | exact op_moveE (Ev.rfl' rfl))) ?_)
  (first | refine JL_i0 rfl rfl rfl (fun hg => (by have hg0 := hg; (try simp at hg); first | exact op_index (j := 1) evG evG rfl rfl (by first | rfl | omega) hw.1 | exact op_index (j := 1) evG evG rfl rfl (by first | rfl | omega) hw.2.1 | exact op_index (j := 1) evG evG rfl rfl (by first | rfl | omega) hw.2.2.1 | exact op_index (j := 1) evG evG rfl rfl (by first | rfl | omega) hw.2.2.2 | exact op_index (j := 1) evG evG rfl rfl (by first | rfl | omega) (by assumption))) ?_ | refine JL_i rfl rfl rfl (fun hp hg => (by have hpg := Bool.and_eq_true_iff.2 ⟨hp, hg⟩; have hg0 := hg; (try simp at hg); first | exact op_index (j := 1) evG evG rfl rfl (by first | rfl | omega) hw.1 | exact op_index (j := 1) evG evG rfl rfl (by first | rfl | omega) hw.2.1 | exact op_index (j := 1) evG evG rfl rfl (by first | rfl | omega) hw.2.2.1 | exact op_index (j := 1) evG evG rfl rfl (by first | rfl | omega) hw.2.2.2 | exact op_index (j := 1) evG evG rfl rfl (by first | rfl | omega) (by assumption))) ?_)
  (first | refine JL_i0 rfl rfl rfl (fun hg => (by have hg0 := hg; (try simp at hg); first | exact op_loadRef evG rfl rfl rfl | exact op_loadPtr evG memT (by rfl) (by rfl) (by rfl))) ?_ | refine JL_i rfl rfl rfl (fun hp hg => (by have hpg := Bool.and_eq_true_iff.2 ⟨hp, hg⟩; have hg0 := hg; (try simp at hg); first | exact op_loadRef evG rfl rfl rfl | exact op_loadPtr evG memT (by rfl) (by rfl) (by rfl))) ?_)
  (first | refine JL_i0 rfl rfl rfl (fun hg => (by have hg0 := hg; (try simp at hg); exact op_eql evG evG)) ?_ | refine JL_i rfl rfl rfl (fun hp hg => (by have hpg := Bool.and_eq_true_iff.2 ⟨hp, hg⟩; have hg0 := hg; (try simp at hg); exact op_eql evG evG)) ?_)
  refine JL_1 rfl (op_and (Ev.rfl' rfl) rfl (fun h => by first | exact SubL.rfl' | exact SubL.iteT (by first | (rw [h]; rfl) | (simp_all; done)) SubL.rfl')) ?_
  refine JL_1 rfl (op_move rfl) ?_
  (first | refine JL_i0 rfl rfl rfl (fun hg => (by have hg0 := hg; (try simp at hg); first | exact op_moveE (Ev.sub rfl (SubL.iteT (by first | assumption | (simp; done) | (simp; omega) | (simp_all; done)) SubL.rfl')) | exact op_moveE (Ev.rfl' rfl))) ?_ | refine JL_i rfl rfl rfl (fun hp hg => (by have hpg := Bool.and_eq_true_iff.2 ⟨hp, hg⟩; have hg0 := hg; (try simp at hg); first | exact op_moveE (Ev.sub rfl (SubL.iteT (by first | assumption | (simp; done) | (simp; omega) | (simp_all; done)) SubL.rfl')) | exact op_moveE (Ev.rfl' rfl))) ?_)
  (first | refine JL_i0 rfl rfl rfl (fun hg => (by have hg0 := hg; (try simp at hg); first | exact op_index (j := 2) evG evG rfl rfl (by first | rfl | omega) hw.1 | exact op_index (j := 2) evG evG rfl rfl (by first | rfl | omega) hw.2.1 | exact op_index (j := 2) evG evG rfl rfl (by first | rfl | omega) hw.2.2.1 | exact op_index (j := 2) evG evG rfl rfl (by first | rfl | omega) hw.2.2.2 | exact op_index (j := 2) evG evG rfl rfl (by first | rfl | omega) (by assumption))) ?_ | refine JL_i rfl rfl rfl (fun hp hg => (by have hpg := Bool.and_eq_true_iff.2 ⟨hp, hg⟩; have hg0 := hg; (try simp at hg); first | exact op_index (j := 2) evG evG rfl rfl (by first | rfl | omega) hw.1 | exact op_index (j := 2) evG evG rfl rfl (by first | rfl | omega) hw.2.1 | exact op_index (j := 2) evG evG rfl rfl (by first | rfl | omega) hw.2.2.1 | exact op_index (j := 2) evG evG rfl rfl (by first | rfl | omega) hw.2.2.2 | exact op_index (j := 2) evG evG rfl rfl (by first | rfl | omega) (by assumption))) ?_)
  (first | refine JL_i0 rfl rfl rfl (fun hg => (by have hg0 := hg; (try simp at hg); first | exact op_loadRef evG rfl rfl rfl | exact op_loadPtr evG memT (by rfl) (by rfl) (by rfl))) ?_ | refine JL_i rfl rfl rfl (fun hp hg => (by have hpg := Bool.and_eq_true_iff.2 ⟨hp, hg⟩; have hg0 := hg; (try simp at hg); first | exact op_loadRef evG rfl rfl rfl | exact op_loadPtr evG memT (by rfl) (by rfl) (by rfl))) ?_)
  (first | refine JL_i0 rfl rfl rfl (fun hg => (by have hg0 := hg; (try simp at hg); exact op_eql evG evG)) ?_ | refine JL_i rfl rfl rfl (fun hp hg => (by have hpg := Bool.and_eq_true_iff.2 ⟨hp, hg⟩; have hg0 := hg; (try simp at hg); exact op_eql evG evG)) ?_)
  refine JL_1 rfl (op_and (Ev.rfl' rfl) rfl (fun h => by first | exact SubL.rfl' | exact SubL.iteT (by first | (rw [h]; rfl) | (simp_all; done)) SubL.rfl')) ?_
  refine JL_1 rfl (op_move rfl) ?_
  (first | refine JL_i0 rfl rfl rfl (fun hg => (by have hg0 := hg; (try simp at hg); first | exact op_moveE (Ev.sub rfl (SubL.iteT (by first | assumption | (simp; done) | (simp; omega) | (simp_all; done)) SubL.rfl')) | exact op_moveE (Ev.rfl' rfl))) ?_ | refine JL_i rfl rfl rfl (fun hp hg => (by have hpg := Bool.and_eq_true_iff.2 ⟨hp, hg⟩; have hg0 := hg; (try simp at hg); first | exact op_moveE (Ev.sub rfl (SubL.iteT (by first | assumption | (simp; done) | (simp; omega) | (simp_all; done)) SubL.rfl')) | exact op_moveE (Ev.rfl' rfl))) ?_)
  (first | refine JL_i0 rfl rfl rfl (fun hg => (by have hg0 := hg; (try simp at hg); first | exact op_index (j := 3) evG evG rfl rfl (by first | rfl | omega) hw.1 | exact op_index (j := 3) evG evG rfl rfl (by first | rfl | omega) hw.2.1 | exact op_index (j := 3) evG evG rfl rfl (by first | rfl | omega) hw.2.2.1 | exact op_index (j := 3) evG evG rfl rfl (by first | rfl | omega) hw.2.2.2 | exact op_index (j := 3) evG evG rfl rfl (by first | rfl | omega) (by assumption))) ?_ | refine JL_i rfl rfl rfl (fun hp hg => (by have hpg := Bool.and_eq_true_iff.2 ⟨hp, hg⟩; have hg0 := hg; (try simp at hg); first | exact op_index (j := 3) evG evG rfl rfl (by first | rfl | omega) hw.1 | exact op_index (j := 3) evG evG rfl rfl (by first | rfl | omega) hw.2.1 | exact op_index (j := 3) evG evG rfl rfl (by first | rfl | omega) hw.2.2.1 | exact op_index (j := 3) evG evG rfl rfl (by first | rfl | omega) hw.2.2.2 | exact op_index (j := 3) evG evG rfl rfl (by first | rfl | omega) (by assumption))) ?_)
  (first | refine JL_i0 rfl rfl rfl (fun hg => (by have hg0 := hg; (try simp at hg); first | exact op_loadRef evG rfl rfl rfl | exact op_loadPtr evG memT (by rfl) (by rfl) (by rfl))) ?_ | refine JL_i rfl rfl rfl (fun hp hg => (by have hpg := Bool.and_eq_true_iff.2 ⟨hp, hg⟩; have hg0 := hg; (try simp at hg); first | exact op_loadRef evG rfl rfl rfl | exact op_loadPtr evG memT (by rfl) (by rfl) (by rfl))) ?_)
  (first | refine JL_i0 rfl rfl rfl (fun hg => (by have hg0 := hg; (try simp at hg); exact op_eql evG evG)) ?_ | refine JL_i rfl rfl rfl (fun hp hg => (by have hpg := Bool.and_eq_true_iff.2 ⟨hp, hg⟩; have hg0 := hg; (try simp at hg); exact op_eql evG evG)) ?_)
  refine JL_1 rfl (op_and (Ev.rfl' rfl) rfl (fun h => by first | exact SubL.rfl' | exact SubL.iteT (by first | (rw [h]; rfl) | (simp_all; done)) SubL.rfl')) ?_
  refine JL_1 rfl (op_move rfl) ?_
  (first | refine JL_i0 rfl rfl rfl (fun hg => (by have hg0 := hg; (try simp at hg); first | exact op_moveE (Ev.sub rfl (SubL.iteT (by first | assumption | (simp; done) | (simp; omega) | (simp_all; done)) SubL.rfl')) | exact op_moveE (Ev.rfl' rfl))) ?_ | refine JL_i rfl rfl rfl (fun hp hg => (by have hpg := Bool.and_eq_true_iff.2 ⟨hp, hg⟩; have hg0 := hg; (try simp at hg); first | exact op_moveE (Ev.sub rfl (SubL.iteT (by first | assumption | (simp; done) | (simp; omega) | (simp_all; done)) SubL.rfl')) | exact op_moveE (Ev.rfl' rfl))) ?_)
  (first | refine JL_i0 rfl rfl rfl (fun hg => (by have hg0 := hg; (try simp at hg); exact op_eql evG evG)) ?_ | refine JL_i rfl rfl rfl (fun hp hg => (by have hpg := Bool.and_eq_true_iff.2 ⟨hp, hg⟩; have hg0 := hg; (try simp at hg); exact op_eql evG evG)) ?_)
  refine JL_1 rfl (op_and (Ev.rfl' rfl) rfl (fun h => by first | exact SubL.rfl' | exact SubL.iteT (by first | (rw [h]; rfl) | (simp_all; done)) SubL.rfl')) ?_
  refine JL_1 rfl (op_move rfl) ?_
  (first | refine JL_i0 rfl rfl rfl (fun hg => (by have hg0 := hg; (try simp at hg); first | exact op_loadRefsN (n := 2) evG rfl rfl rfl (by rfl) nrmT | exact op_loadPtrsN (n := 2) evG memT (by rfl) (by rfl) (by rfl) (by rfl) nrmT)) ?_ | refine JL_i rfl rfl rfl (fun hp hg => (by have hpg := Bool.and_eq_true_iff.2 ⟨hp, hg⟩; have hg0 := hg; (try simp at hg); first | exact op_loadRefsN (n := 2) evG rfl rfl rfl (by rfl) nrmT | exact op_loadPtrsN (n := 2) evG memT (by rfl) (by rfl) (by rfl) (by rfl) nrmT)) ?_)
  (first | refine JL_i0 rfl rfl rfl (fun hg => (by have hg0 := hg; (try simp at hg); first | exact op_loadRefsN (n := 2) evG rfl rfl rfl (by rfl) nrmT | exact op_loadPtrsN (n := 2) evG memT (by rfl) (by rfl) (by rfl) (by rfl) nrmT)) ?_ | refine JL_i rfl rfl rfl (fun hp hg => (by have hpg := Bool.and_eq_true_iff.2 ⟨hp, hg⟩; have hg0 := hg; (try simp at hg); first | exact op_loadRefsN (n := 2) evG rfl rfl rfl (by rfl) nrmT | exact op_loadPtrsN (n := 2) evG memT (by rfl) (by rfl) (by rfl) (by rfl) nrmT)) ?_)
  (first | refine JL_i0 rfl rfl rfl (fun hg => (by have hg0 := hg; (try simp at hg); exact op_call Try.call15 (Same_ok _ _ _ _) ⟨evS, ⟨evS, trivial⟩⟩)) ?_ | refine JL_i rfl rfl rfl (fun hp hg => (by have hpg := Bool.and_eq_true_iff.2 ⟨hp, hg⟩; have hg0 := hg; (try simp at hg); exact op_call Try.call15 (Same_ok _ _ _ _) ⟨evS, ⟨evS, trivial⟩⟩)) ?_)
  refine JL_1 rfl (op_and (Ev.rfl' rfl) rfl (fun h => by first | exact SubL.rfl' | exact SubL.iteT (by first | (rw [h]; rfl) | (simp_all; done)) SubL.rfl')) ?_
  refine JL_1 rfl (op_assign rfl) ?_
  refine JL_nil ?_
  refine JQ_then (JC_ret ?_)
  refine JQ_ret1 Try.results11 rfl () (SubL.eq ?_) (List.nil_sublist _)
  rw [hv, hl]
  simp [UV]
end Go.Proofs.Ytccgnekcbdkilaa

/- Rules: a struct built in a stretch out of what the stretch has made; an array within a row of one's own. Own work. -/
namespace Go.Proofs.Ytccgnekcbdkilaa
open Go.RowKit
set_option linter.unusedVariables false
set_option linter.unusedSimpArgs false
section
variable {P : Program} {c : Ctx} {A : Nat → Option VP} {L : List Item} {d : Option Tmp} {ty : TypeId} {pos : String} {af : Array Edge} {g : Option (Nat × Bool)}
/-- A build that holds one of the stretch's own. -/
theorem op_buildT {s : Tmp} {κ : Type} {val : κ → Value} {I : κ → Item} {t : TypeId} {ps : Array (Nat × Operand)} {fs : List Field} {zs : List Value} {pl : List (Nat × Nat)} {qs : κ → List (Nat × List VP)} (rs : κ → List Value) (hu : P.underlying t = some (.struct fs.toArray)) (hz : (P.info? t).map (·.zero) = some (some (.agg zs.toArray))) (h1 : (zs.all Value.oneCell') = true)
    (hpl : sizesOf P fs = some pl) (hq : ∀ i, PartsE (fun t => if t = s then some (Is (val i)) else A t) L ps.toList (qs i)) (hf : ∀ i, fillL (fun i => pl[i]?) (zs.map Is) (qs i) = some ((rs i).map Is)) :
    OpT P c ⟨d, .build t ps, ty, pos, af, g⟩ A L s val I (fun i => .agg (rs i).toArray) I := by
  intro φ a w K Q i hm h1' he hk
  have hE : ∀ x, x ∈ (Op.build t ps).operands → ∀ B, Ev (fun t => if t = s then some (Is (val i)) else A t) L x B → B.ok φ (a.eval x) := by
    rintro x hx B ⟨D, h3, h4⟩
    by_cases hxs : x = .tmp s
    · subst hxs
      have h5 : D = Is (val i) := by
        simp only [evA, if_true] at h3
        injection h3 with h3
        exact h3.symm
      subst h5
      exact h4 φ _ (fun it hi => hm.mem.facts it (List.mem_cons_of_mem _ hi)) h1'
    · refine he x hx B ⟨D, ?_, h4⟩
      cases x with
      | tmp t =>
        have : t ≠ s := fun e => hxs (by rw [e])
        simpa only [evA, if_neg this] using h3
      | const v => exact h3
      | global v => exact h3
      | func v => exact h3
  have hp := (hq i).at_ (φ := φ) (a := a) fun j x hx => hE x (by simp only [Op.operands]; simp; exact ⟨j, by simpa using hx⟩)
  obtain ⟨us, g1, g2⟩ := fill_ok (alls_is (φ := φ) zs) (ones_all h1) hp (hf i)
  have h3 : (ps.map fun x => (x.1, a.eval x.2)).toList = ps.toList.map fun p => (p.1, a.eval p.2) := by simp
  have hrun : (execOp a.eval ⟨d, .build t ps, ty, pos, af, g⟩).run P w = .ok (.value (.agg (rs i).toArray)) w := by
    simp only [execOp]
    refine run_val ?_
    simp only [Instr.build, Sem.run_bind, run_zero hz, Result.andThen_ok, run_underlying hu, run_places hpl]
    have h4 : (fun (x : Nat) => pl.toArray[x]?) = (fun (i : Nat) => pl[i]?) := by funext x; simp
    rw [h3, h4]
    show (match Instr.fill (fun i => pl[i]?) zs.toArray (ps.toList.map fun p => (p.1, a.eval p.2)) with | some cells => pure (.agg cells) | _ => stuck _ : Sem Value).run P w = _
    rw [g1, ← alls_is_eq g2.1]; rfl
  unfold Oper.wp
  rw [hrun]
  have hit := hm.mem.items _ (List.mem_cons_self ..)
  exact hk i φ w (HP.start ⟨hm.mem.base, fun it hi => by rw [List.mem_singleton] at hi; subst hi; exact hit, List.pairwise_singleton _ _⟩)
/-- The place of an array's element within a row of one's own. -/
theorem op_indexArrBuf {α : Type} {T : Ty α} {xs : List α} {i : Option Addr × Nat} {n : Nat} {e e0 : TypeId} {x y : Operand} {t : TypeId} {o len sz k : Nat} {j : Int} {q : IntKind} (hx : Ev A L x (Is (bpt i o))) (hL : buf (slV n i) e0 T xs ∈ L) (h0 : 0 < xs.length) (hy : Ev A L y (Is (.int q j))) (hu : P.underlying t = some (.array len e)) (hs : (P.info? e).map (·.size) = some sz) (hj : j = k) (hk : k < len) :
    OpP P c ⟨d, .indexAddr t x y, ty, pos, af, g⟩ A L (Is (bpt i (o + k * sz))) :=
  opp fun φ a w hm he => by
    have h1 : a.eval x = bpt i o := he x (by simp [Op.operands]) _ hx
    have h6 : a.eval y = .int q j := he y (by simp [Op.operands]) _ hy
    obtain ⟨gg, cap, cur, rfl, _⟩ := own_buf hm hL h0
    refine ⟨_, ?_, rfl⟩
    have h7 : (0 : Int) ≤ j ∧ j < (len : Int) := by omega
    have h8 : j.toNat = k := by omega
    simp only [execOp, h1, h6, bpt]
    refine run_val ?_
    simp only [Instr.indexAt, asIntOf, Sem.run_bind, Sem.run_pure, Result.andThen_ok, run_underlying hu, Instr.sureAddr, h7, and_self, if_true, run_sizeOf hs, h8, addr_add0]
end
end Go.Proofs.Ytccgnekcbdkilaa

/- Readers of arrays. Own work. -/
namespace Go.Proofs.Ytccgnekcbdkilaa
open Go.RowKit Go.ChangeShapes Go.WideShapes Go.ChangeAt
set_option linter.unusedVariables false
set_option linter.unusedSimpArgs false
section
variable {H : Type} {enc : TypeId × Value → H} {P : Program} {w : World} {base : Nat} {sp : Nat → Bool} {held : Bool}
theorem flat_len {α : Type} (T : Ty α) (xs : List α) : (xs.flatMap T.cells).length = xs.length * T.size := by
  induction xs with
  | nil => simp
  | cons x xs ih => rw [List.flatMap_cons, List.length_append, ih, T.len, List.length_cons, Nat.add_mul]; omega
def tArr {α : Type} (n : Nat) (T : Ty α) : Ty {xs : List α // xs.length = n} := ⟨n * T.size, fun xs => xs.1.flatMap T.cells, fun xs => by rw [flat_len, xs.2]⟩
theorem alls_pieces {α : Type} {T : Ty α} {φ : Fz} (A : Nat → α) : ∀ (n : Nat) (cs : List Value), cs.length = n * T.size → (∀ i, i < n → Alls φ (T.cells (A i)) ((cs.drop (i * T.size)).take T.size)) → Alls φ (((List.range n).map A).flatMap T.cells) cs
  | 0, cs, hl, _ => by
    have : cs = [] := List.eq_nil_of_length_eq_zero (by omega)
    subst this; trivial
  | n + 1, cs, hl, h => by
    have e2 : (n + 1) * T.size = n * T.size + T.size := by rw [Nat.add_mul, Nat.one_mul]
    rw [e2] at hl
    have h1 := alls_pieces (T := T) A n (cs.take (n * T.size)) (by rw [List.length_take, hl]; omega) fun i hi => by
      have h2 := h i (by omega)
      have e : ((cs.take (n * T.size)).drop (i * T.size)).take T.size = (cs.drop (i * T.size)).take T.size := by
        rw [List.drop_take, List.take_take]
        congr 1
        have : (i + 1) * T.size ≤ n * T.size := Nat.mul_le_mul_right _ hi
        rw [Nat.add_mul] at this
        omega
      rw [e]; exact h2
    have h3 := h n (by omega)
    rw [List.take_of_length_le (by rw [List.length_drop, hl]; omega)] at h3
    rw [List.range_succ, List.map_append, List.flatMap_append]
    have h4 := h1.append h3
    rw [List.take_append_drop] at h4
    simpa using h4
theorem rds_array {α : Type} {T : Ty α} {R : α → Prop} {t e : TypeId} {n : Nat} (ht : P.underlying t = some (.array n e)) (hc : P.cellsOf e = T.size) (hct : P.cellsOf t = n * T.size) (hn : Nat.blt 0 n = true) (he : Rds enc P w base sp held e T R) :
    Rds enc P w base sp held t (tArr n T) (fun xs => ∀ a ∈ xs.1, R a) := by
  intro fuel cs x h
  obtain ⟨xs, m, _, _, hlen, hxs, hf⟩ := DataW.trod_array ht h
  rw [hct] at hlen
  rw [hc] at hf
  have key : ∀ i, i < n → ∃ y : α, Alls (phi w) (T.cells y) ((cs.drop (i * T.size)).take T.size) ∧ ones ((cs.drop (i * T.size)).take T.size) ∧ R y := fun i hi => by
    have h1 := hf i hi
    rw [List.getElem?_eq_getElem (by omega)] at h1
    exact he _ _ _ h1
  have hn' : 0 < n := Nat.le_of_ble_eq_true hn
  obtain ⟨y0, _, _⟩ := key 0 hn'
  have : Inhabited α := ⟨y0⟩
  obtain ⟨A, hA⟩ := Go.Deep.choose_lt key
  refine ⟨⟨(List.range n).map A, by simp⟩, alls_pieces A n cs hlen fun i hi => (hA i hi).1, ?_, fun a ha => ?_⟩
  · have hone : ∀ k, k ≤ n → ones (cs.take (k * T.size)) := fun k => by
      induction k with
      | zero => intro _ u hu; simp at hu
      | succ k ih =>
        intro hk u hu
        rw [Nat.add_mul, Nat.one_mul, List.take_add] at hu
        rcases List.mem_append.1 hu with hu | hu
        · exact ih (by omega) u hu
        · exact (hA k (by omega)).2.1 u hu
    have := hone n (Nat.le_refl _)
    rwa [List.take_of_length_le (by omega)] at this
  · obtain ⟨i, hi, rfl⟩ := List.mem_map.1 ha
    exact (hA i (List.mem_range.1 hi)).2.2
end
end Go.Proofs.Ytccgnekcbdkilaa

/- The reader of pages. Own work. -/
namespace Go.Proofs.Ytccgnekcbdkilaa
open Go.RowKit Go.ChangeShapes Go.WideShapes Go.ChangeAt
set_option linter.unusedVariables false
set_option linter.unusedSimpArgs false
section
variable {H : Type} {enc : TypeId × Value → H} {w : World} {base : Nat} {sp : Nat → Bool} {held : Bool}
def Pg.wf (p : Pg) : Prop := I64ok p.l
theorem c9_Pg : Try.prog.cellsOf 31 = 9 := by kernel_rfl
theorem c9_A7 : Try.prog.cellsOf 29 = 7 := by kernel_rfl
theorem c9_u64 : Try.prog.cellsOf 28 = 1 := by kernel_rfl
theorem c9_int : Try.prog.cellsOf 3 = 1 := by kernel_rfl
theorem rds_Pg : Rds enc Try.prog w base sp held 31 tPg Pg.wf := by
  intro fuel cs x h
  obtain ⟨xs, n, _, _, hlen, hxs, hf⟩ := DataW.trod_struct Try.underlying31 h
  rw [c9_Pg] at hlen
  match cs, hlen with
  | [c0, c1, c2, c3, c4, c5, c6, c7, c8], _ =>
    match xs, hxs with
    | [x0, x1, x2], _ =>
      have f0 : DataW.trod enc Try.prog w base sp held n 3 (([c0, c1, c2, c3, c4, c5, c6, c7, c8].drop 0).take (Try.prog.cellsOf 3)) = some x0 := hf 0 _ rfl
      have f1 : DataW.trod enc Try.prog w base sp held n 28 (([c0, c1, c2, c3, c4, c5, c6, c7, c8].drop 1).take (Try.prog.cellsOf 28)) = some x1 := hf 1 _ rfl
      have f2 : DataW.trod enc Try.prog w base sp held n 29 (([c0, c1, c2, c3, c4, c5, c6, c7, c8].drop 2).take (Try.prog.cellsOf 29)) = some x2 := hf 2 _ rfl
      rw [c9_int] at f0
      rw [c9_u64] at f1
      rw [c9_A7] at f2
      obtain ⟨l, g0, o0, w0⟩ := (rds_i64 Try.underlying3) _ _ _ f0
      obtain ⟨hd, g1, o1, _⟩ := (rds_u64 Try.underlying28) _ _ _ f1
      obtain ⟨⟨ds, hl⟩, g2, o2, _⟩ := (rds_array Try.underlying29 (T := tU64) c9_u64 c9_A7 rfl (rds_u64 Try.underlying28)) _ _ _ f2
      match ds, hl with
      | [d0, d1, d2, d3, d4, d5, d6], _ => exact ⟨⟨l, hd, d0, d1, d2, d3, d4, d5, d6⟩, (g0.append g1).append g2, ones_app (ones_app o0 o1) o2, w0⟩
end
end Go.Proofs.Ytccgnekcbdkilaa

/- The walk of LogrecValid. Own work. -/
namespace Go.Proofs.Ytccgnekcbdkilaa
open Go.RowKit
set_option linter.unusedVariables false
set_option linter.unusedSimpArgs false
set_option maxRecDepth 100000
def Pg.setd (p : Pg) (j : Nat) (x : BitVec 64) : Pg := match j with
  | 0 => { p with d0 := x }
  | 1 => { p with d1 := x }
  | 2 => { p with d2 := x }
  | 3 => { p with d3 := x }
  | 4 => { p with d4 := x }
  | 5 => { p with d5 := x }
  | _ => { p with d6 := x }
theorem setd_cells (p : Pg) {j : Nat} (x : BitVec 64) (hj : j < 7) : tPg.cells (p.setd j x) = ovr (tPg.cells p) (2 + j) [Is (.int .u64 (UV x))] := by
  match j, hj with
  | 0, _ => rfl
  | 1, _ => rfl
  | 2, _ => rfl
  | 3, _ => rfl
  | 4, _ => rfl
  | 5, _ => rfl
  | 6, _ => rfl
theorem data_cell (p : Pg) {j : Nat} (hj : j < 7) : ∃ x : BitVec 64, (tPg.cells p)[2 + j]? = some (Is (.int .u64 (UV x))) := by
  match j, hj with
  | 0, _ => exact ⟨_, rfl⟩
  | 1, _ => exact ⟨_, rfl⟩
  | 2, _ => exact ⟨_, rfl⟩
  | 3, _ => exact ⟨_, rfl⟩
  | 4, _ => exact ⟨_, rfl⟩
  | 5, _ => exact ⟨_, rfl⟩
  | 6, _ => exact ⟨_, rfl⟩
theorem beq_nat {k j : Nat} (h : 2 + j + 1 ≤ 9) : (Nat.beq 1 1 && Nat.ble (2 + j + 1) 9) = true := by
  rw [Nat.ble_eq_true_of_le h]; rfl
set_option maxHeartbeats 4000000 in
-- bodegalaw8.LogrecValid: function 3
theorem LogrecValid_ok (seq : Int) (a b : List Pg) (lines : Int) (raw : List Int) (n : Int) (hs : I64ok seq) (hl : I64ok lines) (hn : I64ok n) (hr : ∀ x, x ∈ raw → I64ok x) :
    FnP Try.prog 3 [Is (.int .i64 seq), IsSl tPg a, IsSl tPg b, Is (.int .i64 lines), IsSl tI64 raw, Is (.int .i64 n)] (Is (.bool true)) := by
  refine FnP.enter Try.func3 Try.ntmps3 rfl rfl ?_
  intro c hX
  refine JC_seq ?_
  refine JC_region ?_
  refine JL_1 rfl (op_assign rfl) ?_
  refine JL_nil ?_
  refine JQ_then (JC_seq (JC_seq ?_))
  refine JC_region ?_
  refine JL_1 rfl (op_move rfl) ?_
  refine JL_1 rfl (by first | exact op_len (Ev.rfl' rfl) rfl | exact op_lenLit (Ev.rfl' rfl) rfl) ?_
  refine JL_1 rfl (op_gtr (Ev.rfl' rfl) (Ev.rfl' rfl)) ?_
  refine JL_1 rfl (op_move rfl) ?_
  (first | refine JL_i0 rfl rfl rfl (fun hg => (by have hg0 := hg; (try simp at hg); first | exact op_moveE (Ev.sub rfl (SubL.iteT (by first | assumption | (simp; done) | (simp; omega) | (simp_all; done)) SubL.rfl')) | exact op_moveE (Ev.rfl' rfl))) ?_ | refine JL_i rfl rfl rfl (fun hp hg => (by have hpg := Bool.and_eq_true_iff.2 ⟨hp, hg⟩; have hg0 := hg; (try simp at hg); first | exact op_moveE (Ev.sub rfl (SubL.iteT (by first | assumption | (simp; done) | (simp; omega) | (simp_all; done)) SubL.rfl')) | exact op_moveE (Ev.rfl' rfl))) ?_)
  (first | refine JL_i0 rfl rfl rfl (fun hg => (by have hg0 := hg; (try simp at hg); first | exact op_len evG rfl | exact op_lenLit evG rfl)) ?_ | refine JL_i rfl rfl rfl (fun hp hg => (by have hpg := Bool.and_eq_true_iff.2 ⟨hp, hg⟩; have hg0 := hg; (try simp at hg); first | exact op_len evG rfl | exact op_lenLit evG rfl)) ?_)
  (first | refine JL_i0 rfl rfl rfl (fun hg => (by have hg0 := hg; (try simp at hg); exact op_gtr evG evG)) ?_ | refine JL_i rfl rfl rfl (fun hp hg => (by have hpg := Bool.and_eq_true_iff.2 ⟨hp, hg⟩; have hg0 := hg; (try simp at hg); exact op_gtr evG evG)) ?_)
  refine JL_1 rfl (op_or (Ev.rfl' rfl) rfl (fun h => by first | exact SubL.rfl' | exact SubL.iteT (by first | (rw [h]; rfl) | (simp_all; done)) SubL.rfl')) ?_
  refine JL_1 rfl (op_move rfl) ?_
  (first | refine JL_i0 rfl rfl rfl (fun hg => (by have hg0 := hg; (try simp at hg); first | exact op_moveE (Ev.sub rfl (SubL.iteT (by first | assumption | (simp; done) | (simp; omega) | (simp_all; done)) SubL.rfl')) | exact op_moveE (Ev.rfl' rfl))) ?_ | refine JL_i rfl rfl rfl (fun hp hg => (by have hpg := Bool.and_eq_true_iff.2 ⟨hp, hg⟩; have hg0 := hg; (try simp at hg); first | exact op_moveE (Ev.sub rfl (SubL.iteT (by first | assumption | (simp; done) | (simp; omega) | (simp_all; done)) SubL.rfl')) | exact op_moveE (Ev.rfl' rfl))) ?_)
  (first | refine JL_i0 rfl rfl rfl (fun hg => (by have hg0 := hg; (try simp at hg); first | exact op_len evG rfl | exact op_lenLit evG rfl)) ?_ | refine JL_i rfl rfl rfl (fun hp hg => (by have hpg := Bool.and_eq_true_iff.2 ⟨hp, hg⟩; have hg0 := hg; (try simp at hg); first | exact op_len evG rfl | exact op_lenLit evG rfl)) ?_)
  (first | refine JL_i0 rfl rfl rfl (fun hg => (by have hg0 := hg; (try simp at hg); exact op_gtr evG evG)) ?_ | refine JL_i rfl rfl rfl (fun hp hg => (by have hpg := Bool.and_eq_true_iff.2 ⟨hp, hg⟩; have hg0 := hg; (try simp at hg); exact op_gtr evG evG)) ?_)
  refine JL_1 rfl (op_or (Ev.rfl' rfl) rfl (fun h => by first | exact SubL.rfl' | exact SubL.iteT (by first | (rw [h]; rfl) | (simp_all; done)) SubL.rfl')) ?_
  refine JL_nil ?_
  refine JQ_then ?_
  refine JC_cond (Ev.rfl' rfl) (fun h1 => ?_) (fun h1 => ?_)
  · refine JC_seq ?_
    refine JC_region ?_
    refine JL_1 rfl (op_assign rfl) ?_
    refine JL_nil ?_
    refine JQ_then (JC_ret (JQ_then_ret ?_))
    refine JQ_ret1 Try.results3 rfl () (SubL.eq ?_) (List.nil_sublist _)
    rfl
  clear h1
  refine JC_skip (JQ_then (JC_seq ?_))
  refine JC_region ?_
  refine JL_1 rfl (op_move rfl) ?_
  refine JL_1 rfl (op_move rfl) ?_
  refine JL_1 rfl (op_buildN (qs := [(0, _), (1, _)]) rfl rfl rfl rfl ⟨⟨rfl, _, (Ev.rfl' rfl), cellsT⟩, ⟨⟨rfl, _, (Ev.rfl' rfl), cellsT⟩, trivial⟩⟩ (by rfl) nrmT) ?_
  refine JL_1 rfl (op_move rfl) ?_
  refine JL_1 rfl (op_move rfl) ?_
  refine JL_1 rfl (op_buildN (qs := [(0, _), (1, _)]) rfl rfl rfl rfl ⟨⟨rfl, _, (Ev.rfl' rfl), cellsT⟩, ⟨⟨rfl, _, (Ev.rfl' rfl), cellsT⟩, trivial⟩⟩ (by rfl) nrmT) ?_
  (refine JL_n rfl (op_allocN rfl nrmT rfl) ?_; intro i13)
  (refine JL_n rfl (op_allocN rfl nrmT rfl) ?_; intro i14)
  refine JL_s0 (op_storeN (Ev.rfl' rfl) (Ev.rfl' rfl) cellsT replT nrmT (by rfl) (by rfl) (by rfl)) ?_
  refine JL_s0 (op_storeN (Ev.rfl' rfl) (Ev.rfl' rfl) cellsT replT nrmT (by rfl) (by rfl) (by rfl)) ?_
  refine JL_nil ?_
  refine JQ_then (JC_seq ?_)
  refine JC_region ?_
  refine JL_1 rfl (op_move rfl) ?_
  refine JL_1 rfl (op_move rfl) ?_
  refine JL_1 rfl (by first | ((refine op_call Try.call9 (Record_ok _ _ _ ?_ ?_ ?_) ⟨evS, ⟨evS, ⟨evS, trivial⟩⟩⟩); all_goals (first | assumption | first | assumption | omega))) ?_
  (refine JL_n rfl (op_allocN rfl nrmT rfl) ?_; intro i15)
  (refine JL_ex 40 rfl (fun q => ?_)); obtain ⟨⟨s, ms⟩, hg⟩ := q; dsimp only; have HG := Lib.hid hg; clear hg
  refine JL_s0 (op_storeN (Ev.rfl' rfl) (Ev.rfl' rfl) cellsT replT nrmT (by rfl) (by rfl) (by rfl)) ?_
  refine JL_nil ?_
  refine JQ_then (JC_seq ?_)
  have hml := HG.out.n
  have hml0 : 0 < ms.length := by have := hml.1; exact this
  dsimp only at hml
  refine JC_dr rfl (by kernel_rfl) ?_
  refine JD_stretch 7 (by kernel_rfl) ?_
  refine JW_1 (by first | exact op_fieldPtr (k := 0) (Ev.rfl' rfl) rfl rfl rfl rfl | exact op_fieldRefN (k := 0) (Ev.rfl' rfl) rfl rfl rfl rfl nrmT) ?_
  refine JW_1 (by first | exact op_loadRef (Ev.rfl' rfl) rfl rfl rfl | exact op_loadPtr (Ev.rfl' rfl) memT (by rfl) (by rfl) (by rfl)) ?_
  refine JW_1 (by first | exact op_fieldPtr (k := 1) (Ev.rfl' rfl) rfl rfl rfl rfl | exact op_fieldRefN (k := 1) (Ev.rfl' rfl) rfl rfl rfl rfl nrmT) ?_
  refine JW_1 (by first | exact op_loadRef (Ev.rfl' rfl) rfl rfl rfl | exact op_loadPtr (Ev.rfl' rfl) memT (by rfl) (by rfl) (by rfl)) ?_
  refine JW_n (op_appNil (T := tPg) (Ev.rfl' rfl) evS (by exact appT rfl rfl rfl) lenT) ?_
  refine JW_take (s := 45) rfl rfl rfl (by rfl) (by kernel_rfl) (op_buildT (qs := fun i => [(0, [Is (.int .i64 s)]), (1, [Is (slV ms.length i)])]) (fun i => [.int .i64 s, slV ms.length i]) rfl rfl rfl rfl (fun i => ⟨⟨rfl, _, (Ev.rfl' rfl), cellsT⟩, ⟨⟨rfl, _, (Ev.rfl' rfl), cellsT⟩, trivial⟩⟩) (fun i => rfl)) ?_
  refine JW_n (op_allocN rfl nrmT rfl) ?_
  refine ⟨rfl, ?_⟩
  intro i16 i46
  refine JD_s0 (by kernel_rfl) rfl (op_storeN (Ev.rfl' rfl) (Ev.rfl' rfl) cellsT replT nrmT (by rfl) (by rfl) (by rfl)) ?_
  refine JD_end ?_
  refine JQ_then (JC_seq ?_)
  refine JC_region ?_
  refine JL_1 rfl (op_move rfl) ?_
  refine JL_1 rfl (by first | exact op_fieldPtr (k := 1) (Ev.rfl' rfl) rfl rfl rfl rfl | exact op_fieldRefN (k := 1) (Ev.rfl' rfl) rfl rfl rfl rfl nrmT) ?_
  refine JL_1 rfl (by first | exact op_loadRef (Ev.rfl' rfl) rfl rfl rfl | exact op_loadPtr (Ev.rfl' rfl) memT (by rfl) (by rfl) (by rfl)) ?_
  refine JL_1 rfl (by first | exact op_len (Ev.rfl' rfl) rfl | exact op_lenLit (Ev.rfl' rfl) rfl) ?_
  refine JL_1 rfl (by first | ((refine op_call Try.call10 (Pick_ok _ _ ?_ ?_) ⟨evS, ⟨evS, trivial⟩⟩); all_goals (first | omega))) ?_
  refine JL_1 rfl (op_assign rfl) ?_
  refine JL_nil ?_
  refine JQ_then (JC_seq (JC_seq ?_))
  have hq : 0 ≤ n % ms.length ∧ n % ms.length < ms.length := ⟨Int.emod_nonneg _ (by omega), Int.emod_lt_of_pos _ (by omega)⟩
  obtain ⟨k, hk⟩ : ∃ k : Nat, n % ms.length = k := ⟨(n % ms.length).toNat, by omega⟩
  rw [hk] at hq
  obtain ⟨p, hz⟩ : ∃ p, ms[k]? = some p := ⟨_, List.getElem?_eq_getElem (by omega)⟩
  rw [hk]
  have hj0 : 0 ≤ n % 7 ∧ n % 7 < 7 := by omega
  obtain ⟨j, hj⟩ : ∃ j : Nat, n % 7 = j := ⟨(n % 7).toNat, by omega⟩
  have hj7 : j < 7 := by omega
  have hof : k * tPg.size + 2 + j * 1 = k * tPg.size + (2 + j) := by rw [Nat.mul_one, Nat.add_assoc]
  obtain ⟨dx, hdx⟩ := data_cell p hj7
  refine JC_region ?_
  refine JL_1 rfl (op_move rfl) ?_
  refine JL_1 rfl (op_quo (Ev.rfl' rfl) (Ev.rfl' rfl) (by omega) wrapT) ?_
  refine JL_1 rfl (by first | ((refine op_call Try.call10 (Pick_ok _ _ ?_ ?_) ⟨evS, ⟨evS, trivial⟩⟩); all_goals (first | omega))) ?_
  refine JL_nil ?_
  refine JQ_then ?_
  refine JC_cutT (fun z : Int × List Pg => True) (fun z => [(3, Is (.int .i64 lines)), (13, Is (.pointer (some ⟨i13, 0, none⟩))), (14, Is (.pointer (some ⟨i14, 0, none⟩))), (15, Is (.pointer (some ⟨i15, 0, none⟩))), (16, Is (.pointer (some ⟨i16, 0, none⟩)))]) (fun z => [blk i13 25 [Is (.int .i64 seq), IsSl tPg a], blk i14 25 [Is (.int .i64 seq), IsSl tPg b], blk i15 25 [Is (.int .i64 s), IsSl tPg ms], blk i16 25 [Is (.int .i64 z.1), IsSl tPg z.2]]) ?_ ?_
  rotate_left
  focus
    refine JC_block (JC_seq ?_)
    refine JC_region ?_
    refine JL_1 rfl (op_eql (Ev.rfl' rfl) (Ev.rfl' rfl)) ?_
    refine JL_1 rfl (op_assign rfl) ?_
    refine JL_nil ?_
    refine JQ_then ?_
    refine JC_cond (Ev.rfl' rfl) (fun h8 => ?_) (fun h8 => ?_)
    · refine JC_dr rfl (by kernel_rfl) ?_
      refine JD_stretch 7 (by kernel_rfl) ?_
      refine JW_1 (by first | exact op_fieldPtr (k := 0) (Ev.rfl' rfl) rfl rfl rfl rfl | exact op_fieldRefN (k := 0) (Ev.rfl' rfl) rfl rfl rfl rfl nrmT) ?_
      refine JW_1 (by first | exact op_loadRef (Ev.rfl' rfl) rfl rfl rfl | exact op_loadPtr (Ev.rfl' rfl) memT (by rfl) (by rfl) (by rfl)) ?_
      refine JW_1 (op_sub (Ev.rfl' rfl) (Ev.rfl' rfl) wrapT) ?_
      refine JW_1 (op_move rfl) ?_
      refine JW_1 (by first | ((refine op_call Try.call10 (Pick_ok _ _ ?_ ?_) ⟨evS, ⟨evS, trivial⟩⟩); all_goals (first | omega))) ?_
      refine JW_1 (op_sub (Ev.rfl' rfl) (Ev.rfl' rfl) wrapT) ?_
      refine JW_1 (by first | exact op_fieldPtr (k := 0) (Ev.rfl' rfl) rfl rfl rfl rfl | exact op_fieldRefN (k := 0) (Ev.rfl' rfl) rfl rfl rfl rfl nrmT) ?_
      refine ⟨rfl, ?_⟩
      refine JD_s0 (by kernel_rfl) rfl (op_storeN (Ev.rfl' rfl) (Ev.rfl' rfl) cellsT replT nrmT (by rfl) (by rfl) (by rfl)) ?_
      refine JD_end ?_
      refine JQ_block ?_
      refine JQ_freeze hX replT ?_
      refine JQ_blkSub (As' := [Is (.int .i64 _), IsSl tPg (ms)]) replT subsT ?_
      exact JQ_meetP (_, ms) trivial esubT lessT
    refine JC_seq ?_
    refine JC_region ?_
    refine JL_1 rfl (op_eql (Ev.rfl' rfl) (Ev.rfl' rfl)) ?_
    refine JL_1 rfl (op_assign rfl) ?_
    refine JL_nil ?_
    refine JQ_then ?_
    refine JC_cond (Ev.rfl' rfl) (fun h10 => ?_) (fun h10 => ?_)
    · refine JC_dr rfl (by kernel_rfl) ?_
      refine JD_stretch 15 (by kernel_rfl) ?_
      refine JW_1 (by first | exact op_fieldPtr (k := 1) (Ev.rfl' rfl) rfl rfl rfl rfl | exact op_fieldRefN (k := 1) (Ev.rfl' rfl) rfl rfl rfl rfl nrmT | exact op_fieldBuf (k := 1) (Ev.rfl' rfl) memT lenT rfl rfl rfl rfl) ?_
      refine JW_1 (by first | exact op_loadBuf (Ev.rfl' rfl) memT hz rfl rfl (by rfl) | exact op_loadBuf0 (Ev.rfl' rfl) memT hz rfl rfl (by rfl) | exact op_loadRef (Ev.rfl' rfl) rfl rfl rfl | exact op_loadPtr (Ev.rfl' rfl) memT (by rfl) (by rfl) (by rfl)) ?_
      refine JW_1 (op_move rfl) ?_
      refine JW_1 (by first | exact op_fieldPtr (k := 1) (Ev.rfl' rfl) rfl rfl rfl rfl | exact op_fieldRefN (k := 1) (Ev.rfl' rfl) rfl rfl rfl rfl nrmT | exact op_fieldBuf (k := 1) (Ev.rfl' rfl) memT lenT rfl rfl rfl rfl) ?_
      refine JW_1 (by first | exact op_loadBuf (Ev.rfl' rfl) memT hz rfl rfl (by rfl) | exact op_loadBuf0 (Ev.rfl' rfl) memT hz rfl rfl (by rfl) | exact op_loadRef (Ev.rfl' rfl) rfl rfl rfl | exact op_loadPtr (Ev.rfl' rfl) memT (by rfl) (by rfl) (by rfl)) ?_
      refine JW_1 (op_move rfl) ?_
      refine JW_1 (by first | exact op_indexBuf (k := k) (Ev.rfl' rfl) memT (Ev.rfl' rfl) rfl rfl idxT lenT | exact op_index (j := _) (Ev.rfl' rfl) (Ev.rfl' rfl) rfl rfl (by first | rfl | omega) hz | exact op_index (j := _) (Ev.rfl' rfl) (Ev.rfl' rfl) rfl rfl (by first | rfl | omega) (by assumption)) ?_
      refine JW_1 (by first | exact op_fieldPtr (k := 0) (Ev.rfl' rfl) rfl rfl rfl rfl | exact op_fieldRefN (k := 0) (Ev.rfl' rfl) rfl rfl rfl rfl nrmT | exact op_fieldBuf (k := 0) (Ev.rfl' rfl) memT lenT rfl rfl rfl rfl) ?_
      refine JW_1 (by first | exact op_loadBuf (Ev.rfl' rfl) memT hz rfl rfl (by rfl) | exact op_loadBuf0 (Ev.rfl' rfl) memT hz rfl rfl (by rfl) | exact op_loadRef (Ev.rfl' rfl) rfl rfl rfl | exact op_loadPtr (Ev.rfl' rfl) memT (by rfl) (by rfl) (by rfl)) ?_
      refine JW_1 (op_move rfl) ?_
      refine JW_1 (by first | ((refine op_call Try.call10 (Pick_ok _ _ ?_ ?_) ⟨evS, ⟨evS, trivial⟩⟩); all_goals (first | omega))) ?_
      refine JW_1 (op_add (Ev.rfl' rfl) (Ev.rfl' rfl) wrapT) ?_
      refine JW_1 (op_sub (Ev.rfl' rfl) (Ev.rfl' rfl) wrapT) ?_
      refine JW_1 (by first | exact op_indexBuf (k := k) (Ev.rfl' rfl) memT (Ev.rfl' rfl) rfl rfl idxT lenT | exact op_index (j := _) (Ev.rfl' rfl) (Ev.rfl' rfl) rfl rfl (by first | rfl | omega) hz | exact op_index (j := _) (Ev.rfl' rfl) (Ev.rfl' rfl) rfl rfl (by first | rfl | omega) (by assumption)) ?_
      refine JW_1 (by first | exact op_fieldPtr (k := 0) (Ev.rfl' rfl) rfl rfl rfl rfl | exact op_fieldRefN (k := 0) (Ev.rfl' rfl) rfl rfl rfl rfl nrmT | exact op_fieldBuf (k := 0) (Ev.rfl' rfl) memT lenT rfl rfl rfl rfl) ?_
      refine ⟨rfl, ?_⟩
      refine JD_s0 (by kernel_rfl) rfl (by first | exact op_storeBuf (z' := { p with l := IntKind.i64.wrap (IntKind.i64.wrap (p.l + n % 9) - 4) }) (Ev.rfl' rfl) (Ev.rfl' rfl) cellsT replT hz rfl (by rfl) (by rfl) | exact op_storeBuf0 (z' := { p with l := IntKind.i64.wrap (IntKind.i64.wrap (p.l + n % 9) - 4) }) (Ev.rfl' rfl) (Ev.rfl' rfl) cellsT replT hz rfl (by rfl) (by rfl)) ?_
      refine JD_end ?_
      refine JQ_block ?_
      refine JQ_freeze hX replT ?_
      refine JQ_blkSub (As' := [Is (.int .i64 s), IsSl tPg (ms.set k { p with l := IntKind.i64.wrap (IntKind.i64.wrap (p.l + n % 9) - 4) })]) replT subsT ?_
      exact JQ_meetP (s, ms.set k { p with l := IntKind.i64.wrap (IntKind.i64.wrap (p.l + n % 9) - 4) }) trivial esubT lessT
    refine JC_seq ?_
    refine JC_region ?_
    refine JL_1 rfl (op_eql (Ev.rfl' rfl) (Ev.rfl' rfl)) ?_
    refine JL_1 rfl (op_assign rfl) ?_
    refine JL_nil ?_
    refine JQ_then ?_
    refine JC_cond (Ev.rfl' rfl) (fun h12 => ?_) (fun h12 => ?_)
    · refine JC_dr rfl (by kernel_rfl) ?_
      refine JD_stretch 15 (by kernel_rfl) ?_
      refine JW_1 (by first | exact op_fieldPtr (k := 1) (Ev.rfl' rfl) rfl rfl rfl rfl | exact op_fieldRefN (k := 1) (Ev.rfl' rfl) rfl rfl rfl rfl nrmT | exact op_fieldBuf (k := 1) (Ev.rfl' rfl) memT lenT rfl rfl rfl rfl) ?_
      refine JW_1 (by first | exact op_loadBuf (Ev.rfl' rfl) memT hz rfl rfl (by rfl) | exact op_loadBuf0 (Ev.rfl' rfl) memT hz rfl rfl (by rfl) | exact op_loadRef (Ev.rfl' rfl) rfl rfl rfl | exact op_loadPtr (Ev.rfl' rfl) memT (by rfl) (by rfl) (by rfl)) ?_
      refine JW_1 (op_move rfl) ?_
      refine JW_1 (by first | exact op_fieldPtr (k := 1) (Ev.rfl' rfl) rfl rfl rfl rfl | exact op_fieldRefN (k := 1) (Ev.rfl' rfl) rfl rfl rfl rfl nrmT | exact op_fieldBuf (k := 1) (Ev.rfl' rfl) memT lenT rfl rfl rfl rfl) ?_
      refine JW_1 (by first | exact op_loadBuf (Ev.rfl' rfl) memT hz rfl rfl (by rfl) | exact op_loadBuf0 (Ev.rfl' rfl) memT hz rfl rfl (by rfl) | exact op_loadRef (Ev.rfl' rfl) rfl rfl rfl | exact op_loadPtr (Ev.rfl' rfl) memT (by rfl) (by rfl) (by rfl)) ?_
      refine JW_1 (op_move rfl) ?_
      refine JW_1 (by first | exact op_indexBuf (k := k) (Ev.rfl' rfl) memT (Ev.rfl' rfl) rfl rfl idxT lenT | exact op_index (j := _) (Ev.rfl' rfl) (Ev.rfl' rfl) rfl rfl (by first | rfl | omega) hz | exact op_index (j := _) (Ev.rfl' rfl) (Ev.rfl' rfl) rfl rfl (by first | rfl | omega) (by assumption)) ?_
      refine JW_1 (by first | exact op_fieldPtr (k := 1) (Ev.rfl' rfl) rfl rfl rfl rfl | exact op_fieldRefN (k := 1) (Ev.rfl' rfl) rfl rfl rfl rfl nrmT | exact op_fieldBuf (k := 1) (Ev.rfl' rfl) memT lenT rfl rfl rfl rfl) ?_
      refine JW_1 (by first | exact op_loadBuf (Ev.rfl' rfl) memT hz rfl rfl (by rfl) | exact op_loadBuf0 (Ev.rfl' rfl) memT hz rfl rfl (by rfl) | exact op_loadRef (Ev.rfl' rfl) rfl rfl rfl | exact op_loadPtr (Ev.rfl' rfl) memT (by rfl) (by rfl) (by rfl)) ?_
      refine JW_1 (op_move rfl) ?_
      refine JW_1 (by first | ((refine op_call Try.call10 (Pick_ok _ _ ?_ ?_) ⟨evS, ⟨evS, trivial⟩⟩); all_goals (first | omega))) ?_
      refine JW_1 (op_conv (Ev.rfl' rfl) rfl rfl convT) ?_
      refine JW_1 (by first | exact op_binU ev64 ev64 (add_u64 _ _ _) | exact op_add (Ev.rfl' rfl) (Ev.rfl' rfl) wrapT) ?_
      refine JW_1 (by first | exact op_indexBuf (k := k) (Ev.rfl' rfl) memT (Ev.rfl' rfl) rfl rfl idxT lenT | exact op_index (j := _) (Ev.rfl' rfl) (Ev.rfl' rfl) rfl rfl (by first | rfl | omega) hz | exact op_index (j := _) (Ev.rfl' rfl) (Ev.rfl' rfl) rfl rfl (by first | rfl | omega) (by assumption)) ?_
      refine JW_1 (by first | exact op_fieldPtr (k := 1) (Ev.rfl' rfl) rfl rfl rfl rfl | exact op_fieldRefN (k := 1) (Ev.rfl' rfl) rfl rfl rfl rfl nrmT | exact op_fieldBuf (k := 1) (Ev.rfl' rfl) memT lenT rfl rfl rfl rfl) ?_
      refine ⟨rfl, ?_⟩
      refine JD_s0 (by kernel_rfl) rfl (by first | exact op_storeBuf (z' := { p with h := p.h + BitVec.ofInt 64 (n % 3) }) (Ev.rfl' rfl) (Ev.rfl' rfl) cellsT replT hz rfl (by rfl) (by rfl) | exact op_storeBuf0 (z' := { p with h := p.h + BitVec.ofInt 64 (n % 3) }) (Ev.rfl' rfl) (Ev.rfl' rfl) cellsT replT hz rfl (by rfl) (by rfl)) ?_
      refine JD_end ?_
      refine JQ_block ?_
      refine JQ_freeze hX replT ?_
      refine JQ_blkSub (As' := [Is (.int .i64 s), IsSl tPg (ms.set k { p with h := p.h + BitVec.ofInt 64 (n % 3) })]) replT subsT ?_
      exact JQ_meetP (s, ms.set k { p with h := p.h + BitVec.ofInt 64 (n % 3) }) trivial esubT lessT
    refine JC_seq ?_
    refine JC_region ?_
    refine JL_1 rfl (op_eql (Ev.rfl' rfl) (Ev.rfl' rfl)) ?_
    refine JL_1 rfl (op_assign rfl) ?_
    refine JL_nil ?_
    refine JQ_then ?_
    refine JC_cond (Ev.rfl' rfl) (fun h14 => ?_) (fun h14 => ?_)
    · refine JC_dr rfl (by kernel_rfl) ?_
      refine JD_stretch 9 (by kernel_rfl) ?_
      refine JW_1 (by first | exact op_fieldPtr (k := 1) (Ev.rfl' rfl) rfl rfl rfl rfl | exact op_fieldRefN (k := 1) (Ev.rfl' rfl) rfl rfl rfl rfl nrmT | exact op_fieldBuf (k := 1) (Ev.rfl' rfl) memT lenT rfl rfl rfl rfl) ?_
      refine JW_1 (by first | exact op_loadBuf (Ev.rfl' rfl) memT hz rfl rfl (by rfl) | exact op_loadBuf0 (Ev.rfl' rfl) memT hz rfl rfl (by rfl) | exact op_loadRef (Ev.rfl' rfl) rfl rfl rfl | exact op_loadPtr (Ev.rfl' rfl) memT (by rfl) (by rfl) (by rfl)) ?_
      refine JW_1 (op_move rfl) ?_
      refine JW_1 (op_move rfl) ?_
      refine JW_1 (by first | ((refine op_call Try.call10 (Pick_ok _ _ ?_ ?_) ⟨evS, ⟨evS, trivial⟩⟩); all_goals (first | omega))) ?_
      refine JW_1 (op_conv (Ev.rfl' rfl) rfl rfl convT) ?_
      refine JW_1 (by first | exact op_binU ev64 ev64 (mul_u64 _ _ _) | exact op_mul (Ev.rfl' rfl) (Ev.rfl' rfl) wrapT) ?_
      refine JW_1 (by first | exact op_indexBuf (k := k) (Ev.rfl' rfl) memT (Ev.rfl' rfl) rfl rfl idxT lenT | exact op_index (j := _) (Ev.rfl' rfl) (Ev.rfl' rfl) rfl rfl (by first | rfl | omega) hz | exact op_index (j := _) (Ev.rfl' rfl) (Ev.rfl' rfl) rfl rfl (by first | rfl | omega) (by assumption)) ?_
      refine JW_1 (by first | exact op_fieldPtr (k := 1) (Ev.rfl' rfl) rfl rfl rfl rfl | exact op_fieldRefN (k := 1) (Ev.rfl' rfl) rfl rfl rfl rfl nrmT | exact op_fieldBuf (k := 1) (Ev.rfl' rfl) memT lenT rfl rfl rfl rfl) ?_
      refine ⟨rfl, ?_⟩
      refine JD_s0 (by kernel_rfl) rfl (by first | exact op_storeBuf (z' := { p with h := BitVec.ofInt 64 (n % 2) * 72057594037927680#64 }) (Ev.rfl' rfl) (Ev.rfl' rfl) cellsT replT hz rfl (by rfl) (by rfl) | exact op_storeBuf0 (z' := { p with h := BitVec.ofInt 64 (n % 2) * 72057594037927680#64 }) (Ev.rfl' rfl) (Ev.rfl' rfl) cellsT replT hz rfl (by rfl) (by rfl)) ?_
      refine JD_end ?_
      refine JQ_block ?_
      refine JQ_freeze hX replT ?_
      refine JQ_blkSub (As' := [Is (.int .i64 s), IsSl tPg (ms.set k { p with h := BitVec.ofInt 64 (n % 2) * 72057594037927680#64 })]) replT subsT ?_
      exact JQ_meetP (s, ms.set k { p with h := BitVec.ofInt 64 (n % 2) * 72057594037927680#64 }) trivial esubT lessT
    refine JC_seq ?_
    refine JC_region ?_
    refine JL_1 rfl (op_eql (Ev.rfl' rfl) (Ev.rfl' rfl)) ?_
    refine JL_1 rfl (op_assign rfl) ?_
    refine JL_nil ?_
    refine JQ_then ?_
    refine JC_cond (Ev.rfl' rfl) (fun h16 => ?_) (fun h16 => ?_)
    · refine JC_dr rfl (by kernel_rfl) ?_
      refine JD_stretch 13 (by kernel_rfl) ?_
      refine JW_1 (by first | exact op_fieldPtr (k := 1) (Ev.rfl' rfl) rfl rfl rfl rfl | exact op_fieldRefN (k := 1) (Ev.rfl' rfl) rfl rfl rfl rfl nrmT | exact op_fieldBuf (k := 1) (Ev.rfl' rfl) memT lenT rfl rfl rfl rfl) ?_
      refine JW_1 (by first | exact op_loadBuf (Ev.rfl' rfl) memT hz rfl rfl (by rfl) | exact op_loadBuf0 (Ev.rfl' rfl) memT hz rfl rfl (by rfl) | exact op_loadRef (Ev.rfl' rfl) rfl rfl rfl | exact op_loadPtr (Ev.rfl' rfl) memT (by rfl) (by rfl) (by rfl)) ?_
      refine JW_1 (op_move rfl) ?_
      refine JW_1 (op_move rfl) ?_
      refine JW_1 (by first | ((refine op_call Try.call10 (Pick_ok _ _ ?_ ?_) ⟨evS, ⟨evS, trivial⟩⟩); all_goals (first | omega))) ?_
      refine JW_1 (by first | exact op_indexBuf (k := k) (Ev.rfl' rfl) memT (Ev.rfl' rfl) rfl rfl idxT lenT | exact op_index (j := _) (Ev.rfl' rfl) (Ev.rfl' rfl) rfl rfl (by first | rfl | omega) hz | exact op_index (j := _) (Ev.rfl' rfl) (Ev.rfl' rfl) rfl rfl (by first | rfl | omega) (by assumption)) ?_
      refine JW_1 (by first | exact op_fieldPtr (k := 2) (Ev.rfl' rfl) rfl rfl rfl rfl | exact op_fieldRefN (k := 2) (Ev.rfl' rfl) rfl rfl rfl rfl nrmT | exact op_fieldBuf (k := 2) (Ev.rfl' rfl) memT lenT rfl rfl rfl rfl) ?_
      refine JW_1 (op_indexArrBuf (k := j) (sz := 1) (Ev.rfl' rfl) memT lenT (Ev.rfl' rfl) rfl rfl idxT (by omega)) ?_
      refine JW_1 (op_loadBuf (T := tPg) (k := k) (j := 2 + j) (Ev.sub rfl (SubL.eq (congrArg Is (congrArg (bpt _) hof)))) memT hz rfl rfl hdx) ?_
      refine JW_1 (by first | exact op_binU ev64 ev64 (add_u64 _ _ _) | exact op_add (Ev.rfl' rfl) (Ev.rfl' rfl) wrapT) ?_
      refine JW_1 (by first | exact op_indexBuf (k := k) (Ev.rfl' rfl) memT (Ev.rfl' rfl) rfl rfl idxT lenT | exact op_index (j := _) (Ev.rfl' rfl) (Ev.rfl' rfl) rfl rfl (by first | rfl | omega) hz | exact op_index (j := _) (Ev.rfl' rfl) (Ev.rfl' rfl) rfl rfl (by first | rfl | omega) (by assumption)) ?_
      refine JW_1 (by first | exact op_fieldPtr (k := 2) (Ev.rfl' rfl) rfl rfl rfl rfl | exact op_fieldRefN (k := 2) (Ev.rfl' rfl) rfl rfl rfl rfl nrmT | exact op_fieldBuf (k := 2) (Ev.rfl' rfl) memT lenT rfl rfl rfl rfl) ?_
      refine JW_1 (op_indexArrBuf (k := j) (sz := 1) (Ev.rfl' rfl) memT lenT (Ev.rfl' rfl) rfl rfl idxT (by omega)) ?_
      refine ⟨rfl, ?_⟩
      refine JD_s0 (by kernel_rfl) rfl (op_storeBuf (T := tPg) (m := 1) (Bs := [Is (.int .u64 (UV (dx + 1#64)))]) (z' := p.setd j (dx + 1#64)) (k := k) (o := 2 + j) (Ev.sub rfl (SubL.eq (congrArg Is (congrArg (bpt _) hof)))) evS cellsT replT hz rfl (beq_nat (k := 0) (j := j) (by omega)) (setd_cells p _ hj7)) ?_
      refine JD_end ?_
      refine JQ_block ?_
      refine JQ_freeze hX replT ?_
      refine JQ_blkSub (As' := [Is (.int .i64 s), IsSl tPg (ms.set k (p.setd j (dx + 1#64)))]) replT subsT ?_
      exact JQ_meetP (s, ms.set k (p.setd j (dx + 1#64))) trivial esubT lessT
    refine JC_seq ?_
    refine JC_region ?_
    refine JL_1 rfl (op_eql (Ev.rfl' rfl) (Ev.rfl' rfl)) ?_
    refine JL_1 rfl (op_assign rfl) ?_
    refine JL_nil ?_
    refine JQ_then ?_
    refine JC_cond (Ev.rfl' rfl) (fun h18 => ?_) (fun h18 => ?_)
    · refine JC_freeze hX replT ?_
      refine JC_blkSub (As' := [Is (.int .i64 s), IsSl tPg ms]) replT subsT ?_
      refine JC_region ?_
      refine JL_1 rfl (by first | exact op_fieldPtr (k := 1) (Ev.rfl' rfl) rfl rfl rfl rfl | exact op_fieldRefN (k := 1) (Ev.rfl' rfl) rfl rfl rfl rfl nrmT) ?_
      refine JL_1 rfl (by first | exact op_loadRef (Ev.rfl' rfl) rfl rfl rfl | exact op_loadPtr (Ev.rfl' rfl) memT (by rfl) (by rfl) (by rfl)) ?_
      refine JL_1 rfl (op_slice (Ev.rfl' rfl) rfl rfl ⟨_, _, (Ev.rfl' rfl), (show _ = ((1 : Nat) : Int) by first | rfl | omega)⟩ rfl (by omega) (by omega)) ?_
      refine JL_1 rfl (by first | exact op_fieldPtr (k := 1) (Ev.rfl' rfl) rfl rfl rfl rfl | exact op_fieldRefN (k := 1) (Ev.rfl' rfl) rfl rfl rfl rfl nrmT) ?_
      refine JL_s0 (op_storeN (Ev.rfl' rfl) (Ev.rfl' rfl) cellsT replT nrmT (by rfl) (by rfl) (by rfl)) ?_
      refine JL_nil ?_
      refine JQ_block ?_
      exact JQ_meetP (s, (ms.take ms.length).drop 1) trivial esubT lessT
    refine JC_skip (JQ_block ?_)
    refine JQ_freeze hX replT ?_
    refine JQ_blkSub (As' := [Is (.int .i64 s), IsSl tPg (ms)]) replT subsT ?_
    exact JQ_meetP (s, ms) trivial esubT lessT
  rintro ⟨x, ps⟩ _
  dsimp only
  refine JC_seq ?_
  refine JC_region ?_
  refine JL_1 rfl (op_move rfl) ?_
  refine JL_1 rfl (by first | ((refine op_call Try.call10 (Pick_ok _ _ ?_ ?_) ⟨evS, ⟨evS, trivial⟩⟩); all_goals (first | omega))) ?_
  refine JL_1 rfl (op_add (Ev.rfl' rfl) (Ev.rfl' rfl) wrapT) ?_
  refine JL_1 rfl (op_assign rfl) ?_
  refine JL_nil ?_
  refine JQ_then (JC_seq ?_)
  refine JC_dr rfl (by kernel_rfl) ?_
  refine JD_stretch 61 (by kernel_rfl) ?_
  refine JW_1 (op_call Try.call11 (awake_ok) trivial) ?_
  refine JW_1 (op_move rfl) ?_
  (first | refine JW_i0 rfl rfl (fun hg => (by have hg0 := hg; (try simp at hg); first | exact op_loadRefsN (n := 2) evG rfl rfl rfl (by rfl) nrmT | exact op_loadPtrsN (n := 2) evG memT (by rfl) (by rfl) (by rfl) (by rfl) nrmT)) ?_ | refine JW_i rfl rfl (fun hp hg => (by have hpg := Bool.and_eq_true_iff.2 ⟨hp, hg⟩; have hg0 := hg; (try simp at hg); first | exact op_loadRefsN (n := 2) evG rfl rfl rfl (by rfl) nrmT | exact op_loadPtrsN (n := 2) evG memT (by rfl) (by rfl) (by rfl) (by rfl) nrmT)) ?_)
  (first | refine JW_i0 rfl rfl (fun hg => (by have hg0 := hg; (try simp at hg); exact op_call Try.call13 (in_ok _ _) ⟨evS, trivial⟩)) ?_ | refine JW_i rfl rfl (fun hp hg => (by have hpg := Bool.and_eq_true_iff.2 ⟨hp, hg⟩; have hg0 := hg; (try simp at hg); exact op_call Try.call13 (in_ok _ _) ⟨evS, trivial⟩)) ?_)
  (first | refine JW_i0 rfl rfl (fun hg => (by have hg0 := hg; (try simp at hg); first | exact op_moveE (Ev.sub rfl (SubL.iteT (by first | assumption | (simp; done) | (simp; omega) | (simp_all; done)) SubL.rfl')) | exact op_moveE (Ev.rfl' rfl))) ?_ | refine JW_i rfl rfl (fun hp hg => (by have hpg := Bool.and_eq_true_iff.2 ⟨hp, hg⟩; have hg0 := hg; (try simp at hg); first | exact op_moveE (Ev.sub rfl (SubL.iteT (by first | assumption | (simp; done) | (simp; omega) | (simp_all; done)) SubL.rfl')) | exact op_moveE (Ev.rfl' rfl))) ?_)
  (first | refine JW_i0 rfl rfl (fun hg => (by have hg0 := hg; (try simp at hg); first | ((refine op_call Try.call12 (ValidL_ok _ _ _) ⟨evS, ⟨evS, trivial⟩⟩)) | ((refine op_callB lendT Try.call12 (ValidL_ok _ _ _) ⟨evS, ⟨evS, trivial⟩⟩ pureT)))) ?_ | refine JW_i rfl rfl (fun hp hg => (by have hpg := Bool.and_eq_true_iff.2 ⟨hp, hg⟩; have hg0 := hg; (try simp at hg); first | ((refine op_call Try.call12 (ValidL_ok _ _ _) ⟨evS, ⟨evS, trivial⟩⟩)) | ((refine op_callB lendT Try.call12 (ValidL_ok _ _ _) ⟨evS, ⟨evS, trivial⟩⟩ pureT)))) ?_)
  (first | refine JW_i0 rfl rfl (fun hg => (by have hg0 := hg; (try simp at hg); first | exact op_loadRefsN (n := 2) evG rfl rfl rfl (by rfl) nrmT | exact op_loadPtrsN (n := 2) evG memT (by rfl) (by rfl) (by rfl) (by rfl) nrmT)) ?_ | refine JW_i rfl rfl (fun hp hg => (by have hpg := Bool.and_eq_true_iff.2 ⟨hp, hg⟩; have hg0 := hg; (try simp at hg); first | exact op_loadRefsN (n := 2) evG rfl rfl rfl (by rfl) nrmT | exact op_loadPtrsN (n := 2) evG memT (by rfl) (by rfl) (by rfl) (by rfl) nrmT)) ?_)
  (first | refine JW_i0 rfl rfl (fun hg => (by have hg0 := hg; (try simp at hg); first | exact op_moveE (Ev.sub rfl (SubL.iteT (by first | assumption | (simp; done) | (simp; omega) | (simp_all; done)) SubL.rfl')) | exact op_moveE (Ev.rfl' rfl))) ?_ | refine JW_i rfl rfl (fun hp hg => (by have hpg := Bool.and_eq_true_iff.2 ⟨hp, hg⟩; have hg0 := hg; (try simp at hg); first | exact op_moveE (Ev.sub rfl (SubL.iteT (by first | assumption | (simp; done) | (simp; omega) | (simp_all; done)) SubL.rfl')) | exact op_moveE (Ev.rfl' rfl))) ?_)
  (first | refine JW_i0 rfl rfl (fun hg => (by have hg0 := hg; (try simp at hg); first | ((refine op_call Try.call14 (ValidLR_ok _ _ _) ⟨evS, ⟨evS, trivial⟩⟩)) | ((refine op_callB lendT Try.call14 (ValidLR_ok _ _ _) ⟨evS, ⟨evS, trivial⟩⟩ pureT)))) ?_ | refine JW_i rfl rfl (fun hp hg => (by have hpg := Bool.and_eq_true_iff.2 ⟨hp, hg⟩; have hg0 := hg; (try simp at hg); first | ((refine op_call Try.call14 (ValidLR_ok _ _ _) ⟨evS, ⟨evS, trivial⟩⟩)) | ((refine op_callB lendT Try.call14 (ValidLR_ok _ _ _) ⟨evS, ⟨evS, trivial⟩⟩ pureT)))) ?_)
  (first | refine JW_i0 rfl rfl (fun hg => (by have hg0 := hg; (try simp at hg); exact op_eql evG evG)) ?_ | refine JW_i rfl rfl (fun hp hg => (by have hpg := Bool.and_eq_true_iff.2 ⟨hp, hg⟩; have hg0 := hg; (try simp at hg); exact op_eql evG evG)) ?_)
  refine JW_1 (op_and (Ev.rfl' rfl) rfl (fun h => by first | exact SubL.rfl' | exact SubL.iteT (by first | (rw [h]; rfl) | (simp_all; done)) SubL.rfl')) ?_
  refine JW_1 (op_move rfl) ?_
  (first | refine JW_i0 rfl rfl (fun hg => (by have hg0 := hg; (try simp at hg); first | exact op_loadRefsN (n := 2) evG rfl rfl rfl (by rfl) nrmT | exact op_loadPtrsN (n := 2) evG memT (by rfl) (by rfl) (by rfl) (by rfl) nrmT)) ?_ | refine JW_i rfl rfl (fun hp hg => (by have hpg := Bool.and_eq_true_iff.2 ⟨hp, hg⟩; have hg0 := hg; (try simp at hg); first | exact op_loadRefsN (n := 2) evG rfl rfl rfl (by rfl) nrmT | exact op_loadPtrsN (n := 2) evG memT (by rfl) (by rfl) (by rfl) (by rfl) nrmT)) ?_)
  (first | refine JW_i0 rfl rfl (fun hg => (by have hg0 := hg; (try simp at hg); exact op_call Try.call13 (in_ok _ _) ⟨evS, trivial⟩)) ?_ | refine JW_i rfl rfl (fun hp hg => (by have hpg := Bool.and_eq_true_iff.2 ⟨hp, hg⟩; have hg0 := hg; (try simp at hg); exact op_call Try.call13 (in_ok _ _) ⟨evS, trivial⟩)) ?_)
  (first | refine JW_i0 rfl rfl (fun hg => (by have hg0 := hg; (try simp at hg); first | exact op_moveE (Ev.sub rfl (SubL.iteT (by first | assumption | (simp; done) | (simp; omega) | (simp_all; done)) SubL.rfl')) | exact op_moveE (Ev.rfl' rfl))) ?_ | refine JW_i rfl rfl (fun hp hg => (by have hpg := Bool.and_eq_true_iff.2 ⟨hp, hg⟩; have hg0 := hg; (try simp at hg); first | exact op_moveE (Ev.sub rfl (SubL.iteT (by first | assumption | (simp; done) | (simp; omega) | (simp_all; done)) SubL.rfl')) | exact op_moveE (Ev.rfl' rfl))) ?_)
  (first | refine JW_i0 rfl rfl (fun hg => (by have hg0 := hg; (try simp at hg); first | ((refine op_call Try.call12 (ValidL_ok _ _ _) ⟨evS, ⟨evS, trivial⟩⟩)) | ((refine op_callB lendT Try.call12 (ValidL_ok _ _ _) ⟨evS, ⟨evS, trivial⟩⟩ pureT)))) ?_ | refine JW_i rfl rfl (fun hp hg => (by have hpg := Bool.and_eq_true_iff.2 ⟨hp, hg⟩; have hg0 := hg; (try simp at hg); first | ((refine op_call Try.call12 (ValidL_ok _ _ _) ⟨evS, ⟨evS, trivial⟩⟩)) | ((refine op_callB lendT Try.call12 (ValidL_ok _ _ _) ⟨evS, ⟨evS, trivial⟩⟩ pureT)))) ?_)
  (first | refine JW_i0 rfl rfl (fun hg => (by have hg0 := hg; (try simp at hg); first | exact op_loadRefsN (n := 2) evG rfl rfl rfl (by rfl) nrmT | exact op_loadPtrsN (n := 2) evG memT (by rfl) (by rfl) (by rfl) (by rfl) nrmT)) ?_ | refine JW_i rfl rfl (fun hp hg => (by have hpg := Bool.and_eq_true_iff.2 ⟨hp, hg⟩; have hg0 := hg; (try simp at hg); first | exact op_loadRefsN (n := 2) evG rfl rfl rfl (by rfl) nrmT | exact op_loadPtrsN (n := 2) evG memT (by rfl) (by rfl) (by rfl) (by rfl) nrmT)) ?_)
  (first | refine JW_i0 rfl rfl (fun hg => (by have hg0 := hg; (try simp at hg); first | exact op_moveE (Ev.sub rfl (SubL.iteT (by first | assumption | (simp; done) | (simp; omega) | (simp_all; done)) SubL.rfl')) | exact op_moveE (Ev.rfl' rfl))) ?_ | refine JW_i rfl rfl (fun hp hg => (by have hpg := Bool.and_eq_true_iff.2 ⟨hp, hg⟩; have hg0 := hg; (try simp at hg); first | exact op_moveE (Ev.sub rfl (SubL.iteT (by first | assumption | (simp; done) | (simp; omega) | (simp_all; done)) SubL.rfl')) | exact op_moveE (Ev.rfl' rfl))) ?_)
  (first | refine JW_i0 rfl rfl (fun hg => (by have hg0 := hg; (try simp at hg); first | ((refine op_call Try.call14 (ValidLR_ok _ _ _) ⟨evS, ⟨evS, trivial⟩⟩)) | ((refine op_callB lendT Try.call14 (ValidLR_ok _ _ _) ⟨evS, ⟨evS, trivial⟩⟩ pureT)))) ?_ | refine JW_i rfl rfl (fun hp hg => (by have hpg := Bool.and_eq_true_iff.2 ⟨hp, hg⟩; have hg0 := hg; (try simp at hg); first | ((refine op_call Try.call14 (ValidLR_ok _ _ _) ⟨evS, ⟨evS, trivial⟩⟩)) | ((refine op_callB lendT Try.call14 (ValidLR_ok _ _ _) ⟨evS, ⟨evS, trivial⟩⟩ pureT)))) ?_)
  (first | refine JW_i0 rfl rfl (fun hg => (by have hg0 := hg; (try simp at hg); exact op_eql evG evG)) ?_ | refine JW_i rfl rfl (fun hp hg => (by have hpg := Bool.and_eq_true_iff.2 ⟨hp, hg⟩; have hg0 := hg; (try simp at hg); exact op_eql evG evG)) ?_)
  refine JW_1 (op_and (Ev.rfl' rfl) rfl (fun h => by first | exact SubL.rfl' | exact SubL.iteT (by first | (rw [h]; rfl) | (simp_all; done)) SubL.rfl')) ?_
  refine JW_1 (op_move rfl) ?_
  (first | refine JW_i0 rfl rfl (fun hg => (by have hg0 := hg; (try simp at hg); first | exact op_loadRefsN (n := 2) evG rfl rfl rfl (by rfl) nrmT | exact op_loadPtrsN (n := 2) evG memT (by rfl) (by rfl) (by rfl) (by rfl) nrmT)) ?_ | refine JW_i rfl rfl (fun hp hg => (by have hpg := Bool.and_eq_true_iff.2 ⟨hp, hg⟩; have hg0 := hg; (try simp at hg); first | exact op_loadRefsN (n := 2) evG rfl rfl rfl (by rfl) nrmT | exact op_loadPtrsN (n := 2) evG memT (by rfl) (by rfl) (by rfl) (by rfl) nrmT)) ?_)
  (first | refine JW_i0 rfl rfl (fun hg => (by have hg0 := hg; (try simp at hg); exact op_call Try.call13 (in_ok _ _) ⟨evS, trivial⟩)) ?_ | refine JW_i rfl rfl (fun hp hg => (by have hpg := Bool.and_eq_true_iff.2 ⟨hp, hg⟩; have hg0 := hg; (try simp at hg); exact op_call Try.call13 (in_ok _ _) ⟨evS, trivial⟩)) ?_)
  (first | refine JW_i0 rfl rfl (fun hg => (by have hg0 := hg; (try simp at hg); first | exact op_moveE (Ev.sub rfl (SubL.iteT (by first | assumption | (simp; done) | (simp; omega) | (simp_all; done)) SubL.rfl')) | exact op_moveE (Ev.rfl' rfl))) ?_ | refine JW_i rfl rfl (fun hp hg => (by have hpg := Bool.and_eq_true_iff.2 ⟨hp, hg⟩; have hg0 := hg; (try simp at hg); first | exact op_moveE (Ev.sub rfl (SubL.iteT (by first | assumption | (simp; done) | (simp; omega) | (simp_all; done)) SubL.rfl')) | exact op_moveE (Ev.rfl' rfl))) ?_)
  (first | refine JW_i0 rfl rfl (fun hg => (by have hg0 := hg; (try simp at hg); first | ((refine op_call Try.call12 (ValidL_ok _ _ _) ⟨evS, ⟨evS, trivial⟩⟩)) | ((refine op_callB lendT Try.call12 (ValidL_ok _ _ _) ⟨evS, ⟨evS, trivial⟩⟩ pureT)))) ?_ | refine JW_i rfl rfl (fun hp hg => (by have hpg := Bool.and_eq_true_iff.2 ⟨hp, hg⟩; have hg0 := hg; (try simp at hg); first | ((refine op_call Try.call12 (ValidL_ok _ _ _) ⟨evS, ⟨evS, trivial⟩⟩)) | ((refine op_callB lendT Try.call12 (ValidL_ok _ _ _) ⟨evS, ⟨evS, trivial⟩⟩ pureT)))) ?_)
  (first | refine JW_i0 rfl rfl (fun hg => (by have hg0 := hg; (try simp at hg); first | exact op_loadRefsN (n := 2) evG rfl rfl rfl (by rfl) nrmT | exact op_loadPtrsN (n := 2) evG memT (by rfl) (by rfl) (by rfl) (by rfl) nrmT)) ?_ | refine JW_i rfl rfl (fun hp hg => (by have hpg := Bool.and_eq_true_iff.2 ⟨hp, hg⟩; have hg0 := hg; (try simp at hg); first | exact op_loadRefsN (n := 2) evG rfl rfl rfl (by rfl) nrmT | exact op_loadPtrsN (n := 2) evG memT (by rfl) (by rfl) (by rfl) (by rfl) nrmT)) ?_)
  (first | refine JW_i0 rfl rfl (fun hg => (by have hg0 := hg; (try simp at hg); first | exact op_moveE (Ev.sub rfl (SubL.iteT (by first | assumption | (simp; done) | (simp; omega) | (simp_all; done)) SubL.rfl')) | exact op_moveE (Ev.rfl' rfl))) ?_ | refine JW_i rfl rfl (fun hp hg => (by have hpg := Bool.and_eq_true_iff.2 ⟨hp, hg⟩; have hg0 := hg; (try simp at hg); first | exact op_moveE (Ev.sub rfl (SubL.iteT (by first | assumption | (simp; done) | (simp; omega) | (simp_all; done)) SubL.rfl')) | exact op_moveE (Ev.rfl' rfl))) ?_)
  (first | refine JW_i0 rfl rfl (fun hg => (by have hg0 := hg; (try simp at hg); first | ((refine op_call Try.call14 (ValidLR_ok _ _ _) ⟨evS, ⟨evS, trivial⟩⟩)) | ((refine op_callB lendT Try.call14 (ValidLR_ok _ _ _) ⟨evS, ⟨evS, trivial⟩⟩ pureT)))) ?_ | refine JW_i rfl rfl (fun hp hg => (by have hpg := Bool.and_eq_true_iff.2 ⟨hp, hg⟩; have hg0 := hg; (try simp at hg); first | ((refine op_call Try.call14 (ValidLR_ok _ _ _) ⟨evS, ⟨evS, trivial⟩⟩)) | ((refine op_callB lendT Try.call14 (ValidLR_ok _ _ _) ⟨evS, ⟨evS, trivial⟩⟩ pureT)))) ?_)
  (first | refine JW_i0 rfl rfl (fun hg => (by have hg0 := hg; (try simp at hg); exact op_eql evG evG)) ?_ | refine JW_i rfl rfl (fun hp hg => (by have hpg := Bool.and_eq_true_iff.2 ⟨hp, hg⟩; have hg0 := hg; (try simp at hg); exact op_eql evG evG)) ?_)
  refine JW_1 (op_and (Ev.rfl' rfl) rfl (fun h => by first | exact SubL.rfl' | exact SubL.iteT (by first | (rw [h]; rfl) | (simp_all; done)) SubL.rfl')) ?_
  refine JW_1 (op_move rfl) ?_
  (first | refine JW_i0 rfl rfl (fun hg => (by have hg0 := hg; (try simp at hg); first | exact op_loadRefsN (n := 2) evG rfl rfl rfl (by rfl) nrmT | exact op_loadPtrsN (n := 2) evG memT (by rfl) (by rfl) (by rfl) (by rfl) nrmT)) ?_ | refine JW_i rfl rfl (fun hp hg => (by have hpg := Bool.and_eq_true_iff.2 ⟨hp, hg⟩; have hg0 := hg; (try simp at hg); first | exact op_loadRefsN (n := 2) evG rfl rfl rfl (by rfl) nrmT | exact op_loadPtrsN (n := 2) evG memT (by rfl) (by rfl) (by rfl) (by rfl) nrmT)) ?_)
  (first | refine JW_i0 rfl rfl (fun hg => (by have hg0 := hg; (try simp at hg); exact op_call Try.call13 (in_ok _ _) ⟨evS, trivial⟩)) ?_ | refine JW_i rfl rfl (fun hp hg => (by have hpg := Bool.and_eq_true_iff.2 ⟨hp, hg⟩; have hg0 := hg; (try simp at hg); exact op_call Try.call13 (in_ok _ _) ⟨evS, trivial⟩)) ?_)
  (first | refine JW_i0 rfl rfl (fun hg => (by have hg0 := hg; (try simp at hg); first | exact op_loadRefsN (n := 2) evG rfl rfl rfl (by rfl) nrmT | exact op_loadPtrsN (n := 2) evG memT (by rfl) (by rfl) (by rfl) (by rfl) nrmT)) ?_ | refine JW_i rfl rfl (fun hp hg => (by have hpg := Bool.and_eq_true_iff.2 ⟨hp, hg⟩; have hg0 := hg; (try simp at hg); first | exact op_loadRefsN (n := 2) evG rfl rfl rfl (by rfl) nrmT | exact op_loadPtrsN (n := 2) evG memT (by rfl) (by rfl) (by rfl) (by rfl) nrmT)) ?_)
  (first | refine JW_i0 rfl rfl (fun hg => (by have hg0 := hg; (try simp at hg); exact op_call Try.call13 (in_ok _ _) ⟨evS, trivial⟩)) ?_ | refine JW_i rfl rfl (fun hp hg => (by have hpg := Bool.and_eq_true_iff.2 ⟨hp, hg⟩; have hg0 := hg; (try simp at hg); exact op_call Try.call13 (in_ok _ _) ⟨evS, trivial⟩)) ?_)
  (first | refine JW_i0 rfl rfl (fun hg => (by have hg0 := hg; (try simp at hg); first | ((refine op_call Try.call15 (Same_ok _ _ _ _) ⟨evS, ⟨evS, trivial⟩⟩)) | ((refine op_callB lendT Try.call15 (Same_ok _ _ _ _) ⟨evS, ⟨evS, trivial⟩⟩ pureT)))) ?_ | refine JW_i rfl rfl (fun hp hg => (by have hpg := Bool.and_eq_true_iff.2 ⟨hp, hg⟩; have hg0 := hg; (try simp at hg); first | ((refine op_call Try.call15 (Same_ok _ _ _ _) ⟨evS, ⟨evS, trivial⟩⟩)) | ((refine op_callB lendT Try.call15 (Same_ok _ _ _ _) ⟨evS, ⟨evS, trivial⟩⟩ pureT)))) ?_)
  (first | refine JW_i0 rfl rfl (fun hg => (by have hg0 := hg; (try simp at hg); first | exact op_loadRefsN (n := 2) evG rfl rfl rfl (by rfl) nrmT | exact op_loadPtrsN (n := 2) evG memT (by rfl) (by rfl) (by rfl) (by rfl) nrmT)) ?_ | refine JW_i rfl rfl (fun hp hg => (by have hpg := Bool.and_eq_true_iff.2 ⟨hp, hg⟩; have hg0 := hg; (try simp at hg); first | exact op_loadRefsN (n := 2) evG rfl rfl rfl (by rfl) nrmT | exact op_loadPtrsN (n := 2) evG memT (by rfl) (by rfl) (by rfl) (by rfl) nrmT)) ?_)
  (first | refine JW_i0 rfl rfl (fun hg => (by have hg0 := hg; (try simp at hg); first | exact op_loadRefsN (n := 2) evG rfl rfl rfl (by rfl) nrmT | exact op_loadPtrsN (n := 2) evG memT (by rfl) (by rfl) (by rfl) (by rfl) nrmT)) ?_ | refine JW_i rfl rfl (fun hp hg => (by have hpg := Bool.and_eq_true_iff.2 ⟨hp, hg⟩; have hg0 := hg; (try simp at hg); first | exact op_loadRefsN (n := 2) evG rfl rfl rfl (by rfl) nrmT | exact op_loadPtrsN (n := 2) evG memT (by rfl) (by rfl) (by rfl) (by rfl) nrmT)) ?_)
  (first | refine JW_i0 rfl rfl (fun hg => (by have hg0 := hg; (try simp at hg); first | ((refine op_call Try.call16 (SameR_ok _ _ _ _) ⟨evS, ⟨evS, trivial⟩⟩)) | ((refine op_callB lendT Try.call16 (SameR_ok _ _ _ _) ⟨evS, ⟨evS, trivial⟩⟩ pureT)))) ?_ | refine JW_i rfl rfl (fun hp hg => (by have hpg := Bool.and_eq_true_iff.2 ⟨hp, hg⟩; have hg0 := hg; (try simp at hg); first | ((refine op_call Try.call16 (SameR_ok _ _ _ _) ⟨evS, ⟨evS, trivial⟩⟩)) | ((refine op_callB lendT Try.call16 (SameR_ok _ _ _ _) ⟨evS, ⟨evS, trivial⟩⟩ pureT)))) ?_)
  (first | refine JW_i0 rfl rfl (fun hg => (by have hg0 := hg; (try simp at hg); exact op_beq rfl evG evG)) ?_ | refine JW_i rfl rfl (fun hp hg => (by have hpg := Bool.and_eq_true_iff.2 ⟨hp, hg⟩; have hg0 := hg; (try simp at hg); exact op_beq rfl evG evG)) ?_)
  refine JW_1 (op_and (Ev.rfl' rfl) rfl (fun h => by first | exact SubL.rfl' | exact SubL.iteT (by first | (rw [h]; rfl) | (simp_all; done)) SubL.rfl')) ?_
  refine JW_1 (op_move rfl) ?_
  (first | refine JW_i0 rfl rfl (fun hg => (by have hg0 := hg; (try simp at hg); first | exact op_loadRefsN (n := 2) evG rfl rfl rfl (by rfl) nrmT | exact op_loadPtrsN (n := 2) evG memT (by rfl) (by rfl) (by rfl) (by rfl) nrmT)) ?_ | refine JW_i rfl rfl (fun hp hg => (by have hpg := Bool.and_eq_true_iff.2 ⟨hp, hg⟩; have hg0 := hg; (try simp at hg); first | exact op_loadRefsN (n := 2) evG rfl rfl rfl (by rfl) nrmT | exact op_loadPtrsN (n := 2) evG memT (by rfl) (by rfl) (by rfl) (by rfl) nrmT)) ?_)
  (first | refine JW_i0 rfl rfl (fun hg => (by have hg0 := hg; (try simp at hg); exact op_call Try.call13 (in_ok _ _) ⟨evS, trivial⟩)) ?_ | refine JW_i rfl rfl (fun hp hg => (by have hpg := Bool.and_eq_true_iff.2 ⟨hp, hg⟩; have hg0 := hg; (try simp at hg); exact op_call Try.call13 (in_ok _ _) ⟨evS, trivial⟩)) ?_)
  (first | refine JW_i0 rfl rfl (fun hg => (by have hg0 := hg; (try simp at hg); first | exact op_loadRefsN (n := 2) evG rfl rfl rfl (by rfl) nrmT | exact op_loadPtrsN (n := 2) evG memT (by rfl) (by rfl) (by rfl) (by rfl) nrmT)) ?_ | refine JW_i rfl rfl (fun hp hg => (by have hpg := Bool.and_eq_true_iff.2 ⟨hp, hg⟩; have hg0 := hg; (try simp at hg); first | exact op_loadRefsN (n := 2) evG rfl rfl rfl (by rfl) nrmT | exact op_loadPtrsN (n := 2) evG memT (by rfl) (by rfl) (by rfl) (by rfl) nrmT)) ?_)
  (first | refine JW_i0 rfl rfl (fun hg => (by have hg0 := hg; (try simp at hg); exact op_call Try.call13 (in_ok _ _) ⟨evS, trivial⟩)) ?_ | refine JW_i rfl rfl (fun hp hg => (by have hpg := Bool.and_eq_true_iff.2 ⟨hp, hg⟩; have hg0 := hg; (try simp at hg); exact op_call Try.call13 (in_ok _ _) ⟨evS, trivial⟩)) ?_)
  (first | refine JW_i0 rfl rfl (fun hg => (by have hg0 := hg; (try simp at hg); first | ((refine op_call Try.call15 (Same_ok _ _ _ _) ⟨evS, ⟨evS, trivial⟩⟩)) | ((refine op_callB lendT Try.call15 (Same_ok _ _ _ _) ⟨evS, ⟨evS, trivial⟩⟩ pureT)))) ?_ | refine JW_i rfl rfl (fun hp hg => (by have hpg := Bool.and_eq_true_iff.2 ⟨hp, hg⟩; have hg0 := hg; (try simp at hg); first | ((refine op_call Try.call15 (Same_ok _ _ _ _) ⟨evS, ⟨evS, trivial⟩⟩)) | ((refine op_callB lendT Try.call15 (Same_ok _ _ _ _) ⟨evS, ⟨evS, trivial⟩⟩ pureT)))) ?_)
  (first | refine JW_i0 rfl rfl (fun hg => (by have hg0 := hg; (try simp at hg); first | exact op_loadRefsN (n := 2) evG rfl rfl rfl (by rfl) nrmT | exact op_loadPtrsN (n := 2) evG memT (by rfl) (by rfl) (by rfl) (by rfl) nrmT)) ?_ | refine JW_i rfl rfl (fun hp hg => (by have hpg := Bool.and_eq_true_iff.2 ⟨hp, hg⟩; have hg0 := hg; (try simp at hg); first | exact op_loadRefsN (n := 2) evG rfl rfl rfl (by rfl) nrmT | exact op_loadPtrsN (n := 2) evG memT (by rfl) (by rfl) (by rfl) (by rfl) nrmT)) ?_)
  (first | refine JW_i0 rfl rfl (fun hg => (by have hg0 := hg; (try simp at hg); first | exact op_loadRefsN (n := 2) evG rfl rfl rfl (by rfl) nrmT | exact op_loadPtrsN (n := 2) evG memT (by rfl) (by rfl) (by rfl) (by rfl) nrmT)) ?_ | refine JW_i rfl rfl (fun hp hg => (by have hpg := Bool.and_eq_true_iff.2 ⟨hp, hg⟩; have hg0 := hg; (try simp at hg); first | exact op_loadRefsN (n := 2) evG rfl rfl rfl (by rfl) nrmT | exact op_loadPtrsN (n := 2) evG memT (by rfl) (by rfl) (by rfl) (by rfl) nrmT)) ?_)
  (first | refine JW_i0 rfl rfl (fun hg => (by have hg0 := hg; (try simp at hg); first | ((refine op_call Try.call16 (SameR_ok _ _ _ _) ⟨evS, ⟨evS, trivial⟩⟩)) | ((refine op_callB lendT Try.call16 (SameR_ok _ _ _ _) ⟨evS, ⟨evS, trivial⟩⟩ pureT)))) ?_ | refine JW_i rfl rfl (fun hp hg => (by have hpg := Bool.and_eq_true_iff.2 ⟨hp, hg⟩; have hg0 := hg; (try simp at hg); first | ((refine op_call Try.call16 (SameR_ok _ _ _ _) ⟨evS, ⟨evS, trivial⟩⟩)) | ((refine op_callB lendT Try.call16 (SameR_ok _ _ _ _) ⟨evS, ⟨evS, trivial⟩⟩ pureT)))) ?_)
  (first | refine JW_i0 rfl rfl (fun hg => (by have hg0 := hg; (try simp at hg); exact op_beq rfl evG evG)) ?_ | refine JW_i rfl rfl (fun hp hg => (by have hpg := Bool.and_eq_true_iff.2 ⟨hp, hg⟩; have hg0 := hg; (try simp at hg); exact op_beq rfl evG evG)) ?_)
  refine JW_1 (op_and (Ev.rfl' rfl) rfl (fun h => by first | exact SubL.rfl' | exact SubL.iteT (by first | (rw [h]; rfl) | (simp_all; done)) SubL.rfl')) ?_
  refine JW_1 (op_move rfl) ?_
  (first | refine JW_i0 rfl rfl (fun hg => (by have hg0 := hg; (try simp at hg); first | exact op_loadRefsN (n := 2) evG rfl rfl rfl (by rfl) nrmT | exact op_loadPtrsN (n := 2) evG memT (by rfl) (by rfl) (by rfl) (by rfl) nrmT)) ?_ | refine JW_i rfl rfl (fun hp hg => (by have hpg := Bool.and_eq_true_iff.2 ⟨hp, hg⟩; have hg0 := hg; (try simp at hg); first | exact op_loadRefsN (n := 2) evG rfl rfl rfl (by rfl) nrmT | exact op_loadPtrsN (n := 2) evG memT (by rfl) (by rfl) (by rfl) (by rfl) nrmT)) ?_)
  (first | refine JW_i0 rfl rfl (fun hg => (by have hg0 := hg; (try simp at hg); exact op_call Try.call13 (in_ok _ _) ⟨evS, trivial⟩)) ?_ | refine JW_i rfl rfl (fun hp hg => (by have hpg := Bool.and_eq_true_iff.2 ⟨hp, hg⟩; have hg0 := hg; (try simp at hg); exact op_call Try.call13 (in_ok _ _) ⟨evS, trivial⟩)) ?_)
  (first | refine JW_i0 rfl rfl (fun hg => (by have hg0 := hg; (try simp at hg); first | exact op_loadRefsN (n := 2) evG rfl rfl rfl (by rfl) nrmT | exact op_loadPtrsN (n := 2) evG memT (by rfl) (by rfl) (by rfl) (by rfl) nrmT)) ?_ | refine JW_i rfl rfl (fun hp hg => (by have hpg := Bool.and_eq_true_iff.2 ⟨hp, hg⟩; have hg0 := hg; (try simp at hg); first | exact op_loadRefsN (n := 2) evG rfl rfl rfl (by rfl) nrmT | exact op_loadPtrsN (n := 2) evG memT (by rfl) (by rfl) (by rfl) (by rfl) nrmT)) ?_)
  (first | refine JW_i0 rfl rfl (fun hg => (by have hg0 := hg; (try simp at hg); exact op_call Try.call13 (in_ok _ _) ⟨evS, trivial⟩)) ?_ | refine JW_i rfl rfl (fun hp hg => (by have hpg := Bool.and_eq_true_iff.2 ⟨hp, hg⟩; have hg0 := hg; (try simp at hg); exact op_call Try.call13 (in_ok _ _) ⟨evS, trivial⟩)) ?_)
  (first | refine JW_i0 rfl rfl (fun hg => (by have hg0 := hg; (try simp at hg); first | ((refine op_call Try.call15 (Same_ok _ _ _ _) ⟨evS, ⟨evS, trivial⟩⟩)) | ((refine op_callB lendT Try.call15 (Same_ok _ _ _ _) ⟨evS, ⟨evS, trivial⟩⟩ pureT)))) ?_ | refine JW_i rfl rfl (fun hp hg => (by have hpg := Bool.and_eq_true_iff.2 ⟨hp, hg⟩; have hg0 := hg; (try simp at hg); first | ((refine op_call Try.call15 (Same_ok _ _ _ _) ⟨evS, ⟨evS, trivial⟩⟩)) | ((refine op_callB lendT Try.call15 (Same_ok _ _ _ _) ⟨evS, ⟨evS, trivial⟩⟩ pureT)))) ?_)
  refine JW_1 (op_and (Ev.rfl' rfl) rfl (fun h => by first | exact SubL.rfl' | exact SubL.iteT (by first | (rw [h]; rfl) | (simp_all; done)) SubL.rfl')) ?_
  refine JW_1 (op_assign rfl) ?_
  refine ⟨rfl, ?_⟩
  refine JD_end ?_
  refine JQ_then (JC_ret ?_)
  refine JQ_ret1 Try.results3 rfl () (SubL.eq ?_) (List.nil_sublist _)
  simp
end Go.Proofs.Ytccgnekcbdkilaa
