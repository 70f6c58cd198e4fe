/- The walk of bodegaref9.Full. Own work. -/
import Derived.Test.YthppeaelfcmafaaVa
import Derived.Test.YthppeaelfcmafaaLive
import Derived.Test.YthppeaelfcmafaaApp
import Derived.Deep.QuietTactic
import Derived.BigQuiet
namespace Go.Proofs.Ythppeaelfcmafaa
open Go.RowKit
set_option linter.unusedVariables false
theorem mb_info : (Try.prog.info? 45).map (fun i => (i.zero, i.size, i.bytes)) = some (some (.agg #[.int .i64 0, .int .i64 0, .bool false]), 3, 24) := by kernel_rfl
theorem take_filter (ms : List Mb) (k : Nat) (hk : k < ms.length) : (ms.take (k + 1)).filter Mb.f = (ms.take k).filter Mb.f ++ (if (Mb.at ms k).f then [Mb.at ms k] else []) := by
  rw [List.take_add_one, Mb.at_get ms k hk, List.filter_append]
  cases h : (Mb.at ms k).f <;> simp [h]
theorem mcells_len (ms : List Mb) : (ms.flatMap Mb.cells).length = ms.length * 3 := by
  induction ms with
  | nil => rfl
  | cons m ms ih => rw [List.flatMap_cons, List.length_append, ih, List.length_cons]; simp [Mb.cells]; omega
theorem own_slm {w : World} {base : Nat} {e : TypeId} {n : Nat} {v : Value} {ms : List Mb} (h : w.ownsRow base e 3 v n (ms.flatMap Mb.cells)) : SlM w v ms := by
  have h1 := own_sl h
  have hl := mcells_len ms
  have h2 : ms.length = n := by have := h.1; rw [hl] at this; omega
  unfold SlM
  rw [h2]
  exact h1
set_option maxHeartbeats 2000000 in
set_option maxRecDepth 100000 in
theorem FullR_any (num : Int) (v : Value) (ms : List Mb) (w : World) (h : SlM w v ms) (hs : ms.length ≤ 1000000) :
    Calls Try.prog 30 #[.agg #[.int .i64 num, v]] w fun e w' => ∃ u, e = .returned u ∧ SlM w' u (ms.filter Mb.f) ∧ Below w.heap.size w w' := by
  obtain ⟨a, c, rfl⟩ := h.form
  obtain ⟨n, hn⟩ : ∃ n, n = ms.length := ⟨_, rfl⟩
  rw [← hn] at h hs ⊢
  have H := Lib.hid h
  have HN := Lib.hid hn
  clear h hn
  go_enter Try.func30, Try.ntmps30
  go_wp2
  have L0 : Hid (Live w (w.alloc (.cells #[.int .i64 num, .slice a n c] 28)) _) := (Live.start w).alloc _ _
  go_loopw [3, 4] (fun s3 s4 wr => ∃ k : Nat, k ≤ n ∧ s4 = .int .i64 k ∧ Hid (wr.ownsRow (w.heap.size + 1) 45 3 s3 ((ms.take k).filter Mb.f).length (((ms.take k).filter Mb.f).flatMap Mb.cells)) ∧ Hid (Live w wr [(w.heap.size, 28, #[.int .i64 num, .slice a n c])])) (fun _ s4 _ => n - (intOf s4).toNat)
  case atStart => exact ⟨0, by omega, rfl, (World.ownsRow_nil _ _ _ _ : World.ownsRow _ _ _ _ _ _ _), L0.out⟩
  case round =>
    obtain ⟨k, hk, rfl, O, L⟩ := hrel
    have hlw := L.out.l0
    have cb := L.out.c0
    by_cases hlt : k < n
    · have hltI : (k : Int) < n := by omega
      obtain ⟨b, o, rfl, hb, hcl⟩ := H.out.at_ hlt
      have q := (hcl k hlt).below L.out.below hb
      clear hcl
      have hbw : b < wr.heap.size := by omega
      unfold MbAt at q
      obtain ⟨q0, q1, q2⟩ := q
      have hlen : ((ms.take k).filter Mb.f).length ≤ k := Nat.le_trans (List.length_filter_le _ _) (by simp; omega)
      have T := Lib.hid (take_filter ms k (by rw [← HN.out]; exact hlt))
      generalize Mb.at ms k = x at *
      obtain ⟨xn, xb, xf⟩ := x
      dsimp only at q0 q1 q2
      cases xf with
      | true =>
        go_wp2_with (at_builtin; refine wpList_app rfl (.tmp 18) (.tmp 24) _ rfl (w.heap.size + 1) 45 _ 3 24 Try.underlying26 mb_info rfl (by omega) _ _ _ rfl (O.out.alloc _) _ 1 _ rfl (sl_new _ _ _ 3 1 1 rfl (by omega) (by omega)) (by intro u hu; simp at hu; rcases hu with rfl | rfl | rfl <;> rfl) (by omega) (by omega) (by simp; omega) ?_; intro v' w' hown' hg')
        go_roundw
        case rel =>
          refine ⟨k + 1, by omega, by go_num, ?_, ?_⟩
          · show World.ownsRow _ _ _ _ _ _ _
            rw [T.out]
            simpa [Mb.cells] using hown'
          · exact (L.out.alloc' _).callB (below_grown (Below.refl _ _) (O.out.alloc _) hg' (Nat.le_refl _) (by simp; omega)) (by omega) (by intro x hx; simp at hx; subst hx; simp)
        case measure => simp [intOf]; omega
      | false =>
        go_wp2_with fail
        go_roundw
        case rel =>
          refine ⟨k + 1, by omega, by go_num, ?_, L.out⟩
          show World.ownsRow _ _ _ _ _ _ _; rw [T.out]; simpa using O.out
        case measure => simp [intOf]; omega
    · have hkn : k = n := by omega
      subst hkn
      go_wp2
      go_ret
      refine ⟨_, rfl, ?_, L.out.below⟩
      have := own_slm O.out
      rwa [HN.out, List.take_length] at this
end Go.Proofs.Ythppeaelfcmafaa
