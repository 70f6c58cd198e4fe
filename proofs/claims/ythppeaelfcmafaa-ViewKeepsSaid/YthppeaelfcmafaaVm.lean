/- The walk of the laws' 'of': some view, in memory of its own. Own work. -/
import Derived.Test.YthppeaelfcmafaaVl
import Derived.Test.YthppeaelfcmafaaVr
import Derived.Deep.QuietTactic
import Derived.BigQuiet
namespace Go.Proofs.Ythppeaelfcmafaa
open Go.RowKit
set_option linter.unusedVariables false
set_option maxHeartbeats 4000000 in
set_option maxRecDepth 100000 in
theorem of_ex (a : GRaw) (w : World) (h : GRaw.ok w a) :
    Calls Try.prog 9 #[.agg (GRaw.cells a).toArray] w fun e w' => ∃ (n : Int) (s : Value) (ms : List Mb), e = .returned (.agg #[.int .i64 n, s]) ∧ w'.ownsRow w.heap.size 45 3 s ms.length (ms.flatMap Mb.cells) ∧ ms.length ≤ 5 ∧ Below w.heap.size w w' := by
  obtain ⟨num, mask, full, spoil, at_, bv, bs⟩ := a
  obtain ⟨h1, h2, h3, h4, h5, hsl, hbs⟩ := h
  dsimp only at h1 h2 h3 h4 h5 hsl hbs
  unfold GRaw.cells
  dsimp only
  obtain ⟨ba, bc, rfl⟩ : ∃ a c, bv = .slice a bs.length c := by
    rcases hsl.cases with ⟨a', c', e, e2⟩ | ⟨b, o, c', e, _⟩
    · have : bs = [] := by simpa using e2
      exact ⟨a', c', by rw [e, this]; rfl⟩
    · exact ⟨_, c', by rw [e, List.length_map]⟩
  have L0 : Hid (Live w (w.alloc (.cells #[.int .i64 num, .int .i64 mask, .int .i64 full, .int .i64 spoil, .int .i64 at_, .slice ba bs.length bc] 24)) _) := (Live.start w).alloc _ _
  have L1 := Lib.hid (L0.out.alloc #[.int .i64 0, .slice none 0 0] 28)
  have HV := Lib.hid (fun W (hW : Sl W (.slice ba bs.length bc) (bs.map (Value.int .i64))) => HandView_ex num mask full _ bs W hW hbs)
  have S0 := Lib.hid (hsl.below L1.out.below)
  clear h1 h2 h3 h4 h5 hsl hbs
  generalize bs.length = bn at *
  go_enter Try.func9, Try.ntmps9
  go_wp2_with (go_at_call 34; refine (HV.out _ S0.out).mono ?_; rintro e w1 ⟨n, s, ms, rfl, hO, hp, hl, hb⟩; obtain ⟨g, c, rfl, hg1, hg2⟩ := own_some hO hp; have O := Lib.hid (hO.alloc (.cells #[.int .i64 n, .slice (some ⟨g, 0, none⟩) ms.length c] 28)); have L2 := Lib.hid ((L1.out.call hb).alloc #[.int .i64 n, .slice (some ⟨g, 0, none⟩) ms.length c] 28); clear hO hb)
  simp only [World.size_alloc] at L2 hg1 O
  have hpI : 1 ≤ (ms.length : Int) := by omega
  have hlI : (ms.length : Int) ≤ 5 := by omega
  obtain ⟨j, hj⟩ := Int.eq_ofNat_of_zero_le (Int.emod_nonneg at_ (show (ms.length : Int) ≠ 0 by omega))
  have hjl := Int.emod_lt_of_pos at_ (show (0 : Int) < ms.length by omega)
  rw [hj] at hjl
  have hjn : j < ms.length := by omega
  have cv := L2.out.c0
  have fv := L2.out.f0
  have cr := L2.out.tail.tail.c0
  have PK := Lib.hid (fun W (k : Int) (h1 : 1 ≤ k) (h2 : k ≤ 5) => (Pick_any at_ k W h1 (by omega)).mono (fun e w' ⟨p, q⟩ => (⟨p, q.symm⟩ : e = Ending.returned (.int .i64 (at_ % k)) ∧ w' = W)))
  go_quiet (first | (go_at_call 10; exact Calls.quiet_of_same (PK.out _ _ hpI hlI)))
  obtain ⟨W0, hW0⟩ : ∃ W0, W0 = (w1.alloc (.cells #[.int .i64 n, .slice (some ⟨g, 0, none⟩) ms.length c] 28)).drewN nq := ⟨_, rfl⟩
  have LW := Lib.hid (L2.out.drewN nq)
  have OW : Hid (W0.ownsRow (w.heap.size + 1 + 1) 45 3 (.slice (some ⟨g, 0, none⟩) ms.length c) ms.length (ms.flatMap Mb.cells)) := by show World.ownsRow _ _ _ _ _ _ _; rw [hW0]; exact O.out
  rw [← hW0] at LW ⊢
  have hb3 : w.heap.size + 1 < w1.heap.size := by omega
  clear hW0 L2 O L0 L1 S0 HV PK cv fv cr
  generalize w1.heap.size = b3 at *
  have cv := LW.out.c0
  have fv := LW.out.f0
  have cr := LW.out.tail.tail.c0
  have cq := LW.out.tail.c0
  have fq := LW.out.tail.f0
  have HM := Lib.hid (Mb.cell_at OW.out j hjn rfl)
  have hm := HM.out
  unfold MbAt at hm
  obtain ⟨m0, m1, m2⟩ := hm
  have fg := own_frozenAt OW.out
  have hgb : ¬ g = b3 := by omega
  have hgr : ¬ g = w.heap.size + 1 := by omega
  have hgw : ¬ g = w.heap.size := by omega
  have ON := Lib.hid (fun x => Mb.flat_setN ms j x hjn ▸ own_setcell OW.out (j * 3) (by omega) (.int .i64 x))
  have OB := Lib.hid (fun x => Mb.flat_setB ms j x hjn ▸ own_setcell OW.out (j * 3 + 1) (by omega) (.int .i64 x))
  have lN := Lib.hid (Mb.setN_len ms j)
  have lB := Lib.hid (Mb.setB_len ms j)
  have LO := Lib.hid (fun i u => LW.out.setO (b := g) (by omega) (by intro x hx; simp at hx; rcases hx with rfl | rfl | rfl <;> (simp; omega)) i u)
  have HL := Lib.hid hl
  have HN : Hid (ms.length = ms.length) := rfl
  obtain ⟨n0, hn0⟩ : ∃ n0, n0 = ms.length := ⟨_, rfl⟩
  rw [← hn0] at hj hjl hpI hlI LW OW ON OB cv LO ⊢
  have hpN : 0 < n0 := by omega
  have hn05 : n0 ≤ 5 := by omega
  have HN0 := Lib.hid hn0
  have hjn' : j < n0 := by omega
  clear hn0 hjn hl hp HM hpI hlI
  go_wp2_with (go_at_call 10; refine (Pick_ex _ _ _ (by decide) (by decide)).mono ?_; rintro e w' ⟨r, rfl, p1, q1, _, rfl⟩)
  · have LX := Lib.hid (LW.out.set0 (by intro x hx; simp at hx; rcases hx with rfl | rfl <;> (simp; omega)) 0 (.int .i64 (r - 2)))
    have LF := Lib.hid ((LX.out.tail.set0 (by intro x hx; simp at hx; subst hx; simp) 0 (.int .i64 (r - 2))).set0 (by intro x hx; simp at hx; subst hx; simp) 1 (.slice (some ⟨g, 0, none⟩) n0 c))
    have OF := own_set_ne (own_set_ne (own_set_ne OW.out (b := b3) (by omega) 0 (.int .i64 (r - 2))) (b := w.heap.size + 1) (by omega) 0 (.int .i64 (r - 2))) (b := w.heap.size + 1) (by omega) 1 (.slice (some ⟨g, 0, none⟩) n0 c)
    have MF := Lib.hid (own_mono OF (base' := w.heap.size) (by omega))
    clear OF
    obtain ⟨W, hW⟩ : ∃ W, W = ((W0.setCell ⟨b3, 0, none⟩ (.int .i64 (r - 2))).setCell ⟨w.heap.size + 1, 0, none⟩ (.int .i64 (r - 2))).setCell ⟨w.heap.size + 1, 1, none⟩ (.slice (some ⟨g, 0, none⟩) n0 c) := ⟨_, rfl⟩
    rw [← hW] at LF MF ⊢
    clear hW
    have cF := LF.out.c0
    refine bodyPost_ret (v := .agg #[.int .i64 (r - 2), .slice (some ⟨g, 0, none⟩) n0 c]) (by simp [results, Try.results9, go_sem, cF]) rfl ?_
    exact ⟨(r - 2), _, ms, rfl, HN0.out ▸ MF.out, HL.out, LF.out.below⟩
  · have LX := Lib.hid (LO.out (j * 3) (.int .i64 (r - 2)))
    have LF := Lib.hid ((LX.out.tail.set0 (by intro x hx; simp at hx; subst hx; simp) 0 (.int .i64 n)).set0 (by intro x hx; simp at hx; subst hx; simp) 1 (.slice (some ⟨g, 0, none⟩) n0 c))
    have OF := own_set_ne (own_set_ne (ON.out (r - 2)) (b := w.heap.size + 1) (by omega) 0 (.int .i64 n)) (b := w.heap.size + 1) (by omega) 1 (.slice (some ⟨g, 0, none⟩) n0 c)
    have MF := Lib.hid (own_mono OF (base' := w.heap.size) (by omega))
    clear OF
    obtain ⟨W, hW⟩ : ∃ W, W = ((W0.setCell ⟨g, j * 3, none⟩ (.int .i64 (r - 2))).setCell ⟨w.heap.size + 1, 0, none⟩ (.int .i64 n)).setCell ⟨w.heap.size + 1, 1, none⟩ (.slice (some ⟨g, 0, none⟩) n0 c) := ⟨_, rfl⟩
    rw [← hW] at LF MF ⊢
    clear hW
    have cF := LF.out.c0
    refine bodyPost_ret (v := .agg #[.int .i64 n, .slice (some ⟨g, 0, none⟩) n0 c]) (by simp [results, Try.results9, go_sem, cF]) rfl ?_
    exact ⟨n, _, Mb.setN ms j (r - 2), rfl, by rw [lN.out, ← HN0.out]; exact MF.out, by rw [lN.out]; exact HL.out, LF.out.below⟩
  · have LX := Lib.hid (LO.out (j * 3 + 1) (.int .i64 (r - 2)))
    have LF := Lib.hid ((LX.out.tail.set0 (by intro x hx; simp at hx; subst hx; simp) 0 (.int .i64 n)).set0 (by intro x hx; simp at hx; subst hx; simp) 1 (.slice (some ⟨g, 0, none⟩) n0 c))
    have OF := own_set_ne (own_set_ne (OB.out (r - 2)) (b := w.heap.size + 1) (by omega) 0 (.int .i64 n)) (b := w.heap.size + 1) (by omega) 1 (.slice (some ⟨g, 0, none⟩) n0 c)
    have MF := Lib.hid (own_mono OF (base' := w.heap.size) (by omega))
    clear OF
    obtain ⟨W, hW⟩ : ∃ W, W = ((W0.setCell ⟨g, j * 3 + 1, none⟩ (.int .i64 (r - 2))).setCell ⟨w.heap.size + 1, 0, none⟩ (.int .i64 n)).setCell ⟨w.heap.size + 1, 1, none⟩ (.slice (some ⟨g, 0, none⟩) n0 c) := ⟨_, rfl⟩
    rw [← hW] at LF MF ⊢
    clear hW
    have cF := LF.out.c0
    refine bodyPost_ret (v := .agg #[.int .i64 n, .slice (some ⟨g, 0, none⟩) n0 c]) (by simp [results, Try.results9, go_sem, cF]) rfl ?_
    exact ⟨n, _, Mb.setB ms j (r - 2), rfl, by rw [lB.out, ← HN0.out]; exact MF.out, by rw [lB.out]; exact HL.out, LF.out.below⟩
  · clear m0 m1 m2 cv fg
    go_loopw [5] (fun s5 wr => ∃ (k : Nat) (ns : List Mb), k ≤ n0 ∧ s5 = .int .i64 k ∧ Hid (ns.length = n0) ∧ Hid (wr.ownsRow (w.heap.size + 1 + 1) 45 3 (.slice (some ⟨g, 0, none⟩) n0 c) n0 (ns.flatMap Mb.cells)) ∧ Hid (Live w wr [(b3, 28, #[.int .i64 n, .slice (some ⟨g, 0, none⟩) n0 c]), (w.heap.size + 1, 28, #[.int .i64 0, .slice none 0 0])])) (fun s5 _ => n0 - (intOf s5).toNat)
    case atStart => exact ⟨0, ms, by omega, rfl, Lib.hid HN0.out.symm, OW, Lib.hid (LW.out.sub (by intro x hx; simp at hx ⊢; rcases hx with rfl | rfl <;> simp))⟩
    case round =>
      obtain ⟨k, ns, hk, rfl, hnl, O, L⟩ := hrel
      clear cr cq fq
      have cv := L.out.c0
      by_cases hlt : k < n0
      · have hltI : (k : Int) < n0 := by omega
        have hm := Mb.cell_at O.out k (by rw [hnl.out]; exact hlt) hnl.out.symm
        unfold MbAt at hm
        obtain ⟨m0, m1, m2⟩ := hm
        have fg := own_frozenAt O.out
        have OX := Lib.hid (Mb.flat_setF ns k false (by rw [hnl.out]; exact hlt) ▸ own_setcell O.out (k * 3 + 2) (by omega) (.bool false))
        have lX := Lib.hid (Mb.setF_len ns k false)
        have LX := Lib.hid (L.out.setO (b := g) (by omega) (by intro x hx; simp at hx; rcases hx with rfl | rfl <;> (simp; omega)) (k * 3 + 2) (.bool false))
        clear m0 m1
        go_wp2
        go_roundw
        case rel => exact ⟨k + 1, _, by omega, by go_num, Lib.hid (lX.out.trans hnl.out), OX, LX⟩
        case measure => simp [intOf]; omega
      · have cq := L.out.tail.c0
        have fq := L.out.tail.f0
        go_wp2
        have LX := Lib.hid (L.out)
        have LF := Lib.hid ((LX.out.tail.set0 (by simp) 0 (.int .i64 n)).set0 (by simp) 1 (.slice (some ⟨g, 0, none⟩) n0 c))
        have OF := own_set_ne (own_set_ne (O.out) (b := w.heap.size + 1) (by omega) 0 (.int .i64 n)) (b := w.heap.size + 1) (by omega) 1 (.slice (some ⟨g, 0, none⟩) n0 c)
        have MF := Lib.hid (own_mono OF (base' := w.heap.size) (by omega))
        clear OF
        obtain ⟨W, hW⟩ : ∃ W, W = ((wr).setCell ⟨w.heap.size + 1, 0, none⟩ (.int .i64 n)).setCell ⟨w.heap.size + 1, 1, none⟩ (.slice (some ⟨g, 0, none⟩) n0 c) := ⟨_, rfl⟩
        rw [← hW] at LF MF ⊢
        clear hW
        have cF := LF.out.c0
        refine bodyPost_ret (v := .agg #[.int .i64 n, .slice (some ⟨g, 0, none⟩) n0 c]) (by simp [results, Try.results9, go_sem, cF]) rfl ?_
        exact ⟨n, _, ns, rfl, by rw [hnl.out]; exact MF.out, by rw [hnl.out, HN0.out]; exact HL.out, LF.out.below⟩
  · have LX := Lib.hid (LW.out.set0 (by intro x hx; simp at hx; rcases hx with rfl | rfl <;> (simp; omega)) 1 (.slice none 0 0))
    have LF := Lib.hid ((LX.out.tail.set0 (by intro x hx; simp at hx; subst hx; simp) 0 (.int .i64 n)).set0 (by intro x hx; simp at hx; subst hx; simp) 1 (.slice none 0 0))
    have MF := Lib.hid (World.ownsRow_nil (((W0.setCell ⟨b3, 1, none⟩ (.slice none 0 0)).setCell ⟨w.heap.size + 1, 0, none⟩ (.int .i64 n)).setCell ⟨w.heap.size + 1, 1, none⟩ (.slice none 0 0)) w.heap.size 45 3)
    obtain ⟨W, hW⟩ : ∃ W, W = ((W0.setCell ⟨b3, 1, none⟩ (.slice none 0 0)).setCell ⟨w.heap.size + 1, 0, none⟩ (.int .i64 n)).setCell ⟨w.heap.size + 1, 1, none⟩ (.slice none 0 0) := ⟨_, rfl⟩
    rw [← hW] at LF MF ⊢
    clear hW
    have cF := LF.out.c0
    refine bodyPost_ret (v := .agg #[.int .i64 n, .slice none 0 0]) (by simp [results, Try.results9, go_sem, cF]) rfl ?_
    exact ⟨n, _, [], rfl, MF.out, by simp, LF.out.below⟩
  · have LX := Lib.hid (LW.out)
    have LF := Lib.hid ((LX.out.tail.set0 (by intro x hx; simp at hx; subst hx; simp) 0 (.int .i64 n)).set0 (by intro x hx; simp at hx; subst hx; simp) 1 (.slice (some ⟨g, 0, none⟩) n0 c))
    have OF := own_set_ne (own_set_ne (OW.out) (b := w.heap.size + 1) (by omega) 0 (.int .i64 n)) (b := w.heap.size + 1) (by omega) 1 (.slice (some ⟨g, 0, none⟩) n0 c)
    have MF := Lib.hid (own_mono OF (base' := w.heap.size) (by omega))
    clear OF
    obtain ⟨W, hW⟩ : ∃ W, W = ((W0).setCell ⟨w.heap.size + 1, 0, none⟩ (.int .i64 n)).setCell ⟨w.heap.size + 1, 1, none⟩ (.slice (some ⟨g, 0, none⟩) n0 c) := ⟨_, rfl⟩
    rw [← hW] at LF MF ⊢
    clear hW
    have cF := LF.out.c0
    refine bodyPost_ret (v := .agg #[.int .i64 n, .slice (some ⟨g, 0, none⟩) n0 c]) (by simp [results, Try.results9, go_sem, cF]) rfl ?_
    exact ⟨n, _, ms, rfl, HN0.out ▸ MF.out, HL.out, LF.out.below⟩
end Go.Proofs.Ythppeaelfcmafaa
