/- ViewKeeps: the law returns true for every input and leaves its arguments as they were. No condition. Own work; the row's step goes the kit's way. -/
import Derived.Test.YthppeaelfcmafaaRows
import Derived.WalkKit
import Derived.ProofKit
import Derived.OpenShut
import Derived.ShutString
import Derived.ChangeOld
import Derived.Below
import Derived.Test.YthppeaelfcmafaaVr
import Derived.Test.YthppeaelfcmafaaVt
import Derived.Test.YthppeaelfcmafaaVm
import Derived.Test.YthppeaelfcmafaaTac
import Derived.Deep.QuietTactic
import Derived.BigQuiet
namespace Go.Proofs.Ythppeaelfcmafaa.viewKeeps
open Go.ChangeShapes Go.WideShapes Go.ChangeAt Go.RowKit
set_option linter.unusedVariables false

theorem own : ownKnob Try.prog.godebug = none := by kernel_rfl
theorem laidOut : laidOutB Try.prog = true := by kernel_rfl

set_option maxRecDepth 100000 in
set_option maxHeartbeats 8000000 in
theorem walk (a0 : GRaw) (a1 : Bool) (v2 : Value) (a2 : List Int) (w : World) (k0 : GRaw.ok w a0) (s2 : Sl w v2 (a2.map (Value.int .i64))) (b2 : ∀ n ∈ a2, (Lit.int .i64 n).wf = true) :
    Calls Try.prog 7 #[.agg (GRaw.cells a0).toArray, .bool a1, v2] w fun e w' => e = .returned (.bool true) ∧ Below w.heap.size w w' := by
  have OF1 := Lib.hid (fun W (h : GRaw.ok W a0) => of_ex a0 W h)
  have K0 := Lib.hid k0
  have S2 := Lib.hid s2
  obtain ⟨ba, bc, rfl⟩ := s2.form1
  clear k0 s2 b2
  obtain ⟨m1, m2, m3, m4, m5, m6, m7⟩ := a0
  unfold GRaw.cells at *
  dsimp only at *
  have hm7 := K0.out.2.2.2.2.2.1
  dsimp only at hm7
  obtain ⟨pa, pc, rfl⟩ : ∃ a c, m6 = .slice a m7.length c := Sl.form1 hm7
  clear hm7
  have L0 : Hid (Kept w (w.alloc (.cells #[.int .i64 m1, .int .i64 m2, .int .i64 m3, .int .i64 m4, .int .i64 m5, .slice pa m7.length pc] 24))) := Kept.of (by (repeat (first | with_reducible exact Below.refl _ _ | with_reducible exact Kept.out (Hid.out (by assumption)) | with_reducible exact Hid.out (by assumption) | with_reducible refine Below.drew ?_ | with_reducible refine Below.drewN1 ?_ _ | with_reducible refine Below.alloc1 ?_ _ | ((with_reducible refine Below.setCell1 ?_ ?_ _ _); (focus (first | omega | (simp; done) | (simp; omega)))) | with_reducible refine Below.call1 ?_ (Hid.out (by assumption)))))
  by_cases h8 : m7.length ≤ 8
  case neg =>
    have h8' : (8 : Int) < (m7.length : Int) := by omega
    clear h8
    go_enter Try.func7, Try.ntmps7
    go_wp2
    go_ret
    exact ⟨rfl, L0.out.out⟩
  have h8' : ¬ (8 : Int) < (m7.length : Int) := by omega
  clear h8
  by_cases h9 : a2.length ≤ 8
  case neg =>
    have h9' : (8 : Int) < (a2.length : Int) := by omega
    clear h9
    go_enter Try.func7, Try.ntmps7
    go_wp2
    go_ret
    exact ⟨rfl, L0.out.out⟩
  have h9' : ¬ (8 : Int) < (a2.length : Int) := by omega
  clear h9
  go_enter Try.func7, Try.ntmps7
  go_wp2_with fail
  refine (OF1.out _ (GRaw.below K0.out (by (repeat (first | with_reducible exact Below.refl _ _ | with_reducible exact Kept.out (Hid.out (by assumption)) | with_reducible exact Hid.out (by assumption) | with_reducible refine Below.drew ?_ | with_reducible refine Below.drewN1 ?_ _ | with_reducible refine Below.alloc1 ?_ _ | ((with_reducible refine Below.setCell1 ?_ ?_ _ _); (focus (first | omega | (simp; done) | (simp; omega)))) | with_reducible refine Below.call1 ?_ (Hid.out (by assumption))))))).mono ?_
  rintro e w1 ⟨n, s, ms, rfl, ho, hl, hb⟩
  obtain ⟨fa, fc, rfl⟩ := own_form ho
  have M1 := Lib.hid (own_slm ho)
  have hb1 := Lib.hid hb
  have K1 : Hid (Kept w w1) := Kept.of (by (repeat (first | with_reducible exact Below.refl _ _ | with_reducible exact Kept.out (Hid.out (by assumption)) | with_reducible exact Hid.out (by assumption) | with_reducible refine Below.drew ?_ | with_reducible refine Below.drewN1 ?_ _ | with_reducible refine Below.alloc1 ?_ _ | ((with_reducible refine Below.setCell1 ?_ ?_ _ _); (focus (first | omega | (simp; done) | (simp; omega)))) | with_reducible refine Below.call1 ?_ (Hid.out (by assumption)))))
  clear ho hb h8' h9'
  have PP := Lib.hid (fun W (h1 : SlM W (.slice fa ms.length fc) ms) (h2 : Sl W (.slice ba a2.length bc) (a2.map (Value.int .i64))) => Propose_any n a1 _ _ ms a2 W h1 h2)
  go_wp2_with fail
  refine (PP.out _ (by (repeat (first | with_reducible exact Hid.out (by assumption) | with_reducible refine SlM.drew1 ?_ | with_reducible refine SlM.alloc ?_ _ | with_reducible refine SlM.below ?_ (Hid.out (by assumption))))) (S2.out.below (by (repeat (first | with_reducible exact Below.refl _ _ | with_reducible exact Kept.out (Hid.out (by assumption)) | with_reducible exact Hid.out (by assumption) | with_reducible refine Below.drew ?_ | with_reducible refine Below.drewN1 ?_ _ | with_reducible refine Below.alloc1 ?_ _ | ((with_reducible refine Below.setCell1 ?_ ?_ _ _); (focus (first | omega | (simp; done) | (simp; omega)))) | with_reducible refine Below.call1 ?_ (Hid.out (by assumption))))))).mono ?_
  rintro e w2 ⟨u, rfl, hu, hb⟩
  obtain ⟨ua, uc, rfl⟩ := hu.form
  have hb2 := Lib.hid hb
  have K2 : Hid (Kept w w2) := Kept.of (by (repeat (first | with_reducible exact Below.refl _ _ | with_reducible exact Kept.out (Hid.out (by assumption)) | with_reducible exact Hid.out (by assumption) | with_reducible refine Below.drew ?_ | with_reducible refine Below.drewN1 ?_ _ | with_reducible refine Below.alloc1 ?_ _ | ((with_reducible refine Below.setCell1 ?_ ?_ _ _); (focus (first | omega | (simp; done) | (simp; omega)))) | with_reducible refine Below.call1 ?_ (Hid.out (by assumption)))))
  clear hb PP
  have q7 : Hid (Blk (w2.alloc (.cells #[.int .i64 (propV n ms a1 a2).1, .slice ua (propV n ms a1 a2).2.1.length uc] 28)) w1.heap.size 28 #[.int .i64 n, .slice fa ms.length fc]) := by show Blk _ _ _ _; (repeat (first | with_reducible exact Hid.out (by assumption) | with_reducible refine Blk.drew1 ?_ | with_reducible refine Blk.drewN1 ?_ _ | with_reducible exact Blk.new _ _ _ | with_reducible refine Blk.setSame ?_ _ _ | ((with_reducible refine Blk.setNe ?_ ?_ _ _); (focus (first | omega | (simp; done) | (simp; omega)))) | ((with_reducible refine Blk.new1 _ _ _ ?_); (first | rfl | (simp; done)))  | with_reducible refine Blk.alloc1 ?_ _ | with_reducible refine Blk.call1 ?_ (Hid.out (by assumption))))
  by_cases hc : (propV n ms a1 a2).2.2 = 0
  case neg =>
    obtain ⟨e1, e2⟩ := propV_code hc
    rw [e1, e2] at q7 ⊢
    clear e1 e2 hu
    generalize (propV n ms a1 a2).2.2 = z at *
    have hz : (z != 0) = true := by rw [bne_iff_ne]; exact hc
    clear hc
    go_wp2_with fail
    refine (awake_any _).mono ?_
    rintro e w3 ⟨rfl, hb⟩
    have hb3 := Lib.hid hb
    have q8 : Hid (Blk w3 w2.heap.size 28 #[.int .i64 0, .slice ua 0 uc]) := by show Blk _ _ _ _; (repeat (first | with_reducible exact Hid.out (by assumption) | with_reducible refine Blk.drew1 ?_ | with_reducible refine Blk.drewN1 ?_ _ | with_reducible exact Blk.new _ _ _ | with_reducible refine Blk.setSame ?_ _ _ | ((with_reducible refine Blk.setNe ?_ ?_ _ _); (focus (first | omega | (simp; done) | (simp; omega)))) | ((with_reducible refine Blk.new1 _ _ _ ?_); (first | rfl | (simp; done)))  | with_reducible refine Blk.alloc1 ?_ _ | with_reducible refine Blk.call1 ?_ (Hid.out (by assumption))))
    have c8 := q8.out.cell
    clear hb
    go_wp2_with fail
    go_ret
    refine ⟨rfl, ?_⟩
    (repeat (first | with_reducible exact Below.refl _ _ | with_reducible exact Kept.out (Hid.out (by assumption)) | with_reducible exact Hid.out (by assumption) | with_reducible refine Below.drew ?_ | with_reducible refine Below.drewN1 ?_ _ | with_reducible refine Below.alloc1 ?_ _ | ((with_reducible refine Below.setCell1 ?_ ?_ _ _); (focus (first | omega | (simp; done) | (simp; omega)))) | with_reducible refine Below.call1 ?_ (Hid.out (by assumption))))
  obtain ⟨e1, e2, e3, e4, e5, e6, e7⟩ := propV_zero hc
  have PA := Lib.hid (fun (i : Nat) (hi : i < (propM ms a1 a2 a2.length).length) => propM_at hi)
  rw [e1, e2] at q7 ⊢
  rw [e2] at hu
  rw [hc]
  clear e1 e2 hc
  have U2 := Lib.hid hu
  clear hu
  have VV := Lib.hid (fun W (hW : SlM W (.slice ua (propM ms a1 a2 a2.length).length uc) (propM ms a1 a2 a2.length)) => Valid_any (n + 1) a2.length _ _ W hW)
  rw [e3] at VV
  clear e3
  have hle := propM_len ms a1 a2 a2.length
  generalize hpl : propM ms a1 a2 a2.length = pl at *
  obtain ⟨ln, hln⟩ : ∃ ln, ln = pl.length := ⟨_, rfl⟩
  rw [← hln] at q7 U2 VV PA e4 hle ⊢
  obtain ⟨bn, hbn⟩ : ∃ bn, bn = a2.length := ⟨_, rfl⟩
  rw [← hbn] at S2 VV PA e4 e7 hle ⊢
  have HL := Lib.hid hln
  have HBN := Lib.hid hbn
  clear hln hbn hpl
  go_wp2_with fail
  refine (VV.out _ (by (repeat (first | with_reducible exact Hid.out (by assumption) | with_reducible refine SlM.drew1 ?_ | with_reducible refine SlM.alloc ?_ _ | with_reducible refine SlM.below ?_ (Hid.out (by assumption)))))).mono ?_
  rintro e w3 ⟨rfl, hb⟩
  have hb3 := Lib.hid hb
  have q8 : Hid (Blk w3 w2.heap.size 28 #[.int .i64 (n + 1), .slice ua ln uc]) := by show Blk _ _ _ _; (repeat (first | with_reducible exact Hid.out (by assumption) | with_reducible refine Blk.drew1 ?_ | with_reducible refine Blk.drewN1 ?_ _ | with_reducible exact Blk.new _ _ _ | with_reducible refine Blk.setSame ?_ _ _ | ((with_reducible refine Blk.setNe ?_ ?_ _ _); (focus (first | omega | (simp; done) | (simp; omega)))) | ((with_reducible refine Blk.new1 _ _ _ ?_); (first | rfl | (simp; done)))  | with_reducible refine Blk.alloc1 ?_ _ | with_reducible refine Blk.call1 ?_ (Hid.out (by assumption))))
  have q9 : Hid (Blk w3 w1.heap.size 28 #[.int .i64 n, .slice fa ms.length fc]) := by show Blk _ _ _ _; (repeat (first | with_reducible exact Hid.out (by assumption) | with_reducible refine Blk.drew1 ?_ | with_reducible refine Blk.drewN1 ?_ _ | with_reducible exact Blk.new _ _ _ | with_reducible refine Blk.setSame ?_ _ _ | ((with_reducible refine Blk.setNe ?_ ?_ _ _); (focus (first | omega | (simp; done) | (simp; omega)))) | ((with_reducible refine Blk.new1 _ _ _ ?_); (first | rfl | (simp; done)))  | with_reducible refine Blk.alloc1 ?_ _ | with_reducible refine Blk.call1 ?_ (Hid.out (by assumption))))
  have c8 := q8.out.cell
  have c9 := q9.out.cell
  have hmj : ¬ 2 * (ln : Int) ≤ (bn : Int) := by omega
  have hnn : n < 9223372036854775807 := by omega
  have hn0 : 0 ≤ n := e5
  clear hb
  go_wp2_with fail
  refine (awake_any _).mono ?_
  rintro e w4 ⟨rfl, hb⟩
  have hb4 := Lib.hid hb
  have K4 : Hid (Kept w w4) := Kept.of (by (repeat (first | with_reducible exact Below.refl _ _ | with_reducible exact Kept.out (Hid.out (by assumption)) | with_reducible exact Hid.out (by assumption) | with_reducible refine Below.drew ?_ | with_reducible refine Below.drewN1 ?_ _ | with_reducible refine Below.alloc1 ?_ _ | ((with_reducible refine Below.setCell1 ?_ ?_ _ _); (focus (first | omega | (simp; done) | (simp; omega)))) | with_reducible refine Below.call1 ?_ (Hid.out (by assumption)))))
  have p8 : Hid (Blk w4 w2.heap.size 28 #[.int .i64 (n + 1), .slice ua ln uc]) := by show Blk _ _ _ _; (repeat (first | with_reducible exact Hid.out (by assumption) | with_reducible refine Blk.drew1 ?_ | with_reducible refine Blk.drewN1 ?_ _ | with_reducible exact Blk.new _ _ _ | with_reducible refine Blk.setSame ?_ _ _ | ((with_reducible refine Blk.setNe ?_ ?_ _ _); (focus (first | omega | (simp; done) | (simp; omega)))) | ((with_reducible refine Blk.new1 _ _ _ ?_); (first | rfl | (simp; done)))  | with_reducible refine Blk.alloc1 ?_ _ | with_reducible refine Blk.call1 ?_ (Hid.out (by assumption))))
  have p9 : Hid (Blk w4 w1.heap.size 28 #[.int .i64 n, .slice fa ms.length fc]) := by show Blk _ _ _ _; (repeat (first | with_reducible exact Hid.out (by assumption) | with_reducible refine Blk.drew1 ?_ | with_reducible refine Blk.drewN1 ?_ _ | with_reducible exact Blk.new _ _ _ | with_reducible refine Blk.setSame ?_ _ _ | ((with_reducible refine Blk.setNe ?_ ?_ _ _); (focus (first | omega | (simp; done) | (simp; omega)))) | ((with_reducible refine Blk.new1 _ _ _ ?_); (first | rfl | (simp; done)))  | with_reducible refine Blk.alloc1 ?_ _ | with_reducible refine Blk.call1 ?_ (Hid.out (by assumption))))
  have U4 : Hid (SlM w4 (.slice ua ln uc) pl) := by show SlM _ _ _; (repeat (first | with_reducible exact Hid.out (by assumption) | with_reducible refine SlM.drew1 ?_ | with_reducible refine SlM.alloc ?_ _ | with_reducible refine SlM.below ?_ (Hid.out (by assumption))))
  have M4 : Hid (SlM w4 (.slice fa ms.length fc) ms) := by show SlM _ _ _; (repeat (first | with_reducible exact Hid.out (by assumption) | with_reducible refine SlM.drew1 ?_ | with_reducible refine SlM.alloc ?_ _ | with_reducible refine SlM.below ?_ (Hid.out (by assumption))))
  have S4 := Lib.hid (S2.out.below (K4.out.out))
  have FF := Lib.hid (fun W (node : Int) (hW : SlM W (.slice fa ms.length fc) ms) => Find_any n node _ ms W hW)
  clear hb c8 c9 q7 q8 q9 U2 M1 S2 hb1 hb2 hb3 hb4 K1 K2 VV
  generalize w2.heap.size = b8 at *
  generalize w1.heap.size = b7 at *
  generalize ms.length = mn at *
  have Lb := U4.out.len
  go_wp2_with fail
  go_loopw [10, 11, 12, 13] (fun s10 _ _ _ wr => ∃ i : Nat, i ≤ ln ∧ s10 = .int .i64 i ∧ Hid (Below w4.heap.size w4 wr)) (fun s10 _ _ _ _ => ln - (intOf s10).toNat)
  case atStart => exact ⟨0, by omega, rfl, Below.refl _ _⟩
  case round =>
    obtain ⟨i, hi, rfl, B⟩ := hrel
    have r8 : Hid (Blk wr b8 28 #[.int .i64 (n + 1), .slice ua ln uc]) := by show Blk _ _ _ _; (repeat (first | with_reducible exact Hid.out (by assumption) | with_reducible refine Blk.drew1 ?_ | with_reducible refine Blk.drewN1 ?_ _ | with_reducible exact Blk.new _ _ _ | with_reducible refine Blk.setSame ?_ _ _ | ((with_reducible refine Blk.setNe ?_ ?_ _ _); (focus (first | omega | (simp; done) | (simp; omega)))) | ((with_reducible refine Blk.new1 _ _ _ ?_); (first | rfl | (simp; done)))  | with_reducible refine Blk.alloc1 ?_ _ | with_reducible refine Blk.call1 ?_ (Hid.out (by assumption))))
    have r9 : Hid (Blk wr b7 28 #[.int .i64 n, .slice fa mn fc]) := by show Blk _ _ _ _; (repeat (first | with_reducible exact Hid.out (by assumption) | with_reducible refine Blk.drew1 ?_ | with_reducible refine Blk.drewN1 ?_ _ | with_reducible exact Blk.new _ _ _ | with_reducible refine Blk.setSame ?_ _ _ | ((with_reducible refine Blk.setNe ?_ ?_ _ _); (focus (first | omega | (simp; done) | (simp; omega)))) | ((with_reducible refine Blk.new1 _ _ _ ?_); (first | rfl | (simp; done)))  | with_reducible refine Blk.alloc1 ?_ _ | with_reducible refine Blk.call1 ?_ (Hid.out (by assumption))))
    have c8 := r8.out.cell
    have c9 := r9.out.cell
    have l8 := r8.out.lt
    have l9 := r9.out.lt
    have Kr : Hid (Kept w wr) := Kept.of (by (repeat (first | with_reducible exact Below.refl _ _ | with_reducible exact Kept.out (Hid.out (by assumption)) | with_reducible exact Hid.out (by assumption) | with_reducible refine Below.drew ?_ | with_reducible refine Below.drewN1 ?_ _ | with_reducible refine Below.alloc1 ?_ _ | ((with_reducible refine Below.setCell1 ?_ ?_ _ _); (focus (first | omega | (simp; done) | (simp; omega)))) | with_reducible refine Below.call1 ?_ (Hid.out (by assumption)))))
    by_cases hlt : i < ln
    · have hltI : (i : Int) < ln := by omega
      have Ur : Hid (SlM wr (.slice ua ln uc) pl) := by show SlM _ _ _; (repeat (first | with_reducible exact Hid.out (by assumption) | with_reducible refine SlM.drew1 ?_ | with_reducible refine SlM.alloc ?_ _ | with_reducible refine SlM.below ?_ (Hid.out (by assumption))))
      have Mr : Hid (SlM wr (.slice fa mn fc) ms) := by show SlM _ _ _; (repeat (first | with_reducible exact Hid.out (by assumption) | with_reducible refine SlM.drew1 ?_ | with_reducible refine SlM.alloc ?_ _ | with_reducible refine SlM.below ?_ (Hid.out (by assumption))))
      obtain ⟨b, o, rfl, hbl, hcl⟩ := Ur.out.at_ hlt
      have q := hcl i hlt
      clear hcl
      obtain ⟨j, hj, hat, hne⟩ := PA.out i hlt
      rw [hat] at q
      unfold MbAt at q
      obtain ⟨q0, q1, q2⟩ := q
      dsimp only at q0 q1 q2
      have Sr := Lib.hid (S4.out.below B.out)
      obtain ⟨b', o', rfl, hbl', hcl'⟩ := Sr.out.at_ hj
      have qb := hcl' (.int .i64 (a2.getD j 0)) (by
        rw [List.getElem?_map, List.getElem?_eq_getElem (by rw [← HBN.out]; exact hj), List.getD_eq_getElem?_getD, List.getElem?_eq_getElem (by rw [← HBN.out]; exact hj)]
        rfl)
      clear hcl' hat
      have hjI : (j : Int) < bn := by omega
      generalize a2.getD j 0 = boot at *
      obtain ⟨⟨x, y, z⟩, hm⟩ : ∃ m : Mb, m = (findM ms j).getD ⟨0, 0, false⟩ := ⟨_, rfl⟩
      obtain ⟨okk, ho⟩ : ∃ o, o = (findM ms j).isSome := ⟨_, rfl⟩
      have hPF : propF ms a1 j boot = (okk && (y == boot && (z || a1))) := by unfold propF; rw [← hm, ← ho]
      generalize propF ms a1 j boot = full at *
      have FK := Lib.hid (FF.out (wr.alloc (.cells #[.int .i64 (j : Int), .int .i64 boot, .bool full] 45)) j (by (repeat (first | with_reducible exact Hid.out (by assumption) | with_reducible refine SlM.drew1 ?_ | with_reducible refine SlM.alloc ?_ _ | with_reducible refine SlM.below ?_ (Hid.out (by assumption))))))
      unfold findV at FK
      rw [← hm, ← ho] at FK
      unfold Mb.val at FK
      dsimp only at FK
      clear hm ho hne
      cases full with
      | false =>
        clear hPF
        go_wp2_with fail
        refine FK.out.mono ?_
        rintro e w5 ⟨rfl, hb⟩
        have hb5 := Lib.hid hb
        have mb : Hid (Blk w5 wr.heap.size 45 #[.int .i64 (j : Int), .int .i64 boot, .bool false]) := by show Blk _ _ _ _; (repeat (first | with_reducible exact Hid.out (by assumption) | with_reducible refine Blk.drew1 ?_ | with_reducible refine Blk.drewN1 ?_ _ | with_reducible exact Blk.new _ _ _ | with_reducible refine Blk.setSame ?_ _ _ | ((with_reducible refine Blk.setNe ?_ ?_ _ _); (focus (first | omega | (simp; done) | (simp; omega)))) | ((with_reducible refine Blk.new1 _ _ _ ?_); (first | rfl | (simp; done)))  | with_reducible refine Blk.alloc1 ?_ _ | with_reducible refine Blk.call1 ?_ (Hid.out (by assumption))))
        have mc := mb.out.cell
        have mlt := mb.out.lt
        have qb5 : w5.cell? ⟨b', o' + j, none⟩ = some (.int .i64 boot) := by
          rw [hb.cell (p := ⟨b', o' + j, none⟩) (by show b' < _; rw [World.size_alloc]; omega), World.cell?_alloc_lt _ _ _ (by show b' < _; omega)]
          exact qb
        have hb'5 : b' < w5.heap.size := by have := hb.size; rw [World.size_alloc] at this; omega
        clear hb q0 q1 q2 qb c8 c9
        go_wp2_with fail
        go_quiet (fail)
        go_wp2
        go_roundw
        case rel =>
          refine ⟨i + 1, by omega, by go_num, Lib.hid ?_⟩
          (repeat (first | with_reducible exact Below.refl _ _ | with_reducible exact Kept.out (Hid.out (by assumption)) | with_reducible exact Hid.out (by assumption) | with_reducible refine Below.drew ?_ | with_reducible refine Below.drewN1 ?_ _ | with_reducible refine Below.alloc1 ?_ _ | ((with_reducible refine Below.setCell1 ?_ ?_ _ _); (focus (first | omega | (simp; done) | (simp; omega)))) | with_reducible refine Below.call1 ?_ (Hid.out (by assumption))))
        case measure => simp [intOf]; omega
      | true =>
        cases okk with
        | false => simp at hPF
        | true =>
          simp only [Bool.true_and] at hPF
          have hyb : y = boot := by
            cases hx : (y == boot) with
            | true => exact eq_of_beq hx
            | false => rw [hx] at hPF; simp at hPF
          subst hyb
          cases z with
          | true =>
            clear hPF
            go_wp2_with fail
            refine FK.out.mono ?_
            rintro e w5 ⟨rfl, hb⟩
            have hb5 := Lib.hid hb
            have mb : Hid (Blk w5 wr.heap.size 45 #[.int .i64 (j : Int), .int .i64 y, .bool true]) := by show Blk _ _ _ _; (repeat (first | with_reducible exact Hid.out (by assumption) | with_reducible refine Blk.drew1 ?_ | with_reducible refine Blk.drewN1 ?_ _ | with_reducible exact Blk.new _ _ _ | with_reducible refine Blk.setSame ?_ _ _ | ((with_reducible refine Blk.setNe ?_ ?_ _ _); (focus (first | omega | (simp; done) | (simp; omega)))) | ((with_reducible refine Blk.new1 _ _ _ ?_); (first | rfl | (simp; done)))  | with_reducible refine Blk.alloc1 ?_ _ | with_reducible refine Blk.call1 ?_ (Hid.out (by assumption))))
            have mc := mb.out.cell
            have mlt := mb.out.lt
            have qb5 : w5.cell? ⟨b', o' + j, none⟩ = some (.int .i64 y) := by
              rw [hb.cell (p := ⟨b', o' + j, none⟩) (by show b' < _; rw [World.size_alloc]; omega), World.cell?_alloc_lt _ _ _ (by show b' < _; omega)]
              exact qb
            have hb'5 : b' < w5.heap.size := by have := hb.size; rw [World.size_alloc] at this; omega
            clear hb q0 q1 q2 qb c8 c9
            go_wp2_with fail
            go_quiet (fail)
            go_wp2
            go_roundw
            case rel =>
              refine ⟨i + 1, by omega, by go_num, Lib.hid ?_⟩
              (repeat (first | with_reducible exact Below.refl _ _ | with_reducible exact Kept.out (Hid.out (by assumption)) | with_reducible exact Hid.out (by assumption) | with_reducible refine Below.drew ?_ | with_reducible refine Below.drewN1 ?_ _ | with_reducible refine Below.alloc1 ?_ _ | ((with_reducible refine Below.setCell1 ?_ ?_ _ _); (focus (first | omega | (simp; done) | (simp; omega)))) | with_reducible refine Below.call1 ?_ (Hid.out (by assumption))))
            case measure => simp [intOf]; omega
          | false =>
            have ha1 : a1 = true := by cases a1 with
              | true => rfl
              | false => simp at hPF
            subst ha1
            clear hPF
            go_wp2_with fail
            refine FK.out.mono ?_
            rintro e w5 ⟨rfl, hb⟩
            have hb5 := Lib.hid hb
            have mb : Hid (Blk w5 wr.heap.size 45 #[.int .i64 (j : Int), .int .i64 y, .bool true]) := by show Blk _ _ _ _; (repeat (first | with_reducible exact Hid.out (by assumption) | with_reducible refine Blk.drew1 ?_ | with_reducible refine Blk.drewN1 ?_ _ | with_reducible exact Blk.new _ _ _ | with_reducible refine Blk.setSame ?_ _ _ | ((with_reducible refine Blk.setNe ?_ ?_ _ _); (focus (first | omega | (simp; done) | (simp; omega)))) | ((with_reducible refine Blk.new1 _ _ _ ?_); (first | rfl | (simp; done)))  | with_reducible refine Blk.alloc1 ?_ _ | with_reducible refine Blk.call1 ?_ (Hid.out (by assumption))))
            have mc := mb.out.cell
            have mlt := mb.out.lt
            have qb5 : w5.cell? ⟨b', o' + j, none⟩ = some (.int .i64 y) := by
              rw [hb.cell (p := ⟨b', o' + j, none⟩) (by show b' < _; rw [World.size_alloc]; omega), World.cell?_alloc_lt _ _ _ (by show b' < _; omega)]
              exact qb
            have hb'5 : b' < w5.heap.size := by have := hb.size; rw [World.size_alloc] at this; omega
            clear hb q0 q1 q2 qb c8 c9
            go_wp2_with fail
            go_quiet (fail)
            go_wp2
            go_roundw
            case rel =>
              refine ⟨i + 1, by omega, by go_num, Lib.hid ?_⟩
              (repeat (first | with_reducible exact Below.refl _ _ | with_reducible exact Kept.out (Hid.out (by assumption)) | with_reducible exact Hid.out (by assumption) | with_reducible refine Below.drew ?_ | with_reducible refine Below.drewN1 ?_ _ | with_reducible refine Below.alloc1 ?_ _ | ((with_reducible refine Below.setCell1 ?_ ?_ _ _); (focus (first | omega | (simp; done) | (simp; omega)))) | with_reducible refine Below.call1 ?_ (Hid.out (by assumption))))
            case measure => simp [intOf]; omega
    · have hx : i = ln := by omega
      subst hx
      go_wp2_with fail
      go_ret
      refine ⟨rfl, ?_⟩
      (repeat (first | with_reducible exact Below.refl _ _ | with_reducible exact Kept.out (Hid.out (by assumption)) | with_reducible exact Hid.out (by assumption) | with_reducible refine Below.drew ?_ | with_reducible refine Below.drewN1 ?_ _ | with_reducible refine Below.alloc1 ?_ _ | ((with_reducible refine Below.setCell1 ?_ ?_ _ _); (focus (first | omega | (simp; done) | (simp; omega)))) | with_reducible refine Below.call1 ?_ (Hid.out (by assumption))))

set_option maxRecDepth 100000 in
theorem lifted (os : Os) (started : os.Started) (H : Type) (enc : TypeId × Value → H) :
    ReturnsInHanded {} Try.checked os 7 .any (Rows.viewKeepsSpec.pre6 enc Try.prog Try.f7 Rows.viewKeepsRow.domain false) (Rows.viewKeepsSpec.post enc Try.prog Try.f7 false true false false) := by
  refine returnsInHanded_of_change (C := Try.checked) own started (by kernel_rfl) Try.func7
    (ChangeSpec.witness6 (enc := enc) (C := Try.checked) false ⟨#[], #[.agg #[.int .i64 0, .int .i64 0, .int .i64 0, .int .i64 0, .int .i64 0, .slice none 0 0], .bool false, .slice none 0 0], []⟩ 8 (by kernel_rfl) (by kernel_rfl) (by kernel_rfl) (by kernel_rfl)) ?_
  intro W base args ds gs before hval0 hW hcnd _
  have hval : ∀ (j : Nat) t v, Try.f7.params[j]? = some t → args[j]? = some v → Value.okWide Try.prog W .any base t v := hval0
  have hW' := hW
  obtain ⟨p, q, hA0, hV, rfl, hfz, hnd⟩ := hW
  have hA : DataW.TrodAll enc Try.prog W 0 (fun _ => true) true Try.f7.params.toList args.toList ds p := hA0
  rw [Try.params7] at hA hval
  obtain ⟨v0, vs0, d0, ds0, p0, q0, hargs, rfl, rfl, h0, r0⟩ := trodAll_cons hA
  obtain ⟨v1, vs1, d1, ds1, p1, q1, rfl, rfl, rfl, h1, r1⟩ := trodAll_cons r0
  obtain ⟨v2, vs2, d2, ds2, p2, q2, rfl, rfl, rfl, h2, r2⟩ := trodAll_cons r1
  obtain ⟨rfl, rfl, rfl⟩ := trodAll_nil r2
  obtain rfl : args = #[v0, v1, v2] := by cases args; simp_all
  obtain ⟨rfl, rfl⟩ := trodVars_none hV
  have lt0 := trod_lt0 h0
  have lt1 := trod_lt0 h1
  have lt2 := trod_lt0 h2
  obtain ⟨a0, rfl, k0⟩ := rd_arg GRaw.cells (GRaw.ok W) Try.underlying24 (fun _ _ _ h => rd_GRaw h) (hval 0 24 v0 rfl rfl) h0
  obtain ⟨a1, rfl, _, _⟩ := open_bool Try.underlying4 (hval 1 4 v1 rfl rfl) h1
  obtain ⟨a2, s2, wf2⟩ := open_ints2 Try.underlying22 Try.underlying3 (by kernel_rfl) (hval 2 22 v2 rfl rfl) h2
  clear hA0 hval0
  refine (walk a0 a1 v2 a2 W k0 s2 wf2).mono fun e W' ⟨he, bel⟩ => ?_
  subst he
  exact ⟨_, rfl, _, _, _, [], _, [], hW', trodAll_mk1 (shut_bool Try.underlying4 _), (trodAll_cons_mk (Below.trod laidOut (by kernel_rfl) (of_decide_eq_true (by kernel_rfl)) h0 bel lt0) (trodAll_cons_mk (Below.trod laidOut (by kernel_rfl) (of_decide_eq_true (by kernel_rfl)) h1 bel lt1) (trodAll_cons_mk (Below.trod laidOut (by kernel_rfl) (of_decide_eq_true (by kernel_rfl)) h2 bel lt2) trodAll_mk0))), rfl, bel.frame _, fun h => by cases h⟩

theorem over : Rows.viewKeepsRow.holds Try.pinned (OpenSpec.ofChange Rows.viewKeepsSpec) :=
  OpenClaim.holds_of_wide 7 Try.f7 rfl rfl rfl rfl rfl rfl rfl ⟨rfl, rfl, rfl, rfl, rfl⟩ rfl rfl rfl rfl rfl (by kernel_rfl) Try.func7 (by kernel_rfl)
    (of_decide_eq_true (by kernel_rfl)) (by unfold Func.isWrapper; first | (rw [if_pos (by decide +kernel)]; kernel_rfl) | (rw [if_neg (by decide +kernel)]; exact ⟨rfl, rfl⟩))
    (fun os started H enc _ => lifted os started H enc)
theorem proved : Rows.ViewKeepsSaid := over
#print axioms proved
end Go.Proofs.Ythppeaelfcmafaa.viewKeeps
