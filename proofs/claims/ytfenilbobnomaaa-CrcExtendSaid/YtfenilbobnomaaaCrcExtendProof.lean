/- CrcExtend: the law returns true for every input and leaves its arguments as they were. No condition. The frame is the kit's shell; the walk is own work. -/
import Derived.Test.YtfenilbobnomaaaRows
import Derived.WalkKit
import Derived.Test.YtfenilbobnomaaaCy
import Derived.Test.YtfenilbobnomaaaRow
import Derived.Test.YtfenilbobnomaaaPick
import Derived.ProofKit
import Derived.OpenShut
import Derived.ShutString
import Derived.ChangeOld
import Derived.Below
namespace Go.Proofs.Ytfenilbobnomaaa.crcExtend
open Go.ChangeShapes Go.WideShapes Go.ChangeAt Go.RowKit
open Go.ChangeMaps (open_string shut_string)
set_option linter.unusedVariables false

theorem own : ownKnob Try.prog.godebug = none := by kernel_rfl
theorem laidOut : laidOutB Try.prog = true := by kernel_rfl

/-- WHAT THE WALK IS TOLD OF A SLICE OF INTEGERS THAT CAME IN: it is nil; or it leads to a row of 'cap' cells, the numbers 'zs' (the first 'len' are its elements, the rest its spare room), each fitting its kind. -/
def IsRow (k : IntKind) (w : World) (a : Option Addr) (len cap : Nat) (zs : List Int) : Prop :=
  (a = none ∧ len = 0 ∧ cap = 0 ∧ zs = []) ∨
  ∃ x, a = some x ∧ len ≤ cap ∧ cap ≤ maxLen ∧ zs.length = cap ∧ (∀ i, i < zs.length → w.cell? (x.add i) = some (.int k (zs.getD i 0))) ∧ ∀ n ∈ zs, (Lit.int k n).wf = true

set_option maxRecDepth 100000 in
set_option maxHeartbeats 4000000 in
theorem walk (a0 : Option Addr) (len0 cap0 : Nat) (z0 : List Int) (a1 : Option Addr) (len1 cap1 : Nat) (z1 : List Int) (w : World) (w0 : IsRow .u8 w a0 len0 cap0 z0) (w1 : IsRow .i64 w a1 len1 cap1 z1) :
    Calls Try.prog 4 #[.slice a0 len0 cap0, .slice a1 len1 cap1] w fun e w' => e = .returned (.bool true) ∧ Below w.heap.size w w' := by
  obtain ⟨hs, hl, hw⟩ := sl_of_row w0
  obtain ⟨bs, hbs⟩ := u8s_of_wf hw
  rw [hbs] at hs
  have HS : Hid (Sl w (.slice a0 len0 cap0) (bs.map u8V)) := hs
  have hbl : bs.length = len0 := by have := HS.out.len; simpa using this
  obtain ⟨ht, hm, hu⟩ := sl_of_row w1
  have HT := Lib.hid ht
  have hcap := HS.out.cap_le
  have Hbl := Lib.hid hbl
  clear hs hbs hw hl w0 w1 hbl ht hu
  by_cases hlen : (1000 : Int) < len0
  · go_enter Try.func4, Try.ntmps4
    go_wp2
    go_ret
    exact ⟨rfl, Below.refl _ _⟩
  have h2 : decide ((1000 : Int) < len0) = false := decide_eq_false hlen
  by_cases hlen2 : (20 : Int) < len1
  · go_enter Try.func4, Try.ntmps4
    go_wp2
    go_ret
    exact ⟨rfl, Below.refl _ _⟩
  have h3 : decide ((20 : Int) < len1) = false := decide_eq_false hlen2
  go_enter Try.func4, Try.ntmps4
  go_wp2_with fail
  go_loopw [5, 6, 7] (fun s t i wr => ∃ k m : Nat, k ≤ len1 ∧ m ≤ len0 ∧ i = .int .i64 k ∧ t = .int .i64 m ∧ s = .int .u64 (UV (extB 0#64 (bs.take m))) ∧ Below w.heap.size w wr) (fun _ _ i _ => len1 - (intOf i).toNat)
  case atStart => exact ⟨0, 0, by omega, by omega, rfl, rfl, by rw [List.take_zero, extB_nil], Below.refl _ _⟩
  case round =>
    obtain ⟨k, m, hk, hm2, rfl, rfl, rfl, hb⟩ := hrel
    by_cases hlt : k < len1
    · rcases HT.out.cases with ⟨a', c', e, e2⟩ | ⟨b, o, c, e, e1, e2, e3, e4⟩
      · have := HT.out.len; rw [e2] at this; simp at this; omega
      · injection e with g1 g2 g3
        subst g1
        have hc : wr.cell? ⟨b, o + k, none⟩ = some (.int .i64 ((z1.take len1)[k]'(by omega))) := by
          rw [hb.cell (p := ⟨b, o + k, none⟩) e3]
          exact e4 k _ (by rw [List.getElem?_map, List.getElem?_eq_getElem (by omega)]; rfl)
        generalize (z1.take len1)[k]'(by omega) = x at *
        clear e1 e2 e4 HT g2 g3 hm
        go_wp2_with fail
        refine (Pick_ex x _ _ (by omega) (by omega)).mono ?_
        rintro e w' ⟨r, rfl, p1, p2, _, rfl⟩
        obtain ⟨r, rfl⟩ := Int.eq_ofNat_of_zero_le p1
        have hcut : ((bs.map u8V).take (m + r)).drop m = (((bs.take (m + r)).drop m).map u8V) := by rw [List.map_drop, List.map_take]
        have happ : bs.take m ++ (bs.take (m + r)).drop m = bs.take (m + r) := by
          have h1 : bs.take m = (bs.take (m + r)).take m := by rw [List.take_take]; congr 1; omega
          rw [h1]; exact List.take_append_drop _ _
        have Hcut := Lib.hid hcut
        have Happ := Lib.hid happ
        clear hcut happ
        · go_wp2_with fail
          refine (Extend_any _ _ ((bs.take (m + r)).drop m) _ ?c1).mono ?_
          case c1 =>
            have := (HS.out.below hb).cut (lo := m) (hi := m + r) (by omega) (by omega) rfl rfl
            rw [Hcut.out, show m + r - m = r by omega] at this
            exact this
          rintro e w2 ⟨rfl, hb2⟩
          rw [extB_append, Happ.out]
          go_wp2_with fail
          go_roundw
          case rel => exact ⟨k + 1, m + r, by omega, by omega, by go_num, by go_num, rfl, hb.trans (hb2.mono hb.size)⟩
          case measure => simp [intOf]; omega
    · have hcm' : k = len1 := by omega
      have hall : bs.take m ++ bs.drop m = bs := List.take_append_drop _ _
      have hdr : ((bs.map u8V).take len0).drop m = (bs.drop m).map u8V := by
        rw [List.take_of_length_le (by rw [List.length_map, Hbl.out]; omega), List.map_drop]
      have Hall := Lib.hid hall
      have Hdr := Lib.hid hdr
      clear hall hdr
      subst hcm'
      · go_wp2_with fail
        refine (awake_any _).mono ?_
        rintro e w1 ⟨rfl, hb1⟩
        have hb1' := hb.trans (hb1.mono hb.size)
        go_wp2_with fail
        refine (Extend_any _ _ (bs.drop m) _ ?c1).mono ?_
        case c1 =>
          have := (HS.out.below hb1').cut (lo := m) (hi := len0) (by omega) (by omega) rfl rfl
          rw [Hdr.out] at this
          simpa using this
        rintro e w2 ⟨rfl, hb2⟩
        rw [extB_append, Hall.out]
        have hb2' := hb1'.trans (hb2.mono hb1'.size)
        go_wp2_with fail
        refine (Bytes_any _ bs _ (HS.out.below hb2')).mono ?_
        rintro e w3 ⟨rfl, hb3⟩
        go_wp2_with fail
        go_ret
        exact ⟨rfl, hb2'.trans (hb3.mono hb2'.size)⟩

set_option maxRecDepth 100000 in
theorem lifted (os : Os) (started : os.Started) (H : Type) (enc : TypeId × Value → H) :
    ReturnsInHanded {} Try.checked os 4 .any (Rows.crcExtendSpec.pre6 enc Try.prog Try.f4 Rows.crcExtendRow.domain false) (Rows.crcExtendSpec.post enc Try.prog Try.f4 false true false false) := by
  refine returnsInHanded_of_change (C := Try.checked) own started (by kernel_rfl) Try.func4
    (ChangeSpec.witness6 (enc := enc) (C := Try.checked) false ⟨#[], #[.slice none 0 0, .slice none 0 0], []⟩ 8 (by kernel_rfl) (by kernel_rfl) (by kernel_rfl) (by kernel_rfl)) ?_
  intro W base args ds gs before hval0 hW hcnd _
  have hval : ∀ (j : Nat) t v, Try.f4.params[j]? = some t → args[j]? = some v → Value.okWide Try.prog W .any base t v := hval0
  have hW' := hW
  obtain ⟨p, q, hA0, hV, rfl, hfz, hnd⟩ := hW
  have hA : DataW.TrodAll enc Try.prog W 0 (fun _ => true) true Try.f4.params.toList args.toList ds p := hA0
  rw [Try.params4] at hA hval
  obtain ⟨v0, vs0, d0, ds0, p0, q0, hargs, rfl, rfl, h0, r0⟩ := trodAll_cons hA
  obtain ⟨v1, vs1, d1, ds1, p1, q1, rfl, rfl, rfl, h1, r1⟩ := trodAll_cons r0
  obtain ⟨rfl, rfl, rfl⟩ := trodAll_nil r1
  obtain rfl : args = #[v0, v1] := by cases args; simp_all
  obtain ⟨rfl, rfl⟩ := trodVars_none hV
  obtain ⟨a0, len0, cap0, rfl⟩ := okWide_slice Try.underlying22 (hval 0 22 v0 rfl rfl)
  have k0 := h0
  have lt0 : ∀ x ∈ p0, x.block < W.heap.size := by obtain ⟨m, hm⟩ := k0; exact DataW.trod_lt m _ _ _ hm
  obtain ⟨z0, w0⟩ : ∃ zs, IsRow .u8 W a0 len0 cap0 zs := by
    obtain ⟨fuel, hf⟩ := h0
    rcases open_ints Try.underlying22 Try.underlying5 (by kernel_rfl) hf with ⟨hcs, _⟩ | ⟨x, l, c, zs, hcs, _, hl, hm, hz, _, hcell, hwz⟩
    · simp [Value.cells] at hcs
      obtain ⟨rfl, rfl, rfl⟩ := hcs
      exact ⟨[], .inl ⟨rfl, rfl, rfl, rfl⟩⟩
    · simp [Value.cells] at hcs
      obtain ⟨rfl, rfl, rfl⟩ := hcs
      exact ⟨zs, .inr ⟨_, rfl, hl, hm, by simpa using hz, hcell, hwz⟩⟩
  obtain ⟨a1, len1, cap1, rfl⟩ := okWide_slice Try.underlying27 (hval 1 27 v1 rfl rfl)
  have k1 := h1
  have lt1 : ∀ x ∈ p1, x.block < W.heap.size := by obtain ⟨m, hm⟩ := k1; exact DataW.trod_lt m _ _ _ hm
  obtain ⟨z1, w1⟩ : ∃ zs, IsRow .i64 W a1 len1 cap1 zs := by
    obtain ⟨fuel, hf⟩ := h1
    rcases open_ints Try.underlying27 Try.underlying3 (by kernel_rfl) hf with ⟨hcs, _⟩ | ⟨x, l, c, zs, hcs, _, hl, hm, hz, _, hcell, hwz⟩
    · simp [Value.cells] at hcs
      obtain ⟨rfl, rfl, rfl⟩ := hcs
      exact ⟨[], .inl ⟨rfl, rfl, rfl, rfl⟩⟩
    · simp [Value.cells] at hcs
      obtain ⟨rfl, rfl, rfl⟩ := hcs
      exact ⟨zs, .inr ⟨_, rfl, hl, hm, by simpa using hz, hcell, hwz⟩⟩
  clear hA0 hval0
  refine (walk a0 len0 cap0 z0 a1 len1 cap1 z1 W w0 w1).mono fun e W' ⟨he, bel⟩ => ?_
  subst he
  exact ⟨_, rfl, _, _, _, [], _, [], hW', trodAll_mk1 (shut_bool Try.underlying4 _), (trodAll_cons_mk (Below.trod laidOut (by kernel_rfl) (of_decide_eq_true (by kernel_rfl)) k0 bel lt0) (trodAll_cons_mk (Below.trod laidOut (by kernel_rfl) (of_decide_eq_true (by kernel_rfl)) k1 bel lt1) trodAll_mk0)), rfl, bel.frame _, fun h => by cases h⟩

theorem over : Rows.crcExtendRow.holds Try.pinned (OpenSpec.ofChange Rows.crcExtendSpec) :=
  OpenClaim.holds_of_wide 4 Try.f4 rfl rfl rfl rfl rfl rfl rfl ⟨rfl, rfl, rfl, rfl, rfl⟩ rfl rfl rfl rfl rfl (by kernel_rfl) Try.func4 (by kernel_rfl)
    (of_decide_eq_true (by kernel_rfl)) (by unfold Func.isWrapper; first | (rw [if_pos (by decide +kernel)]; kernel_rfl) | (rw [if_neg (by decide +kernel)]; exact ⟨rfl, rfl⟩))
    (fun os started H enc _ => lifted os started H enc)

theorem proved : Rows.CrcExtendSaid := over
#print axioms proved
end Go.Proofs.Ytfenilbobnomaaa.crcExtend
