/- CrcLinear: the law returns true for every input and leaves its arguments as they were. No condition. The frame is the kit's shell; the walk is own work. -/
import Derived.Test.YtfenilbobnomaaaRows
import Derived.WalkKit
import Derived.Test.YtfenilbobnomaaaCy
import Derived.Test.YtfenilbobnomaaaRow
import Derived.Test.YtfenilbobnomaaaReg
import Derived.Deep.OwnRows
import Derived.RegionTactic
import Derived.BigRegion
import Derived.ProofKit
import Derived.OpenShut
import Derived.ShutString
import Derived.ChangeOld
import Derived.Below
namespace Go.Proofs.Ytfenilbobnomaaa.crcLinear
open Go.ChangeShapes Go.WideShapes Go.ChangeAt Go.RowKit
open Go.ChangeMaps (open_string shut_string)
set_option linter.unusedVariables false

theorem own : ownKnob Try.prog.godebug = none := by kernel_rfl
theorem laidOut : laidOutB Try.prog = true := by kernel_rfl

/-- WHAT THE WALK IS TOLD OF A SLICE OF INTEGERS THAT CAME IN: it is nil; or it leads to a row of 'cap' cells, the numbers 'zs' (the first 'len' are its elements, the rest its spare room), each fitting its kind. -/
def IsRow (k : IntKind) (w : World) (a : Option Addr) (len cap : Nat) (zs : List Int) : Prop :=
  (a = none ∧ len = 0 ∧ cap = 0 ∧ zs = []) ∨
  ∃ x, a = some x ∧ len ≤ cap ∧ cap ≤ maxLen ∧ zs.length = cap ∧ (∀ i, i < zs.length → w.cell? (x.add i) = some (.int k (zs.getD i 0))) ∧ ∀ n ∈ zs, (Lit.int k n).wf = true

set_option maxRecDepth 100000 in
set_option maxHeartbeats 4000000 in
theorem walk (a0 : Option Addr) (len0 cap0 : Nat) (z0 : List Int) (a1 : Option Addr) (len1 cap1 : Nat) (z1 : List Int) (a2 : Option Addr) (len2 cap2 : Nat) (z2 : List Int) (w : World) (w0 : IsRow .u8 w a0 len0 cap0 z0) (w1 : IsRow .u8 w a1 len1 cap1 z1) (w2 : IsRow .u8 w a2 len2 cap2 z2) :
    Calls Try.prog 5 #[.slice a0 len0 cap0, .slice a1 len1 cap1, .slice a2 len2 cap2] w fun e w' => e = .returned (.bool true) ∧ Below w.heap.size w w' := by
  obtain ⟨hs0, hl0, hw0⟩ := sl_of_row w0
  obtain ⟨b0, hb0⟩ := u8s_of_wf hw0
  rw [hb0] at hs0
  have HS0 : Hid (Sl w (.slice a0 len0 cap0) (b0.map u8V)) := hs0
  have hbl0 : b0.length = len0 := by have := HS0.out.len; simpa using this
  obtain ⟨hs1, hl1, hw1⟩ := sl_of_row w1
  obtain ⟨b1, hb1⟩ := u8s_of_wf hw1
  rw [hb1] at hs1
  have HS1 : Hid (Sl w (.slice a1 len1 cap1) (b1.map u8V)) := hs1
  have hbl1 : b1.length = len1 := by have := HS1.out.len; simpa using this
  obtain ⟨hs2, hl2, hw2⟩ := sl_of_row w2
  obtain ⟨b2, hb2⟩ := u8s_of_wf hw2
  rw [hb2] at hs2
  have HS2 : Hid (Sl w (.slice a2 len2 cap2) (b2.map u8V)) := hs2
  have hbl2 : b2.length = len2 := by have := HS2.out.len; simpa using this
  have Hbl0 := Lib.hid hbl0
  have Hbl1 := Lib.hid hbl1
  have Hbl2 := Lib.hid hbl2
  have hcap0 := HS0.out.cap_le
  have hcap1 := HS1.out.cap_le
  have hcap2 := HS2.out.cap_le
  clear hs0 hs1 hs2 hb0 hb1 hb2 hl0 hl1 hl2 hw0 hw1 hw2 hbl0 hbl1 hbl2 w0 w1 w2
  have hmk := fun (n : Nat) (h : n ≤ 65536) => Go.run_make_row' (P := Try.prog) 22 5 (.int .u8 0) 1 Try.underlying22 (by kernel_rfl) rfl .i64 .i64 n (by omega) (by omega)
  obtain ⟨n, hn⟩ : ∃ n, min len0 (min len1 len2) = n := ⟨_, rfl⟩
  have hn0 : n ≤ len0 := by omega
  have hn1 : n ≤ len1 := by omega
  have hn2 : n ≤ len2 := by omega
  by_cases hlen : (400 : Int) < n
  · go_enter Try.func5, Try.ntmps5
    go_wp2_with fail
    go_ret
    exact ⟨rfl, Below.refl _ _⟩
  have hlen' : decide ((400 : Int) < n) = false := decide_eq_false hlen
  have hmk' := hmk n (by omega)
  clear hmk
  go_enter Try.func5, Try.ntmps5
  go_wp2_with fail
  clear hmk'
  have Hn := Lib.hid hn
  clear hn
  go_loopw [9] (fun i wr => ∃ (k : Nat) (cs : Array Value), k ≤ n ∧ i = .int .i64 k ∧ Below w.heap.size w wr ∧ Blk wr w.heap.size 5 cs ∧ cs.size = n ∧
    ∀ j, j < k → ∃ x y z, b0[j]? = some x ∧ b1[j]? = some y ∧ b2[j]? = some z ∧ cs[j]? = some (u8V (x ^^^ y ^^^ z))) (fun i _ => n - (intOf i).toNat)
  case atStart => exact ⟨0, _, by omega, rfl, (Below.refl _ _).alloc (Nat.le_refl _) _, Blk.new _ _ _, by simp [size_madeCells], fun j hj => by omega⟩
  case round =>
    obtain ⟨k, cs, hk, rfl, hb, hblk, hsz, hcs⟩ := hrel
    have HB := Lib.hid hblk
    have HZ := Lib.hid hsz
    have HC := Lib.hid hcs
    clear hblk hsz hcs
    by_cases hlt : k < n
    · have hx := List.getElem?_eq_getElem (l := b0) (i := k) (by rw [Hbl0.out]; omega)
      have hy := List.getElem?_eq_getElem (l := b1) (i := k) (by rw [Hbl1.out]; omega)
      have hz := List.getElem?_eq_getElem (l := b2) (i := k) (by rw [Hbl2.out]; omega)
      obtain ⟨p0, o0, e0, l0, c0⟩ := HS0.out.at_ (k := k) (by omega)
      obtain ⟨p1, o1, e1, l1, c1⟩ := HS1.out.at_ (k := k) (by omega)
      obtain ⟨p2, o2, e2, l2, c2⟩ := HS2.out.at_ (k := k) (by omega)
      have d0 := (hb.cell (p := ⟨p0, o0 + k, none⟩) l0).trans (c0 _ (map_get' hx))
      have d1 := (hb.cell (p := ⟨p1, o1 + k, none⟩) l1).trans (c1 _ (map_get' hy))
      have d2 := (hb.cell (p := ⟨p2, o2 + k, none⟩) l2).trans (c2 _ (map_get' hz))
      generalize b0[k]'(by rw [Hbl0.out]; omega) = x at *
      generalize b1[k]'(by rw [Hbl1.out]; omega) = y at *
      generalize b2[k]'(by rw [Hbl2.out]; omega) = z at *
      subst e0 e1 e2
      have Hx := Lib.hid hx
      have Hy := Lib.hid hy
      have Hz := Lib.hid hz
      have d3 := HB.out.cell k
      rw [Array.getElem?_eq_getElem (show k < cs.size by rw [HZ.out]; exact hlt)] at d3
      have d4 := HB.out.frozen k
      clear hx hy hz c0 c1 c2
      go_wp2_with fail
      go_region
      go_wp2_with fail
      go_roundw
      case rel =>
        refine ⟨k + 1, cs.setIfInBounds k (u8V (x ^^^ y ^^^ z)), by omega, by go_num, (hb.setCell (Nat.le_refl _) _).drew, HB.out.setSame k _, by rw [Array.size_setIfInBounds]; exact HZ.out, fun j hj => ?_⟩
        rw [Array.getElem?_setIfInBounds]
        by_cases hjk : k = j
        · subst hjk
          rw [if_pos rfl, if_pos (by rw [HZ.out]; exact hlt)]
          exact ⟨x, y, z, Hx.out, Hy.out, Hz.out, rfl⟩
        · rw [if_neg hjk]; exact HC.out j (by omega)
      case measure => simp [intOf]; omega
    · have hkn : k = n := by omega
      subst hkn
      have hb0' : ((b0.map u8V).take k) = ((b0.take k).map u8V) := by rw [List.map_take]
      have hb1' : ((b1.map u8V).take k) = ((b1.take k).map u8V) := by rw [List.map_take]
      have hb2' : ((b2.map u8V).take k) = ((b2.take k).map u8V) := by rw [List.map_take]
      obtain ⟨bx, hx1, hx2⟩ : ∃ bx : List (BitVec 8), cs.toList = bx.map u8V ∧ extB 0#64 bx = extB 0#64 (b0.take k) ^^^ extB 0#64 (b1.take k) ^^^ extB 0#64 (b2.take k) := by
        have hl0 : (b0.take k).length = k := by rw [List.length_take, Hbl0.out]; omega
        have hl1 : (b1.take k).length = k := by rw [List.length_take, Hbl1.out]; omega
        have hl2 : (b2.take k).length = k := by rw [List.length_take, Hbl2.out]; omega
        refine ⟨xor3 (b0.take k) (b1.take k) (b2.take k), ?_, extB_xor3 _ _ _ (by rw [hl0, hl1]) (by rw [hl0, hl2])⟩
        apply List.ext_getElem?
        intro j
        rw [Array.getElem?_toList]
        by_cases hj : j < k
        · obtain ⟨x, y, z, g0, g1, g2, g3⟩ := HC.out j hj
          rw [g3, List.getElem?_map, xor3_get _ _ _ j x y z (by rw [List.getElem?_take_of_lt hj]; exact g0) (by rw [List.getElem?_take_of_lt hj]; exact g1) (by rw [List.getElem?_take_of_lt hj]; exact g2)]
          rfl
        · rw [Array.getElem?_eq_none (by rw [HZ.out]; omega), List.getElem?_eq_none]
          rw [List.length_map, xor3_length _ _ _ (by rw [hl0, hl1]) (by rw [hl0, hl2]), hl0]
          omega
      have Hx2 := Lib.hid hx2
      have Hx1 := Lib.hid hx1
      have H0 := Lib.hid hb0'
      have H1 := Lib.hid hb1'
      have H2 := Lib.hid hb2'
      clear hx1 hx2 hb0' hb1' hb2'
      have HSx : Hid (Sl wr (.slice (some ⟨w.heap.size, 0, none⟩) k k) (bx.map u8V)) := by
        rw [← Hx1.out]
        refine ⟨by simp, ?_⟩
        rw [Array.length_toList, HZ.out]
        refine .inr ⟨_, _, k, rfl, Nat.le_refl _, by unfold maxLen; omega, HB.out.lt, fun j u hu => ?_⟩
        rw [Nat.zero_add, HB.out.cell j]
        rw [Array.getElem?_toList] at hu
        exact hu
      go_wp2_with fail
      have hk0 : k ≤ cap0 := by omega
      have hk1 : k ≤ cap1 := by omega
      have hk2 : k ≤ cap2 := by omega
      refine wp_region_cls (Cls wr.heap.size wr) (by kernel_rfl) (by kernel_rfl) (Cls.start _) ?_
      have Hb := Lib.hid hb
      clear hb
      repeat (refine wpQuiet_step (fun K hK => ?_); go_simp; first | (refine hK _ ?_; clear hK K) | (refine ⟨_, fun _ _ => rfl, hK _ ?_⟩; clear hK K) | (fail))
      (refine wpQuiet_step (fun K hK => ?_); go_simp; refine ⟨_, fun w1 hC => ((awake_any w1).mono (fun e w2 ⟨he, hb⟩ => ⟨he, Cls.step hC hb (Nat.le_refl _)⟩)), hK _ ?_⟩; clear hK K)
      repeat (refine wpQuiet_step (fun K hK => ?_); go_simp; first | (refine hK _ ?_; clear hK K) | (refine ⟨_, fun _ _ => rfl, hK _ ?_⟩; clear hK K) | (fail))
      (refine wpQuiet_step (fun K hK => ?_); go_simp; refine ⟨_, fun w1 hC => ((Bytes_any _ bx w1 (HSx.out.below hC)).mono (fun e w2 ⟨he, hb⟩ => ⟨he, Cls.step hC hb (Nat.le_refl _)⟩)), hK _ ?_⟩; clear hK K)
      repeat (refine wpQuiet_step (fun K hK => ?_); go_simp; first | (refine hK _ ?_; clear hK K) | (refine ⟨_, fun _ _ => rfl, hK _ ?_⟩; clear hK K) | (fail))
      (refine wpQuiet_step (fun K hK => ?_); go_simp; refine ⟨_, fun w1 hC => ((Bytes_any _ (b0.take k) w1 (cut0 (HS0.out.below (Hb.out.trans (Below.mono hC Hb.out.size))) hn0 H0.out)).mono (fun e w2 ⟨he, hb⟩ => ⟨he, Cls.step hC hb (Nat.le_refl _)⟩)), hK _ ?_⟩; clear hK K)
      repeat (refine wpQuiet_step (fun K hK => ?_); go_simp; first | (refine hK _ ?_; clear hK K) | (refine ⟨_, fun _ _ => rfl, hK _ ?_⟩; clear hK K) | (fail))
      (refine wpQuiet_step (fun K hK => ?_); go_simp; refine ⟨_, fun w1 hC => ((Bytes_any _ (b1.take k) w1 (cut0 (HS1.out.below (Hb.out.trans (Below.mono hC Hb.out.size))) hn1 H1.out)).mono (fun e w2 ⟨he, hb⟩ => ⟨he, Cls.step hC hb (Nat.le_refl _)⟩)), hK _ ?_⟩; clear hK K)
      repeat (refine wpQuiet_step (fun K hK => ?_); go_simp; first | (refine hK _ ?_; clear hK K) | (refine ⟨_, fun _ _ => rfl, hK _ ?_⟩; clear hK K) | (fail))
      (refine wpQuiet_step (fun K hK => ?_); go_simp; refine ⟨_, fun w1 hC => ((Bytes_any _ (b2.take k) w1 (cut0 (HS2.out.below (Hb.out.trans (Below.mono hC Hb.out.size))) hn2 H2.out)).mono (fun e w2 ⟨he, hb⟩ => ⟨he, Cls.step hC hb (Nat.le_refl _)⟩)), hK _ ?_⟩; clear hK K)
      rw [Hx2.out]
      repeat (refine wpQuiet_step (fun K hK => ?_); go_simp; first | (refine hK _ ?_; clear hK K) | (refine ⟨_, fun _ _ => rfl, hK _ ?_⟩; clear hK K) | (fail))
      refine wpQuiet_nil ?_
      intro w2 hw2
      go_wp2_with fail
      go_ret
      exact ⟨rfl, Hb.out.trans (Below.mono hw2 Hb.out.size)⟩

set_option maxRecDepth 100000 in
theorem lifted (os : Os) (started : os.Started) (H : Type) (enc : TypeId × Value → H) :
    ReturnsInHanded {} Try.checked os 5 .any (Rows.crcLinearSpec.pre6 enc Try.prog Try.f5 Rows.crcLinearRow.domain false) (Rows.crcLinearSpec.post enc Try.prog Try.f5 false true false false) := by
  refine returnsInHanded_of_change (C := Try.checked) own started (by kernel_rfl) Try.func5
    (ChangeSpec.witness6 (enc := enc) (C := Try.checked) false ⟨#[], #[.slice none 0 0, .slice none 0 0, .slice none 0 0], []⟩ 8 (by kernel_rfl) (by kernel_rfl) (by kernel_rfl) (by kernel_rfl)) ?_
  intro W base args ds gs before hval0 hW hcnd _
  have hval : ∀ (j : Nat) t v, Try.f5.params[j]? = some t → args[j]? = some v → Value.okWide Try.prog W .any base t v := hval0
  have hW' := hW
  obtain ⟨p, q, hA0, hV, rfl, hfz, hnd⟩ := hW
  have hA : DataW.TrodAll enc Try.prog W 0 (fun _ => true) true Try.f5.params.toList args.toList ds p := hA0
  rw [Try.params5] at hA hval
  obtain ⟨v0, vs0, d0, ds0, p0, q0, hargs, rfl, rfl, h0, r0⟩ := trodAll_cons hA
  obtain ⟨v1, vs1, d1, ds1, p1, q1, rfl, rfl, rfl, h1, r1⟩ := trodAll_cons r0
  obtain ⟨v2, vs2, d2, ds2, p2, q2, rfl, rfl, rfl, h2, r2⟩ := trodAll_cons r1
  obtain ⟨rfl, rfl, rfl⟩ := trodAll_nil r2
  obtain rfl : args = #[v0, v1, v2] := by cases args; simp_all
  obtain ⟨rfl, rfl⟩ := trodVars_none hV
  obtain ⟨a0, len0, cap0, rfl⟩ := okWide_slice Try.underlying22 (hval 0 22 v0 rfl rfl)
  have k0 := h0
  have lt0 : ∀ x ∈ p0, x.block < W.heap.size := by obtain ⟨m, hm⟩ := k0; exact DataW.trod_lt m _ _ _ hm
  obtain ⟨z0, w0⟩ : ∃ zs, IsRow .u8 W a0 len0 cap0 zs := by
    obtain ⟨fuel, hf⟩ := h0
    rcases open_ints Try.underlying22 Try.underlying5 (by kernel_rfl) hf with ⟨hcs, _⟩ | ⟨x, l, c, zs, hcs, _, hl, hm, hz, _, hcell, hwz⟩
    · simp [Value.cells] at hcs
      obtain ⟨rfl, rfl, rfl⟩ := hcs
      exact ⟨[], .inl ⟨rfl, rfl, rfl, rfl⟩⟩
    · simp [Value.cells] at hcs
      obtain ⟨rfl, rfl, rfl⟩ := hcs
      exact ⟨zs, .inr ⟨_, rfl, hl, hm, by simpa using hz, hcell, hwz⟩⟩
  obtain ⟨a1, len1, cap1, rfl⟩ := okWide_slice Try.underlying22 (hval 1 22 v1 rfl rfl)
  have k1 := h1
  have lt1 : ∀ x ∈ p1, x.block < W.heap.size := by obtain ⟨m, hm⟩ := k1; exact DataW.trod_lt m _ _ _ hm
  obtain ⟨z1, w1⟩ : ∃ zs, IsRow .u8 W a1 len1 cap1 zs := by
    obtain ⟨fuel, hf⟩ := h1
    rcases open_ints Try.underlying22 Try.underlying5 (by kernel_rfl) hf with ⟨hcs, _⟩ | ⟨x, l, c, zs, hcs, _, hl, hm, hz, _, hcell, hwz⟩
    · simp [Value.cells] at hcs
      obtain ⟨rfl, rfl, rfl⟩ := hcs
      exact ⟨[], .inl ⟨rfl, rfl, rfl, rfl⟩⟩
    · simp [Value.cells] at hcs
      obtain ⟨rfl, rfl, rfl⟩ := hcs
      exact ⟨zs, .inr ⟨_, rfl, hl, hm, by simpa using hz, hcell, hwz⟩⟩
  obtain ⟨a2, len2, cap2, rfl⟩ := okWide_slice Try.underlying22 (hval 2 22 v2 rfl rfl)
  have k2 := h2
  have lt2 : ∀ x ∈ p2, x.block < W.heap.size := by obtain ⟨m, hm⟩ := k2; exact DataW.trod_lt m _ _ _ hm
  obtain ⟨z2, w2⟩ : ∃ zs, IsRow .u8 W a2 len2 cap2 zs := by
    obtain ⟨fuel, hf⟩ := h2
    rcases open_ints Try.underlying22 Try.underlying5 (by kernel_rfl) hf with ⟨hcs, _⟩ | ⟨x, l, c, zs, hcs, _, hl, hm, hz, _, hcell, hwz⟩
    · simp [Value.cells] at hcs
      obtain ⟨rfl, rfl, rfl⟩ := hcs
      exact ⟨[], .inl ⟨rfl, rfl, rfl, rfl⟩⟩
    · simp [Value.cells] at hcs
      obtain ⟨rfl, rfl, rfl⟩ := hcs
      exact ⟨zs, .inr ⟨_, rfl, hl, hm, by simpa using hz, hcell, hwz⟩⟩
  clear hA0 hval0
  refine (walk a0 len0 cap0 z0 a1 len1 cap1 z1 a2 len2 cap2 z2 W w0 w1 w2).mono fun e W' ⟨he, bel⟩ => ?_
  subst he
  exact ⟨_, rfl, _, _, _, [], _, [], hW', trodAll_mk1 (shut_bool Try.underlying4 _), (trodAll_cons_mk (Below.trod laidOut (by kernel_rfl) (of_decide_eq_true (by kernel_rfl)) k0 bel lt0) (trodAll_cons_mk (Below.trod laidOut (by kernel_rfl) (of_decide_eq_true (by kernel_rfl)) k1 bel lt1) (trodAll_cons_mk (Below.trod laidOut (by kernel_rfl) (of_decide_eq_true (by kernel_rfl)) k2 bel lt2) trodAll_mk0))), rfl, bel.frame _, fun h => by cases h⟩

theorem over : Rows.crcLinearRow.holds Try.pinned (OpenSpec.ofChange Rows.crcLinearSpec) :=
  OpenClaim.holds_of_wide 5 Try.f5 rfl rfl rfl rfl rfl rfl rfl ⟨rfl, rfl, rfl, rfl, rfl⟩ rfl rfl rfl rfl rfl (by kernel_rfl) Try.func5 (by kernel_rfl)
    (of_decide_eq_true (by kernel_rfl)) (by unfold Func.isWrapper; first | (rw [if_pos (by decide +kernel)]; kernel_rfl) | (rw [if_neg (by decide +kernel)]; exact ⟨rfl, rfl⟩))
    (fun os started H enc _ => lifted os started H enc)

theorem proved : Rows.CrcLinearSaid := over
#print axioms proved
end Go.Proofs.Ytfenilbobnomaaa.crcLinear
