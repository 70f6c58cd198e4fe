/- CrcWords: the law returns true for every input and leaves its arguments as they were. No condition. The frame is the kit's shell; the walk is own work. -/
import Derived.Test.YtfenilbobnomaaaRows
import Derived.WalkKit
import Derived.Test.YtfenilbobnomaaaCz
import Derived.Test.YtfenilbobnomaaaRow
import Derived.ProofKit
import Derived.OpenShut
import Derived.ShutString
import Derived.ChangeOld
import Derived.Below
namespace Go.Proofs.Ytfenilbobnomaaa.crcWords
open Go.ChangeShapes Go.WideShapes Go.ChangeAt Go.RowKit
open Go.ChangeMaps (open_string shut_string)
set_option linter.unusedVariables false

theorem own : ownKnob Try.prog.godebug = none := by kernel_rfl
theorem laidOut : laidOutB Try.prog = true := by kernel_rfl

/-- WHAT THE WALK IS TOLD OF A SLICE OF INTEGERS THAT CAME IN: it is nil; or it leads to a row of 'cap' cells, the numbers 'zs' (the first 'len' are its elements, the rest its spare room), each fitting its kind. -/
def IsRow (k : IntKind) (w : World) (a : Option Addr) (len cap : Nat) (zs : List Int) : Prop :=
  (a = none ∧ len = 0 ∧ cap = 0 ∧ zs = []) ∨
  ∃ x, a = some x ∧ len ≤ cap ∧ cap ≤ maxLen ∧ zs.length = cap ∧ (∀ i, i < zs.length → w.cell? (x.add i) = some (.int k (zs.getD i 0))) ∧ ∀ n ∈ zs, (Lit.int k n).wf = true

set_option maxRecDepth 100000 in
set_option maxHeartbeats 4000000 in
theorem walk (a0 : Option Addr) (len0 cap0 : Nat) (z0 : List Int) (w : World) (w0 : IsRow .u64 w a0 len0 cap0 z0) :
    Calls Try.prog 6 #[.slice a0 len0 cap0] w fun e w' => e = .returned (.bool true) ∧ Below w.heap.size w w' := by
  obtain ⟨hs, hl, hw⟩ := sl_of_row w0
  obtain ⟨l, hbs⟩ := u64s_of_wf hw
  rw [hbs] at hs
  have HS : Hid (Sl w (.slice a0 len0 cap0) (l.map u64V)) := hs
  have hbl : l.length = len0 := by have := HS.out.len; simpa using this
  have HL := Lib.hid hbl
  clear hs hbs hw hl w0 hbl
  by_cases hlen : (300 : Int) < len0
  · go_enter Try.func6, Try.ntmps6
    go_wp2_with fail
    go_ret
    exact ⟨rfl, Below.refl _ _⟩
  have h2 : decide ((300 : Int) < len0) = false := decide_eq_false hlen
  go_enter Try.func6, Try.ntmps6
  go_wp2_with fail
  go_loopw [3, 4] (fun b i wr => ∃ k : Nat, k ≤ len0 ∧ i = .int .i64 k ∧ wr.ownsRow w.heap.size 5 1 b (8 * k) ((wordBytes (l.take k)).map u8V) ∧ Below w.heap.size w wr) (fun _ i _ => len0 - (intOf i).toNat)
  case atStart => exact ⟨0, by omega, rfl, World.ownsRow_nil _ _ _ _, Below.refl _ _⟩
  case round =>
    obtain ⟨k, hk, rfl, hown, hb⟩ := hrel
    have HW := Lib.hid hown
    clear hown
    by_cases hlt : k < len0
    · obtain ⟨p, o, rfl, hp, hc⟩ := HS.out.at_ (k := k) (by omega)
      have hcw := hc _ (get64 (by rw [HL.out]; exact hlt))
      have hbt := wordBytes_take l k (by rw [HL.out]; exact hlt)
      generalize l[k]'(by rw [HL.out]; exact hlt) = x at *
      have Hbt := Lib.hid hbt
      have Hcw := Lib.hid hcw
      clear hbt hc hcw
      go_wp2_with fail
      go_loopw [3, 5] (fun b j wq => ∃ m : Nat, m ≤ 8 ∧ j = .int .i64 m ∧ wq.ownsRow w.heap.size 5 1 b (8 * k + m) ((wordBytes (l.take k) ++ wbN m x).map u8V) ∧ Below w.heap.size w wq) (fun _ j _ => 8 - (intOf j).toNat)
      case atStart => exact ⟨0, by omega, rfl, by simpa [wbN] using HW.out, hb⟩
      case round =>
        obtain ⟨m, hm, rfl, hown, hbq⟩ := hrel
        have HQ := Lib.hid hown
        clear hown
        by_cases hml : m < 8
        · have hsq := hbq.size
          have hc1 := (hbq.cell (p := ⟨p, o + k, none⟩) hp).trans Hcw.out
          have hshf : shf (BitVec.ofInt 64 (8 * (m : Int))) = 8 * m := by rw [shf_int _ (by omega) (by omega)]; omega
          go_wp2_with (at_builtin; refine wpList_app rfl (.tmp 19) (.tmp 29) _ rfl w.heap.size 5 (.int .u8 0) 1 1 Try.underlying22 u8_info rfl (by omega) _ (8 * k + m) _ rfl (HQ.out.alloc _) _ 1 _ rfl (sl_new _ _ _ 1 1 1 rfl (by omega) (by omega)) (by intro u hu; simp at hu; subst hu; rfl) (by omega) (by omega) (by simp; omega) ?_; intro v' w' hown' hg')
          go_roundw
          case rel =>
            refine ⟨m + 1, by omega, by go_num, ?_, below_grown (hbq.alloc hsq _) (HQ.out.alloc _) hg' (Nat.le_refl _) (by simp; omega)⟩
            rw [wbN, ← List.append_assoc, List.map_append]
            exact hown'
          case measure => simp [intOf]; omega
        · have h8 : m = 8 := by omega
          subst h8
          go_wp2_with fail
          go_roundw
          case rel => exact ⟨k + 1, by omega, by go_num, by rw [Hbt.out]; exact HQ.out, hbq⟩
          case measure => simp [intOf]; omega
    · have hkn : k = len0 := by omega
      subst hkn
      have hall : l.take k = l := List.take_of_length_le (by rw [HL.out]; exact Nat.le_refl _)
      rw [hall] at HW
      have hln : l.length ≤ 65536 := by rw [HL.out]; omega
      go_wp2_with fail
      refine (awake_any _).mono ?_
      rintro e w1 ⟨rfl, hb1⟩
      have hb1' := hb.trans (hb1.mono hb.size)
      go_wp2_with fail
      refine (Words_any _ l _ (HS.out.below hb1') hln).mono ?_
      rintro e w2 ⟨rfl, hb2⟩
      have hb2' := hb1'.trans (hb2.mono hb1'.size)
      go_wp2_with fail
      refine (Bytes_any _ (wordBytes l) _ (((own_sl1 HW.out).below hb1).below hb2)).mono ?_
      rintro e w3 ⟨rfl, hb3⟩
      have hb3' := hb2'.trans (hb3.mono hb2'.size)
      go_wp2_with fail
      refine (Words_any _ l _ (HS.out.below hb3') hln).mono ?_
      rintro e w4 ⟨rfl, hb4⟩
      have hb4' := hb3'.trans (hb4.mono hb3'.size)
      go_wp2_with fail
      refine (WordsR_any _ l _ (HS.out.below hb4') hln).mono ?_
      rintro e w5 ⟨rfl, hb5⟩
      go_wp2_with fail
      go_ret
      exact ⟨rfl, hb4'.trans (hb5.mono hb4'.size)⟩

set_option maxRecDepth 100000 in
theorem lifted (os : Os) (started : os.Started) (H : Type) (enc : TypeId × Value → H) :
    ReturnsInHanded {} Try.checked os 6 .any (Rows.crcWordsSpec.pre6 enc Try.prog Try.f6 Rows.crcWordsRow.domain false) (Rows.crcWordsSpec.post enc Try.prog Try.f6 false true false false) := by
  refine returnsInHanded_of_change (C := Try.checked) own started (by kernel_rfl) Try.func6
    (ChangeSpec.witness6 (enc := enc) (C := Try.checked) false ⟨#[], #[.slice none 0 0], []⟩ 8 (by kernel_rfl) (by kernel_rfl) (by kernel_rfl) (by kernel_rfl)) ?_
  intro W base args ds gs before hval0 hW hcnd _
  have hval : ∀ (j : Nat) t v, Try.f6.params[j]? = some t → args[j]? = some v → Value.okWide Try.prog W .any base t v := hval0
  have hW' := hW
  obtain ⟨p, q, hA0, hV, rfl, hfz, hnd⟩ := hW
  have hA : DataW.TrodAll enc Try.prog W 0 (fun _ => true) true Try.f6.params.toList args.toList ds p := hA0
  rw [Try.params6] at hA hval
  obtain ⟨v0, vs0, d0, ds0, p0, q0, hargs, rfl, rfl, h0, r0⟩ := trodAll_cons hA
  obtain ⟨rfl, rfl, rfl⟩ := trodAll_nil r0
  obtain rfl : args = #[v0] := by cases args; simp_all
  obtain ⟨rfl, rfl⟩ := trodVars_none hV
  obtain ⟨a0, len0, cap0, rfl⟩ := okWide_slice Try.underlying32 (hval 0 32 v0 rfl rfl)
  have k0 := h0
  have lt0 : ∀ x ∈ p0, x.block < W.heap.size := by obtain ⟨m, hm⟩ := k0; exact DataW.trod_lt m _ _ _ hm
  obtain ⟨z0, w0⟩ : ∃ zs, IsRow .u64 W a0 len0 cap0 zs := by
    obtain ⟨fuel, hf⟩ := h0
    rcases open_ints Try.underlying32 Try.underlying24 (by kernel_rfl) hf with ⟨hcs, _⟩ | ⟨x, l, c, zs, hcs, _, hl, hm, hz, _, hcell, hwz⟩
    · simp [Value.cells] at hcs
      obtain ⟨rfl, rfl, rfl⟩ := hcs
      exact ⟨[], .inl ⟨rfl, rfl, rfl, rfl⟩⟩
    · simp [Value.cells] at hcs
      obtain ⟨rfl, rfl, rfl⟩ := hcs
      exact ⟨zs, .inr ⟨_, rfl, hl, hm, by simpa using hz, hcell, hwz⟩⟩
  clear hA0 hval0
  refine (walk a0 len0 cap0 z0 W w0).mono fun e W' ⟨he, bel⟩ => ?_
  subst he
  exact ⟨_, rfl, _, _, _, [], _, [], hW', trodAll_mk1 (shut_bool Try.underlying4 _), (trodAll_cons_mk (Below.trod laidOut (by kernel_rfl) (of_decide_eq_true (by kernel_rfl)) k0 bel lt0) trodAll_mk0), rfl, bel.frame _, fun h => by cases h⟩

theorem over : Rows.crcWordsRow.holds Try.pinned (OpenSpec.ofChange Rows.crcWordsSpec) :=
  OpenClaim.holds_of_wide 6 Try.f6 rfl rfl rfl rfl rfl rfl rfl ⟨rfl, rfl, rfl, rfl, rfl⟩ rfl rfl rfl rfl rfl (by kernel_rfl) Try.func6 (by kernel_rfl)
    (of_decide_eq_true (by kernel_rfl)) (by unfold Func.isWrapper; first | (rw [if_pos (by decide +kernel)]; kernel_rfl) | (rw [if_neg (by decide +kernel)]; exact ⟨rfl, rfl⟩))
    (fun os started H enc _ => lifted os started H enc)

theorem proved : Rows.CrcWordsSaid := over
#print axioms proved
end Go.Proofs.Ytfenilbobnomaaa.crcWords
