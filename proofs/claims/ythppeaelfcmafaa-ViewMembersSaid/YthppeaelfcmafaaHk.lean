/- The bridge: what a call's arguments read as, told by predicates; contracts as statements of the frame. Own work. -/
import Derived.Test.YthppeaelfcmafaaTy
import Derived.Test.YthppeaelfcmafaaHj
import Derived.Test.YthppeaelfcmafaaOpen
import Derived.Deep.Slices
import Derived.OpenShut
namespace Go.Proofs.Ythppeaelfcmafaa
open Go.RowKit Go.ChangeShapes Go.WideShapes Go.ChangeAt
set_option linter.unusedVariables false
/-- All cells of a world stay. -/
def phi (w : World) : Fz := fun b i => w.cell? ⟨b, i, none⟩
theorem Fn.run {P : Program} {f : FuncId} {As : List VP} {r : Value} (h : FnP P f As (Is r)) (w : World) (vs : List Value) (hv : Alls (phi w) As vs) : Calls P f vs.toArray w fun e w' => e = .returned r ∧ Below w.heap.size w w' := by
  refine (h (phi w) w vs hv ⟨fun _ _ _ h => h, by simp, List.Pairwise.nil⟩).mono ?_
  rintro e w' ⟨i, v, φ', rfl, h1, h2⟩
  have h1' : v = r := h1
  subst h1'
  exact ⟨rfl, Kpt.below (by simpa [names] using h2.kept)⟩
theorem choose_lt' {α : Type} [Inhabited α] {p : Nat → α → Prop} {n : Nat} (h : ∀ i, i < n → ∃ a, p i a) : ∃ f : Nat → α, ∀ i, i < n → p i (f i) :=
  Go.Deep.choose_lt h
def tU32 : Ty (BitVec 32) := ⟨1, fun n => [Is (.int .u32 (UV n))], fun _ => rfl⟩
def tU8 : Ty (BitVec 8) := ⟨1, fun n => [Is (.int .u8 (UV n))], fun _ => rfl⟩
def tBool : Ty Bool := ⟨1, fun b => [Is (.bool b)], fun _ => rfl⟩
def tSl {α : Type} (T : Ty α) : Ty (List α) := ⟨1, fun xs => [IsSl T xs], fun _ => rfl⟩
def I64ok (a : Int) : Prop := -9223372036854775808 ≤ a ∧ a ≤ 9223372036854775807
section
variable {H : Type} {enc : TypeId × Value → H} {P : Program} {w : World} {base : Nat} {sp : Nat → Bool} {held : Bool}
/-- The cells of a type are read as T tells. -/
def Rds {H : Type} (enc : TypeId × Value → H) (P : Program) (w : World) (base : Nat) (sp : Nat → Bool) (held : Bool) {α : Type} (t : TypeId) (T : Ty α) (R : α → Prop) : Prop :=
  ∀ (fuel : Nat) (cs : List Value) (x : DataW H × List MemPlace), DataW.trod enc P w base sp held fuel t cs = some x → ∃ a, Alls (phi w) (T.cells a) cs ∧ ones cs ∧ R a
theorem ones_app {us vs : List Value} (h : ones us) (k : ones vs) : ones (us ++ vs) := fun u hu => (List.mem_append.1 hu).elim (h u) (k u)
theorem ones_1 {v : Value} (h : v.oneCell' = true) : ones [v] := ones_cons h ones_nil
theorem rds_i64 {t : TypeId} (ht : P.underlying t = some (.int .i64)) : Rds enc P w base sp held t tI64 I64ok := by
  intro fuel cs x h
  obtain ⟨a, rfl, _, hw⟩ := DataW.trod_int ht h
  exact ⟨a, ⟨rfl, trivial⟩, ones_1 rfl, i64_of_wf hw⟩
theorem rds_u64 {t : TypeId} (ht : P.underlying t = some (.int .u64)) : Rds enc P w base sp held t tU64 (fun _ => True) := by
  intro fuel cs x h
  obtain ⟨a, rfl, _, hw⟩ := DataW.trod_int ht h
  obtain ⟨b, rfl⟩ := u64_of_wf hw
  exact ⟨b, ⟨rfl, trivial⟩, ones_1 rfl, trivial⟩
theorem rds_u32 {t : TypeId} (ht : P.underlying t = some (.int .u32)) : Rds enc P w base sp held t tU32 (fun _ => True) := by
  intro fuel cs x h
  obtain ⟨a, rfl, _, hw⟩ := DataW.trod_int ht h
  obtain ⟨b, rfl⟩ := u32_of_wf hw
  exact ⟨b, ⟨rfl, trivial⟩, ones_1 rfl, trivial⟩
theorem rds_u8 {t : TypeId} (ht : P.underlying t = some (.int .u8)) : Rds enc P w base sp held t tU8 (fun _ => True) := by
  intro fuel cs x h
  obtain ⟨a, rfl, _, hw⟩ := DataW.trod_int ht h
  obtain ⟨b, rfl⟩ := u8_of_wf hw
  exact ⟨b, ⟨rfl, trivial⟩, ones_1 rfl, trivial⟩
theorem rds_bool {t : TypeId} (ht : P.underlying t = some .bool) : Rds enc P w base sp held t tBool (fun _ => True) := by
  intro fuel cs x h
  obtain ⟨a, rfl, _⟩ := DataW.trod_bool ht h
  exact ⟨a, ⟨rfl, trivial⟩, ones_1 rfl, trivial⟩
theorem rds_slice {α : Type} {T : Ty α} {R : α → Prop} {t e : TypeId} (ht : P.underlying t = some (.slice e)) (hc : P.cellsOf e = T.size) (hs : Nat.blt 0 T.size = true) (he : Rds enc P w base sp held e T R) : Rds enc P w base sp held t (tSl T) (fun xs => ∀ a ∈ xs, R a) := by
  intro fuel cs x h
  have hs' : 0 < T.size := Nat.le_of_ble_eq_true hs
  rcases Go.Deep.open_slice ht h with ⟨rfl, _⟩ | ⟨a, len, cap, m, n, D, Pl, rfl, _, hl, hm, hmm, _, hx⟩
  · exact ⟨[], ⟨⟨none, 0, 0, rfl, rfl, Nat.le_refl _, Nat.zero_le _, .inl rfl⟩, trivial⟩, ones_1 rfl, fun a ha => absurd ha (List.not_mem_nil)⟩
  have hlm : len ≤ m := by rw [hmm]; split <;> omega
  rcases Nat.eq_zero_or_pos len with h0 | h0
  · subst h0
    exact ⟨[], ⟨⟨some a, 0, cap, rfl, rfl, Nat.zero_le _, hm, .inl rfl⟩, trivial⟩, ones_1 rfl, fun a ha => absurd ha (List.not_mem_nil)⟩
  have hspot : a.spot = none := by
    obtain ⟨cs', h1, h2⟩ := hx 0 (by omega)
    rw [hc] at h1
    obtain ⟨_, hlen, hcell⟩ := World.cells?_some h1
    have h3 := hcell 0 hs'
    rw [List.getElem?_eq_getElem (by omega)] at h3
    simpa [Addr.add] using World.cell?_spot h3
  have key : ∀ i, i < len → ∃ y : α, a.spot = none ∧ RefAt (phi w) a.block (a.off + i * T.size) (T.cells y) ∧ R y := fun i hi => by
    obtain ⟨cs', h1, h2⟩ := hx i (by omega)
    rw [hc] at h1
    obtain ⟨_, hlen, hcell⟩ := World.cells?_some h1
    obtain ⟨y, g1, g2, g3⟩ := he _ _ _ h2
    refine ⟨y, hspot, fun j A hA => ?_, g3⟩
    obtain ⟨u, k1, k2⟩ := g1.get hA
    refine ⟨u, ?_, k2, g2 u (List.mem_of_getElem? k1)⟩
    have hj : j < T.size := by
      have := (List.getElem?_eq_some_iff.1 hA).1
      rw [T.len] at this; exact this
    have h3 := hcell j hj
    rw [k1] at h3
    obtain ⟨b, o, q⟩ := a
    dsimp only at hspot
    subst hspot
    rw [addr_add, addr_add] at h3
    exact h3
  obtain ⟨y0, _, _⟩ := key 0 h0
  have : Inhabited α := ⟨y0⟩
  obtain ⟨A, hA⟩ := Go.Deep.choose_lt key
  obtain ⟨b, o, q⟩ := a
  dsimp only at hspot hA
  subst hspot
  refine ⟨(List.range len).map A, ⟨⟨some ⟨b, o, none⟩, len, cap, rfl, by simp, hl, hm, .inr ⟨b, o, rfl, fun k x hk => ?_⟩⟩, trivial⟩, ones_1 rfl, fun y hy => ?_⟩
  · have hlt : k < len := by
      have := (List.getElem?_eq_some_iff.1 hk).1
      simpa using this
    rw [List.getElem?_map, List.getElem?_range hlt] at hk
    simp only [Option.map_some, Option.some.injEq] at hk
    subst hk
    exact (hA k hlt).2.1
  · obtain ⟨i, hi, rfl⟩ := List.mem_map.1 hy
    exact (hA i (List.mem_range.1 hi)).2.2
/-- An argument of one cell. -/
theorem rds_arg1 {α : Type} {T : Ty α} {R : α → Prop} {t : TypeId} {v : Value} {d : DataW H} {ps : List MemPlace} {A : α → VP} (hT : ∀ a, T.cells a = [A a]) (he : Rds enc P w base sp held t T R) (hv : v.cells.toList = [v])
    (h : DataW.Trod enc P w base sp held t v d ps) : ∃ a, (A a).ok (phi w) v ∧ R a := by
  obtain ⟨fuel, hf⟩ := h
  obtain ⟨a, h1, _, h2⟩ := he _ _ _ hf
  rw [hv, hT] at h1
  exact ⟨a, h1.1, h2⟩
theorem rds_argS {α : Type} {T : Ty α} {R : α → Prop} {t : TypeId} {fs : Array Field} (ht : P.underlying t = some (.struct fs)) {r : Reach} {b0 : Nat} {v : Value} {d : DataW H} {ps : List MemPlace} (he : Rds enc P w base sp held t T R)
    (hval : Value.okWide P w r b0 t v) (h : DataW.Trod enc P w base sp held t v d ps) : ∃ a, (IsAgg (T.cells a)).ok (phi w) v ∧ R a := by
  obtain ⟨cs, rfl, _⟩ := okWide_struct ht hval
  obtain ⟨fuel, hf⟩ := h
  obtain ⟨a, h1, h2, h3⟩ := he _ _ _ hf
  exact ⟨a, ⟨_, rfl, h1, h2⟩, h3⟩
theorem rds_argSl {α : Type} {T : Ty α} {R : List α → Prop} {t e : TypeId} (ht : P.underlying t = some (.slice e)) {r : Reach} {b0 : Nat} {v : Value} {d : DataW H} {ps : List MemPlace} (he : Rds enc P w base sp held t (tSl T) R)
    (hval : Value.okWide P w r b0 t v) (h : DataW.Trod enc P w base sp held t v d ps) : ∃ xs, (IsSl T xs).ok (phi w) v ∧ R xs := by
  obtain ⟨a, len, cap, rfl⟩ := okWide_slice ht hval
  exact rds_arg1 (A := IsSl T) (fun _ => rfl) he rfl h
end
end Go.Proofs.Ythppeaelfcmafaa
