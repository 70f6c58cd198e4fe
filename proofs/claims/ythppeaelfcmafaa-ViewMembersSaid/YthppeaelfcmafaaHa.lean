/- Assertions: what the temporaries and the memory hold, as predicates of values; contracts; what a call keeps. Own work. -/
import Derived.Test.YthppeaelfcmafaaBv
import Derived.Below
import Derived.Deep.LoopGhost
import Derived.Deep.Quiet
import Derived.StillTail
namespace Go.Proofs.Ythppeaelfcmafaa
open Go.RowKit
set_option linter.unusedVariables false

/-- Cells of which it is known that they stay as they are: block, place. -/
abbrev Fz := Nat → Nat → Option Value
def Fle (φ φ' : Fz) : Prop := ∀ b i v, φ b i = some v → φ' b i = some v
theorem Fle.rfl' {φ : Fz} : Fle φ φ := fun _ _ _ h => h
theorem Fle.tr {φ φ' φ'' : Fz} (h : Fle φ φ') (h' : Fle φ' φ'') : Fle φ φ'' := fun b i v e => h' b i v (h b i v e)

/-- A predicate of values that stays true when more cells are known to stay. -/
structure VP where
  ok : Fz → Value → Prop
  mono : ∀ {φ φ' : Fz} {v : Value}, Fle φ φ' → ok φ v → ok φ' v
def Alls (φ : Fz) : List VP → List Value → Prop
  | [], [] => True
  | A :: As, v :: vs => A.ok φ v ∧ Alls φ As vs
  | _, _ => False
theorem Alls.mono {φ φ' : Fz} (h : Fle φ φ') : ∀ {As : List VP} {vs : List Value}, Alls φ As vs → Alls φ' As vs
  | [], [], _ => trivial
  | A :: As, v :: vs, ⟨h1, h2⟩ => ⟨A.mono h h1, Alls.mono h h2⟩
theorem Alls.len {φ : Fz} : ∀ {As : List VP} {vs : List Value}, Alls φ As vs → As.length = vs.length
  | [], [], _ => rfl
  | A :: As, v :: vs, ⟨_, h2⟩ => by simp [Alls.len h2]
theorem Alls.get {φ : Fz} : ∀ {As : List VP} {vs : List Value} {j : Nat} {A : VP}, Alls φ As vs → As[j]? = some A → ∃ v, vs[j]? = some v ∧ A.ok φ v
  | [], [], _, _, _, h => by simp at h
  | A :: As, v :: vs, 0, B, ⟨h1, _⟩, h => by simp at h; subst h; exact ⟨v, rfl, h1⟩
  | A :: As, v :: vs, j + 1, B, ⟨_, h2⟩, h => by
    obtain ⟨u, h3, h4⟩ := Alls.get h2 (by simpa using h)
    exact ⟨u, by simpa using h3, h4⟩
theorem Alls.set {φ : Fz} : ∀ {As : List VP} {vs : List Value} (j : Nat) {A : VP} {v : Value}, Alls φ As vs → A.ok φ v → Alls φ (As.set j A) (vs.set j v)
  | [], [], _, _, _, _, _ => trivial
  | A :: As, v :: vs, 0, B, u, ⟨_, h2⟩, h => ⟨h, h2⟩
  | A :: As, v :: vs, j + 1, B, u, ⟨h1, h2⟩, h => ⟨h1, Alls.set j h2 h⟩
theorem Alls.append {φ : Fz} : ∀ {As : List VP} {vs : List Value} {Bs : List VP} {us : List Value}, Alls φ As vs → Alls φ Bs us → Alls φ (As ++ Bs) (vs ++ us)
  | [], [], _, _, _, h => h
  | A :: As, v :: vs, _, _, ⟨h1, h2⟩, h => ⟨h1, Alls.append h2 h⟩
theorem Alls.take {φ : Fz} : ∀ {As : List VP} {vs : List Value} (n : Nat), Alls φ As vs → Alls φ (As.take n) (vs.take n)
  | [], [], n, _ => by simp [Alls]
  | A :: As, v :: vs, 0, _ => trivial
  | A :: As, v :: vs, n + 1, ⟨h1, h2⟩ => ⟨h1, Alls.take n h2⟩
theorem Alls.drop {φ : Fz} : ∀ {As : List VP} {vs : List Value} (n : Nat), Alls φ As vs → Alls φ (As.drop n) (vs.drop n)
  | [], [], n, _ => by simp [Alls]
  | A :: As, v :: vs, 0, h => h
  | A :: As, v :: vs, n + 1, ⟨_, h2⟩ => Alls.drop n h2
/-- One predicate says no less than another. -/
def Sub (A B : VP) : Prop := ∀ φ v, A.ok φ v → B.ok φ v
theorem Sub.rfl' {A : VP} : Sub A A := fun _ _ h => h
theorem Sub.tr {A B C : VP} (h : Sub A B) (h' : Sub B C) : Sub A C := fun φ v e => h' φ v (h φ v e)
def Subs : List VP → List VP → Prop
  | [], [] => True
  | A :: As, B :: Bs => Sub A B ∧ Subs As Bs
  | _, _ => False
theorem Subs.rfl' : ∀ {As : List VP}, Subs As As
  | [] => trivial
  | _ :: _ => ⟨Sub.rfl', Subs.rfl'⟩
theorem Subs.alls {φ : Fz} : ∀ {As Bs : List VP} {vs : List Value}, Subs As Bs → Alls φ As vs → Alls φ Bs vs
  | [], [], [], _, _ => trivial
  | A :: As, B :: Bs, v :: vs, ⟨h1, h2⟩, ⟨h3, h4⟩ => ⟨h1 _ _ h3, Subs.alls h2 h4⟩

/-- Values that lie in one cell each. -/
def ones (vs : List Value) : Prop := ∀ u, u ∈ vs → u.oneCell' = true
theorem ones_nil : ones [] := fun u h => by cases h
theorem ones_cons {v : Value} {vs : List Value} (h : v.oneCell' = true) (k : ones vs) : ones (v :: vs) := fun u hu => by
  rcases List.mem_cons.1 hu with rfl | hu
  · exact h
  · exact k u hu
theorem ones.sub {vs us : List Value} (h : ones vs) (k : ∀ u, u ∈ us → u ∈ vs) : ones us := fun u hu => h u (k u hu)
/-! ### The predicates -/
def Is (u : Value) : VP := ⟨fun _ v => v = u, fun _ h => h⟩
def IsAgg (As : List VP) : VP := ⟨fun φ v => ∃ vs : List Value, v = .agg vs.toArray ∧ Alls φ As vs ∧ ones vs, fun h ⟨vs, e, k, k1⟩ => ⟨vs, e, k.mono h, k1⟩⟩
def IsTup (As : List VP) : VP := ⟨fun φ v => ∃ vs : List Value, v = .tuple vs.toArray ∧ Alls φ As vs, fun h ⟨vs, e, k⟩ => ⟨vs, e, k.mono h⟩⟩
/-- Anything at all. -/
def Top : VP := ⟨fun _ _ => True, fun _ h => h⟩
def VPite (b : Bool) (A B : VP) : VP := ⟨fun φ v => if b then A.ok φ v else B.ok φ v, fun h k => by
  cases b
  · exact B.mono h k
  · exact A.mono h k⟩
/-- From block b, place o, on the cells that stay meet As. -/
def RefAt (φ : Fz) (b o : Nat) (As : List VP) : Prop := ∀ j A, As[j]? = some A → ∃ u, φ b (o + j) = some u ∧ A.ok φ u ∧ u.oneCell' = true
theorem RefAt.mono {φ φ' : Fz} {b o : Nat} {As : List VP} (h : Fle φ φ') (k : RefAt φ b o As) : RefAt φ' b o As := fun j A e =>
  let ⟨u, h1, h2, h3⟩ := k j A e
  ⟨u, h _ _ _ h1, A.mono h h2, h3⟩
/-- The address of cells that stay. -/
def IsRef (As : List VP) : VP := ⟨fun φ v => ∃ b o, v = .pointer (some ⟨b, o, none⟩) ∧ RefAt φ b o As, fun h ⟨b, o, e, k⟩ => ⟨b, o, e, k.mono h⟩⟩
/-- How the values of a Go type are told: so many cells each. -/
structure Ty (α : Type) where
  size : Nat
  cells : α → List VP
  len : ∀ x, (cells x).length = size
/-- A slice whose elements stay. -/
def SlAt {α : Type} (T : Ty α) (φ : Fz) (a : Option Addr) (n c : Nat) (xs : List α) : Prop :=
  n = xs.length ∧ n ≤ c ∧ c ≤ maxLen ∧ (n = 0 ∨ ∃ b o, a = some ⟨b, o, none⟩ ∧ ∀ k x, xs[k]? = some x → RefAt φ b (o + k * T.size) (T.cells x))
def IsSl {α : Type} (T : Ty α) (xs : List α) : VP := ⟨fun φ v => ∃ a n c, v = .slice a n c ∧ SlAt T φ a n c xs, fun h ⟨a, n, c, e, h1, h2, h3, h4⟩ => by
  refine ⟨a, n, c, e, h1, h2, h3, ?_⟩
  rcases h4 with h4 | ⟨b, o, h5, h6⟩
  · exact .inl h4
  · exact .inr ⟨b, o, h5, fun k x hx => (h6 k x hx).mono h⟩⟩

/-! ### Memory of one's own -/
/-- A thing in memory that is one's own: at most one block. -/
structure Item where
  at_ : Option Nat
  ok : Fz → Option Obj → Prop
  mono : ∀ {φ φ' : Fz} {o : Option Obj}, Fle φ φ' → ok φ o → ok φ' o
def Item.here (it : Item) (φ : Fz) (w : World) : Prop := it.ok φ (it.at_.bind fun b => w.heap[b]?) ∧ ∀ b, it.at_ = some b → b < w.heap.size ∧ ∀ i, φ b i = none
def Apart (x y : Item) : Prop := ∀ b, x.at_ = some b → y.at_ ≠ some b
def names (L : List Item) : List Nat := L.filterMap Item.at_
theorem mem_names {L : List Item} {b : Nat} : b ∈ names L ↔ ∃ it, it ∈ L ∧ it.at_ = some b := by simp [names, List.mem_filterMap]
/-- A block of cells. -/
def blk (b : Nat) (t : TypeId) (As : List VP) : Item := ⟨some b, fun φ o => ∃ vs : List Value, o = some (.cells vs.toArray t (0, 0)) ∧ Alls φ As vs ∧ ones vs, fun h ⟨vs, e, k, k1⟩ => ⟨vs, e, k.mono h, k1⟩⟩

/-- Of what was there when the call began nothing has turned, but for the blocks X. -/
structure Kpt (X : List Nat) (w w' : World) : Prop where
  os : w'.os = w.os
  tape : w'.tape = w.tape
  output : w'.output = w.output
  size : w.heap.size ≤ w'.heap.size
  block : ∀ k, k < w.heap.size → k ∉ X → w'.heap[k]? = w.heap[k]?
theorem Kpt.refl (X : List Nat) (w : World) : Kpt X w w := ⟨rfl, rfl, rfl, Nat.le_refl _, fun _ _ _ => rfl⟩
theorem Kpt.of_below {w w' : World} (h : Below w.heap.size w w') : Kpt [] w w' := ⟨h.os, h.tape, h.output, h.size, fun k hk _ => h.block k hk⟩
theorem Kpt.below {w w' : World} (h : Kpt [] w w') : Below w.heap.size w w' := ⟨h.os, h.tape, h.output, h.size, fun k hk => h.block k hk (by simp)⟩
theorem Kpt.tr {X Y : List Nat} {a b c : World} (h : Kpt X a b) (k : Kpt Y b c) (hy : ∀ y, y ∈ Y → y < a.heap.size → y ∈ X) : Kpt X a c :=
  ⟨k.os.trans h.os, k.tape.trans h.tape, k.output.trans h.output, Nat.le_trans h.size k.size, fun i hi hx => (k.block i (Nat.lt_of_lt_of_le hi h.size) (fun hm => hx (hy i hm hi))).trans (h.block i hi hx)⟩

structure Mem (φ : Fz) (L : List Item) (w : World) : Prop where
  base : ∀ b i v, φ b i = some v → w.cell? ⟨b, i, none⟩ = some v
  items : ∀ it, it ∈ L → it.here φ w
  sep : L.Pairwise Apart
/-- How a call began. -/
structure Ctx where
  w : World
  φ : Fz
  X : List Nat
structure HP (c : Ctx) (φ : Fz) (L : List Item) (w : World) : Prop where
  mem : Mem φ L w
  kept : Kpt c.X c.w w
  mine : ∀ b, b ∈ names L → c.w.heap.size ≤ b ∨ b ∈ c.X
  old : ∀ b i, b < c.w.heap.size → φ b i = c.φ b i
theorem cell_lt {w : World} {b i : Nat} {v : Value} (h : w.cell? ⟨b, i, none⟩ = some v) : b < w.heap.size := by
  rcases Nat.lt_or_ge b w.heap.size with hl | hl
  · exact hl
  · simp only [World.cell?] at h
    rw [Array.getElem?_eq_none hl] at h; cases h
/-- A contract: the arguments meet As, the own memory L; it returns a value that meets R, the own memory is L'. -/
def Fn (P : Program) (f : FuncId) (As : List VP) (L : List Item) {ι : Type} (R : ι → VP) (L' : ι → List Item) : Prop :=
  ∀ φ w vs, Alls φ As vs → Mem φ L w → Calls P f vs.toArray w fun e w' => ∃ i v φ', e = .returned v ∧ (R i).ok φ' v ∧ HP ⟨w, φ, names L⟩ φ' (L' i) w'
/-- The same where no memory of one's own goes in or comes out. -/
def FnP (P : Program) (f : FuncId) (As : List VP) (R : VP) : Prop := Fn P f As [] (fun _ : Unit => R) (fun _ => [])
theorem names_append (L M : List Item) : names (L ++ M) = names L ++ names M := by simp [names]
theorem Mem.left {φ : Fz} {L M : List Item} {w : World} (h : Mem φ (L ++ M) w) : Mem φ L w :=
  ⟨h.base, fun it hi => h.items it (List.mem_append_left _ hi), (List.pairwise_append.1 h.sep).1⟩
theorem HP.fle {c : Ctx} {φ : Fz} {L : List Item} {w : World} (h : HP c φ L w) (hb : ∀ b i v, c.φ b i = some v → c.w.cell? ⟨b, i, none⟩ = some v) : Fle c.φ φ := fun b i v e => by
  rw [h.old b i (cell_lt (hb b i v e))]; exact e
/-- Behind a call. -/
theorem HP.call {c : Ctx} {φ φ' : Fz} {L L' M : List Item} {w w' : World} (h : HP c φ (L ++ M) w) (h' : HP ⟨w, φ, names L⟩ φ' L' w') : HP c φ' (L' ++ M) w' := by
  have hle : Fle φ φ' := h'.fle h.mem.base
  have hM : ∀ it, it ∈ M → ∀ b, it.at_ = some b → b < w.heap.size ∧ b ∉ names L := fun it hi b hb => by
    refine ⟨((h.mem.items it (List.mem_append_right _ hi)).2 b hb).1, fun hm => ?_⟩
    obtain ⟨x, hx, hxb⟩ := mem_names.1 hm
    exact (List.pairwise_append.1 h.mem.sep).2.2 x hx it hi b hxb hb
  have hMine : ∀ b, b ∈ names L → c.w.heap.size ≤ b ∨ b ∈ c.X := fun b hb => h.mine b (by rw [names_append]; exact List.mem_append_left _ hb)
  refine ⟨⟨h'.mem.base, ?_, ?_⟩, ?_, ?_, ?_⟩
  · intro it hi
    rcases List.mem_append.1 hi with hi | hi
    · exact h'.mem.items it hi
    · obtain ⟨h1, h2⟩ := h.mem.items it (List.mem_append_right _ hi)
      cases hat : it.at_ with
      | none =>
        refine ⟨?_, fun b hb => by rw [hat] at hb; cases hb⟩
        rw [hat] at h1 ⊢
        exact it.mono hle h1
      | some b =>
        obtain ⟨hb1, hb2⟩ := hM it hi b hat
        refine ⟨?_, fun b' hb' => ?_⟩
        · rw [hat] at h1 ⊢
          simp only [Option.bind_some] at h1 ⊢
          rw [h'.kept.block b hb1 hb2]
          exact it.mono hle h1
        · obtain rfl : b = b' := Option.some.inj (hat.symm.trans hb')
          refine ⟨Nat.lt_of_lt_of_le hb1 h'.kept.size, fun i => ?_⟩
          rw [h'.old b i hb1]
          exact (h2 b hat).2 i
  · refine List.pairwise_append.2 ⟨h'.mem.sep, (List.pairwise_append.1 h.mem.sep).2.1, fun x hx y hy b hxb hyb => ?_⟩
    obtain ⟨hb1, hb2⟩ := hM y hy b hyb
    rcases h'.mine b (mem_names.2 ⟨x, hx, hxb⟩) with h3 | h3
    · exact absurd hb1 (Nat.not_lt.2 h3)
    · exact hb2 h3
  · exact h.kept.tr h'.kept fun y hy hl => (hMine y hy).resolve_left (by omega)
  · intro b hb
    rw [names_append] at hb
    rcases List.mem_append.1 hb with hb | hb
    · rcases h'.mine b hb with h3 | h3
      · exact .inl (Nat.le_trans h.kept.size h3)
      · exact hMine b h3
    · exact h.mine b (by rw [names_append]; exact List.mem_append_right _ hb)
  · intro b i hb
    rw [h'.old b i (Nat.lt_of_lt_of_le hb h.kept.size)]
    exact h.old b i hb
/-- One own thing turns, in its own block or into a new one. -/
inductive Repl : List Item → Item → Item → List Item → Prop
  | head (it it' : Item) (L : List Item) : Repl (it :: L) it it' (it' :: L)
  | tail (x : Item) {it it' : Item} {L L' : List Item} (h : Repl L it it' L') : Repl (x :: L) it it' (x :: L')
theorem Repl.mem {L L' : List Item} {it it' : Item} (h : Repl L it it' L') : it ∈ L := by
  induction h with
  | head => simp
  | tail x _ ih => exact List.mem_cons_of_mem _ ih
theorem Repl.mem' {L L' : List Item} {it it' x : Item} (h : Repl L it it' L') (hx : x ∈ L') : x = it' ∨ (x ∈ L ∧ (L.Pairwise Apart → Apart x it ∧ Apart it x)) := by
  induction h with
  | head a b L =>
    rcases List.mem_cons.1 hx with hx | hx
    · exact .inl hx
    · refine .inr ⟨List.mem_cons_of_mem _ hx, fun hp => ?_⟩
      have h1 := (List.pairwise_cons.1 hp).1 x hx
      exact ⟨fun q h2 h3 => h1 q h3 h2, h1⟩
  | @tail y a b L L' hr ih =>
    rcases List.mem_cons.1 hx with hx | hx
    · subst hx
      refine .inr ⟨List.mem_cons_self .., fun hp => ?_⟩
      have h1 := (List.pairwise_cons.1 hp).1 _ hr.mem
      exact ⟨h1, fun q h2 h3 => h1 q h3 h2⟩
    · rcases ih hx with h2 | ⟨h2, h3⟩
      · exact .inl h2
      · exact .inr ⟨List.mem_cons_of_mem _ h2, fun hp => h3 (List.pairwise_cons.1 hp).2⟩
theorem Repl.sep {L L' : List Item} {it it' : Item} (h : Repl L it it' L') (hs : L.Pairwise Apart) (hn : ∀ x, x ∈ L → Apart x it → Apart it x → Apart x it' ∧ Apart it' x) : L'.Pairwise Apart := by
  induction h with
  | head a b L =>
    rw [List.pairwise_cons] at hs ⊢
    refine ⟨fun x hx => (hn x (List.mem_cons_of_mem _ hx) (fun q h2 h3 => hs.1 x hx q h3 h2) (hs.1 x hx)).2, hs.2⟩
  | @tail y a b L L' hr ih =>
    rw [List.pairwise_cons] at hs ⊢
    refine ⟨fun x hx => ?_, ih hs.2 fun x hx => hn x (List.mem_cons_of_mem _ hx)⟩
    rcases hr.mem' hx with rfl | ⟨hx', _⟩
    · have h1 := hs.1 _ hr.mem
      exact (hn y (List.mem_cons_self ..) h1 (fun q h2 h3 => h1 q h3 h2)).1
    · exact hs.1 x hx'
theorem HP.upd {c : Ctx} {φ : Fz} {L L' : List Item} {w w' : World} {it it' : Item} (h : HP c φ L w) (hr : Repl L it it' L') (hk : Kpt (names [it]) w w') (hh : it'.here φ w')
    (hm : ∀ b, it'.at_ = some b → w.heap.size ≤ b ∨ it.at_ = some b) : HP c φ L' w' := by
  have hit := h.mem.items it hr.mem
  have hlt : ∀ x, x ∈ L → ∀ b, x.at_ = some b → b < w.heap.size := fun x hx b hb => ((h.mem.items x hx).2 b hb).1
  have hnm : ∀ b, b ∈ names [it] → it.at_ = some b := fun b hb => by
    obtain ⟨x, hx, hxb⟩ := mem_names.1 hb
    rw [List.mem_singleton] at hx
    exact hx ▸ hxb
  refine ⟨⟨?_, ?_, ?_⟩, ?_, ?_, h.old⟩
  · intro b i v e
    have h1 := h.mem.base b i v e
    have h2 : w'.heap[b]? = w.heap[b]? := hk.block b (cell_lt h1) fun hb => by
      have := (hit.2 b (hnm b hb)).2 i
      rw [e] at this; cases this
    unfold World.cell? at h1 ⊢
    dsimp only at h1 ⊢
    rw [h2]; exact h1
  · intro x hx
    rcases hr.mem' hx with rfl | ⟨hx', hap⟩
    · exact hh
    · obtain ⟨h1, h2⟩ := h.mem.items x hx'
      have hap1 := (hap h.mem.sep).1
      refine ⟨?_, fun b hb => ⟨Nat.lt_of_lt_of_le (h2 b hb).1 hk.size, (h2 b hb).2⟩⟩
      cases hat : x.at_ with
      | none => rw [hat] at h1; exact h1
      | some b =>
        rw [hat] at h1
        simp only [Option.bind_some] at h1 ⊢
        rw [hk.block b (h2 b hat).1 (fun hb => hap1 b hat (hnm b hb))]
        exact h1
  · refine hr.sep h.mem.sep fun x hx h1 h2 => ⟨fun b hb hb' => ?_, fun b hb' hb => ?_⟩
    all_goals
      rcases hm b hb' with h3 | h3
      · exact absurd (hlt x hx b hb) (Nat.not_lt.2 h3)
      · exact h1 b hb h3
  · refine h.kept.tr hk fun y hy hl => ?_
    exact (h.mine y (mem_names.2 ⟨it, hr.mem, hnm y hy⟩)).resolve_left (by omega)
  · intro b hb
    obtain ⟨x, hx, hxb⟩ := mem_names.1 hb
    rcases hr.mem' hx with rfl | ⟨hx', _⟩
    · rcases hm b hxb with h3 | h3
      · exact .inl (Nat.le_trans h.kept.size h3)
      · exact h.mine b (mem_names.2 ⟨it, hr.mem, h3⟩)
    · exact h.mine b (mem_names.2 ⟨x, hx', hxb⟩)
/-- A new thing in a new block (or in none); what stays may grow by cells of new blocks. -/
theorem HP.new {c : Ctx} {φ φ' : Fz} {L L' : List Item} {w w' : World} (h : HP c φ L w) (h' : HP ⟨w, φ, []⟩ φ' L' w') : HP c φ' (L' ++ L) w' :=
  HP.call (L := []) (by simpa using h) (by simpa [names] using h')
theorem HP.start {φ : Fz} {L : List Item} {w : World} (h : Mem φ L w) : HP ⟨w, φ, names L⟩ φ L w := ⟨h, Kpt.refl _ _, fun _ hb => .inr hb, fun _ _ _ => rfl⟩
/-- What is one's own may be forgotten. -/
theorem HP.less {c : Ctx} {φ : Fz} {L L' : List Item} {w : World} (h : HP c φ L w) (hs : L'.Sublist L) : HP c φ L' w :=
  ⟨⟨h.mem.base, fun it hi => h.mem.items it (hs.subset hi), h.mem.sep.sublist hs⟩, h.kept, fun b hb => by
    obtain ⟨x, hx, hxb⟩ := mem_names.1 hb
    exact h.mine b (mem_names.2 ⟨x, hs.subset hx, hxb⟩), h.old⟩
/-- A draw turns nothing. -/
theorem HP.drew {c : Ctx} {φ : Fz} {L : List Item} {w : World} (h : HP c φ L w) : HP c φ L { w with drawn := w.drawn + 1 } :=
  ⟨⟨h.mem.base, h.mem.items, h.mem.sep⟩, ⟨h.kept.os, h.kept.tape, h.kept.output, h.kept.size, h.kept.block⟩, h.mine, h.old⟩
end Go.Proofs.Ythppeaelfcmafaa
