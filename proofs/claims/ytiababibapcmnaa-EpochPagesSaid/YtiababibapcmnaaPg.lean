/- Pages: their values, their equality. Own work. -/
import Derived.Test.YtiababibapcmnaaMem
import Derived.ChangeKeysEq
namespace Go.Proofs.Ytiababibapcmnaa
open Go.RowKit
set_option linter.unusedVariables false
/-- The value of a page. -/
def pageV (l : Int) (h d0 d1 d2 d3 d4 d5 d6 : BitVec 64) : Value :=
  .agg #[.int .i64 l, .int .u64 (UV h), .int .u64 (UV d0), .int .u64 (UV d1), .int .u64 (UV d2), .int .u64 (UV d3), .int .u64 (UV d4), .int .u64 (UV d5), .int .u64 (UV d6)]
theorem u64_one : ∃ i, Try.prog.info? 22 = some i := by
  have h : (Try.prog.info? 22).isSome = true := by kernel_rfl
  exact Option.isSome_iff_exists.1 h
set_option maxHeartbeats 1000000 in
@[go_sem high] theorem eq7 (d : Nat) (w : World) (a0 a1 a2 a3 a4 a5 a6 b0 b1 b2 b3 b4 b5 b6 : BitVec 64) :
    (Op.equalIn (d + 2) 23 (.agg #[.int .u64 (UV a0), .int .u64 (UV a1), .int .u64 (UV a2), .int .u64 (UV a3), .int .u64 (UV a4), .int .u64 (UV a5), .int .u64 (UV a6)])
      (.agg #[.int .u64 (UV b0), .int .u64 (UV b1), .int .u64 (UV b2), .int .u64 (UV b3), .int .u64 (UV b4), .int .u64 (UV b5), .int .u64 (UV b6)])).run Try.prog w =
    .ok (a0 == b0 && (a1 == b1 && (a2 == b2 && (a3 == b3 && (a4 == b4 && (a5 == b5 && a6 == b6)))))) w := by
  obtain ⟨i, hi⟩ := u64_one
  rw [show d + 2 = (d + 1) + 1 from rfl, run_equalIn_array w (d + 1) _ _ Try.underlying23 hi]
  have hc : Try.prog.cellsOf 22 = 1 := by kernel_rfl
  rw [hc]
  have hp : ∀ (cs : Array Value) (k : Nat) (h : k < cs.size) (w : World), (part 22 cs k).run Try.prog w = .ok cs[k] w := by
    intro cs k h w
    simp [part, isAgg, run_underlying Try.underlying22, h]
  have he : ∀ (a b : BitVec 64) (w : World), (Op.equalIn (d + 1) 22 (.int .u64 (UV a)) (.int .u64 (UV b))).run Try.prog w = .ok (a == b) w := by
    intro a b w
    rw [run_equalIn_int w d _ .u64 .u64 _ _ Try.underlying22, UV_beq]
  simp only [List.range_succ, List.range_zero, List.nil_append, List.cons_append, Op.eqItems, Sem.run_bind, Nat.mul_one]
  simp [hp, he]
  by_cases h0 : a0 = b0
  case neg => simp [h0]
  by_cases h1 : a1 = b1
  case neg => simp [h0, h1]
  by_cases h2 : a2 = b2
  case neg => simp [h0, h1, h2]
  by_cases h3 : a3 = b3
  case neg => simp [h0, h1, h2, h3]
  by_cases h4 : a4 = b4
  case neg => simp [h0, h1, h2, h3, h4]
  by_cases h5 : a5 = b5
  case neg => simp [h0, h1, h2, h3, h4, h5]
  by_cases h6 : a6 = b6
  case neg => simp [h0, h1, h2, h3, h4, h5, h6]
  simp [h0, h1, h2, h3, h4, h5, h6]
/-- A page. -/
structure Pg where
  l : Int
  h : BitVec 64
  d0 : BitVec 64
  d1 : BitVec 64
  d2 : BitVec 64
  d3 : BitVec 64
  d4 : BitVec 64
  d5 : BitVec 64
  d6 : BitVec 64
  deriving DecidableEq
def Pg.cells (p : Pg) : List Value := [.int .i64 p.l, .int .u64 (UV p.h), .int .u64 (UV p.d0), .int .u64 (UV p.d1), .int .u64 (UV p.d2), .int .u64 (UV p.d3), .int .u64 (UV p.d4), .int .u64 (UV p.d5), .int .u64 (UV p.d6)]
def Pg.val (p : Pg) : Value := pageV p.l p.h p.d0 p.d1 p.d2 p.d3 p.d4 p.d5 p.d6
/-- A slice that reads as pages. -/
def SlP (w : World) (v : Value) (ps : List Pg) : Prop := SlN w v 9 ps.length (ps.flatMap Pg.cells)
theorem cells_get (ps : List Pg) (k j : Nat) (hk : k < ps.length) (hj : j < 9) : (ps.flatMap Pg.cells)[k * 9 + j]? = (ps[k].cells)[j]? := by
  induction ps generalizing k with
  | nil => simp at hk
  | cons p ps ih =>
    rw [List.flatMap_cons]
    cases k with
    | zero => rw [List.getElem?_append_left (by simp [Pg.cells]; omega)]; simp
    | succ k =>
      rw [List.getElem?_append_right (by simp [Pg.cells]; omega)]
      have e : (k + 1) * 9 + j - p.cells.length = k * 9 + j := by simp [Pg.cells]; omega
      rw [e, ih k (by simpa using hk)]
      rfl
/-- The nine cells of a page at an address. -/
def PgAt (w : World) (b o : Nat) (p : Pg) : Prop :=
  w.cell? ⟨b, o, none⟩ = some (.int .i64 p.l) ∧ w.cell? ⟨b, o + 1, none⟩ = some (.int .u64 (UV p.h)) ∧ w.cell? ⟨b, o + 2, none⟩ = some (.int .u64 (UV p.d0)) ∧ w.cell? ⟨b, o + 3, none⟩ = some (.int .u64 (UV p.d1)) ∧
  w.cell? ⟨b, o + 4, none⟩ = some (.int .u64 (UV p.d2)) ∧ w.cell? ⟨b, o + 5, none⟩ = some (.int .u64 (UV p.d3)) ∧ w.cell? ⟨b, o + 6, none⟩ = some (.int .u64 (UV p.d4)) ∧ w.cell? ⟨b, o + 7, none⟩ = some (.int .u64 (UV p.d5)) ∧ w.cell? ⟨b, o + 8, none⟩ = some (.int .u64 (UV p.d6))
theorem SlP.len {w : World} {a : Option Addr} {n c : Nat} {ps : List Pg} (h : SlP w (.slice a n c) ps) : ps.length = n := by
  rcases h.2 with ⟨a', c', e, e2⟩ | ⟨b, o, c', e, _⟩
  · injection e with _ e3 _; omega
  · injection e with _ e3 _; exact e3.symm
theorem SlP.form {w : World} {v : Value} {ps : List Pg} (h : SlP w v ps) : ∃ a c, v = .slice a ps.length c := by
  rcases h.2 with ⟨a', c', e, e2⟩ | ⟨b, o, c', e, _⟩
  · exact ⟨a', c', by rw [e, e2]⟩
  · exact ⟨_, c', e⟩
theorem SlP.at_ {w : World} {a : Option Addr} {n c : Nat} {ps : List Pg} (h : SlP w (.slice a n c) ps) {k : Nat} (hk : k < ps.length) :
    ∃ b o, a = some ⟨b, o, none⟩ ∧ b < w.heap.size ∧ PgAt w b (o + k * 9) ps[k] := by
  have hl := h.len
  rcases h.2 with ⟨a', c', e, e2⟩ | ⟨b, o, c', e, e2, e3, e4, e5⟩
  · omega
  · injection e with g1 g2 g3
    refine ⟨b, o, g1, e4, ?_⟩
    have g : ∀ j, j < 9 → ∀ u, (ps[k].cells)[j]? = some u → w.cell? ⟨b, o + k * 9 + j, none⟩ = some u := fun j hj u hu => by
      rw [Nat.add_assoc]
      exact e5 _ u ((cells_get ps k j hk hj).trans hu)
    exact ⟨g 0 (by omega) _ rfl, g 1 (by omega) _ rfl, g 2 (by omega) _ rfl, g 3 (by omega) _ rfl, g 4 (by omega) _ rfl, g 5 (by omega) _ rfl, g 6 (by omega) _ rfl, g 7 (by omega) _ rfl, g 8 (by omega) _ rfl⟩
theorem SlP.below {w w' : World} {v : Value} {ps : List Pg} (h : SlP w v ps) (hb : Below w.heap.size w w') : SlP w' v ps := SlN.below h hb (Nat.le_refl _)
theorem PgAt.below {w w' : World} {b o : Nat} {p : Pg} {B : Nat} (h : PgAt w b o p) (hb : Below B w w') (hB : b < B) : PgAt w' b o p := by
  have k : ∀ x, w'.cell? ⟨b, x, none⟩ = w.cell? ⟨b, x, none⟩ := fun x => hb.cell (p := ⟨b, x, none⟩) hB
  unfold PgAt at *
  simp only [k]
  exact h
/-- A new block that holds one page reads as a slice of it. -/
theorem slp_one (w : World) (t : TypeId) (l : Int) (h d0 d1 d2 d3 d4 d5 d6 : BitVec 64) :
    SlP (w.alloc (.cells #[.int .i64 l, .int .u64 (UV h), .int .u64 (UV d0), .int .u64 (UV d1), .int .u64 (UV d2), .int .u64 (UV d3), .int .u64 (UV d4), .int .u64 (UV d5), .int .u64 (UV d6)] t)) (.slice (some ⟨w.heap.size, 0, none⟩) 1 1) [⟨l, h, d0, d1, d2, d3, d4, d5, d6⟩] := by
  refine ⟨rfl, .inr ⟨_, _, 1, rfl, Nat.le_refl _, by decide, by simp, fun i u hu => ?_⟩⟩
  rw [Nat.zero_add, (Blk.new w t _).cell i, ← hu, List.getElem?_toArray]
  rfl
theorem SlP.alloc {w : World} {v : Value} {ps : List Pg} (h : SlP w v ps) (o : Obj) : SlP (w.alloc o) v ps := h.below ((Below.refl _ _).alloc (Nat.le_refl _) o)
end Go.Proofs.Ytiababibapcmnaa
