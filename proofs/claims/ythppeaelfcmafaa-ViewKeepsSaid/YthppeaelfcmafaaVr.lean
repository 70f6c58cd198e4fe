/- Readers of the structs of this seat: printed by wip/rd.py. Own work. -/
import Derived.Test.YthppeaelfcmafaaRd
import Derived.Test.YthppeaelfcmafaaMb
namespace Go.Proofs.Ythppeaelfcmafaa
open Go.RowKit Go.ChangeShapes Go.WideShapes Go.ChangeAt
set_option linter.unusedVariables false
section
variable {H : Type} {enc : TypeId × Value → H} {w : World} {base : Nat} {sp : Nat → Bool} {held : Bool}
theorem cN_int : Try.prog.cellsOf 3 = 1 := by kernel_rfl
theorem cN_bool : Try.prog.cellsOf 4 = 1 := by kernel_rfl
def Mb.ok (w : World) (a : Mb) : Prop := (-9223372036854775808 ≤ a.n ∧ a.n ≤ 9223372036854775807) ∧ (-9223372036854775808 ≤ a.b ∧ a.b ≤ 9223372036854775807)
theorem Mb.below {w w' : World} {a : Mb} (h : Mb.ok w a) (hb : Below w.heap.size w w') : Mb.ok w' a := by
  unfold Mb.ok at *
  exact ⟨h.1, h.2⟩
theorem cN_bodega_api_Member : Try.prog.cellsOf 45 = 3 := by kernel_rfl
theorem rd_Mb {fuel : Nat} {cs : List Value} {x : DataW H × List MemPlace} (h : DataW.trod enc Try.prog w base sp held fuel 45 cs = some x) : ∃ a : Mb, cs = Mb.cells a ∧ Mb.ok w a := by
  obtain ⟨xs, n, _, _, hlen, hxs, hf⟩ := DataW.trod_struct Try.underlying45 h
  rw [cN_bodega_api_Member] at hlen
  match cs, hlen with
  | [c0, c1, c2], _ =>
    match xs, hxs with
    | [x0, x1, x2], _ =>
      have f0 : DataW.trod enc Try.prog w base sp held n 3 (([c0, c1, c2].drop 0).take (Try.prog.cellsOf 3)) = some x0 := hf 0 _ rfl
      rw [cN_int] at f0
      obtain ⟨a0, e0, w0⟩ := rd_i64 Try.underlying3 f0
      have f1 : DataW.trod enc Try.prog w base sp held n 3 (([c0, c1, c2].drop 1).take (Try.prog.cellsOf 3)) = some x1 := hf 1 _ rfl
      rw [cN_int] at f1
      obtain ⟨a1, e1, w1⟩ := rd_i64 Try.underlying3 f1
      have f2 : DataW.trod enc Try.prog w base sp held n 4 (([c0, c1, c2].drop 2).take (Try.prog.cellsOf 4)) = some x2 := hf 2 _ rfl
      rw [cN_bool] at f2
      obtain ⟨a2, e2, w2⟩ := rd_bool Try.underlying4 f2
      have E := (app_eq (app_eq e0 e1) e2)
      exact ⟨⟨a0, a1, a2⟩, E, ⟨w0, w1⟩⟩
theorem cN__api_Member : Try.prog.cellsOf 26 = 1 := by kernel_rfl
structure GView where
  number : Int
  members : Value
  membersL : List Mb
def GView.cells (a : GView) : List Value := [.int .i64 a.number, a.members]
def GView.ok (w : World) (a : GView) : Prop := (-9223372036854775808 ≤ a.number ∧ a.number ≤ 9223372036854775807) ∧ (SlN w a.members 3 a.membersL.length (a.membersL.flatMap Mb.cells) ∧ ∀ x ∈ a.membersL, (Mb.ok w) x)
theorem GView.below {w w' : World} {a : GView} (h : GView.ok w a) (hb : Below w.heap.size w w') : GView.ok w' a := by
  unfold GView.ok at *
  exact ⟨h.1, ⟨h.2.1.below hb (Nat.le_refl _), fun x hx => Mb.below (h.2.2 x hx) hb⟩⟩
theorem cN_bodega_api_View : Try.prog.cellsOf 28 = 2 := by kernel_rfl
theorem rd_GView {fuel : Nat} {cs : List Value} {x : DataW H × List MemPlace} (h : DataW.trod enc Try.prog w base sp held fuel 28 cs = some x) : ∃ a : GView, cs = GView.cells a ∧ GView.ok w a := by
  obtain ⟨xs, n, _, _, hlen, hxs, hf⟩ := DataW.trod_struct Try.underlying28 h
  rw [cN_bodega_api_View] at hlen
  match cs, hlen with
  | [c0, c1], _ =>
    match xs, hxs with
    | [x0, x1], _ =>
      have f0 : DataW.trod enc Try.prog w base sp held n 3 (([c0, c1].drop 0).take (Try.prog.cellsOf 3)) = some x0 := hf 0 _ rfl
      rw [cN_int] at f0
      obtain ⟨a0, e0, w0⟩ := rd_i64 Try.underlying3 f0
      have f1 : DataW.trod enc Try.prog w base sp held n 26 (([c0, c1].drop 1).take (Try.prog.cellsOf 26)) = some x1 := hf 1 _ rfl
      rw [cN__api_Member] at f1
      obtain ⟨a1, l1, e1, s1, w1⟩ := rd_slice Mb.cells (Mb.ok w) 3 (by decide) (fun _ => rfl) Try.underlying26 cN_bodega_api_Member (fun _ _ _ h => rd_Mb h) f1
      have E := (app_eq e0 e1)
      exact ⟨⟨a0, a1, l1⟩, E, ⟨w0, ⟨s1, w1⟩⟩⟩
theorem cN__int : Try.prog.cellsOf 22 = 1 := by kernel_rfl
structure GRaw where
  number : Int
  mask : Int
  full : Int
  spoil : Int
  at_ : Int
  boots : Value
  bootsL : List Int
def GRaw.cells (a : GRaw) : List Value := [.int .i64 a.number, .int .i64 a.mask, .int .i64 a.full, .int .i64 a.spoil, .int .i64 a.at_, a.boots]
def GRaw.ok (w : World) (a : GRaw) : Prop := (-9223372036854775808 ≤ a.number ∧ a.number ≤ 9223372036854775807) ∧ (-9223372036854775808 ≤ a.mask ∧ a.mask ≤ 9223372036854775807) ∧ (-9223372036854775808 ≤ a.full ∧ a.full ≤ 9223372036854775807) ∧ (-9223372036854775808 ≤ a.spoil ∧ a.spoil ≤ 9223372036854775807) ∧ (-9223372036854775808 ≤ a.at_ ∧ a.at_ ≤ 9223372036854775807) ∧ (Sl w a.boots (a.bootsL.map (fun a => .int .i64 a)) ∧ ∀ x ∈ a.bootsL, -9223372036854775808 ≤ x ∧ x ≤ 9223372036854775807)
theorem GRaw.below {w w' : World} {a : GRaw} (h : GRaw.ok w a) (hb : Below w.heap.size w w') : GRaw.ok w' a := by
  unfold GRaw.ok at *
  exact ⟨h.1, h.2.1, h.2.2.1, h.2.2.2.1, h.2.2.2.2.1, ⟨h.2.2.2.2.2.1.below hb, h.2.2.2.2.2.2⟩⟩
theorem cN_bodega_bodegalaw10_Raw : Try.prog.cellsOf 24 = 6 := by kernel_rfl
theorem rd_GRaw {fuel : Nat} {cs : List Value} {x : DataW H × List MemPlace} (h : DataW.trod enc Try.prog w base sp held fuel 24 cs = some x) : ∃ a : GRaw, cs = GRaw.cells a ∧ GRaw.ok w a := by
  obtain ⟨xs, n, _, _, hlen, hxs, hf⟩ := DataW.trod_struct Try.underlying24 h
  rw [cN_bodega_bodegalaw10_Raw] at hlen
  match cs, hlen with
  | [c0, c1, c2, c3, c4, c5], _ =>
    match xs, hxs with
    | [x0, x1, x2, x3, x4, x5], _ =>
      have f0 : DataW.trod enc Try.prog w base sp held n 3 (([c0, c1, c2, c3, c4, c5].drop 0).take (Try.prog.cellsOf 3)) = some x0 := hf 0 _ rfl
      rw [cN_int] at f0
      obtain ⟨a0, e0, w0⟩ := rd_i64 Try.underlying3 f0
      have f1 : DataW.trod enc Try.prog w base sp held n 3 (([c0, c1, c2, c3, c4, c5].drop 1).take (Try.prog.cellsOf 3)) = some x1 := hf 1 _ rfl
      rw [cN_int] at f1
      obtain ⟨a1, e1, w1⟩ := rd_i64 Try.underlying3 f1
      have f2 : DataW.trod enc Try.prog w base sp held n 3 (([c0, c1, c2, c3, c4, c5].drop 2).take (Try.prog.cellsOf 3)) = some x2 := hf 2 _ rfl
      rw [cN_int] at f2
      obtain ⟨a2, e2, w2⟩ := rd_i64 Try.underlying3 f2
      have f3 : DataW.trod enc Try.prog w base sp held n 3 (([c0, c1, c2, c3, c4, c5].drop 3).take (Try.prog.cellsOf 3)) = some x3 := hf 3 _ rfl
      rw [cN_int] at f3
      obtain ⟨a3, e3, w3⟩ := rd_i64 Try.underlying3 f3
      have f4 : DataW.trod enc Try.prog w base sp held n 3 (([c0, c1, c2, c3, c4, c5].drop 4).take (Try.prog.cellsOf 3)) = some x4 := hf 4 _ rfl
      rw [cN_int] at f4
      obtain ⟨a4, e4, w4⟩ := rd_i64 Try.underlying3 f4
      have f5 : DataW.trod enc Try.prog w base sp held n 22 (([c0, c1, c2, c3, c4, c5].drop 5).take (Try.prog.cellsOf 22)) = some x5 := hf 5 _ rfl
      rw [cN__int] at f5
      obtain ⟨a5, l5, e5, s5, w5⟩ := rd_slice1 (fun a => .int .i64 a) (fun a => -9223372036854775808 ≤ a ∧ a ≤ 9223372036854775807) Try.underlying22 cN_int (fun _ _ _ h => rd_i64 Try.underlying3 h) f5
      have E := (app_eq (app_eq (app_eq (app_eq (app_eq e0 e1) e2) e3) e4) e5)
      exact ⟨⟨a0, a1, a2, a3, a4, a5, l5⟩, E, ⟨w0, w1, w2, w3, w4, ⟨s5, w5⟩⟩⟩
theorem cN_uint64 : Try.prog.cellsOf 25 = 1 := by kernel_rfl
theorem cN__uint64 : Try.prog.cellsOf 51 = 1 := by kernel_rfl
structure GVerb where
  kind : Int
  node : Int
  at_ : Int
  n : Int
  old : BitVec 64
  new : BitVec 64
  words : Value
  wordsL : List (BitVec 64)
  key : BitVec 64
  boot : Int
def GVerb.cells (a : GVerb) : List Value := [.int .i64 a.kind, .int .i64 a.node, .int .i64 a.at_, .int .i64 a.n, .int .u64 (UV a.old), .int .u64 (UV a.new), a.words, .int .u64 (UV a.key), .int .i64 a.boot]
def GVerb.ok (w : World) (a : GVerb) : Prop := (-9223372036854775808 ≤ a.kind ∧ a.kind ≤ 9223372036854775807) ∧ (-9223372036854775808 ≤ a.node ∧ a.node ≤ 9223372036854775807) ∧ (-9223372036854775808 ≤ a.at_ ∧ a.at_ ≤ 9223372036854775807) ∧ (-9223372036854775808 ≤ a.n ∧ a.n ≤ 9223372036854775807) ∧ (Sl w a.words (a.wordsL.map (fun a => .int .u64 (UV a)))) ∧ (-9223372036854775808 ≤ a.boot ∧ a.boot ≤ 9223372036854775807)
theorem GVerb.below {w w' : World} {a : GVerb} (h : GVerb.ok w a) (hb : Below w.heap.size w w') : GVerb.ok w' a := by
  unfold GVerb.ok at *
  exact ⟨h.1, h.2.1, h.2.2.1, h.2.2.2.1, h.2.2.2.2.1.below hb, h.2.2.2.2.2⟩
theorem cN_bodega_api_Verb : Try.prog.cellsOf 53 = 9 := by kernel_rfl
theorem rd_GVerb {fuel : Nat} {cs : List Value} {x : DataW H × List MemPlace} (h : DataW.trod enc Try.prog w base sp held fuel 53 cs = some x) : ∃ a : GVerb, cs = GVerb.cells a ∧ GVerb.ok w a := by
  obtain ⟨xs, n, _, _, hlen, hxs, hf⟩ := DataW.trod_struct Try.underlying53 h
  rw [cN_bodega_api_Verb] at hlen
  match cs, hlen with
  | [c0, c1, c2, c3, c4, c5, c6, c7, c8], _ =>
    match xs, hxs with
    | [x0, x1, x2, x3, x4, x5, x6, x7, x8], _ =>
      have f0 : DataW.trod enc Try.prog w base sp held n 3 (([c0, c1, c2, c3, c4, c5, c6, c7, c8].drop 0).take (Try.prog.cellsOf 3)) = some x0 := hf 0 _ rfl
      rw [cN_int] at f0
      obtain ⟨a0, e0, w0⟩ := rd_i64 Try.underlying3 f0
      have f1 : DataW.trod enc Try.prog w base sp held n 3 (([c0, c1, c2, c3, c4, c5, c6, c7, c8].drop 1).take (Try.prog.cellsOf 3)) = some x1 := hf 1 _ rfl
      rw [cN_int] at f1
      obtain ⟨a1, e1, w1⟩ := rd_i64 Try.underlying3 f1
      have f2 : DataW.trod enc Try.prog w base sp held n 3 (([c0, c1, c2, c3, c4, c5, c6, c7, c8].drop 2).take (Try.prog.cellsOf 3)) = some x2 := hf 2 _ rfl
      rw [cN_int] at f2
      obtain ⟨a2, e2, w2⟩ := rd_i64 Try.underlying3 f2
      have f3 : DataW.trod enc Try.prog w base sp held n 3 (([c0, c1, c2, c3, c4, c5, c6, c7, c8].drop 3).take (Try.prog.cellsOf 3)) = some x3 := hf 3 _ rfl
      rw [cN_int] at f3
      obtain ⟨a3, e3, w3⟩ := rd_i64 Try.underlying3 f3
      have f4 : DataW.trod enc Try.prog w base sp held n 25 (([c0, c1, c2, c3, c4, c5, c6, c7, c8].drop 4).take (Try.prog.cellsOf 25)) = some x4 := hf 4 _ rfl
      rw [cN_uint64] at f4
      obtain ⟨a4, e4, w4⟩ := rd_u64 Try.underlying25 f4
      have f5 : DataW.trod enc Try.prog w base sp held n 25 (([c0, c1, c2, c3, c4, c5, c6, c7, c8].drop 5).take (Try.prog.cellsOf 25)) = some x5 := hf 5 _ rfl
      rw [cN_uint64] at f5
      obtain ⟨a5, e5, w5⟩ := rd_u64 Try.underlying25 f5
      have f6 : DataW.trod enc Try.prog w base sp held n 51 (([c0, c1, c2, c3, c4, c5, c6, c7, c8].drop 6).take (Try.prog.cellsOf 51)) = some x6 := hf 6 _ rfl
      rw [cN__uint64] at f6
      obtain ⟨a6, l6, e6, s6, w6⟩ := rd_slice1 (fun a => .int .u64 (UV a)) (fun _ => True) Try.underlying51 cN_uint64 (fun _ _ _ h => rd_u64 Try.underlying25 h) f6
      have f7 : DataW.trod enc Try.prog w base sp held n 25 (([c0, c1, c2, c3, c4, c5, c6, c7, c8].drop 7).take (Try.prog.cellsOf 25)) = some x7 := hf 7 _ rfl
      rw [cN_uint64] at f7
      obtain ⟨a7, e7, w7⟩ := rd_u64 Try.underlying25 f7
      have f8 : DataW.trod enc Try.prog w base sp held n 3 (([c0, c1, c2, c3, c4, c5, c6, c7, c8].drop 8).take (Try.prog.cellsOf 3)) = some x8 := hf 8 _ rfl
      rw [cN_int] at f8
      obtain ⟨a8, e8, w8⟩ := rd_i64 Try.underlying3 f8
      have E := (app_eq (app_eq (app_eq (app_eq (app_eq (app_eq (app_eq (app_eq e0 e1) e2) e3) e4) e5) e6) e7) e8)
      exact ⟨⟨a0, a1, a2, a3, a4, a5, a6, l6, a7, a8⟩, E, ⟨w0, w1, w2, w3, s6, w8⟩⟩
end
end Go.Proofs.Ythppeaelfcmafaa
