/- Readers of the structs of this seat: printed by wip/rd3.py. Own work. -/
import Derived.Test.YthppeaelfcmafaaHk

namespace Go.Proofs.Ythppeaelfcmafaa
open Go.RowKit Go.ChangeShapes Go.WideShapes Go.ChangeAt
set_option linter.unusedVariables false
section
variable {H : Type} {enc : TypeId × Value → H} {w : World} {base : Nat} {sp : Nat → Bool} {held : Bool}
def Mb.wf (a : Mb) : Prop := I64ok a.n ∧ I64ok a.b ∧ (fun _ => True) a.f
theorem cN_bodega_api_Member : Try.prog.cellsOf 45 = 3 := by kernel_rfl
theorem cN_int : Try.prog.cellsOf 3 = 1 := by kernel_rfl
theorem cN_bool : Try.prog.cellsOf 4 = 1 := by kernel_rfl
theorem rds_Mb : Rds enc Try.prog w base sp held 45 tMb Mb.wf := by
  intro fuel cs x h
  obtain ⟨xs, n, _, _, hlen, hxs, hf⟩ := DataW.trod_struct Try.underlying45 h
  rw [cN_bodega_api_Member] at hlen
  match cs, hlen with
  | [c0, c1, c2], _ =>
    match xs, hxs with
    | [x0, x1, x2], _ =>
      have f0 : DataW.trod enc Try.prog w base sp held n 3 (([c0, c1, c2].drop 0).take (Try.prog.cellsOf 3)) = some x0 := hf 0 _ rfl
      rw [cN_int] at f0
      obtain ⟨a0, g0, o0, w0⟩ := (rds_i64 Try.underlying3) _ _ _ f0
      have f1 : DataW.trod enc Try.prog w base sp held n 3 (([c0, c1, c2].drop 1).take (Try.prog.cellsOf 3)) = some x1 := hf 1 _ rfl
      rw [cN_int] at f1
      obtain ⟨a1, g1, o1, w1⟩ := (rds_i64 Try.underlying3) _ _ _ f1
      have f2 : DataW.trod enc Try.prog w base sp held n 4 (([c0, c1, c2].drop 2).take (Try.prog.cellsOf 4)) = some x2 := hf 2 _ rfl
      rw [cN_bool] at f2
      obtain ⟨a2, g2, o2, w2⟩ := (rds_bool Try.underlying4) _ _ _ f2
      exact ⟨⟨a0, a1, a2⟩, ((g0.append g1).append g2), (ones_app (ones_app o0 o1) o2), ⟨w0, w1, w2⟩⟩
structure GView where
  number : Int
  members : List Mb
def tGView : Ty GView := ⟨2, fun a => [Is (.int .i64 a.number), IsSl tMb a.members], fun _ => rfl⟩
@[reducible] def IsGView (a : GView) : VP := IsAgg (tGView.cells a)
def GView.wf (a : GView) : Prop := I64ok a.number ∧ (fun xs => ∀ a ∈ xs, Mb.wf a) a.members
theorem cN_bodega_api_View : Try.prog.cellsOf 28 = 2 := by kernel_rfl
theorem cN__api_Member : Try.prog.cellsOf 26 = 1 := by kernel_rfl
theorem rds_GView : Rds enc Try.prog w base sp held 28 tGView GView.wf := by
  intro fuel cs x h
  obtain ⟨xs, n, _, _, hlen, hxs, hf⟩ := DataW.trod_struct Try.underlying28 h
  rw [cN_bodega_api_View] at hlen
  match cs, hlen with
  | [c0, c1], _ =>
    match xs, hxs with
    | [x0, x1], _ =>
      have f0 : DataW.trod enc Try.prog w base sp held n 3 (([c0, c1].drop 0).take (Try.prog.cellsOf 3)) = some x0 := hf 0 _ rfl
      rw [cN_int] at f0
      obtain ⟨a0, g0, o0, w0⟩ := (rds_i64 Try.underlying3) _ _ _ f0
      have f1 : DataW.trod enc Try.prog w base sp held n 26 (([c0, c1].drop 1).take (Try.prog.cellsOf 26)) = some x1 := hf 1 _ rfl
      rw [cN__api_Member] at f1
      obtain ⟨a1, g1, o1, w1⟩ := (rds_slice Try.underlying26 cN_bodega_api_Member rfl rds_Mb) _ _ _ f1
      exact ⟨⟨a0, a1⟩, (g0.append g1), (ones_app o0 o1), ⟨w0, w1⟩⟩
structure GRaw where
  number : Int
  mask : Int
  full : Int
  spoil : Int
  at_ : Int
  boots : List Int
def tGRaw : Ty GRaw := ⟨6, fun a => [Is (.int .i64 a.number), Is (.int .i64 a.mask), Is (.int .i64 a.full), Is (.int .i64 a.spoil), Is (.int .i64 a.at_), IsSl tI64 a.boots], fun _ => rfl⟩
@[reducible] def IsGRaw (a : GRaw) : VP := IsAgg (tGRaw.cells a)
def GRaw.wf (a : GRaw) : Prop := I64ok a.number ∧ I64ok a.mask ∧ I64ok a.full ∧ I64ok a.spoil ∧ I64ok a.at_ ∧ (fun xs => ∀ a ∈ xs, I64ok a) a.boots
theorem cN_bodega_bodegalaw10_Raw : Try.prog.cellsOf 24 = 6 := by kernel_rfl
theorem cN__int : Try.prog.cellsOf 22 = 1 := by kernel_rfl
theorem rds_GRaw : Rds enc Try.prog w base sp held 24 tGRaw GRaw.wf := by
  intro fuel cs x h
  obtain ⟨xs, n, _, _, hlen, hxs, hf⟩ := DataW.trod_struct Try.underlying24 h
  rw [cN_bodega_bodegalaw10_Raw] at hlen
  match cs, hlen with
  | [c0, c1, c2, c3, c4, c5], _ =>
    match xs, hxs with
    | [x0, x1, x2, x3, x4, x5], _ =>
      have f0 : DataW.trod enc Try.prog w base sp held n 3 (([c0, c1, c2, c3, c4, c5].drop 0).take (Try.prog.cellsOf 3)) = some x0 := hf 0 _ rfl
      rw [cN_int] at f0
      obtain ⟨a0, g0, o0, w0⟩ := (rds_i64 Try.underlying3) _ _ _ f0
      have f1 : DataW.trod enc Try.prog w base sp held n 3 (([c0, c1, c2, c3, c4, c5].drop 1).take (Try.prog.cellsOf 3)) = some x1 := hf 1 _ rfl
      rw [cN_int] at f1
      obtain ⟨a1, g1, o1, w1⟩ := (rds_i64 Try.underlying3) _ _ _ f1
      have f2 : DataW.trod enc Try.prog w base sp held n 3 (([c0, c1, c2, c3, c4, c5].drop 2).take (Try.prog.cellsOf 3)) = some x2 := hf 2 _ rfl
      rw [cN_int] at f2
      obtain ⟨a2, g2, o2, w2⟩ := (rds_i64 Try.underlying3) _ _ _ f2
      have f3 : DataW.trod enc Try.prog w base sp held n 3 (([c0, c1, c2, c3, c4, c5].drop 3).take (Try.prog.cellsOf 3)) = some x3 := hf 3 _ rfl
      rw [cN_int] at f3
      obtain ⟨a3, g3, o3, w3⟩ := (rds_i64 Try.underlying3) _ _ _ f3
      have f4 : DataW.trod enc Try.prog w base sp held n 3 (([c0, c1, c2, c3, c4, c5].drop 4).take (Try.prog.cellsOf 3)) = some x4 := hf 4 _ rfl
      rw [cN_int] at f4
      obtain ⟨a4, g4, o4, w4⟩ := (rds_i64 Try.underlying3) _ _ _ f4
      have f5 : DataW.trod enc Try.prog w base sp held n 22 (([c0, c1, c2, c3, c4, c5].drop 5).take (Try.prog.cellsOf 22)) = some x5 := hf 5 _ rfl
      rw [cN__int] at f5
      obtain ⟨a5, g5, o5, w5⟩ := (rds_slice Try.underlying22 cN_int rfl (rds_i64 Try.underlying3)) _ _ _ f5
      exact ⟨⟨a0, a1, a2, a3, a4, a5⟩, (((((g0.append g1).append g2).append g3).append g4).append g5), (ones_app (ones_app (ones_app (ones_app (ones_app o0 o1) o2) o3) o4) o5), ⟨w0, w1, w2, w3, w4, w5⟩⟩
theorem cN_uint64 : Try.prog.cellsOf 25 = 1 := by kernel_rfl
structure GVerb where
  kind : Int
  node : Int
  at_ : Int
  n : Int
  old : BitVec 64
  new : BitVec 64
  words : List (BitVec 64)
  key : BitVec 64
  boot : Int
def tGVerb : Ty GVerb := ⟨9, fun a => [Is (.int .i64 a.kind), Is (.int .i64 a.node), Is (.int .i64 a.at_), Is (.int .i64 a.n), Is (.int .u64 (UV a.old)), Is (.int .u64 (UV a.new)), IsSl tU64 a.words, Is (.int .u64 (UV a.key)), Is (.int .i64 a.boot)], fun _ => rfl⟩
@[reducible] def IsGVerb (a : GVerb) : VP := IsAgg (tGVerb.cells a)
def GVerb.wf (a : GVerb) : Prop := I64ok a.kind ∧ I64ok a.node ∧ I64ok a.at_ ∧ I64ok a.n ∧ (fun _ => True) a.old ∧ (fun _ => True) a.new ∧ (fun xs => ∀ a ∈ xs, (fun _ => True) a) a.words ∧ (fun _ => True) a.key ∧ I64ok a.boot
theorem cN_bodega_api_Verb : Try.prog.cellsOf 53 = 9 := by kernel_rfl
theorem cN__uint64 : Try.prog.cellsOf 51 = 1 := by kernel_rfl
theorem rds_GVerb : Rds enc Try.prog w base sp held 53 tGVerb GVerb.wf := by
  intro fuel cs x h
  obtain ⟨xs, n, _, _, hlen, hxs, hf⟩ := DataW.trod_struct Try.underlying53 h
  rw [cN_bodega_api_Verb] at hlen
  match cs, hlen with
  | [c0, c1, c2, c3, c4, c5, c6, c7, c8], _ =>
    match xs, hxs with
    | [x0, x1, x2, x3, x4, x5, x6, x7, x8], _ =>
      have f0 : DataW.trod enc Try.prog w base sp held n 3 (([c0, c1, c2, c3, c4, c5, c6, c7, c8].drop 0).take (Try.prog.cellsOf 3)) = some x0 := hf 0 _ rfl
      rw [cN_int] at f0
      obtain ⟨a0, g0, o0, w0⟩ := (rds_i64 Try.underlying3) _ _ _ f0
      have f1 : DataW.trod enc Try.prog w base sp held n 3 (([c0, c1, c2, c3, c4, c5, c6, c7, c8].drop 1).take (Try.prog.cellsOf 3)) = some x1 := hf 1 _ rfl
      rw [cN_int] at f1
      obtain ⟨a1, g1, o1, w1⟩ := (rds_i64 Try.underlying3) _ _ _ f1
      have f2 : DataW.trod enc Try.prog w base sp held n 3 (([c0, c1, c2, c3, c4, c5, c6, c7, c8].drop 2).take (Try.prog.cellsOf 3)) = some x2 := hf 2 _ rfl
      rw [cN_int] at f2
      obtain ⟨a2, g2, o2, w2⟩ := (rds_i64 Try.underlying3) _ _ _ f2
      have f3 : DataW.trod enc Try.prog w base sp held n 3 (([c0, c1, c2, c3, c4, c5, c6, c7, c8].drop 3).take (Try.prog.cellsOf 3)) = some x3 := hf 3 _ rfl
      rw [cN_int] at f3
      obtain ⟨a3, g3, o3, w3⟩ := (rds_i64 Try.underlying3) _ _ _ f3
      have f4 : DataW.trod enc Try.prog w base sp held n 25 (([c0, c1, c2, c3, c4, c5, c6, c7, c8].drop 4).take (Try.prog.cellsOf 25)) = some x4 := hf 4 _ rfl
      rw [cN_uint64] at f4
      obtain ⟨a4, g4, o4, w4⟩ := (rds_u64 Try.underlying25) _ _ _ f4
      have f5 : DataW.trod enc Try.prog w base sp held n 25 (([c0, c1, c2, c3, c4, c5, c6, c7, c8].drop 5).take (Try.prog.cellsOf 25)) = some x5 := hf 5 _ rfl
      rw [cN_uint64] at f5
      obtain ⟨a5, g5, o5, w5⟩ := (rds_u64 Try.underlying25) _ _ _ f5
      have f6 : DataW.trod enc Try.prog w base sp held n 51 (([c0, c1, c2, c3, c4, c5, c6, c7, c8].drop 6).take (Try.prog.cellsOf 51)) = some x6 := hf 6 _ rfl
      rw [cN__uint64] at f6
      obtain ⟨a6, g6, o6, w6⟩ := (rds_slice Try.underlying51 cN_uint64 rfl (rds_u64 Try.underlying25)) _ _ _ f6
      have f7 : DataW.trod enc Try.prog w base sp held n 25 (([c0, c1, c2, c3, c4, c5, c6, c7, c8].drop 7).take (Try.prog.cellsOf 25)) = some x7 := hf 7 _ rfl
      rw [cN_uint64] at f7
      obtain ⟨a7, g7, o7, w7⟩ := (rds_u64 Try.underlying25) _ _ _ f7
      have f8 : DataW.trod enc Try.prog w base sp held n 3 (([c0, c1, c2, c3, c4, c5, c6, c7, c8].drop 8).take (Try.prog.cellsOf 3)) = some x8 := hf 8 _ rfl
      rw [cN_int] at f8
      obtain ⟨a8, g8, o8, w8⟩ := (rds_i64 Try.underlying3) _ _ _ f8
      exact ⟨⟨a0, a1, a2, a3, a4, a5, a6, a7, a8⟩, ((((((((g0.append g1).append g2).append g3).append g4).append g5).append g6).append g7).append g8), (ones_app (ones_app (ones_app (ones_app (ones_app (ones_app (ones_app (ones_app o0 o1) o2) o3) o4) o5) o6) o7) o8), ⟨w0, w1, w2, w3, w4, w5, w6, w7, w8⟩⟩
end
end Go.Proofs.Ythppeaelfcmafaa
