/-
  No cell of these rows narrows 'for every input' (looked for: loops, veiled, ifaces, maps, wideKeys, modest, calm, conditions, laid).
  DERIVED. THE GIVEN ROWS OF THIS SEAT. 4 by the template 'for every input the law returns true; each argument reads behind the call as it read before'; 0 by the template 'total and deterministic' (their statements: YtfenilbobnomaaaTotals.lean).
  GIVEN WITH THE SEED: the statements are not yours to turn. If you find one false, say at which input.
  Laid BY PROGRAM, IN A SANDBOX (cutbox-rows.mjs): the forced cells as the released guide's own fill.sh prints them over the translation ae688599f7cff4c6… (all of the seat's roots in one cut). By AI agents, Wed Nov 11 2026. No macro, syntax, notation, axiom, sorry.
-/
import Derived.Test.YtfenilbobnomaaaChecked
import GoSem.Claim
import GoSem.ClaimJoined
import GoSem.ClaimMapViews
import Derived.JoinedTies
import Derived.KernelRfl
namespace Go.Proofs.Ytfenilbobnomaaa
/- THE CELL 'sum', in the pinned program and in every row, IS THE sha256 OF THE DUMP (.gsa) THAT YtfenilbobnomaaaProg.lean LOADS. Nothing in Lean hashes anything: it is a label: what it is worth is what the hold of that sum in a sandbox is worth. -/
noncomputable def Try.pinned : Pinned := { name := "ytfenilbobnomaaa", sum := "ae688599f7cff4c6922005a26b16b9a67cea907207e7de02b99b1a4337cc1ab4", checked := Try.checked }
namespace Rows
def none {H : Type} : Left H := { results := [], args := [] }

/-- 'bodegalaw2.CrcBytes': WHATEVER THE INPUT: true; the input reads as it did. -/
def crcBytesSpec : ChangeSpec := { name := "crcBytes", fn := fun _ => fun
  | [d] => { results := [.lit (.bool true)], args := [d] }
  | _ => none }
def crcBytesRow : OpenClaim := { program := "ytfenilbobnomaaa", sum := "ae688599f7cff4c6922005a26b16b9a67cea907207e7de02b99b1a4337cc1ab4", func := "bodega/bodegalaw2.CrcBytes", spec := "crcBytes", apart := false }
def CrcBytesSaid : Prop := crcBytesRow.holds Try.pinned (OpenSpec.ofChange crcBytesSpec)

/-- ITS FALSE NEIGHBOUR: 'it returns false'. Refute it at one input. -/
def crcBytesWrong : ChangeSpec := { name := "crcBytes", fn := fun _ => fun
  | [d] => { results := [.lit (.bool false)], args := [d] }
  | _ => none }
def CrcBytesWrongFalsely : Prop := crcBytesRow.holds Try.pinned (OpenSpec.ofChange crcBytesWrong)

/-- 'bodegalaw2.CrcExtend': WHATEVER THE INPUT: true; the input reads as it did. -/
def crcExtendSpec : ChangeSpec := { name := "crcExtend", fn := fun _ => fun
  | [d1, d2] => { results := [.lit (.bool true)], args := [d1, d2] }
  | _ => none }
def crcExtendRow : OpenClaim := { program := "ytfenilbobnomaaa", sum := "ae688599f7cff4c6922005a26b16b9a67cea907207e7de02b99b1a4337cc1ab4", func := "bodega/bodegalaw2.CrcExtend", spec := "crcExtend", apart := false }
def CrcExtendSaid : Prop := crcExtendRow.holds Try.pinned (OpenSpec.ofChange crcExtendSpec)

/-- ITS FALSE NEIGHBOUR: 'it returns false'. Refute it at one input. -/
def crcExtendWrong : ChangeSpec := { name := "crcExtend", fn := fun _ => fun
  | [d1, d2] => { results := [.lit (.bool false)], args := [d1, d2] }
  | _ => none }
def CrcExtendWrongFalsely : Prop := crcExtendRow.holds Try.pinned (OpenSpec.ofChange crcExtendWrong)

/-- 'bodegalaw2.CrcLinear': WHATEVER THE INPUT: true; the input reads as it did. -/
def crcLinearSpec : ChangeSpec := { name := "crcLinear", fn := fun _ => fun
  | [d1, d2, d3] => { results := [.lit (.bool true)], args := [d1, d2, d3] }
  | _ => none }
def crcLinearRow : OpenClaim := { program := "ytfenilbobnomaaa", sum := "ae688599f7cff4c6922005a26b16b9a67cea907207e7de02b99b1a4337cc1ab4", func := "bodega/bodegalaw2.CrcLinear", spec := "crcLinear", apart := false }
def CrcLinearSaid : Prop := crcLinearRow.holds Try.pinned (OpenSpec.ofChange crcLinearSpec)

/-- ITS FALSE NEIGHBOUR: 'it returns false'. Refute it at one input. -/
def crcLinearWrong : ChangeSpec := { name := "crcLinear", fn := fun _ => fun
  | [d1, d2, d3] => { results := [.lit (.bool false)], args := [d1, d2, d3] }
  | _ => none }
def CrcLinearWrongFalsely : Prop := crcLinearRow.holds Try.pinned (OpenSpec.ofChange crcLinearWrong)

/-- 'bodegalaw2.CrcWords': WHATEVER THE INPUT: true; the input reads as it did. -/
def crcWordsSpec : ChangeSpec := { name := "crcWords", fn := fun _ => fun
  | [d] => { results := [.lit (.bool true)], args := [d] }
  | _ => none }
def crcWordsRow : OpenClaim := { program := "ytfenilbobnomaaa", sum := "ae688599f7cff4c6922005a26b16b9a67cea907207e7de02b99b1a4337cc1ab4", func := "bodega/bodegalaw2.CrcWords", spec := "crcWords", apart := false }
def CrcWordsSaid : Prop := crcWordsRow.holds Try.pinned (OpenSpec.ofChange crcWordsSpec)

/-- ITS FALSE NEIGHBOUR: 'it returns false'. Refute it at one input. -/
def crcWordsWrong : ChangeSpec := { name := "crcWords", fn := fun _ => fun
  | [d] => { results := [.lit (.bool false)], args := [d] }
  | _ => none }
def CrcWordsWrongFalsely : Prop := crcWordsRow.holds Try.pinned (OpenSpec.ofChange crcWordsWrong)

/- THE SECOND FORM. 'bulk': how many values and letters a reading holds, each counted each time it is reached (what is shared counts as often as it is met; a slice's spare places count too). A statement '..UptoSaid' is the law's where the arguments, and the package variables that the reading takes, are together of bulk at most 1048576: NARROWER than '..Said'. Prove '..Said' where nothing that the law and all that it calls make is longer than what came in: it says more and counts as full. Else prove '..UptoSaid'. A law counts once. -/
mutual
def uptoBulk {H : Type} : DataW H → Nat
  | .lit (.string bytes) => bytes.length + 1
  | .lit _ => 1
  | .nil => 1
  | .ptr d => uptoBulk d + 1
  | .slice elems spare => uptoBulkAll elems + uptoBulkAll spare + 1
  | .agg parts => uptoBulkAll parts + 1
  | .iface _ d => uptoBulk d + 1
  | .map entries => uptoBulkEntries entries + 1
  | .held _ => 1
def uptoBulkAll {H : Type} : List (DataW H) → Nat
  | [] => 0
  | d :: r => uptoBulk d + uptoBulkAll r
def uptoBulkEntries {H : Type} : List (Lit × DataW H) → Nat
  | [] => 0
  | x :: r => uptoBulkEntry x + uptoBulkEntries r
def uptoBulkEntry {H : Type} : Lit × DataW H → Nat
  | (.string bytes, d) => bytes.length + uptoBulk d + 1
  | (_, d) => uptoBulk d + 1
 end
def uptoSmall : (H : Type) → List (DataW H) → Bool := fun _ ds => decide (uptoBulkAll ds ≤ 1048576)
def OpenSpec.upto (s : _root_.Go.ChangeSpec) : _root_.Go.OpenSpec := { _root_.Go.OpenSpec.ofChange s with cond := some uptoSmall }

/-- 'bodegalaw2.CrcBytes', WHERE WHAT IT READS IS OF BULK AT MOST 1048576: true; the input reads as it did. -/
def crcBytesUptoRow : OpenClaim := { program := "ytfenilbobnomaaa", sum := "ae688599f7cff4c6922005a26b16b9a67cea907207e7de02b99b1a4337cc1ab4", func := "bodega/bodegalaw2.CrcBytes", spec := "crcBytes", apart := false, narrowed := true }
def CrcBytesUptoSaid : Prop := crcBytesUptoRow.holds Try.pinned (OpenSpec.upto crcBytesSpec)

/-- 'bodegalaw2.CrcExtend', WHERE WHAT IT READS IS OF BULK AT MOST 1048576: true; the input reads as it did. -/
def crcExtendUptoRow : OpenClaim := { program := "ytfenilbobnomaaa", sum := "ae688599f7cff4c6922005a26b16b9a67cea907207e7de02b99b1a4337cc1ab4", func := "bodega/bodegalaw2.CrcExtend", spec := "crcExtend", apart := false, narrowed := true }
def CrcExtendUptoSaid : Prop := crcExtendUptoRow.holds Try.pinned (OpenSpec.upto crcExtendSpec)

/-- 'bodegalaw2.CrcLinear', WHERE WHAT IT READS IS OF BULK AT MOST 1048576: true; the input reads as it did. -/
def crcLinearUptoRow : OpenClaim := { program := "ytfenilbobnomaaa", sum := "ae688599f7cff4c6922005a26b16b9a67cea907207e7de02b99b1a4337cc1ab4", func := "bodega/bodegalaw2.CrcLinear", spec := "crcLinear", apart := false, narrowed := true }
def CrcLinearUptoSaid : Prop := crcLinearUptoRow.holds Try.pinned (OpenSpec.upto crcLinearSpec)

/-- 'bodegalaw2.CrcWords', WHERE WHAT IT READS IS OF BULK AT MOST 1048576: true; the input reads as it did. -/
def crcWordsUptoRow : OpenClaim := { program := "ytfenilbobnomaaa", sum := "ae688599f7cff4c6922005a26b16b9a67cea907207e7de02b99b1a4337cc1ab4", func := "bodega/bodegalaw2.CrcWords", spec := "crcWords", apart := false, narrowed := true }
def CrcWordsUptoSaid : Prop := crcWordsUptoRow.holds Try.pinned (OpenSpec.upto crcWordsSpec)

end Rows
end Go.Proofs.Ytfenilbobnomaaa
