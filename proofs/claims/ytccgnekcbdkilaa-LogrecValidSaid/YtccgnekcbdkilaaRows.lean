/-
  No cell of these rows narrows 'for every input' (looked for: loops, veiled, ifaces, maps, wideKeys, modest, calm, conditions, laid).
  DERIVED. THE GIVEN ROWS OF THIS SEAT. 6 by the template 'for every input the law returns true; each argument reads behind the call as it read before'; 0 by the template 'total and deterministic' (their statements: YtccgnekcbdkilaaTotals.lean).
  GIVEN WITH THE SEED: the statements are not yours to turn. If you find one false, say at which input.
  Laid BY PROGRAM, IN A SANDBOX (cutbox-rows.mjs): the forced cells as the released guide's own fill.sh prints them over the translation 82a4e45691bb6c79… (all of the seat's roots in one cut). By AI agents, Wed Nov 11 2026. No macro, syntax, notation, axiom, sorry.
-/
import Derived.Test.YtccgnekcbdkilaaChecked
import GoSem.Claim
import GoSem.ClaimJoined
import GoSem.ClaimMapViews
import Derived.JoinedTies
import Derived.KernelRfl
namespace Go.Proofs.Ytccgnekcbdkilaa
/- THE CELL 'sum', in the pinned program and in every row, IS THE sha256 OF THE DUMP (.gsa) THAT YtccgnekcbdkilaaProg.lean LOADS. Nothing in Lean hashes anything: it is a label: what it is worth is what the hold of that sum in a sandbox is worth. -/
noncomputable def Try.pinned : Pinned := { name := "ytccgnekcbdkilaa", sum := "82a4e45691bb6c7943734e2156d20551863028bd1d381b2dcd80a6714dff620b", checked := Try.checked }
namespace Rows
def none {H : Type} : Left H := { results := [], args := [] }

/-- 'bodegalaw8.LogrecValid': WHATEVER THE INPUT: true; the input reads as it did. -/
def logrecValidSpec : ChangeSpec := { name := "logrecValid", fn := fun _ => fun
  | [d1, d2, d3, d4, d5, d6] => { results := [.lit (.bool true)], args := [d1, d2, d3, d4, d5, d6] }
  | _ => none }
def logrecValidRow : OpenClaim := { program := "ytccgnekcbdkilaa", sum := "82a4e45691bb6c7943734e2156d20551863028bd1d381b2dcd80a6714dff620b", func := "bodega/bodegalaw8.LogrecValid", spec := "logrecValid", unfollowed := true, recurses := true, apart := false }
def LogrecValidSaid : Prop := logrecValidRow.holds Try.pinned (OpenSpec.ofChange logrecValidSpec)

/-- ITS FALSE NEIGHBOUR: 'it returns false'. Refute it at one input. -/
def logrecValidWrong : ChangeSpec := { name := "logrecValid", fn := fun _ => fun
  | [d1, d2, d3, d4, d5, d6] => { results := [.lit (.bool false)], args := [d1, d2, d3, d4, d5, d6] }
  | _ => none }
def LogrecValidWrongFalsely : Prop := logrecValidRow.holds Try.pinned (OpenSpec.ofChange logrecValidWrong)

/-- 'bodegalaw8.LogrecBodies': WHATEVER THE INPUT: true; the input reads as it did. -/
def logrecBodiesSpec : ChangeSpec := { name := "logrecBodies", fn := fun _ => fun
  | [d1, d2, d3, d4, d5, d6, d7] => { results := [.lit (.bool true)], args := [d1, d2, d3, d4, d5, d6, d7] }
  | _ => none }
def logrecBodiesRow : OpenClaim := { program := "ytccgnekcbdkilaa", sum := "82a4e45691bb6c7943734e2156d20551863028bd1d381b2dcd80a6714dff620b", func := "bodega/bodegalaw8.LogrecBodies", spec := "logrecBodies", unfollowed := true, recurses := true, apart := false }
def LogrecBodiesSaid : Prop := logrecBodiesRow.holds Try.pinned (OpenSpec.ofChange logrecBodiesSpec)

/-- ITS FALSE NEIGHBOUR: 'it returns false'. Refute it at one input. -/
def logrecBodiesWrong : ChangeSpec := { name := "logrecBodies", fn := fun _ => fun
  | [d1, d2, d3, d4, d5, d6, d7] => { results := [.lit (.bool false)], args := [d1, d2, d3, d4, d5, d6, d7] }
  | _ => none }
def LogrecBodiesWrongFalsely : Prop := logrecBodiesRow.holds Try.pinned (OpenSpec.ofChange logrecBodiesWrong)

/-- 'bodegalaw8.LogrecBack': WHATEVER THE INPUT: true; the input reads as it did. -/
def logrecBackSpec : ChangeSpec := { name := "logrecBack", fn := fun _ => fun
  | [d1, d2, d3, d4, d5] => { results := [.lit (.bool true)], args := [d1, d2, d3, d4, d5] }
  | _ => none }
def logrecBackRow : OpenClaim := { program := "ytccgnekcbdkilaa", sum := "82a4e45691bb6c7943734e2156d20551863028bd1d381b2dcd80a6714dff620b", func := "bodega/bodegalaw8.LogrecBack", spec := "logrecBack", unfollowed := true, recurses := true, apart := false }
def LogrecBackSaid : Prop := logrecBackRow.holds Try.pinned (OpenSpec.ofChange logrecBackSpec)

/-- ITS FALSE NEIGHBOUR: 'it returns false'. Refute it at one input. -/
def logrecBackWrong : ChangeSpec := { name := "logrecBack", fn := fun _ => fun
  | [d1, d2, d3, d4, d5] => { results := [.lit (.bool false)], args := [d1, d2, d3, d4, d5] }
  | _ => none }
def LogrecBackWrongFalsely : Prop := logrecBackRow.holds Try.pinned (OpenSpec.ofChange logrecBackWrong)

/-- 'bodegalaw8.LogrecPages': WHATEVER THE INPUT: true; the input reads as it did. -/
def logrecPagesSpec : ChangeSpec := { name := "logrecPages", fn := fun _ => fun
  | [d1, d2, d3] => { results := [.lit (.bool true)], args := [d1, d2, d3] }
  | _ => none }
def logrecPagesRow : OpenClaim := { program := "ytccgnekcbdkilaa", sum := "82a4e45691bb6c7943734e2156d20551863028bd1d381b2dcd80a6714dff620b", func := "bodega/bodegalaw8.LogrecPages", spec := "logrecPages", unfollowed := true, recurses := true, apart := false }
def LogrecPagesSaid : Prop := logrecPagesRow.holds Try.pinned (OpenSpec.ofChange logrecPagesSpec)

/-- ITS FALSE NEIGHBOUR: 'it returns false'. Refute it at one input. -/
def logrecPagesWrong : ChangeSpec := { name := "logrecPages", fn := fun _ => fun
  | [d1, d2, d3] => { results := [.lit (.bool false)], args := [d1, d2, d3] }
  | _ => none }
def LogrecPagesWrongFalsely : Prop := logrecPagesRow.holds Try.pinned (OpenSpec.ofChange logrecPagesWrong)

/-- 'bodegalaw8.LogrecLogs': WHATEVER THE INPUT: true; the input reads as it did. -/
def logrecLogsSpec : ChangeSpec := { name := "logrecLogs", fn := fun _ => fun
  | [d1, d2, d3, d4, d5, d6, d7, d8, d9] => { results := [.lit (.bool true)], args := [d1, d2, d3, d4, d5, d6, d7, d8, d9] }
  | _ => none }
def logrecLogsRow : OpenClaim := { program := "ytccgnekcbdkilaa", sum := "82a4e45691bb6c7943734e2156d20551863028bd1d381b2dcd80a6714dff620b", func := "bodega/bodegalaw8.LogrecLogs", spec := "logrecLogs", unfollowed := true, recurses := true, apart := false }
def LogrecLogsSaid : Prop := logrecLogsRow.holds Try.pinned (OpenSpec.ofChange logrecLogsSpec)

/-- ITS FALSE NEIGHBOUR: 'it returns false'. Refute it at one input. -/
def logrecLogsWrong : ChangeSpec := { name := "logrecLogs", fn := fun _ => fun
  | [d1, d2, d3, d4, d5, d6, d7, d8, d9] => { results := [.lit (.bool false)], args := [d1, d2, d3, d4, d5, d6, d7, d8, d9] }
  | _ => none }
def LogrecLogsWrongFalsely : Prop := logrecLogsRow.holds Try.pinned (OpenSpec.ofChange logrecLogsWrong)

/-- 'bodegalaw8.LogrecTorn': WHATEVER THE INPUT: true; the input reads as it did. -/
def logrecTornSpec : ChangeSpec := { name := "logrecTorn", fn := fun _ => fun
  | [d1, d2, d3, d4, d5] => { results := [.lit (.bool true)], args := [d1, d2, d3, d4, d5] }
  | _ => none }
def logrecTornRow : OpenClaim := { program := "ytccgnekcbdkilaa", sum := "82a4e45691bb6c7943734e2156d20551863028bd1d381b2dcd80a6714dff620b", func := "bodega/bodegalaw8.LogrecTorn", spec := "logrecTorn", unfollowed := true, recurses := true, apart := false }
def LogrecTornSaid : Prop := logrecTornRow.holds Try.pinned (OpenSpec.ofChange logrecTornSpec)

/-- ITS FALSE NEIGHBOUR: 'it returns false'. Refute it at one input. -/
def logrecTornWrong : ChangeSpec := { name := "logrecTorn", fn := fun _ => fun
  | [d1, d2, d3, d4, d5] => { results := [.lit (.bool false)], args := [d1, d2, d3, d4, d5] }
  | _ => none }
def LogrecTornWrongFalsely : Prop := logrecTornRow.holds Try.pinned (OpenSpec.ofChange logrecTornWrong)

/- THE SECOND FORM. 'bulk': how many values and letters a reading holds, each counted each time it is reached (what is shared counts as often as it is met; a slice's spare places count too). A statement '..UptoSaid' is the law's where the arguments, and the package variables that the reading takes, are together of bulk at most 1048576: NARROWER than '..Said'. Prove '..Said' where nothing that the law and all that it calls make is longer than what came in: it says more and counts as full. Else prove '..UptoSaid'. A law counts once. -/
mutual
def uptoBulk {H : Type} : DataW H → Nat
  | .lit (.string bytes) => bytes.length + 1
  | .lit _ => 1
  | .nil => 1
  | .ptr d => uptoBulk d + 1
  | .slice elems spare => uptoBulkAll elems + uptoBulkAll spare + 1
  | .agg parts => uptoBulkAll parts + 1
  | .iface _ d => uptoBulk d + 1
  | .map entries => uptoBulkEntries entries + 1
  | .held _ => 1
def uptoBulkAll {H : Type} : List (DataW H) → Nat
  | [] => 0
  | d :: r => uptoBulk d + uptoBulkAll r
def uptoBulkEntries {H : Type} : List (Lit × DataW H) → Nat
  | [] => 0
  | x :: r => uptoBulkEntry x + uptoBulkEntries r
def uptoBulkEntry {H : Type} : Lit × DataW H → Nat
  | (.string bytes, d) => bytes.length + uptoBulk d + 1
  | (_, d) => uptoBulk d + 1
 end
def uptoSmall : (H : Type) → List (DataW H) → Bool := fun _ ds => decide (uptoBulkAll ds ≤ 1048576)
def OpenSpec.upto (s : _root_.Go.ChangeSpec) : _root_.Go.OpenSpec := { _root_.Go.OpenSpec.ofChange s with cond := some uptoSmall }

/-- 'bodegalaw8.LogrecValid', WHERE WHAT IT READS IS OF BULK AT MOST 1048576: true; the input reads as it did. -/
def logrecValidUptoRow : OpenClaim := { program := "ytccgnekcbdkilaa", sum := "82a4e45691bb6c7943734e2156d20551863028bd1d381b2dcd80a6714dff620b", func := "bodega/bodegalaw8.LogrecValid", spec := "logrecValid", unfollowed := true, recurses := true, apart := false, narrowed := true }
def LogrecValidUptoSaid : Prop := logrecValidUptoRow.holds Try.pinned (OpenSpec.upto logrecValidSpec)

/-- 'bodegalaw8.LogrecBodies', WHERE WHAT IT READS IS OF BULK AT MOST 1048576: true; the input reads as it did. -/
def logrecBodiesUptoRow : OpenClaim := { program := "ytccgnekcbdkilaa", sum := "82a4e45691bb6c7943734e2156d20551863028bd1d381b2dcd80a6714dff620b", func := "bodega/bodegalaw8.LogrecBodies", spec := "logrecBodies", unfollowed := true, recurses := true, apart := false, narrowed := true }
def LogrecBodiesUptoSaid : Prop := logrecBodiesUptoRow.holds Try.pinned (OpenSpec.upto logrecBodiesSpec)

/-- 'bodegalaw8.LogrecBack', WHERE WHAT IT READS IS OF BULK AT MOST 1048576: true; the input reads as it did. -/
def logrecBackUptoRow : OpenClaim := { program := "ytccgnekcbdkilaa", sum := "82a4e45691bb6c7943734e2156d20551863028bd1d381b2dcd80a6714dff620b", func := "bodega/bodegalaw8.LogrecBack", spec := "logrecBack", unfollowed := true, recurses := true, apart := false, narrowed := true }
def LogrecBackUptoSaid : Prop := logrecBackUptoRow.holds Try.pinned (OpenSpec.upto logrecBackSpec)

/-- 'bodegalaw8.LogrecPages', WHERE WHAT IT READS IS OF BULK AT MOST 1048576: true; the input reads as it did. -/
def logrecPagesUptoRow : OpenClaim := { program := "ytccgnekcbdkilaa", sum := "82a4e45691bb6c7943734e2156d20551863028bd1d381b2dcd80a6714dff620b", func := "bodega/bodegalaw8.LogrecPages", spec := "logrecPages", unfollowed := true, recurses := true, apart := false, narrowed := true }
def LogrecPagesUptoSaid : Prop := logrecPagesUptoRow.holds Try.pinned (OpenSpec.upto logrecPagesSpec)

/-- 'bodegalaw8.LogrecLogs', WHERE WHAT IT READS IS OF BULK AT MOST 1048576: true; the input reads as it did. -/
def logrecLogsUptoRow : OpenClaim := { program := "ytccgnekcbdkilaa", sum := "82a4e45691bb6c7943734e2156d20551863028bd1d381b2dcd80a6714dff620b", func := "bodega/bodegalaw8.LogrecLogs", spec := "logrecLogs", unfollowed := true, recurses := true, apart := false, narrowed := true }
def LogrecLogsUptoSaid : Prop := logrecLogsUptoRow.holds Try.pinned (OpenSpec.upto logrecLogsSpec)

/-- 'bodegalaw8.LogrecTorn', WHERE WHAT IT READS IS OF BULK AT MOST 1048576: true; the input reads as it did. -/
def logrecTornUptoRow : OpenClaim := { program := "ytccgnekcbdkilaa", sum := "82a4e45691bb6c7943734e2156d20551863028bd1d381b2dcd80a6714dff620b", func := "bodega/bodegalaw8.LogrecTorn", spec := "logrecTorn", unfollowed := true, recurses := true, apart := false, narrowed := true }
def LogrecTornUptoSaid : Prop := logrecTornUptoRow.holds Try.pinned (OpenSpec.upto logrecTornSpec)

end Rows
end Go.Proofs.Ytccgnekcbdkilaa
