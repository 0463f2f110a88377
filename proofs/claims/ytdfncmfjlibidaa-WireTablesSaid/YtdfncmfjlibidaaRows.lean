/-
  No cell of these rows narrows 'for every input' (looked for: loops, veiled, ifaces, maps, wideKeys, modest, calm, conditions, laid).
  DERIVED. THE GIVEN ROWS OF THIS SEAT. 5 by the template 'for every input the law returns true; each argument reads behind the call as it read before'; 0 by the template 'total and deterministic' (their statements: YtdfncmfjlibidaaTotals.lean).
  GIVEN WITH THE SEED: the statements are not yours to turn. If you find one false, say at which input.
  Laid BY PROGRAM, IN A SANDBOX (cutbox-rows.mjs): the forced cells as the released guide's own fill.sh prints them over the translation 9125506f6c0d103f… (all of the seat's roots in one cut). By AI agents, Wed Nov 11 2026. No macro, syntax, notation, axiom, sorry.
-/
import Derived.Test.YtdfncmfjlibidaaChecked
import GoSem.Claim
import GoSem.ClaimJoined
import GoSem.ClaimMapViews
import Derived.JoinedTies
import Derived.KernelRfl
namespace Go.Proofs.Ytdfncmfjlibidaa
/- THE CELL 'sum', in the pinned program and in every row, IS THE sha256 OF THE DUMP (.gsa) THAT YtdfncmfjlibidaaProg.lean LOADS. Nothing in Lean hashes anything: it is a label: what it is worth is what the hold of that sum in a sandbox is worth. -/
noncomputable def Try.pinned : Pinned := { name := "ytdfncmfjlibidaa", sum := "9125506f6c0d103f93f798974a1145e74dfb4e9509caf9f4df6aabc1019fa820", checked := Try.checked }
namespace Rows
def none {H : Type} : Left H := { results := [], args := [] }

/-- 'rostrumlaw01.WireSerials': WHATEVER THE INPUT: true; the input reads as it did. -/
def wireSerialsSpec : ChangeSpec := { name := "wireSerials", fn := fun _ => fun
  | [d1, d2, d3, d4] => { results := [.lit (.bool true)], args := [d1, d2, d3, d4] }
  | _ => none }
def wireSerialsRow : OpenClaim := { program := "ytdfncmfjlibidaa", sum := "9125506f6c0d103f93f798974a1145e74dfb4e9509caf9f4df6aabc1019fa820", func := "rostrum/rostrumlaw01.WireSerials", spec := "wireSerials", apart := false }
def WireSerialsSaid : Prop := wireSerialsRow.holds Try.pinned (OpenSpec.ofChange wireSerialsSpec)

/-- ITS FALSE NEIGHBOUR: 'it returns false'. Refute it at one input. -/
def wireSerialsWrong : ChangeSpec := { name := "wireSerials", fn := fun _ => fun
  | [d1, d2, d3, d4] => { results := [.lit (.bool false)], args := [d1, d2, d3, d4] }
  | _ => none }
def WireSerialsWrongFalsely : Prop := wireSerialsRow.holds Try.pinned (OpenSpec.ofChange wireSerialsWrong)

/-- 'rostrumlaw01.WireRings': WHATEVER THE INPUT: true; the input reads as it did. -/
def wireRingsSpec : ChangeSpec := { name := "wireRings", fn := fun _ => fun
  | [d1, d2, d3] => { results := [.lit (.bool true)], args := [d1, d2, d3] }
  | _ => none }
def wireRingsRow : OpenClaim := { program := "ytdfncmfjlibidaa", sum := "9125506f6c0d103f93f798974a1145e74dfb4e9509caf9f4df6aabc1019fa820", func := "rostrum/rostrumlaw01.WireRings", spec := "wireRings", unfollowed := true, recurses := true, apart := false }
def WireRingsSaid : Prop := wireRingsRow.holds Try.pinned (OpenSpec.ofChange wireRingsSpec)

/-- ITS FALSE NEIGHBOUR: 'it returns false'. Refute it at one input. -/
def wireRingsWrong : ChangeSpec := { name := "wireRings", fn := fun _ => fun
  | [d1, d2, d3] => { results := [.lit (.bool false)], args := [d1, d2, d3] }
  | _ => none }
def WireRingsWrongFalsely : Prop := wireRingsRow.holds Try.pinned (OpenSpec.ofChange wireRingsWrong)

/-- 'rostrumlaw01.WireTables': WHATEVER THE INPUT: true; the input reads as it did. -/
def wireTablesSpec : ChangeSpec := { name := "wireTables", fn := fun _ => fun
  | [d1, d2, d3] => { results := [.lit (.bool true)], args := [d1, d2, d3] }
  | _ => none }
def wireTablesRow : OpenClaim := { program := "ytdfncmfjlibidaa", sum := "9125506f6c0d103f93f798974a1145e74dfb4e9509caf9f4df6aabc1019fa820", func := "rostrum/rostrumlaw01.WireTables", spec := "wireTables", unfollowed := true, recurses := true, apart := false }
def WireTablesSaid : Prop := wireTablesRow.holds Try.pinned (OpenSpec.ofChange wireTablesSpec)

/-- ITS FALSE NEIGHBOUR: 'it returns false'. Refute it at one input. -/
def wireTablesWrong : ChangeSpec := { name := "wireTables", fn := fun _ => fun
  | [d1, d2, d3] => { results := [.lit (.bool false)], args := [d1, d2, d3] }
  | _ => none }
def WireTablesWrongFalsely : Prop := wireTablesRow.holds Try.pinned (OpenSpec.ofChange wireTablesWrong)

/-- 'rostrumlaw01.WireTurned': WHATEVER THE INPUT: true; the input reads as it did. -/
def wireTurnedSpec : ChangeSpec := { name := "wireTurned", fn := fun _ => fun
  | [d1, d2] => { results := [.lit (.bool true)], args := [d1, d2] }
  | _ => none }
def wireTurnedRow : OpenClaim := { program := "ytdfncmfjlibidaa", sum := "9125506f6c0d103f93f798974a1145e74dfb4e9509caf9f4df6aabc1019fa820", func := "rostrum/rostrumlaw01.WireTurned", spec := "wireTurned", unfollowed := true, recurses := true, apart := false }
def WireTurnedSaid : Prop := wireTurnedRow.holds Try.pinned (OpenSpec.ofChange wireTurnedSpec)

/-- ITS FALSE NEIGHBOUR: 'it returns false'. Refute it at one input. -/
def wireTurnedWrong : ChangeSpec := { name := "wireTurned", fn := fun _ => fun
  | [d1, d2] => { results := [.lit (.bool false)], args := [d1, d2] }
  | _ => none }
def WireTurnedWrongFalsely : Prop := wireTurnedRow.holds Try.pinned (OpenSpec.ofChange wireTurnedWrong)

/-- 'rostrumlaw01.WireKeeps': WHATEVER THE INPUT: true; the input reads as it did. -/
def wireKeepsSpec : ChangeSpec := { name := "wireKeeps", fn := fun _ => fun
  | [d] => { results := [.lit (.bool true)], args := [d] }
  | _ => none }
def wireKeepsRow : OpenClaim := { program := "ytdfncmfjlibidaa", sum := "9125506f6c0d103f93f798974a1145e74dfb4e9509caf9f4df6aabc1019fa820", func := "rostrum/rostrumlaw01.WireKeeps", spec := "wireKeeps", unfollowed := true, recurses := true, apart := false }
def WireKeepsSaid : Prop := wireKeepsRow.holds Try.pinned (OpenSpec.ofChange wireKeepsSpec)

/-- ITS FALSE NEIGHBOUR: 'it returns false'. Refute it at one input. -/
def wireKeepsWrong : ChangeSpec := { name := "wireKeeps", fn := fun _ => fun
  | [d] => { results := [.lit (.bool false)], args := [d] }
  | _ => none }
def WireKeepsWrongFalsely : Prop := wireKeepsRow.holds Try.pinned (OpenSpec.ofChange wireKeepsWrong)

/- THE SECOND FORM. 'bulk': how many values and letters a reading holds, each counted each time it is reached (what is shared counts as often as it is met; a slice's spare places count too). A statement '..UptoSaid' is the law's where the arguments, and the package variables that the reading takes, are together of bulk at most 1048576: NARROWER than '..Said'. Prove '..Said' where nothing that the law and all that it calls make is longer than what came in: it says more and counts as full. Else prove '..UptoSaid'. A law counts once. -/
mutual
def uptoBulk {H : Type} : DataW H → Nat
  | .lit (.string bytes) => bytes.length + 1
  | .lit _ => 1
  | .nil => 1
  | .ptr d => uptoBulk d + 1
  | .slice elems spare => uptoBulkAll elems + uptoBulkAll spare + 1
  | .agg parts => uptoBulkAll parts + 1
  | .iface _ d => uptoBulk d + 1
  | .map entries => uptoBulkEntries entries + 1
  | .held _ => 1
def uptoBulkAll {H : Type} : List (DataW H) → Nat
  | [] => 0
  | d :: r => uptoBulk d + uptoBulkAll r
def uptoBulkEntries {H : Type} : List (Lit × DataW H) → Nat
  | [] => 0
  | x :: r => uptoBulkEntry x + uptoBulkEntries r
def uptoBulkEntry {H : Type} : Lit × DataW H → Nat
  | (.string bytes, d) => bytes.length + uptoBulk d + 1
  | (_, d) => uptoBulk d + 1
 end
def uptoSmall : (H : Type) → List (DataW H) → Bool := fun _ ds => decide (uptoBulkAll ds ≤ 1048576)
def OpenSpec.upto (s : _root_.Go.ChangeSpec) : _root_.Go.OpenSpec := { _root_.Go.OpenSpec.ofChange s with cond := some uptoSmall }

/-- 'rostrumlaw01.WireSerials', WHERE WHAT IT READS IS OF BULK AT MOST 1048576: true; the input reads as it did. -/
def wireSerialsUptoRow : OpenClaim := { program := "ytdfncmfjlibidaa", sum := "9125506f6c0d103f93f798974a1145e74dfb4e9509caf9f4df6aabc1019fa820", func := "rostrum/rostrumlaw01.WireSerials", spec := "wireSerials", apart := false, narrowed := true }
def WireSerialsUptoSaid : Prop := wireSerialsUptoRow.holds Try.pinned (OpenSpec.upto wireSerialsSpec)

/-- 'rostrumlaw01.WireRings', WHERE WHAT IT READS IS OF BULK AT MOST 1048576: true; the input reads as it did. -/
def wireRingsUptoRow : OpenClaim := { program := "ytdfncmfjlibidaa", sum := "9125506f6c0d103f93f798974a1145e74dfb4e9509caf9f4df6aabc1019fa820", func := "rostrum/rostrumlaw01.WireRings", spec := "wireRings", unfollowed := true, recurses := true, apart := false, narrowed := true }
def WireRingsUptoSaid : Prop := wireRingsUptoRow.holds Try.pinned (OpenSpec.upto wireRingsSpec)

/-- 'rostrumlaw01.WireTables', WHERE WHAT IT READS IS OF BULK AT MOST 1048576: true; the input reads as it did. -/
def wireTablesUptoRow : OpenClaim := { program := "ytdfncmfjlibidaa", sum := "9125506f6c0d103f93f798974a1145e74dfb4e9509caf9f4df6aabc1019fa820", func := "rostrum/rostrumlaw01.WireTables", spec := "wireTables", unfollowed := true, recurses := true, apart := false, narrowed := true }
def WireTablesUptoSaid : Prop := wireTablesUptoRow.holds Try.pinned (OpenSpec.upto wireTablesSpec)

/-- 'rostrumlaw01.WireTurned', WHERE WHAT IT READS IS OF BULK AT MOST 1048576: true; the input reads as it did. -/
def wireTurnedUptoRow : OpenClaim := { program := "ytdfncmfjlibidaa", sum := "9125506f6c0d103f93f798974a1145e74dfb4e9509caf9f4df6aabc1019fa820", func := "rostrum/rostrumlaw01.WireTurned", spec := "wireTurned", unfollowed := true, recurses := true, apart := false, narrowed := true }
def WireTurnedUptoSaid : Prop := wireTurnedUptoRow.holds Try.pinned (OpenSpec.upto wireTurnedSpec)

/-- 'rostrumlaw01.WireKeeps', WHERE WHAT IT READS IS OF BULK AT MOST 1048576: true; the input reads as it did. -/
def wireKeepsUptoRow : OpenClaim := { program := "ytdfncmfjlibidaa", sum := "9125506f6c0d103f93f798974a1145e74dfb4e9509caf9f4df6aabc1019fa820", func := "rostrum/rostrumlaw01.WireKeeps", spec := "wireKeeps", unfollowed := true, recurses := true, apart := false, narrowed := true }
def WireKeepsUptoSaid : Prop := wireKeepsUptoRow.holds Try.pinned (OpenSpec.upto wireKeepsSpec)

end Rows
end Go.Proofs.Ytdfncmfjlibidaa
