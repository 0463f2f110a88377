/-
  No cell of these rows narrows 'for every input' (looked for: loops, veiled, ifaces, maps, wideKeys, modest, calm, conditions, laid).
  DERIVED. THE GIVEN ROWS OF THIS SEAT. 7 by the template 'for every input the law returns true; each argument reads behind the call as it read before'; 0 by the template 'total and deterministic' (their statements: YtomplpdeeomehaaTotals.lean).
  GIVEN WITH THE SEED: the statements are not yours to turn. If you find one false, say at which input.
  Laid BY PROGRAM, IN A SANDBOX (cutbox-rows.mjs): the forced cells as the released guide's own fill.sh prints them over the translation 30db2a645dde4c0b… (all of the seat's roots in one cut). By AI agents, Wed Nov 11 2026. No macro, syntax, notation, axiom, sorry.
-/
import Derived.Test.YtomplpdeeomehaaChecked
import GoSem.Claim
import GoSem.ClaimJoined
import GoSem.ClaimMapViews
import Derived.JoinedTies
import Derived.KernelRfl
namespace Go.Proofs.Ytomplpdeeomehaa
/- THE CELL 'sum', in the pinned program and in every row, IS THE sha256 OF THE DUMP (.gsa) THAT YtomplpdeeomehaaProg.lean LOADS. Nothing in Lean hashes anything: it is a label: what it is worth is what the hold of that sum in a sandbox is worth. -/
noncomputable def Try.pinned : Pinned := { name := "ytomplpdeeomehaa", sum := "30db2a645dde4c0b35f26708f380ec4e890acef6600d795bd5310f9eb7353614", checked := Try.checked }
namespace Rows
def none {H : Type} : Left H := { results := [], args := [] }

/-- 'rostrumlaw20.AssocGuards': WHATEVER THE INPUT: true; the input reads as it did. -/
def assocGuardsSpec : ChangeSpec := { name := "assocGuards", fn := fun _ => fun
  | [d1, d2, d3] => { results := [.lit (.bool true)], args := [d1, d2, d3] }
  | _ => none }
def assocGuardsRow : OpenClaim := { program := "ytomplpdeeomehaa", sum := "30db2a645dde4c0b35f26708f380ec4e890acef6600d795bd5310f9eb7353614", func := "rostrum/rostrumlaw20.AssocGuards", spec := "assocGuards", unfollowed := true, recurses := true, apart := false }
def AssocGuardsSaid : Prop := assocGuardsRow.holds Try.pinned (OpenSpec.ofChange assocGuardsSpec)

/-- ITS FALSE NEIGHBOUR: 'it returns false'. Refute it at one input. -/
def assocGuardsWrong : ChangeSpec := { name := "assocGuards", fn := fun _ => fun
  | [d1, d2, d3] => { results := [.lit (.bool false)], args := [d1, d2, d3] }
  | _ => none }
def AssocGuardsWrongFalsely : Prop := assocGuardsRow.holds Try.pinned (OpenSpec.ofChange assocGuardsWrong)

/-- 'rostrumlaw20.AssocOrder': WHATEVER THE INPUT: true; the input reads as it did. -/
def assocOrderSpec : ChangeSpec := { name := "assocOrder", fn := fun _ => fun
  | [d1, d2, d3, d4, d5] => { results := [.lit (.bool true)], args := [d1, d2, d3, d4, d5] }
  | _ => none }
def assocOrderRow : OpenClaim := { program := "ytomplpdeeomehaa", sum := "30db2a645dde4c0b35f26708f380ec4e890acef6600d795bd5310f9eb7353614", func := "rostrum/rostrumlaw20.AssocOrder", spec := "assocOrder", unfollowed := true, recurses := true, apart := false }
def AssocOrderSaid : Prop := assocOrderRow.holds Try.pinned (OpenSpec.ofChange assocOrderSpec)

/-- ITS FALSE NEIGHBOUR: 'it returns false'. Refute it at one input. -/
def assocOrderWrong : ChangeSpec := { name := "assocOrder", fn := fun _ => fun
  | [d1, d2, d3, d4, d5] => { results := [.lit (.bool false)], args := [d1, d2, d3, d4, d5] }
  | _ => none }
def AssocOrderWrongFalsely : Prop := assocOrderRow.holds Try.pinned (OpenSpec.ofChange assocOrderWrong)

/-- 'rostrumlaw20.AssocFires': WHATEVER THE INPUT: true; the input reads as it did. -/
def assocFiresSpec : ChangeSpec := { name := "assocFires", fn := fun _ => fun
  | [d1, d2] => { results := [.lit (.bool true)], args := [d1, d2] }
  | _ => none }
def assocFiresRow : OpenClaim := { program := "ytomplpdeeomehaa", sum := "30db2a645dde4c0b35f26708f380ec4e890acef6600d795bd5310f9eb7353614", func := "rostrum/rostrumlaw20.AssocFires", spec := "assocFires", unfollowed := true, recurses := true, apart := false }
def AssocFiresSaid : Prop := assocFiresRow.holds Try.pinned (OpenSpec.ofChange assocFiresSpec)

/-- ITS FALSE NEIGHBOUR: 'it returns false'. Refute it at one input. -/
def assocFiresWrong : ChangeSpec := { name := "assocFires", fn := fun _ => fun
  | [d1, d2] => { results := [.lit (.bool false)], args := [d1, d2] }
  | _ => none }
def AssocFiresWrongFalsely : Prop := assocFiresRow.holds Try.pinned (OpenSpec.ofChange assocFiresWrong)

/-- 'rostrumlaw20.AssocAll': WHATEVER THE INPUT: true; the input reads as it did. -/
def assocAllSpec : ChangeSpec := { name := "assocAll", fn := fun _ => fun
  | [d1, d2, d3, d4, d5] => { results := [.lit (.bool true)], args := [d1, d2, d3, d4, d5] }
  | _ => none }
def assocAllRow : OpenClaim := { program := "ytomplpdeeomehaa", sum := "30db2a645dde4c0b35f26708f380ec4e890acef6600d795bd5310f9eb7353614", func := "rostrum/rostrumlaw20.AssocAll", spec := "assocAll", unfollowed := true, recurses := true, apart := false }
def AssocAllSaid : Prop := assocAllRow.holds Try.pinned (OpenSpec.ofChange assocAllSpec)

/-- ITS FALSE NEIGHBOUR: 'it returns false'. Refute it at one input. -/
def assocAllWrong : ChangeSpec := { name := "assocAll", fn := fun _ => fun
  | [d1, d2, d3, d4, d5] => { results := [.lit (.bool false)], args := [d1, d2, d3, d4, d5] }
  | _ => none }
def AssocAllWrongFalsely : Prop := assocAllRow.holds Try.pinned (OpenSpec.ofChange assocAllWrong)

/-- 'rostrumlaw20.AssocOpens': WHATEVER THE INPUT: true; the input reads as it did. -/
def assocOpensSpec : ChangeSpec := { name := "assocOpens", fn := fun _ => fun
  | [d1, d2, d3, d4, d5] => { results := [.lit (.bool true)], args := [d1, d2, d3, d4, d5] }
  | _ => none }
def assocOpensRow : OpenClaim := { program := "ytomplpdeeomehaa", sum := "30db2a645dde4c0b35f26708f380ec4e890acef6600d795bd5310f9eb7353614", func := "rostrum/rostrumlaw20.AssocOpens", spec := "assocOpens", unfollowed := true, recurses := true, apart := false }
def AssocOpensSaid : Prop := assocOpensRow.holds Try.pinned (OpenSpec.ofChange assocOpensSpec)

/-- ITS FALSE NEIGHBOUR: 'it returns false'. Refute it at one input. -/
def assocOpensWrong : ChangeSpec := { name := "assocOpens", fn := fun _ => fun
  | [d1, d2, d3, d4, d5] => { results := [.lit (.bool false)], args := [d1, d2, d3, d4, d5] }
  | _ => none }
def AssocOpensWrongFalsely : Prop := assocOpensRow.holds Try.pinned (OpenSpec.ofChange assocOpensWrong)

/-- 'rostrumlaw20.AssocWindow': WHATEVER THE INPUT: true; the input reads as it did. -/
def assocWindowSpec : ChangeSpec := { name := "assocWindow", fn := fun _ => fun
  | [d1, d2] => { results := [.lit (.bool true)], args := [d1, d2] }
  | _ => none }
def assocWindowRow : OpenClaim := { program := "ytomplpdeeomehaa", sum := "30db2a645dde4c0b35f26708f380ec4e890acef6600d795bd5310f9eb7353614", func := "rostrum/rostrumlaw20.AssocWindow", spec := "assocWindow", unfollowed := true, recurses := true, apart := false }
def AssocWindowSaid : Prop := assocWindowRow.holds Try.pinned (OpenSpec.ofChange assocWindowSpec)

/-- ITS FALSE NEIGHBOUR: 'it returns false'. Refute it at one input. -/
def assocWindowWrong : ChangeSpec := { name := "assocWindow", fn := fun _ => fun
  | [d1, d2] => { results := [.lit (.bool false)], args := [d1, d2] }
  | _ => none }
def AssocWindowWrongFalsely : Prop := assocWindowRow.holds Try.pinned (OpenSpec.ofChange assocWindowWrong)

/-- 'rostrumlaw20.AssocNil': WHATEVER THE INPUT: true; the input reads as it did. -/
def assocNilSpec : ChangeSpec := { name := "assocNil", fn := fun _ => fun
  | [d1, d2] => { results := [.lit (.bool true)], args := [d1, d2] }
  | _ => none }
def assocNilRow : OpenClaim := { program := "ytomplpdeeomehaa", sum := "30db2a645dde4c0b35f26708f380ec4e890acef6600d795bd5310f9eb7353614", func := "rostrum/rostrumlaw20.AssocNil", spec := "assocNil", unfollowed := true, recurses := true, apart := false }
def AssocNilSaid : Prop := assocNilRow.holds Try.pinned (OpenSpec.ofChange assocNilSpec)

/-- ITS FALSE NEIGHBOUR: 'it returns false'. Refute it at one input. -/
def assocNilWrong : ChangeSpec := { name := "assocNil", fn := fun _ => fun
  | [d1, d2] => { results := [.lit (.bool false)], args := [d1, d2] }
  | _ => none }
def AssocNilWrongFalsely : Prop := assocNilRow.holds Try.pinned (OpenSpec.ofChange assocNilWrong)

/- THE SECOND FORM. 'bulk': how many values and letters a reading holds, each counted each time it is reached (what is shared counts as often as it is met; a slice's spare places count too). A statement '..UptoSaid' is the law's where the arguments, and the package variables that the reading takes, are together of bulk at most 1048576: NARROWER than '..Said'. Prove '..Said' where nothing that the law and all that it calls make is longer than what came in: it says more and counts as full. Else prove '..UptoSaid'. A law counts once. -/
mutual
def uptoBulk {H : Type} : DataW H → Nat
  | .lit (.string bytes) => bytes.length + 1
  | .lit _ => 1
  | .nil => 1
  | .ptr d => uptoBulk d + 1
  | .slice elems spare => uptoBulkAll elems + uptoBulkAll spare + 1
  | .agg parts => uptoBulkAll parts + 1
  | .iface _ d => uptoBulk d + 1
  | .map entries => uptoBulkEntries entries + 1
  | .held _ => 1
def uptoBulkAll {H : Type} : List (DataW H) → Nat
  | [] => 0
  | d :: r => uptoBulk d + uptoBulkAll r
def uptoBulkEntries {H : Type} : List (Lit × DataW H) → Nat
  | [] => 0
  | x :: r => uptoBulkEntry x + uptoBulkEntries r
def uptoBulkEntry {H : Type} : Lit × DataW H → Nat
  | (.string bytes, d) => bytes.length + uptoBulk d + 1
  | (_, d) => uptoBulk d + 1
 end
def uptoSmall : (H : Type) → List (DataW H) → Bool := fun _ ds => decide (uptoBulkAll ds ≤ 1048576)
def OpenSpec.upto (s : _root_.Go.ChangeSpec) : _root_.Go.OpenSpec := { _root_.Go.OpenSpec.ofChange s with cond := some uptoSmall }

/-- 'rostrumlaw20.AssocGuards', WHERE WHAT IT READS IS OF BULK AT MOST 1048576: true; the input reads as it did. -/
def assocGuardsUptoRow : OpenClaim := { program := "ytomplpdeeomehaa", sum := "30db2a645dde4c0b35f26708f380ec4e890acef6600d795bd5310f9eb7353614", func := "rostrum/rostrumlaw20.AssocGuards", spec := "assocGuards", unfollowed := true, recurses := true, apart := false, narrowed := true }
def AssocGuardsUptoSaid : Prop := assocGuardsUptoRow.holds Try.pinned (OpenSpec.upto assocGuardsSpec)

/-- 'rostrumlaw20.AssocOrder', WHERE WHAT IT READS IS OF BULK AT MOST 1048576: true; the input reads as it did. -/
def assocOrderUptoRow : OpenClaim := { program := "ytomplpdeeomehaa", sum := "30db2a645dde4c0b35f26708f380ec4e890acef6600d795bd5310f9eb7353614", func := "rostrum/rostrumlaw20.AssocOrder", spec := "assocOrder", unfollowed := true, recurses := true, apart := false, narrowed := true }
def AssocOrderUptoSaid : Prop := assocOrderUptoRow.holds Try.pinned (OpenSpec.upto assocOrderSpec)

/-- 'rostrumlaw20.AssocFires', WHERE WHAT IT READS IS OF BULK AT MOST 1048576: true; the input reads as it did. -/
def assocFiresUptoRow : OpenClaim := { program := "ytomplpdeeomehaa", sum := "30db2a645dde4c0b35f26708f380ec4e890acef6600d795bd5310f9eb7353614", func := "rostrum/rostrumlaw20.AssocFires", spec := "assocFires", unfollowed := true, recurses := true, apart := false, narrowed := true }
def AssocFiresUptoSaid : Prop := assocFiresUptoRow.holds Try.pinned (OpenSpec.upto assocFiresSpec)

/-- 'rostrumlaw20.AssocAll', WHERE WHAT IT READS IS OF BULK AT MOST 1048576: true; the input reads as it did. -/
def assocAllUptoRow : OpenClaim := { program := "ytomplpdeeomehaa", sum := "30db2a645dde4c0b35f26708f380ec4e890acef6600d795bd5310f9eb7353614", func := "rostrum/rostrumlaw20.AssocAll", spec := "assocAll", unfollowed := true, recurses := true, apart := false, narrowed := true }
def AssocAllUptoSaid : Prop := assocAllUptoRow.holds Try.pinned (OpenSpec.upto assocAllSpec)

/-- 'rostrumlaw20.AssocOpens', WHERE WHAT IT READS IS OF BULK AT MOST 1048576: true; the input reads as it did. -/
def assocOpensUptoRow : OpenClaim := { program := "ytomplpdeeomehaa", sum := "30db2a645dde4c0b35f26708f380ec4e890acef6600d795bd5310f9eb7353614", func := "rostrum/rostrumlaw20.AssocOpens", spec := "assocOpens", unfollowed := true, recurses := true, apart := false, narrowed := true }
def AssocOpensUptoSaid : Prop := assocOpensUptoRow.holds Try.pinned (OpenSpec.upto assocOpensSpec)

/-- 'rostrumlaw20.AssocWindow', WHERE WHAT IT READS IS OF BULK AT MOST 1048576: true; the input reads as it did. -/
def assocWindowUptoRow : OpenClaim := { program := "ytomplpdeeomehaa", sum := "30db2a645dde4c0b35f26708f380ec4e890acef6600d795bd5310f9eb7353614", func := "rostrum/rostrumlaw20.AssocWindow", spec := "assocWindow", unfollowed := true, recurses := true, apart := false, narrowed := true }
def AssocWindowUptoSaid : Prop := assocWindowUptoRow.holds Try.pinned (OpenSpec.upto assocWindowSpec)

/-- 'rostrumlaw20.AssocNil', WHERE WHAT IT READS IS OF BULK AT MOST 1048576: true; the input reads as it did. -/
def assocNilUptoRow : OpenClaim := { program := "ytomplpdeeomehaa", sum := "30db2a645dde4c0b35f26708f380ec4e890acef6600d795bd5310f9eb7353614", func := "rostrum/rostrumlaw20.AssocNil", spec := "assocNil", unfollowed := true, recurses := true, apart := false, narrowed := true }
def AssocNilUptoSaid : Prop := assocNilUptoRow.holds Try.pinned (OpenSpec.upto assocNilSpec)

end Rows
end Go.Proofs.Ytomplpdeeomehaa
