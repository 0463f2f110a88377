/-
  No cell of these rows narrows 'for every input' (looked for: loops, veiled, ifaces, maps, wideKeys, modest, calm, conditions, laid).
  DERIVED. THE GIVEN ROWS OF THIS SEAT. 4 by the template 'for every input the law returns true; each argument reads behind the call as it read before'; 0 by the template 'total and deterministic' (their statements: YtpmplnkempcmjaaTotals.lean).
  GIVEN WITH THE SEED: the statements are not yours to turn. If you find one false, say at which input.
  Laid BY PROGRAM, IN A SANDBOX (cutbox-rows.mjs): the forced cells as the released guide's own fill.sh prints them over the translation 329206f1ff35387d… (all of the seat's roots in one cut). By AI agents, Wed Nov 11 2026. No macro, syntax, notation, axiom, sorry.
-/
import Derived.Test.YtpmplnkempcmjaaChecked
import GoSem.Claim
import GoSem.ClaimJoined
import GoSem.ClaimMapViews
import Derived.JoinedTies
import Derived.KernelRfl
namespace Go.Proofs.Ytpmplnkempcmjaa
/- THE CELL 'sum', in the pinned program and in every row, IS THE sha256 OF THE DUMP (.gsa) THAT YtpmplnkempcmjaaProg.lean LOADS. Nothing in Lean hashes anything: it is a label: what it is worth is what the hold of that sum in a sandbox is worth. -/
noncomputable def Try.pinned : Pinned := { name := "ytpmplnkempcmjaa", sum := "329206f1ff35387d96c8a04a1a311dc688c21d2299a5c8ffb9eb39e221522a5e", checked := Try.checked }
namespace Rows
def none {H : Type} : Left H := { results := [], args := [] }

/-- 'rostrumlaw05.IceFades': WHATEVER THE INPUT: true; the input reads as it did. -/
def iceFadesSpec : ChangeSpec := { name := "iceFades", fn := fun _ => fun
  | [d1, d2, d3] => { results := [.lit (.bool true)], args := [d1, d2, d3] }
  | _ => none }
def iceFadesRow : OpenClaim := { program := "ytpmplnkempcmjaa", sum := "329206f1ff35387d96c8a04a1a311dc688c21d2299a5c8ffb9eb39e221522a5e", func := "rostrum/rostrumlaw05.IceFades", spec := "iceFades", unfollowed := true, recurses := true, apart := false }
def IceFadesSaid : Prop := iceFadesRow.holds Try.pinned (OpenSpec.ofChange iceFadesSpec)

/-- ITS FALSE NEIGHBOUR: 'it returns false'. Refute it at one input. -/
def iceFadesWrong : ChangeSpec := { name := "iceFades", fn := fun _ => fun
  | [d1, d2, d3] => { results := [.lit (.bool false)], args := [d1, d2, d3] }
  | _ => none }
def IceFadesWrongFalsely : Prop := iceFadesRow.holds Try.pinned (OpenSpec.ofChange iceFadesWrong)

/-- 'rostrumlaw05.IceGuards': WHATEVER THE INPUT: true; the input reads as it did. -/
def iceGuardsSpec : ChangeSpec := { name := "iceGuards", fn := fun _ => fun
  | [d1, d2, d3] => { results := [.lit (.bool true)], args := [d1, d2, d3] }
  | _ => none }
def iceGuardsRow : OpenClaim := { program := "ytpmplnkempcmjaa", sum := "329206f1ff35387d96c8a04a1a311dc688c21d2299a5c8ffb9eb39e221522a5e", func := "rostrum/rostrumlaw05.IceGuards", spec := "iceGuards", unfollowed := true, recurses := true, apart := false }
def IceGuardsSaid : Prop := iceGuardsRow.holds Try.pinned (OpenSpec.ofChange iceGuardsSpec)

/-- ITS FALSE NEIGHBOUR: 'it returns false'. Refute it at one input. -/
def iceGuardsWrong : ChangeSpec := { name := "iceGuards", fn := fun _ => fun
  | [d1, d2, d3] => { results := [.lit (.bool false)], args := [d1, d2, d3] }
  | _ => none }
def IceGuardsWrongFalsely : Prop := iceGuardsRow.holds Try.pinned (OpenSpec.ofChange iceGuardsWrong)

/-- 'rostrumlaw05.IceNil': WHATEVER THE INPUT: true; the input reads as it did. -/
def iceNilSpec : ChangeSpec := { name := "iceNil", fn := fun _ => fun
  | [d1, d2, d3] => { results := [.lit (.bool true)], args := [d1, d2, d3] }
  | _ => none }
def iceNilRow : OpenClaim := { program := "ytpmplnkempcmjaa", sum := "329206f1ff35387d96c8a04a1a311dc688c21d2299a5c8ffb9eb39e221522a5e", func := "rostrum/rostrumlaw05.IceNil", spec := "iceNil", unfollowed := true, recurses := true, apart := false }
def IceNilSaid : Prop := iceNilRow.holds Try.pinned (OpenSpec.ofChange iceNilSpec)

/-- ITS FALSE NEIGHBOUR: 'it returns false'. Refute it at one input. -/
def iceNilWrong : ChangeSpec := { name := "iceNil", fn := fun _ => fun
  | [d1, d2, d3] => { results := [.lit (.bool false)], args := [d1, d2, d3] }
  | _ => none }
def IceNilWrongFalsely : Prop := iceNilRow.holds Try.pinned (OpenSpec.ofChange iceNilWrong)

/-- 'rostrumlaw05.IceFirsts': WHATEVER THE INPUT: true; the input reads as it did. -/
def iceFirstsSpec : ChangeSpec := { name := "iceFirsts", fn := fun _ => fun
  | [d] => { results := [.lit (.bool true)], args := [d] }
  | _ => none }
def iceFirstsRow : OpenClaim := { program := "ytpmplnkempcmjaa", sum := "329206f1ff35387d96c8a04a1a311dc688c21d2299a5c8ffb9eb39e221522a5e", func := "rostrum/rostrumlaw05.IceFirsts", spec := "iceFirsts", unfollowed := true, recurses := true, apart := false }
def IceFirstsSaid : Prop := iceFirstsRow.holds Try.pinned (OpenSpec.ofChange iceFirstsSpec)

/-- ITS FALSE NEIGHBOUR: 'it returns false'. Refute it at one input. -/
def iceFirstsWrong : ChangeSpec := { name := "iceFirsts", fn := fun _ => fun
  | [d] => { results := [.lit (.bool false)], args := [d] }
  | _ => none }
def IceFirstsWrongFalsely : Prop := iceFirstsRow.holds Try.pinned (OpenSpec.ofChange iceFirstsWrong)

/- THE SECOND FORM. 'bulk': how many values and letters a reading holds, each counted each time it is reached (what is shared counts as often as it is met; a slice's spare places count too). A statement '..UptoSaid' is the law's where the arguments, and the package variables that the reading takes, are together of bulk at most 1048576: NARROWER than '..Said'. Prove '..Said' where nothing that the law and all that it calls make is longer than what came in: it says more and counts as full. Else prove '..UptoSaid'. A law counts once. -/
mutual
def uptoBulk {H : Type} : DataW H → Nat
  | .lit (.string bytes) => bytes.length + 1
  | .lit _ => 1
  | .nil => 1
  | .ptr d => uptoBulk d + 1
  | .slice elems spare => uptoBulkAll elems + uptoBulkAll spare + 1
  | .agg parts => uptoBulkAll parts + 1
  | .iface _ d => uptoBulk d + 1
  | .map entries => uptoBulkEntries entries + 1
  | .held _ => 1
def uptoBulkAll {H : Type} : List (DataW H) → Nat
  | [] => 0
  | d :: r => uptoBulk d + uptoBulkAll r
def uptoBulkEntries {H : Type} : List (Lit × DataW H) → Nat
  | [] => 0
  | x :: r => uptoBulkEntry x + uptoBulkEntries r
def uptoBulkEntry {H : Type} : Lit × DataW H → Nat
  | (.string bytes, d) => bytes.length + uptoBulk d + 1
  | (_, d) => uptoBulk d + 1
 end
def uptoSmall : (H : Type) → List (DataW H) → Bool := fun _ ds => decide (uptoBulkAll ds ≤ 1048576)
def OpenSpec.upto (s : _root_.Go.ChangeSpec) : _root_.Go.OpenSpec := { _root_.Go.OpenSpec.ofChange s with cond := some uptoSmall }

/-- 'rostrumlaw05.IceFades', WHERE WHAT IT READS IS OF BULK AT MOST 1048576: true; the input reads as it did. -/
def iceFadesUptoRow : OpenClaim := { program := "ytpmplnkempcmjaa", sum := "329206f1ff35387d96c8a04a1a311dc688c21d2299a5c8ffb9eb39e221522a5e", func := "rostrum/rostrumlaw05.IceFades", spec := "iceFades", unfollowed := true, recurses := true, apart := false, narrowed := true }
def IceFadesUptoSaid : Prop := iceFadesUptoRow.holds Try.pinned (OpenSpec.upto iceFadesSpec)

/-- 'rostrumlaw05.IceGuards', WHERE WHAT IT READS IS OF BULK AT MOST 1048576: true; the input reads as it did. -/
def iceGuardsUptoRow : OpenClaim := { program := "ytpmplnkempcmjaa", sum := "329206f1ff35387d96c8a04a1a311dc688c21d2299a5c8ffb9eb39e221522a5e", func := "rostrum/rostrumlaw05.IceGuards", spec := "iceGuards", unfollowed := true, recurses := true, apart := false, narrowed := true }
def IceGuardsUptoSaid : Prop := iceGuardsUptoRow.holds Try.pinned (OpenSpec.upto iceGuardsSpec)

/-- 'rostrumlaw05.IceNil', WHERE WHAT IT READS IS OF BULK AT MOST 1048576: true; the input reads as it did. -/
def iceNilUptoRow : OpenClaim := { program := "ytpmplnkempcmjaa", sum := "329206f1ff35387d96c8a04a1a311dc688c21d2299a5c8ffb9eb39e221522a5e", func := "rostrum/rostrumlaw05.IceNil", spec := "iceNil", unfollowed := true, recurses := true, apart := false, narrowed := true }
def IceNilUptoSaid : Prop := iceNilUptoRow.holds Try.pinned (OpenSpec.upto iceNilSpec)

/-- 'rostrumlaw05.IceFirsts', WHERE WHAT IT READS IS OF BULK AT MOST 1048576: true; the input reads as it did. -/
def iceFirstsUptoRow : OpenClaim := { program := "ytpmplnkempcmjaa", sum := "329206f1ff35387d96c8a04a1a311dc688c21d2299a5c8ffb9eb39e221522a5e", func := "rostrum/rostrumlaw05.IceFirsts", spec := "iceFirsts", unfollowed := true, recurses := true, apart := false, narrowed := true }
def IceFirstsUptoSaid : Prop := iceFirstsUptoRow.holds Try.pinned (OpenSpec.upto iceFirstsSpec)

end Rows
end Go.Proofs.Ytpmplnkempcmjaa
