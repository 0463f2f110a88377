/-
  No cell of these rows narrows 'for every input' (looked for: loops, veiled, ifaces, maps, wideKeys, modest, calm, conditions, laid).
  DERIVED. THE GIVEN ROWS OF THIS SEAT. 6 by the template 'for every input the law returns true; each argument reads behind the call as it read before'; 0 by the template 'total and deterministic' (their statements: YtggammbhmoippaaTotals.lean).
  GIVEN WITH THE SEED: the statements are not yours to turn. If you find one false, say at which input.
  Laid BY PROGRAM, IN A SANDBOX (cutbox-rows.mjs): the forced cells as the released guide's own fill.sh prints them over the translation afbbef762d568bc7… (all of the seat's roots in one cut). By AI agents, Wed Nov 11 2026. No macro, syntax, notation, axiom, sorry.
-/
import Derived.Test.YtggammbhmoippaaChecked
import GoSem.Claim
import GoSem.ClaimJoined
import GoSem.ClaimMapViews
import Derived.JoinedTies
import Derived.KernelRfl
namespace Go.Proofs.Ytggammbhmoippaa
/- THE CELL 'sum', in the pinned program and in every row, IS THE sha256 OF THE DUMP (.gsa) THAT YtggammbhmoippaaProg.lean LOADS. Nothing in Lean hashes anything: it is a label: what it is worth is what the hold of that sum in a sandbox is worth. -/
noncomputable def Try.pinned : Pinned := { name := "ytggammbhmoippaa", sum := "afbbef762d568bc7b35792763873d01e99517025ad0a518f823fdf2f968ca85f", checked := Try.checked }
namespace Rows
def none {H : Type} : Left H := { results := [], args := [] }

/-- 'rostrumlaw04.StunBuilds': WHATEVER THE INPUT: true; the input reads as it did. -/
def stunBuildsSpec : ChangeSpec := { name := "stunBuilds", fn := fun _ => fun
  | [d] => { results := [.lit (.bool true)], args := [d] }
  | _ => none }
def stunBuildsRow : OpenClaim := { program := "ytggammbhmoippaa", sum := "afbbef762d568bc7b35792763873d01e99517025ad0a518f823fdf2f968ca85f", func := "rostrum/rostrumlaw04.StunBuilds", spec := "stunBuilds", apart := false }
def StunBuildsSaid : Prop := stunBuildsRow.holds Try.pinned (OpenSpec.ofChange stunBuildsSpec)

/-- ITS FALSE NEIGHBOUR: 'it returns false'. Refute it at one input. -/
def stunBuildsWrong : ChangeSpec := { name := "stunBuilds", fn := fun _ => fun
  | [d] => { results := [.lit (.bool false)], args := [d] }
  | _ => none }
def StunBuildsWrongFalsely : Prop := stunBuildsRow.holds Try.pinned (OpenSpec.ofChange stunBuildsWrong)

/-- 'rostrumlaw04.StunParses': WHATEVER THE INPUT: true; the input reads as it did. -/
def stunParsesSpec : ChangeSpec := { name := "stunParses", fn := fun _ => fun
  | [d] => { results := [.lit (.bool true)], args := [d] }
  | _ => none }
def stunParsesRow : OpenClaim := { program := "ytggammbhmoippaa", sum := "afbbef762d568bc7b35792763873d01e99517025ad0a518f823fdf2f968ca85f", func := "rostrum/rostrumlaw04.StunParses", spec := "stunParses", apart := false }
def StunParsesSaid : Prop := stunParsesRow.holds Try.pinned (OpenSpec.ofChange stunParsesSpec)

/-- ITS FALSE NEIGHBOUR: 'it returns false'. Refute it at one input. -/
def stunParsesWrong : ChangeSpec := { name := "stunParses", fn := fun _ => fun
  | [d] => { results := [.lit (.bool false)], args := [d] }
  | _ => none }
def StunParsesWrongFalsely : Prop := stunParsesRow.holds Try.pinned (OpenSpec.ofChange stunParsesWrong)

/-- 'rostrumlaw04.StunParts': WHATEVER THE INPUT: true; the input reads as it did. -/
def stunPartsSpec : ChangeSpec := { name := "stunParts", fn := fun _ => fun
  | [d1, d2, d3, d4, d5] => { results := [.lit (.bool true)], args := [d1, d2, d3, d4, d5] }
  | _ => none }
def stunPartsRow : OpenClaim := { program := "ytggammbhmoippaa", sum := "afbbef762d568bc7b35792763873d01e99517025ad0a518f823fdf2f968ca85f", func := "rostrum/rostrumlaw04.StunParts", spec := "stunParts", apart := false }
def StunPartsSaid : Prop := stunPartsRow.holds Try.pinned (OpenSpec.ofChange stunPartsSpec)

/-- ITS FALSE NEIGHBOUR: 'it returns false'. Refute it at one input. -/
def stunPartsWrong : ChangeSpec := { name := "stunParts", fn := fun _ => fun
  | [d1, d2, d3, d4, d5] => { results := [.lit (.bool false)], args := [d1, d2, d3, d4, d5] }
  | _ => none }
def StunPartsWrongFalsely : Prop := stunPartsRow.holds Try.pinned (OpenSpec.ofChange stunPartsWrong)

/-- 'rostrumlaw04.StunBack': WHATEVER THE INPUT: true; the input reads as it did. -/
def stunBackSpec : ChangeSpec := { name := "stunBack", fn := fun _ => fun
  | [d1, d2] => { results := [.lit (.bool true)], args := [d1, d2] }
  | _ => none }
def stunBackRow : OpenClaim := { program := "ytggammbhmoippaa", sum := "afbbef762d568bc7b35792763873d01e99517025ad0a518f823fdf2f968ca85f", func := "rostrum/rostrumlaw04.StunBack", spec := "stunBack", apart := false }
def StunBackSaid : Prop := stunBackRow.holds Try.pinned (OpenSpec.ofChange stunBackSpec)

/-- ITS FALSE NEIGHBOUR: 'it returns false'. Refute it at one input. -/
def stunBackWrong : ChangeSpec := { name := "stunBack", fn := fun _ => fun
  | [d1, d2] => { results := [.lit (.bool false)], args := [d1, d2] }
  | _ => none }
def StunBackWrongFalsely : Prop := stunBackRow.holds Try.pinned (OpenSpec.ofChange stunBackWrong)

/-- 'rostrumlaw04.StunSigns': WHATEVER THE INPUT: true; the input reads as it did. -/
def stunSignsSpec : ChangeSpec := { name := "stunSigns", fn := fun _ => fun
  | [d1, d2] => { results := [.lit (.bool true)], args := [d1, d2] }
  | _ => none }
def stunSignsRow : OpenClaim := { program := "ytggammbhmoippaa", sum := "afbbef762d568bc7b35792763873d01e99517025ad0a518f823fdf2f968ca85f", func := "rostrum/rostrumlaw04.StunSigns", spec := "stunSigns", unfollowed := true, recurses := true, apart := false }
def StunSignsSaid : Prop := stunSignsRow.holds Try.pinned (OpenSpec.ofChange stunSignsSpec)

/-- ITS FALSE NEIGHBOUR: 'it returns false'. Refute it at one input. -/
def stunSignsWrong : ChangeSpec := { name := "stunSigns", fn := fun _ => fun
  | [d1, d2] => { results := [.lit (.bool false)], args := [d1, d2] }
  | _ => none }
def StunSignsWrongFalsely : Prop := stunSignsRow.holds Try.pinned (OpenSpec.ofChange stunSignsWrong)

/-- 'rostrumlaw04.StunChecks': WHATEVER THE INPUT: true; the input reads as it did. -/
def stunChecksSpec : ChangeSpec := { name := "stunChecks", fn := fun _ => fun
  | [d1, d2, d3, d4, d5, d6] => { results := [.lit (.bool true)], args := [d1, d2, d3, d4, d5, d6] }
  | _ => none }
def stunChecksRow : OpenClaim := { program := "ytggammbhmoippaa", sum := "afbbef762d568bc7b35792763873d01e99517025ad0a518f823fdf2f968ca85f", func := "rostrum/rostrumlaw04.StunChecks", spec := "stunChecks", unfollowed := true, recurses := true, apart := false }
def StunChecksSaid : Prop := stunChecksRow.holds Try.pinned (OpenSpec.ofChange stunChecksSpec)

/-- ITS FALSE NEIGHBOUR: 'it returns false'. Refute it at one input. -/
def stunChecksWrong : ChangeSpec := { name := "stunChecks", fn := fun _ => fun
  | [d1, d2, d3, d4, d5, d6] => { results := [.lit (.bool false)], args := [d1, d2, d3, d4, d5, d6] }
  | _ => none }
def StunChecksWrongFalsely : Prop := stunChecksRow.holds Try.pinned (OpenSpec.ofChange stunChecksWrong)

/- THE SECOND FORM. 'bulk': how many values and letters a reading holds, each counted each time it is reached (what is shared counts as often as it is met; a slice's spare places count too). A statement '..UptoSaid' is the law's where the arguments, and the package variables that the reading takes, are together of bulk at most 1048576: NARROWER than '..Said'. Prove '..Said' where nothing that the law and all that it calls make is longer than what came in: it says more and counts as full. Else prove '..UptoSaid'. A law counts once. -/
mutual
def uptoBulk {H : Type} : DataW H → Nat
  | .lit (.string bytes) => bytes.length + 1
  | .lit _ => 1
  | .nil => 1
  | .ptr d => uptoBulk d + 1
  | .slice elems spare => uptoBulkAll elems + uptoBulkAll spare + 1
  | .agg parts => uptoBulkAll parts + 1
  | .iface _ d => uptoBulk d + 1
  | .map entries => uptoBulkEntries entries + 1
  | .held _ => 1
def uptoBulkAll {H : Type} : List (DataW H) → Nat
  | [] => 0
  | d :: r => uptoBulk d + uptoBulkAll r
def uptoBulkEntries {H : Type} : List (Lit × DataW H) → Nat
  | [] => 0
  | x :: r => uptoBulkEntry x + uptoBulkEntries r
def uptoBulkEntry {H : Type} : Lit × DataW H → Nat
  | (.string bytes, d) => bytes.length + uptoBulk d + 1
  | (_, d) => uptoBulk d + 1
 end
def uptoSmall : (H : Type) → List (DataW H) → Bool := fun _ ds => decide (uptoBulkAll ds ≤ 1048576)
def OpenSpec.upto (s : _root_.Go.ChangeSpec) : _root_.Go.OpenSpec := { _root_.Go.OpenSpec.ofChange s with cond := some uptoSmall }

/-- 'rostrumlaw04.StunBuilds', WHERE WHAT IT READS IS OF BULK AT MOST 1048576: true; the input reads as it did. -/
def stunBuildsUptoRow : OpenClaim := { program := "ytggammbhmoippaa", sum := "afbbef762d568bc7b35792763873d01e99517025ad0a518f823fdf2f968ca85f", func := "rostrum/rostrumlaw04.StunBuilds", spec := "stunBuilds", apart := false, narrowed := true }
def StunBuildsUptoSaid : Prop := stunBuildsUptoRow.holds Try.pinned (OpenSpec.upto stunBuildsSpec)

/-- 'rostrumlaw04.StunParses', WHERE WHAT IT READS IS OF BULK AT MOST 1048576: true; the input reads as it did. -/
def stunParsesUptoRow : OpenClaim := { program := "ytggammbhmoippaa", sum := "afbbef762d568bc7b35792763873d01e99517025ad0a518f823fdf2f968ca85f", func := "rostrum/rostrumlaw04.StunParses", spec := "stunParses", apart := false, narrowed := true }
def StunParsesUptoSaid : Prop := stunParsesUptoRow.holds Try.pinned (OpenSpec.upto stunParsesSpec)

/-- 'rostrumlaw04.StunParts', WHERE WHAT IT READS IS OF BULK AT MOST 1048576: true; the input reads as it did. -/
def stunPartsUptoRow : OpenClaim := { program := "ytggammbhmoippaa", sum := "afbbef762d568bc7b35792763873d01e99517025ad0a518f823fdf2f968ca85f", func := "rostrum/rostrumlaw04.StunParts", spec := "stunParts", apart := false, narrowed := true }
def StunPartsUptoSaid : Prop := stunPartsUptoRow.holds Try.pinned (OpenSpec.upto stunPartsSpec)

/-- 'rostrumlaw04.StunBack', WHERE WHAT IT READS IS OF BULK AT MOST 1048576: true; the input reads as it did. -/
def stunBackUptoRow : OpenClaim := { program := "ytggammbhmoippaa", sum := "afbbef762d568bc7b35792763873d01e99517025ad0a518f823fdf2f968ca85f", func := "rostrum/rostrumlaw04.StunBack", spec := "stunBack", apart := false, narrowed := true }
def StunBackUptoSaid : Prop := stunBackUptoRow.holds Try.pinned (OpenSpec.upto stunBackSpec)

/-- 'rostrumlaw04.StunSigns', WHERE WHAT IT READS IS OF BULK AT MOST 1048576: true; the input reads as it did. -/
def stunSignsUptoRow : OpenClaim := { program := "ytggammbhmoippaa", sum := "afbbef762d568bc7b35792763873d01e99517025ad0a518f823fdf2f968ca85f", func := "rostrum/rostrumlaw04.StunSigns", spec := "stunSigns", unfollowed := true, recurses := true, apart := false, narrowed := true }
def StunSignsUptoSaid : Prop := stunSignsUptoRow.holds Try.pinned (OpenSpec.upto stunSignsSpec)

/-- 'rostrumlaw04.StunChecks', WHERE WHAT IT READS IS OF BULK AT MOST 1048576: true; the input reads as it did. -/
def stunChecksUptoRow : OpenClaim := { program := "ytggammbhmoippaa", sum := "afbbef762d568bc7b35792763873d01e99517025ad0a518f823fdf2f968ca85f", func := "rostrum/rostrumlaw04.StunChecks", spec := "stunChecks", unfollowed := true, recurses := true, apart := false, narrowed := true }
def StunChecksUptoSaid : Prop := stunChecksUptoRow.holds Try.pinned (OpenSpec.upto stunChecksSpec)

end Rows
end Go.Proofs.Ytggammbhmoippaa
