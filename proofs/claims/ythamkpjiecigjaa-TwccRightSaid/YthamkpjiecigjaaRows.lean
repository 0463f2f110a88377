/-
  No cell of these rows narrows 'for every input' (looked for: loops, veiled, ifaces, maps, wideKeys, modest, calm, conditions, laid).
  DERIVED. THE GIVEN ROWS OF THIS SEAT. 3 by the template 'for every input the law returns true; each argument reads behind the call as it read before'; 0 by the template 'total and deterministic' (their statements: YthamkpjiecigjaaTotals.lean).
  GIVEN WITH THE SEED: the statements are not yours to turn. If you find one false, say at which input.
  Laid BY PROGRAM, IN A SANDBOX (cutbox-rows.mjs): the forced cells as the released guide's own fill.sh prints them over the translation 658286d687b1d63c… (all of the seat's roots in one cut). By AI agents, Wed Nov 11 2026. No macro, syntax, notation, axiom, sorry.
-/
import Derived.Test.YthamkpjiecigjaaChecked
import GoSem.Claim
import GoSem.ClaimJoined
import GoSem.ClaimMapViews
import Derived.JoinedTies
import Derived.KernelRfl
namespace Go.Proofs.Ythamkpjiecigjaa
/- THE CELL 'sum', in the pinned program and in every row, IS THE sha256 OF THE DUMP (.gsa) THAT YthamkpjiecigjaaProg.lean LOADS. Nothing in Lean hashes anything: it is a label: what it is worth is what the hold of that sum in a sandbox is worth. -/
noncomputable def Try.pinned : Pinned := { name := "ythamkpjiecigjaa", sum := "658286d687b1d63c185f0923433d38120988b328619c4a4cc94b60e4e3a700e9", checked := Try.checked }
namespace Rows
def none {H : Type} : Left H := { results := [], args := [] }

/-- 'rostrumlaw19.TwccFeeds': WHATEVER THE INPUT: true; the input reads as it did. -/
def twccFeedsSpec : ChangeSpec := { name := "twccFeeds", fn := fun _ => fun
  | [d1, d2, d3] => { results := [.lit (.bool true)], args := [d1, d2, d3] }
  | _ => none }
def twccFeedsRow : OpenClaim := { program := "ythamkpjiecigjaa", sum := "658286d687b1d63c185f0923433d38120988b328619c4a4cc94b60e4e3a700e9", func := "rostrum/rostrumlaw19.TwccFeeds", spec := "twccFeeds", unfollowed := true, recurses := true, apart := false }
def TwccFeedsSaid : Prop := twccFeedsRow.holds Try.pinned (OpenSpec.ofChange twccFeedsSpec)

/-- ITS FALSE NEIGHBOUR: 'it returns false'. Refute it at one input. -/
def twccFeedsWrong : ChangeSpec := { name := "twccFeeds", fn := fun _ => fun
  | [d1, d2, d3] => { results := [.lit (.bool false)], args := [d1, d2, d3] }
  | _ => none }
def TwccFeedsWrongFalsely : Prop := twccFeedsRow.holds Try.pinned (OpenSpec.ofChange twccFeedsWrong)

/-- 'rostrumlaw19.TwccRight': WHATEVER THE INPUT: true; the input reads as it did. -/
def twccRightSpec : ChangeSpec := { name := "twccRight", fn := fun _ => fun
  | [d] => { results := [.lit (.bool true)], args := [d] }
  | _ => none }
def twccRightRow : OpenClaim := { program := "ythamkpjiecigjaa", sum := "658286d687b1d63c185f0923433d38120988b328619c4a4cc94b60e4e3a700e9", func := "rostrum/rostrumlaw19.TwccRight", spec := "twccRight", unfollowed := true, recurses := true, apart := false }
def TwccRightSaid : Prop := twccRightRow.holds Try.pinned (OpenSpec.ofChange twccRightSpec)

/-- ITS FALSE NEIGHBOUR: 'it returns false'. Refute it at one input. -/
def twccRightWrong : ChangeSpec := { name := "twccRight", fn := fun _ => fun
  | [d] => { results := [.lit (.bool false)], args := [d] }
  | _ => none }
def TwccRightWrongFalsely : Prop := twccRightRow.holds Try.pinned (OpenSpec.ofChange twccRightWrong)

/-- 'rostrumlaw19.TwccNil': WHATEVER THE INPUT: true; the input reads as it did. -/
def twccNilSpec : ChangeSpec := { name := "twccNil", fn := fun _ => fun
  | [d1, d2] => { results := [.lit (.bool true)], args := [d1, d2] }
  | _ => none }
def twccNilRow : OpenClaim := { program := "ythamkpjiecigjaa", sum := "658286d687b1d63c185f0923433d38120988b328619c4a4cc94b60e4e3a700e9", func := "rostrum/rostrumlaw19.TwccNil", spec := "twccNil", unfollowed := true, recurses := true, apart := false }
def TwccNilSaid : Prop := twccNilRow.holds Try.pinned (OpenSpec.ofChange twccNilSpec)

/-- ITS FALSE NEIGHBOUR: 'it returns false'. Refute it at one input. -/
def twccNilWrong : ChangeSpec := { name := "twccNil", fn := fun _ => fun
  | [d1, d2] => { results := [.lit (.bool false)], args := [d1, d2] }
  | _ => none }
def TwccNilWrongFalsely : Prop := twccNilRow.holds Try.pinned (OpenSpec.ofChange twccNilWrong)

/- THE SECOND FORM. 'bulk': how many values and letters a reading holds, each counted each time it is reached (what is shared counts as often as it is met; a slice's spare places count too). A statement '..UptoSaid' is the law's where the arguments, and the package variables that the reading takes, are together of bulk at most 1048576: NARROWER than '..Said'. Prove '..Said' where nothing that the law and all that it calls make is longer than what came in: it says more and counts as full. Else prove '..UptoSaid'. A law counts once. -/
mutual
def uptoBulk {H : Type} : DataW H → Nat
  | .lit (.string bytes) => bytes.length + 1
  | .lit _ => 1
  | .nil => 1
  | .ptr d => uptoBulk d + 1
  | .slice elems spare => uptoBulkAll elems + uptoBulkAll spare + 1
  | .agg parts => uptoBulkAll parts + 1
  | .iface _ d => uptoBulk d + 1
  | .map entries => uptoBulkEntries entries + 1
  | .held _ => 1
def uptoBulkAll {H : Type} : List (DataW H) → Nat
  | [] => 0
  | d :: r => uptoBulk d + uptoBulkAll r
def uptoBulkEntries {H : Type} : List (Lit × DataW H) → Nat
  | [] => 0
  | x :: r => uptoBulkEntry x + uptoBulkEntries r
def uptoBulkEntry {H : Type} : Lit × DataW H → Nat
  | (.string bytes, d) => bytes.length + uptoBulk d + 1
  | (_, d) => uptoBulk d + 1
 end
def uptoSmall : (H : Type) → List (DataW H) → Bool := fun _ ds => decide (uptoBulkAll ds ≤ 1048576)
def OpenSpec.upto (s : _root_.Go.ChangeSpec) : _root_.Go.OpenSpec := { _root_.Go.OpenSpec.ofChange s with cond := some uptoSmall }

/-- 'rostrumlaw19.TwccFeeds', WHERE WHAT IT READS IS OF BULK AT MOST 1048576: true; the input reads as it did. -/
def twccFeedsUptoRow : OpenClaim := { program := "ythamkpjiecigjaa", sum := "658286d687b1d63c185f0923433d38120988b328619c4a4cc94b60e4e3a700e9", func := "rostrum/rostrumlaw19.TwccFeeds", spec := "twccFeeds", unfollowed := true, recurses := true, apart := false, narrowed := true }
def TwccFeedsUptoSaid : Prop := twccFeedsUptoRow.holds Try.pinned (OpenSpec.upto twccFeedsSpec)

/-- 'rostrumlaw19.TwccRight', WHERE WHAT IT READS IS OF BULK AT MOST 1048576: true; the input reads as it did. -/
def twccRightUptoRow : OpenClaim := { program := "ythamkpjiecigjaa", sum := "658286d687b1d63c185f0923433d38120988b328619c4a4cc94b60e4e3a700e9", func := "rostrum/rostrumlaw19.TwccRight", spec := "twccRight", unfollowed := true, recurses := true, apart := false, narrowed := true }
def TwccRightUptoSaid : Prop := twccRightUptoRow.holds Try.pinned (OpenSpec.upto twccRightSpec)

/-- 'rostrumlaw19.TwccNil', WHERE WHAT IT READS IS OF BULK AT MOST 1048576: true; the input reads as it did. -/
def twccNilUptoRow : OpenClaim := { program := "ythamkpjiecigjaa", sum := "658286d687b1d63c185f0923433d38120988b328619c4a4cc94b60e4e3a700e9", func := "rostrum/rostrumlaw19.TwccNil", spec := "twccNil", unfollowed := true, recurses := true, apart := false, narrowed := true }
def TwccNilUptoSaid : Prop := twccNilUptoRow.holds Try.pinned (OpenSpec.upto twccNilSpec)

end Rows
end Go.Proofs.Ythamkpjiecigjaa
