/-
  No cell of these rows narrows 'for every input' (looked for: loops, veiled, ifaces, maps, wideKeys, modest, calm, conditions, laid).
  DERIVED. THE GIVEN ROWS OF THIS SEAT. 4 by the template 'for every input the law returns true; each argument reads behind the call as it read before'; 0 by the template 'total and deterministic' (their statements: YtmdahgmlccmdoaaTotals.lean).
  GIVEN WITH THE SEED: the statements are not yours to turn. If you find one false, say at which input.
  Laid BY PROGRAM, IN A SANDBOX (cutbox-rows.mjs): the forced cells as the released guide's own fill.sh prints them over the translation 635ee7de0349a6cd… (all of the seat's roots in one cut). By AI agents, Wed Nov 11 2026. No macro, syntax, notation, axiom, sorry.
-/
import Derived.Test.YtmdahgmlccmdoaaChecked
import GoSem.Claim
import GoSem.ClaimJoined
import GoSem.ClaimMapViews
import Derived.JoinedTies
import Derived.KernelRfl
namespace Go.Proofs.Ytmdahgmlccmdoaa
/- THE CELL 'sum', in the pinned program and in every row, IS THE sha256 OF THE DUMP (.gsa) THAT YtmdahgmlccmdoaaProg.lean LOADS. Nothing in Lean hashes anything: it is a label: what it is worth is what the hold of that sum in a sandbox is worth. -/
noncomputable def Try.pinned : Pinned := { name := "ytmdahgmlccmdoaa", sum := "635ee7de0349a6cd006c9085bbed653037f7aa2f036b0e32f2fb9a3ce8b1ef53", checked := Try.checked }
namespace Rows
def none {H : Type} : Left H := { results := [], args := [] }

/-- 'rostrumlaw15.DemuxGuesses': WHATEVER THE INPUT: true; the input reads as it did. -/
def demuxGuessesSpec : ChangeSpec := { name := "demuxGuesses", fn := fun _ => fun
  | [d1, d2, d3, d4] => { results := [.lit (.bool true)], args := [d1, d2, d3, d4] }
  | _ => none }
def demuxGuessesRow : OpenClaim := { program := "ytmdahgmlccmdoaa", sum := "635ee7de0349a6cd006c9085bbed653037f7aa2f036b0e32f2fb9a3ce8b1ef53", func := "rostrum/rostrumlaw15.DemuxGuesses", spec := "demuxGuesses", unfollowed := true, recurses := true, apart := false }
def DemuxGuessesSaid : Prop := demuxGuessesRow.holds Try.pinned (OpenSpec.ofChange demuxGuessesSpec)

/-- ITS FALSE NEIGHBOUR: 'it returns false'. Refute it at one input. -/
def demuxGuessesWrong : ChangeSpec := { name := "demuxGuesses", fn := fun _ => fun
  | [d1, d2, d3, d4] => { results := [.lit (.bool false)], args := [d1, d2, d3, d4] }
  | _ => none }
def DemuxGuessesWrongFalsely : Prop := demuxGuessesRow.holds Try.pinned (OpenSpec.ofChange demuxGuessesWrong)

/-- 'rostrumlaw15.DemuxStays': WHATEVER THE INPUT: true; the input reads as it did. -/
def demuxStaysSpec : ChangeSpec := { name := "demuxStays", fn := fun _ => fun
  | [d1, d2, d3, d4, d5] => { results := [.lit (.bool true)], args := [d1, d2, d3, d4, d5] }
  | _ => none }
def demuxStaysRow : OpenClaim := { program := "ytmdahgmlccmdoaa", sum := "635ee7de0349a6cd006c9085bbed653037f7aa2f036b0e32f2fb9a3ce8b1ef53", func := "rostrum/rostrumlaw15.DemuxStays", spec := "demuxStays", unfollowed := true, recurses := true, apart := false }
def DemuxStaysSaid : Prop := demuxStaysRow.holds Try.pinned (OpenSpec.ofChange demuxStaysSpec)

/-- ITS FALSE NEIGHBOUR: 'it returns false'. Refute it at one input. -/
def demuxStaysWrong : ChangeSpec := { name := "demuxStays", fn := fun _ => fun
  | [d1, d2, d3, d4, d5] => { results := [.lit (.bool false)], args := [d1, d2, d3, d4, d5] }
  | _ => none }
def DemuxStaysWrongFalsely : Prop := demuxStaysRow.holds Try.pinned (OpenSpec.ofChange demuxStaysWrong)

/-- 'rostrumlaw15.DemuxFull': WHATEVER THE INPUT: true; the input reads as it did. -/
def demuxFullSpec : ChangeSpec := { name := "demuxFull", fn := fun _ => fun
  | [d1, d2] => { results := [.lit (.bool true)], args := [d1, d2] }
  | _ => none }
def demuxFullRow : OpenClaim := { program := "ytmdahgmlccmdoaa", sum := "635ee7de0349a6cd006c9085bbed653037f7aa2f036b0e32f2fb9a3ce8b1ef53", func := "rostrum/rostrumlaw15.DemuxFull", spec := "demuxFull", unfollowed := true, recurses := true, apart := false }
def DemuxFullSaid : Prop := demuxFullRow.holds Try.pinned (OpenSpec.ofChange demuxFullSpec)

/-- ITS FALSE NEIGHBOUR: 'it returns false'. Refute it at one input. -/
def demuxFullWrong : ChangeSpec := { name := "demuxFull", fn := fun _ => fun
  | [d1, d2] => { results := [.lit (.bool false)], args := [d1, d2] }
  | _ => none }
def DemuxFullWrongFalsely : Prop := demuxFullRow.holds Try.pinned (OpenSpec.ofChange demuxFullWrong)

/-- 'rostrumlaw15.DemuxKeeps': WHATEVER THE INPUT: true; the input reads as it did. -/
def demuxKeepsSpec : ChangeSpec := { name := "demuxKeeps", fn := fun _ => fun
  | [d1, d2] => { results := [.lit (.bool true)], args := [d1, d2] }
  | _ => none }
def demuxKeepsRow : OpenClaim := { program := "ytmdahgmlccmdoaa", sum := "635ee7de0349a6cd006c9085bbed653037f7aa2f036b0e32f2fb9a3ce8b1ef53", func := "rostrum/rostrumlaw15.DemuxKeeps", spec := "demuxKeeps", unfollowed := true, recurses := true, apart := false }
def DemuxKeepsSaid : Prop := demuxKeepsRow.holds Try.pinned (OpenSpec.ofChange demuxKeepsSpec)

/-- ITS FALSE NEIGHBOUR: 'it returns false'. Refute it at one input. -/
def demuxKeepsWrong : ChangeSpec := { name := "demuxKeeps", fn := fun _ => fun
  | [d1, d2] => { results := [.lit (.bool false)], args := [d1, d2] }
  | _ => none }
def DemuxKeepsWrongFalsely : Prop := demuxKeepsRow.holds Try.pinned (OpenSpec.ofChange demuxKeepsWrong)

/- THE SECOND FORM. 'bulk': how many values and letters a reading holds, each counted each time it is reached (what is shared counts as often as it is met; a slice's spare places count too). A statement '..UptoSaid' is the law's where the arguments, and the package variables that the reading takes, are together of bulk at most 1048576: NARROWER than '..Said'. Prove '..Said' where nothing that the law and all that it calls make is longer than what came in: it says more and counts as full. Else prove '..UptoSaid'. A law counts once. -/
mutual
def uptoBulk {H : Type} : DataW H → Nat
  | .lit (.string bytes) => bytes.length + 1
  | .lit _ => 1
  | .nil => 1
  | .ptr d => uptoBulk d + 1
  | .slice elems spare => uptoBulkAll elems + uptoBulkAll spare + 1
  | .agg parts => uptoBulkAll parts + 1
  | .iface _ d => uptoBulk d + 1
  | .map entries => uptoBulkEntries entries + 1
  | .held _ => 1
def uptoBulkAll {H : Type} : List (DataW H) → Nat
  | [] => 0
  | d :: r => uptoBulk d + uptoBulkAll r
def uptoBulkEntries {H : Type} : List (Lit × DataW H) → Nat
  | [] => 0
  | x :: r => uptoBulkEntry x + uptoBulkEntries r
def uptoBulkEntry {H : Type} : Lit × DataW H → Nat
  | (.string bytes, d) => bytes.length + uptoBulk d + 1
  | (_, d) => uptoBulk d + 1
 end
def uptoSmall : (H : Type) → List (DataW H) → Bool := fun _ ds => decide (uptoBulkAll ds ≤ 1048576)
def OpenSpec.upto (s : _root_.Go.ChangeSpec) : _root_.Go.OpenSpec := { _root_.Go.OpenSpec.ofChange s with cond := some uptoSmall }

/-- 'rostrumlaw15.DemuxGuesses', WHERE WHAT IT READS IS OF BULK AT MOST 1048576: true; the input reads as it did. -/
def demuxGuessesUptoRow : OpenClaim := { program := "ytmdahgmlccmdoaa", sum := "635ee7de0349a6cd006c9085bbed653037f7aa2f036b0e32f2fb9a3ce8b1ef53", func := "rostrum/rostrumlaw15.DemuxGuesses", spec := "demuxGuesses", unfollowed := true, recurses := true, apart := false, narrowed := true }
def DemuxGuessesUptoSaid : Prop := demuxGuessesUptoRow.holds Try.pinned (OpenSpec.upto demuxGuessesSpec)

/-- 'rostrumlaw15.DemuxStays', WHERE WHAT IT READS IS OF BULK AT MOST 1048576: true; the input reads as it did. -/
def demuxStaysUptoRow : OpenClaim := { program := "ytmdahgmlccmdoaa", sum := "635ee7de0349a6cd006c9085bbed653037f7aa2f036b0e32f2fb9a3ce8b1ef53", func := "rostrum/rostrumlaw15.DemuxStays", spec := "demuxStays", unfollowed := true, recurses := true, apart := false, narrowed := true }
def DemuxStaysUptoSaid : Prop := demuxStaysUptoRow.holds Try.pinned (OpenSpec.upto demuxStaysSpec)

/-- 'rostrumlaw15.DemuxFull', WHERE WHAT IT READS IS OF BULK AT MOST 1048576: true; the input reads as it did. -/
def demuxFullUptoRow : OpenClaim := { program := "ytmdahgmlccmdoaa", sum := "635ee7de0349a6cd006c9085bbed653037f7aa2f036b0e32f2fb9a3ce8b1ef53", func := "rostrum/rostrumlaw15.DemuxFull", spec := "demuxFull", unfollowed := true, recurses := true, apart := false, narrowed := true }
def DemuxFullUptoSaid : Prop := demuxFullUptoRow.holds Try.pinned (OpenSpec.upto demuxFullSpec)

/-- 'rostrumlaw15.DemuxKeeps', WHERE WHAT IT READS IS OF BULK AT MOST 1048576: true; the input reads as it did. -/
def demuxKeepsUptoRow : OpenClaim := { program := "ytmdahgmlccmdoaa", sum := "635ee7de0349a6cd006c9085bbed653037f7aa2f036b0e32f2fb9a3ce8b1ef53", func := "rostrum/rostrumlaw15.DemuxKeeps", spec := "demuxKeeps", unfollowed := true, recurses := true, apart := false, narrowed := true }
def DemuxKeepsUptoSaid : Prop := demuxKeepsUptoRow.holds Try.pinned (OpenSpec.upto demuxKeepsSpec)

end Rows
end Go.Proofs.Ytmdahgmlccmdoaa
