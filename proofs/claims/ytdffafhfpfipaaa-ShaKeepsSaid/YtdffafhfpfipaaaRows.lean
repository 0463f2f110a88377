/-
  No cell of these rows narrows 'for every input' (looked for: loops, veiled, ifaces, maps, wideKeys, modest, calm, conditions, laid).
  DERIVED. THE GIVEN ROWS OF THIS SEAT. 5 by the template 'for every input the law returns true; each argument reads behind the call as it read before'; 0 by the template 'total and deterministic' (their statements: YtdffafhfpfipaaaTotals.lean).
  GIVEN WITH THE SEED: the statements are not yours to turn. If you find one false, say at which input.
  Laid BY PROGRAM, IN A SANDBOX (cutbox-rows.mjs): the forced cells as the released guide's own fill.sh prints them over the translation cf86d0f0dc6381ff… (all of the seat's roots in one cut). By AI agents, Wed Nov 11 2026. No macro, syntax, notation, axiom, sorry.
-/
import Derived.Test.YtdffafhfpfipaaaChecked
import GoSem.Claim
import GoSem.ClaimJoined
import GoSem.ClaimMapViews
import Derived.JoinedTies
import Derived.KernelRfl
namespace Go.Proofs.Ytdffafhfpfipaaa
/- THE CELL 'sum', in the pinned program and in every row, IS THE sha256 OF THE DUMP (.gsa) THAT YtdffafhfpfipaaaProg.lean LOADS. Nothing in Lean hashes anything: it is a label: what it is worth is what the hold of that sum in a sandbox is worth. -/
noncomputable def Try.pinned : Pinned := { name := "ytdffafhfpfipaaa", sum := "cf86d0f0dc6381ff087f8f30b9730e62bd66f1fcba53dd84c56d18b79c04195e", checked := Try.checked }
namespace Rows
def none {H : Type} : Left H := { results := [], args := [] }

/-- 'rostrumlaw02.ShaSums': WHATEVER THE INPUT: true; the input reads as it did. -/
def shaSumsSpec : ChangeSpec := { name := "shaSums", fn := fun _ => fun
  | [d] => { results := [.lit (.bool true)], args := [d] }
  | _ => none }
def shaSumsRow : OpenClaim := { program := "ytdffafhfpfipaaa", sum := "cf86d0f0dc6381ff087f8f30b9730e62bd66f1fcba53dd84c56d18b79c04195e", func := "rostrum/rostrumlaw02.ShaSums", spec := "shaSums", apart := false }
def ShaSumsSaid : Prop := shaSumsRow.holds Try.pinned (OpenSpec.ofChange shaSumsSpec)

/-- ITS FALSE NEIGHBOUR: 'it returns false'. Refute it at one input. -/
def shaSumsWrong : ChangeSpec := { name := "shaSums", fn := fun _ => fun
  | [d] => { results := [.lit (.bool false)], args := [d] }
  | _ => none }
def ShaSumsWrongFalsely : Prop := shaSumsRow.holds Try.pinned (OpenSpec.ofChange shaSumsWrong)

/-- 'rostrumlaw02.ShaCrcs': WHATEVER THE INPUT: true; the input reads as it did. -/
def shaCrcsSpec : ChangeSpec := { name := "shaCrcs", fn := fun _ => fun
  | [d1, d2] => { results := [.lit (.bool true)], args := [d1, d2] }
  | _ => none }
def shaCrcsRow : OpenClaim := { program := "ytdffafhfpfipaaa", sum := "cf86d0f0dc6381ff087f8f30b9730e62bd66f1fcba53dd84c56d18b79c04195e", func := "rostrum/rostrumlaw02.ShaCrcs", spec := "shaCrcs", apart := false }
def ShaCrcsSaid : Prop := shaCrcsRow.holds Try.pinned (OpenSpec.ofChange shaCrcsSpec)

/-- ITS FALSE NEIGHBOUR: 'it returns false'. Refute it at one input. -/
def shaCrcsWrong : ChangeSpec := { name := "shaCrcs", fn := fun _ => fun
  | [d1, d2] => { results := [.lit (.bool false)], args := [d1, d2] }
  | _ => none }
def ShaCrcsWrongFalsely : Prop := shaCrcsRow.holds Try.pinned (OpenSpec.ofChange shaCrcsWrong)

/-- 'rostrumlaw02.ShaMacs': WHATEVER THE INPUT: true; the input reads as it did. -/
def shaMacsSpec : ChangeSpec := { name := "shaMacs", fn := fun _ => fun
  | [d1, d2] => { results := [.lit (.bool true)], args := [d1, d2] }
  | _ => none }
def shaMacsRow : OpenClaim := { program := "ytdffafhfpfipaaa", sum := "cf86d0f0dc6381ff087f8f30b9730e62bd66f1fcba53dd84c56d18b79c04195e", func := "rostrum/rostrumlaw02.ShaMacs", spec := "shaMacs", apart := false }
def ShaMacsSaid : Prop := shaMacsRow.holds Try.pinned (OpenSpec.ofChange shaMacsSpec)

/-- ITS FALSE NEIGHBOUR: 'it returns false'. Refute it at one input. -/
def shaMacsWrong : ChangeSpec := { name := "shaMacs", fn := fun _ => fun
  | [d1, d2] => { results := [.lit (.bool false)], args := [d1, d2] }
  | _ => none }
def ShaMacsWrongFalsely : Prop := shaMacsRow.holds Try.pinned (OpenSpec.ofChange shaMacsWrong)

/-- 'rostrumlaw02.ShaLengths': WHATEVER THE INPUT: true; the input reads as it did. -/
def shaLengthsSpec : ChangeSpec := { name := "shaLengths", fn := fun _ => fun
  | [d1, d2] => { results := [.lit (.bool true)], args := [d1, d2] }
  | _ => none }
def shaLengthsRow : OpenClaim := { program := "ytdffafhfpfipaaa", sum := "cf86d0f0dc6381ff087f8f30b9730e62bd66f1fcba53dd84c56d18b79c04195e", func := "rostrum/rostrumlaw02.ShaLengths", spec := "shaLengths", apart := false }
def ShaLengthsSaid : Prop := shaLengthsRow.holds Try.pinned (OpenSpec.ofChange shaLengthsSpec)

/-- ITS FALSE NEIGHBOUR: 'it returns false'. Refute it at one input. -/
def shaLengthsWrong : ChangeSpec := { name := "shaLengths", fn := fun _ => fun
  | [d1, d2] => { results := [.lit (.bool false)], args := [d1, d2] }
  | _ => none }
def ShaLengthsWrongFalsely : Prop := shaLengthsRow.holds Try.pinned (OpenSpec.ofChange shaLengthsWrong)

/-- 'rostrumlaw02.ShaKeeps': WHATEVER THE INPUT: true; the input reads as it did. -/
def shaKeepsSpec : ChangeSpec := { name := "shaKeeps", fn := fun _ => fun
  | [d1, d2] => { results := [.lit (.bool true)], args := [d1, d2] }
  | _ => none }
def shaKeepsRow : OpenClaim := { program := "ytdffafhfpfipaaa", sum := "cf86d0f0dc6381ff087f8f30b9730e62bd66f1fcba53dd84c56d18b79c04195e", func := "rostrum/rostrumlaw02.ShaKeeps", spec := "shaKeeps", apart := false }
def ShaKeepsSaid : Prop := shaKeepsRow.holds Try.pinned (OpenSpec.ofChange shaKeepsSpec)

/-- ITS FALSE NEIGHBOUR: 'it returns false'. Refute it at one input. -/
def shaKeepsWrong : ChangeSpec := { name := "shaKeeps", fn := fun _ => fun
  | [d1, d2] => { results := [.lit (.bool false)], args := [d1, d2] }
  | _ => none }
def ShaKeepsWrongFalsely : Prop := shaKeepsRow.holds Try.pinned (OpenSpec.ofChange shaKeepsWrong)

/- THE SECOND FORM. 'bulk': how many values and letters a reading holds, each counted each time it is reached (what is shared counts as often as it is met; a slice's spare places count too). A statement '..UptoSaid' is the law's where the arguments, and the package variables that the reading takes, are together of bulk at most 1048576: NARROWER than '..Said'. Prove '..Said' where nothing that the law and all that it calls make is longer than what came in: it says more and counts as full. Else prove '..UptoSaid'. A law counts once. -/
mutual
def uptoBulk {H : Type} : DataW H → Nat
  | .lit (.string bytes) => bytes.length + 1
  | .lit _ => 1
  | .nil => 1
  | .ptr d => uptoBulk d + 1
  | .slice elems spare => uptoBulkAll elems + uptoBulkAll spare + 1
  | .agg parts => uptoBulkAll parts + 1
  | .iface _ d => uptoBulk d + 1
  | .map entries => uptoBulkEntries entries + 1
  | .held _ => 1
def uptoBulkAll {H : Type} : List (DataW H) → Nat
  | [] => 0
  | d :: r => uptoBulk d + uptoBulkAll r
def uptoBulkEntries {H : Type} : List (Lit × DataW H) → Nat
  | [] => 0
  | x :: r => uptoBulkEntry x + uptoBulkEntries r
def uptoBulkEntry {H : Type} : Lit × DataW H → Nat
  | (.string bytes, d) => bytes.length + uptoBulk d + 1
  | (_, d) => uptoBulk d + 1
 end
def uptoSmall : (H : Type) → List (DataW H) → Bool := fun _ ds => decide (uptoBulkAll ds ≤ 1048576)
def OpenSpec.upto (s : _root_.Go.ChangeSpec) : _root_.Go.OpenSpec := { _root_.Go.OpenSpec.ofChange s with cond := some uptoSmall }

/-- 'rostrumlaw02.ShaSums', WHERE WHAT IT READS IS OF BULK AT MOST 1048576: true; the input reads as it did. -/
def shaSumsUptoRow : OpenClaim := { program := "ytdffafhfpfipaaa", sum := "cf86d0f0dc6381ff087f8f30b9730e62bd66f1fcba53dd84c56d18b79c04195e", func := "rostrum/rostrumlaw02.ShaSums", spec := "shaSums", apart := false, narrowed := true }
def ShaSumsUptoSaid : Prop := shaSumsUptoRow.holds Try.pinned (OpenSpec.upto shaSumsSpec)

/-- 'rostrumlaw02.ShaCrcs', WHERE WHAT IT READS IS OF BULK AT MOST 1048576: true; the input reads as it did. -/
def shaCrcsUptoRow : OpenClaim := { program := "ytdffafhfpfipaaa", sum := "cf86d0f0dc6381ff087f8f30b9730e62bd66f1fcba53dd84c56d18b79c04195e", func := "rostrum/rostrumlaw02.ShaCrcs", spec := "shaCrcs", apart := false, narrowed := true }
def ShaCrcsUptoSaid : Prop := shaCrcsUptoRow.holds Try.pinned (OpenSpec.upto shaCrcsSpec)

/-- 'rostrumlaw02.ShaMacs', WHERE WHAT IT READS IS OF BULK AT MOST 1048576: true; the input reads as it did. -/
def shaMacsUptoRow : OpenClaim := { program := "ytdffafhfpfipaaa", sum := "cf86d0f0dc6381ff087f8f30b9730e62bd66f1fcba53dd84c56d18b79c04195e", func := "rostrum/rostrumlaw02.ShaMacs", spec := "shaMacs", apart := false, narrowed := true }
def ShaMacsUptoSaid : Prop := shaMacsUptoRow.holds Try.pinned (OpenSpec.upto shaMacsSpec)

/-- 'rostrumlaw02.ShaLengths', WHERE WHAT IT READS IS OF BULK AT MOST 1048576: true; the input reads as it did. -/
def shaLengthsUptoRow : OpenClaim := { program := "ytdffafhfpfipaaa", sum := "cf86d0f0dc6381ff087f8f30b9730e62bd66f1fcba53dd84c56d18b79c04195e", func := "rostrum/rostrumlaw02.ShaLengths", spec := "shaLengths", apart := false, narrowed := true }
def ShaLengthsUptoSaid : Prop := shaLengthsUptoRow.holds Try.pinned (OpenSpec.upto shaLengthsSpec)

/-- 'rostrumlaw02.ShaKeeps', WHERE WHAT IT READS IS OF BULK AT MOST 1048576: true; the input reads as it did. -/
def shaKeepsUptoRow : OpenClaim := { program := "ytdffafhfpfipaaa", sum := "cf86d0f0dc6381ff087f8f30b9730e62bd66f1fcba53dd84c56d18b79c04195e", func := "rostrum/rostrumlaw02.ShaKeeps", spec := "shaKeeps", apart := false, narrowed := true }
def ShaKeepsUptoSaid : Prop := shaKeepsUptoRow.holds Try.pinned (OpenSpec.upto shaKeepsSpec)

end Rows
end Go.Proofs.Ytdffafhfpfipaaa
