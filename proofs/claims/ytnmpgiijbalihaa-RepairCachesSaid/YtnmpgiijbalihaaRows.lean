/-
  No cell of these rows narrows 'for every input' (looked for: loops, veiled, ifaces, maps, wideKeys, modest, calm, conditions, laid).
  DERIVED. THE GIVEN ROWS OF THIS SEAT. 4 by the template 'for every input the law returns true; each argument reads behind the call as it read before'; 0 by the template 'total and deterministic' (their statements: YtnmpgiijbalihaaTotals.lean).
  GIVEN WITH THE SEED: the statements are not yours to turn. If you find one false, say at which input.
  Laid BY PROGRAM, IN A SANDBOX (cutbox-rows.mjs): the forced cells as the released guide's own fill.sh prints them over the translation d1a541e973e948fb… (all of the seat's roots in one cut). By AI agents, Wed Nov 11 2026. No macro, syntax, notation, axiom, sorry.
-/
import Derived.Test.YtnmpgiijbalihaaChecked
import GoSem.Claim
import GoSem.ClaimJoined
import GoSem.ClaimMapViews
import Derived.JoinedTies
import Derived.KernelRfl
namespace Go.Proofs.Ytnmpgiijbalihaa
/- THE CELL 'sum', in the pinned program and in every row, IS THE sha256 OF THE DUMP (.gsa) THAT YtnmpgiijbalihaaProg.lean LOADS. Nothing in Lean hashes anything: it is a label: what it is worth is what the hold of that sum in a sandbox is worth. -/
noncomputable def Try.pinned : Pinned := { name := "ytnmpgiijbalihaa", sum := "d1a541e973e948fb25bbcd8145a975bf73dec050c7a475c0b8a8697e8aa1f186", checked := Try.checked }
namespace Rows
def none {H : Type} : Left H := { results := [], args := [] }

/-- 'rostrumlaw18.RepairSeldom': WHATEVER THE INPUT: true; the input reads as it did. -/
def repairSeldomSpec : ChangeSpec := { name := "repairSeldom", fn := fun _ => fun
  | [d1, d2] => { results := [.lit (.bool true)], args := [d1, d2] }
  | _ => none }
def repairSeldomRow : OpenClaim := { program := "ytnmpgiijbalihaa", sum := "d1a541e973e948fb25bbcd8145a975bf73dec050c7a475c0b8a8697e8aa1f186", func := "rostrum/rostrumlaw18.RepairSeldom", spec := "repairSeldom", unfollowed := true, recurses := true, apart := false }
def RepairSeldomSaid : Prop := repairSeldomRow.holds Try.pinned (OpenSpec.ofChange repairSeldomSpec)

/-- ITS FALSE NEIGHBOUR: 'it returns false'. Refute it at one input. -/
def repairSeldomWrong : ChangeSpec := { name := "repairSeldom", fn := fun _ => fun
  | [d1, d2] => { results := [.lit (.bool false)], args := [d1, d2] }
  | _ => none }
def RepairSeldomWrongFalsely : Prop := repairSeldomRow.holds Try.pinned (OpenSpec.ofChange repairSeldomWrong)

/-- 'rostrumlaw18.RepairThrottles': WHATEVER THE INPUT: true; the input reads as it did. -/
def repairThrottlesSpec : ChangeSpec := { name := "repairThrottles", fn := fun _ => fun
  | [d] => { results := [.lit (.bool true)], args := [d] }
  | _ => none }
def repairThrottlesRow : OpenClaim := { program := "ytnmpgiijbalihaa", sum := "d1a541e973e948fb25bbcd8145a975bf73dec050c7a475c0b8a8697e8aa1f186", func := "rostrum/rostrumlaw18.RepairThrottles", spec := "repairThrottles", unfollowed := true, recurses := true, apart := false }
def RepairThrottlesSaid : Prop := repairThrottlesRow.holds Try.pinned (OpenSpec.ofChange repairThrottlesSpec)

/-- ITS FALSE NEIGHBOUR: 'it returns false'. Refute it at one input. -/
def repairThrottlesWrong : ChangeSpec := { name := "repairThrottles", fn := fun _ => fun
  | [d] => { results := [.lit (.bool false)], args := [d] }
  | _ => none }
def RepairThrottlesWrongFalsely : Prop := repairThrottlesRow.holds Try.pinned (OpenSpec.ofChange repairThrottlesWrong)

/-- 'rostrumlaw18.RepairCaches': WHATEVER THE INPUT: true; the input reads as it did. -/
def repairCachesSpec : ChangeSpec := { name := "repairCaches", fn := fun _ => fun
  | [d1, d2] => { results := [.lit (.bool true)], args := [d1, d2] }
  | _ => none }
def repairCachesRow : OpenClaim := { program := "ytnmpgiijbalihaa", sum := "d1a541e973e948fb25bbcd8145a975bf73dec050c7a475c0b8a8697e8aa1f186", func := "rostrum/rostrumlaw18.RepairCaches", spec := "repairCaches", unfollowed := true, recurses := true, apart := false }
def RepairCachesSaid : Prop := repairCachesRow.holds Try.pinned (OpenSpec.ofChange repairCachesSpec)

/-- ITS FALSE NEIGHBOUR: 'it returns false'. Refute it at one input. -/
def repairCachesWrong : ChangeSpec := { name := "repairCaches", fn := fun _ => fun
  | [d1, d2] => { results := [.lit (.bool false)], args := [d1, d2] }
  | _ => none }
def RepairCachesWrongFalsely : Prop := repairCachesRow.holds Try.pinned (OpenSpec.ofChange repairCachesWrong)

/-- 'rostrumlaw18.RepairNil': WHATEVER THE INPUT: true; the input reads as it did. -/
def repairNilSpec : ChangeSpec := { name := "repairNil", fn := fun _ => fun
  | [d1, d2, d3] => { results := [.lit (.bool true)], args := [d1, d2, d3] }
  | _ => none }
def repairNilRow : OpenClaim := { program := "ytnmpgiijbalihaa", sum := "d1a541e973e948fb25bbcd8145a975bf73dec050c7a475c0b8a8697e8aa1f186", func := "rostrum/rostrumlaw18.RepairNil", spec := "repairNil", unfollowed := true, recurses := true, apart := false }
def RepairNilSaid : Prop := repairNilRow.holds Try.pinned (OpenSpec.ofChange repairNilSpec)

/-- ITS FALSE NEIGHBOUR: 'it returns false'. Refute it at one input. -/
def repairNilWrong : ChangeSpec := { name := "repairNil", fn := fun _ => fun
  | [d1, d2, d3] => { results := [.lit (.bool false)], args := [d1, d2, d3] }
  | _ => none }
def RepairNilWrongFalsely : Prop := repairNilRow.holds Try.pinned (OpenSpec.ofChange repairNilWrong)

/- THE SECOND FORM. 'bulk': how many values and letters a reading holds, each counted each time it is reached (what is shared counts as often as it is met; a slice's spare places count too). A statement '..UptoSaid' is the law's where the arguments, and the package variables that the reading takes, are together of bulk at most 1048576: NARROWER than '..Said'. Prove '..Said' where nothing that the law and all that it calls make is longer than what came in: it says more and counts as full. Else prove '..UptoSaid'. A law counts once. -/
mutual
def uptoBulk {H : Type} : DataW H → Nat
  | .lit (.string bytes) => bytes.length + 1
  | .lit _ => 1
  | .nil => 1
  | .ptr d => uptoBulk d + 1
  | .slice elems spare => uptoBulkAll elems + uptoBulkAll spare + 1
  | .agg parts => uptoBulkAll parts + 1
  | .iface _ d => uptoBulk d + 1
  | .map entries => uptoBulkEntries entries + 1
  | .held _ => 1
def uptoBulkAll {H : Type} : List (DataW H) → Nat
  | [] => 0
  | d :: r => uptoBulk d + uptoBulkAll r
def uptoBulkEntries {H : Type} : List (Lit × DataW H) → Nat
  | [] => 0
  | x :: r => uptoBulkEntry x + uptoBulkEntries r
def uptoBulkEntry {H : Type} : Lit × DataW H → Nat
  | (.string bytes, d) => bytes.length + uptoBulk d + 1
  | (_, d) => uptoBulk d + 1
 end
def uptoSmall : (H : Type) → List (DataW H) → Bool := fun _ ds => decide (uptoBulkAll ds ≤ 1048576)
def OpenSpec.upto (s : _root_.Go.ChangeSpec) : _root_.Go.OpenSpec := { _root_.Go.OpenSpec.ofChange s with cond := some uptoSmall }

/-- 'rostrumlaw18.RepairSeldom', WHERE WHAT IT READS IS OF BULK AT MOST 1048576: true; the input reads as it did. -/
def repairSeldomUptoRow : OpenClaim := { program := "ytnmpgiijbalihaa", sum := "d1a541e973e948fb25bbcd8145a975bf73dec050c7a475c0b8a8697e8aa1f186", func := "rostrum/rostrumlaw18.RepairSeldom", spec := "repairSeldom", unfollowed := true, recurses := true, apart := false, narrowed := true }
def RepairSeldomUptoSaid : Prop := repairSeldomUptoRow.holds Try.pinned (OpenSpec.upto repairSeldomSpec)

/-- 'rostrumlaw18.RepairThrottles', WHERE WHAT IT READS IS OF BULK AT MOST 1048576: true; the input reads as it did. -/
def repairThrottlesUptoRow : OpenClaim := { program := "ytnmpgiijbalihaa", sum := "d1a541e973e948fb25bbcd8145a975bf73dec050c7a475c0b8a8697e8aa1f186", func := "rostrum/rostrumlaw18.RepairThrottles", spec := "repairThrottles", unfollowed := true, recurses := true, apart := false, narrowed := true }
def RepairThrottlesUptoSaid : Prop := repairThrottlesUptoRow.holds Try.pinned (OpenSpec.upto repairThrottlesSpec)

/-- 'rostrumlaw18.RepairCaches', WHERE WHAT IT READS IS OF BULK AT MOST 1048576: true; the input reads as it did. -/
def repairCachesUptoRow : OpenClaim := { program := "ytnmpgiijbalihaa", sum := "d1a541e973e948fb25bbcd8145a975bf73dec050c7a475c0b8a8697e8aa1f186", func := "rostrum/rostrumlaw18.RepairCaches", spec := "repairCaches", unfollowed := true, recurses := true, apart := false, narrowed := true }
def RepairCachesUptoSaid : Prop := repairCachesUptoRow.holds Try.pinned (OpenSpec.upto repairCachesSpec)

/-- 'rostrumlaw18.RepairNil', WHERE WHAT IT READS IS OF BULK AT MOST 1048576: true; the input reads as it did. -/
def repairNilUptoRow : OpenClaim := { program := "ytnmpgiijbalihaa", sum := "d1a541e973e948fb25bbcd8145a975bf73dec050c7a475c0b8a8697e8aa1f186", func := "rostrum/rostrumlaw18.RepairNil", spec := "repairNil", unfollowed := true, recurses := true, apart := false, narrowed := true }
def RepairNilUptoSaid : Prop := repairNilUptoRow.holds Try.pinned (OpenSpec.upto repairNilSpec)

end Rows
end Go.Proofs.Ytnmpgiijbalihaa
