/- WireRings: the walk meets the row. -/
import Derived.Test.YtdfncmfjlibidaaRings
import Derived.Test.YtdfncmfjlibidaaOpen
namespace Go.Proofs.Ytdfncmfjlibidaa
set_option linter.unusedVariables false
open Go.ChangeShapes Go.WideShapes Go.ChangeAt Go.RowKit
theorem rings_bytes : Try.prog.bytesOf 21 = 4 := by kernel_rfl
set_option maxRecDepth 100000 in
theorem rings_top {H : Type} {enc : TypeId × Value → H} {W : World} {base : Nat} {v : Value} {d : DataW H} {p : List MemPlace} {a0 a2 : Int} {d0 d2 : DataW H} (w0 : (Lit.int .i64 a0).wf = true) (w2 : (Lit.int .i64 a2).wf = true)
    (o : Value.okWide Try.prog W .any base 29 v) (k : DataW.Trod enc Try.prog W 0 (fun _ => true) true 29 v d p)
    (hsz : (DataW.weightsEach Try.prog ([3, 29, 3] ++ []) ([d0, d, d2] ++ [])).all (· ≤ reachBytes) = true) :
    Calls Try.prog 4 #[.int .i64 a0, v, .int .i64 a2] W fun e w' => e = .returned (.bool true) ∧ Fr [] W w' := by
  obtain ⟨zs, hr, _, hd⟩ := open_row Try.underlying29 Try.underlying21 (by kernel_rfl) o k
  have hs := reach_row hsz (j := 1) rfl rfl Try.underlying29 hd
  rw [rings_bytes] at hs
  have b0 := bounds_i64 w0
  have b2 := bounds_i64 w2
  exact walk_rings a0 a2 v zs W ⟨by omega, by omega⟩ ⟨by omega, by omega⟩ hr hs
end Go.Proofs.Ytdfncmfjlibidaa
