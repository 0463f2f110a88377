/- wire: WireKeeps meets the row. -/
import Derived.Test.YtdfncmfjlibidaaWKeep
import Derived.Test.YtdfncmfjlibidaaHOpen
namespace Go.Proofs.Ytdfncmfjlibidaa
set_option linter.unusedVariables false
set_option linter.unusedSimpArgs false
open Go.ChangeShapes Go.WideShapes Go.ChangeAt Go.RowKit
namespace wi
section
variable {H : Type} {enc : TypeId × Value → H} {W : World} {base : Nat}
set_option maxRecDepth 100000 in
theorem keeps_open {v : Value} {d0 : DataW H} {p : List MemPlace} (o : Value.okWide Try.prog W .any base 57 v) (k : DataW.Trod enc Try.prog W 0 (fun _ => true) true 57 v d0 p)
    (hsz : (DataW.weightsEach Try.prog ([57] ++ []) ([d0] ++ [])).all (· ≤ reachBytes) = true) :
    Calls Try.prog 7 #[v] W fun e w' => e = .returned (.bool true) ∧ Fr [] W w' := by
  obtain ⟨⟨b, bcap, bs⟩, rfl, h1, h2⟩ := open_slice (DatT.bytes Try.underlying57 Try.underlying5 (by kernel_rfl) (by kernel_rfl)) Try.underlying57 0 o k hsz rfl rfl
  exact Fn.topD (As := [SA.dat (⟨b, bcap, bs⟩ : Bs)]) (keeps_fn b bcap bs (by simp only [reachBytes] at h2; omega) [SA.old W]) (fun A hA => by rw [hA.one]; exact SA.dat_arg h1)
end
end wi
end Go.Proofs.Ytdfncmfjlibidaa
