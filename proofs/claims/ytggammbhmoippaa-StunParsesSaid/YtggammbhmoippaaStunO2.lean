/- StunParses meets the row. -/
import Derived.Test.YtggammbhmoippaaStunSame
import Derived.Test.YtggammbhmoippaaHOpen
import Derived.Test.YtggammbhmoippaaOpenB
namespace Go.Proofs.Ytggammbhmoippaa
set_option linter.unusedVariables false
set_option linter.unusedSimpArgs false
open Go.ChangeShapes Go.WideShapes Go.ChangeAt Go.RowKit
namespace stun
section
variable {H : Type} {enc : TypeId × Value → H} {W : World} {base : Nat}
set_option maxRecDepth 100000 in
theorem parses_open {v : Value} {d : DataW H} {p : List MemPlace} (o : Value.okWide Try.prog W .any base 27 v) (k : DataW.Trod enc Try.prog W 0 (fun _ => true) true 27 v d p)
    (hsz : (DataW.weightsEach Try.prog ([27] ++ []) ([d] ++ [])).all (· ≤ reachBytes) = true) :
    Calls Try.prog 4 #[v] W fun e w' => e = .returned (.bool true) ∧ Fr [] W w' := by
  obtain ⟨a, cap, bs, rfl, h1, h2⟩ := open_bytes 0 o k hsz rfl rfl Try.underlying27 Try.underlying5 (by kernel_rfl) (by kernel_rfl)
  exact Fn.topD (As := [_]) (parses_fn a _ cap bs rfl (by omega) [SA.old W]) (fun A hA => by rw [hA.one]; exact h1.arg (by decide))
end
end stun
end Go.Proofs.Ytggammbhmoippaa
