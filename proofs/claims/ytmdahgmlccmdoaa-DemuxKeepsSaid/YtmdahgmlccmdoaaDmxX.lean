/- demux: DemuxKeeps meets the row. -/
import Derived.Test.YtmdahgmlccmdoaaDmxW
import Derived.Test.YtmdahgmlccmdoaaDmxO
namespace Go.Proofs.Ytmdahgmlccmdoaa
set_option linter.unusedVariables false
set_option linter.unusedSimpArgs false
open Go.ChangeShapes Go.WideShapes Go.ChangeAt Go.RowKit
namespace dm
section
variable {H : Type} {enc : TypeId × Value → H} {W : World} {base : Nat}
set_option maxRecDepth 100000 in
theorem keeps_open {v0 v1 : Value} {d0 d1 : DataW H} {p0 p1 : List MemPlace} (o0 : Value.okWide Try.prog W .any base 22 v0) (k0 : DataW.Trod enc Try.prog W 0 (fun _ => true) true 22 v0 d0 p0)
    (o1 : Value.okWide Try.prog W .any base 43 v1) (k1 : DataW.Trod enc Try.prog W 0 (fun _ => true) true 43 v1 d1 p1)
    (hsz : (DataW.weightsEach Try.prog ([22, 43] ++ []) ([d0, d1] ++ [])).all (· ≤ reachBytes) = true) :
    Calls Try.prog 6 #[v0, v1] W fun e w' => e = .returned (.bool true) ∧ Fr [] W w' := by
  obtain ⟨a, cap, ls, rfl, g1, g2, g3⟩ := open_lines 0 o0 k0 hsz rfl rfl
  obtain ⟨p, rfl, h1, h2⟩ := open_struct datP12 Try.underlying43 1 o1 k1 hsz rfl rfl
  exact Fn.topD (As := [SA.dat (⟨a, cap, ls⟩ : Sl LnD), SA.dat p]) (keeps_fn a cap ls g2 g3 p (bd_p h2).1 (bd_p h2).2 [SA.old W]) (fun A hA => by
    rcases hA.two with rfl | rfl
    · exact SA.dat_arg g1
    · exact SA.dat_arg h1)
end
end dm
end Go.Proofs.Ytmdahgmlccmdoaa
