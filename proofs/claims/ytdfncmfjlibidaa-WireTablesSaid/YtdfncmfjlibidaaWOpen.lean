/- wire: the statements meet the rows. -/
import Derived.Test.YtdfncmfjlibidaaWTurn
import Derived.Test.YtdfncmfjlibidaaHOpen
namespace Go.Proofs.Ytdfncmfjlibidaa
set_option linter.unusedVariables false
set_option linter.unusedSimpArgs false
open Go.ChangeShapes Go.WideShapes Go.ChangeAt Go.RowKit
namespace wi
theorem DatT.j32 {P : Program} {t : TypeId} (h : P.underlying t = some (.int .i32)) : DatT P t J32 (fun _ => True) := fun H enc W cs ho => by
  obtain ⟨n, rfl, hn⟩ := ho.int h
  exact ⟨⟨n⟩, rfl, fun q hq => (by cases hq), trivial⟩
section
variable {H : Type} {enc : TypeId × Value → H} {W : World} {base : Nat}
set_option maxRecDepth 100000 in
theorem turned_open {v : Value} {d0 d1 : DataW H} {p : List MemPlace} {m : Int} (o : Value.okWide Try.prog W .any base 29 v) (k : DataW.Trod enc Try.prog W 0 (fun _ => true) true 29 v d0 p)
    (hsz : (DataW.weightsEach Try.prog ([29, 21] ++ []) ([d0, d1] ++ [])).all (· ≤ reachBytes) = true) :
    Calls Try.prog 6 #[v, .int .i32 m] W fun e w' => e = .returned (.bool true) ∧ Fr [] W w' := by
  obtain ⟨⟨a, cap, ls⟩, rfl, g1, -⟩ := open_slice (DatT.slice (B := 4) Try.underlying29 (by kernel_rfl) (by kernel_rfl) (DatT.j32 Try.underlying21)) Try.underlying29 0 o k hsz rfl rfl
  exact Fn.topD (As := [SA.dat (⟨a, cap, ls⟩ : Sl J32)]) (turned_fn a cap ls ⟨m⟩ [SA.old W]) (fun A hA => by rw [hA.one]; exact SA.dat_arg g1)
end
end wi
end Go.Proofs.Ytdfncmfjlibidaa
