/- twcc: the walks meet the rows. -/
import Derived.Test.YthamkpjiecigjaaTwccT
import Derived.Test.YthamkpjiecigjaaHOpen
namespace Go.Proofs.Ythamkpjiecigjaa
set_option linter.unusedVariables false
set_option linter.unusedSimpArgs false
open Go.ChangeShapes Go.WideShapes Go.ChangeAt Go.RowKit
namespace tw
theorem datCm : DatT Try.prog 31 Cm (fun x => True ∧ inI x.2.1 ∧ True) :=
  DatF.all (DatF.cons (n := 1) Try.underlying31 (i := 0) rfl (by kernel_rfl) (DatT.u16 Try.underlying29) (DatF.cons (n := 1) Try.underlying31 (i := 1) rfl (by kernel_rfl) (DatT.int Try.underlying2)
    (DatF.last (n := 1) Try.underlying31 (i := 2) rfl (by kernel_rfl) (DatT.bool Try.underlying4) (by kernel_rfl))))
section
variable {H : Type} {enc : TypeId × Value → H} {W : World} {base : Nat}
theorem nil_open {k c : Int} (hk : (Lit.int .u16 k).wf = true) : Calls Try.prog 5 #[.int .u16 k, .int .i64 c] W fun e w' => e = .returned (.bool true) ∧ Fr [] W w' := by
  rw [wf_u16 hk]
  exact Fn.topD (As := []) (nil_fn _ c [SA.old W]) (fun A hA => by cases hA)
set_option maxRecDepth 100000 in
theorem feeds_open {v : Value} {d0 d1 d2 : DataW H} {p : List MemPlace} {k1 k2 : Int} (h1 : (Lit.int .u32 k1).wf = true) (h2 : (Lit.int .u32 k2).wf = true)
    (o : Value.okWide Try.prog W .any base 22 v) (k : DataW.Trod enc Try.prog W 0 (fun _ => true) true 22 v d0 p)
    (hsz : (DataW.weightsEach Try.prog ([22, 23, 23] ++ []) ([d0, d1, d2] ++ [])).all (· ≤ reachBytes) = true) :
    Calls Try.prog 3 #[v, .int .u32 k1, .int .u32 k2] W fun e w' => e = .returned (.bool true) ∧ Fr [] W w' := by
  obtain ⟨⟨a, cap, ls⟩, rfl, g1, -⟩ := open_slice (DatT.slice (B := 24) Try.underlying22 (by kernel_rfl) (by kernel_rfl) datCm) Try.underlying22 0 o k hsz rfl rfl
  rw [wf_u32 h1, wf_u32 h2]
  exact Fn.topD (As := [SA.dat (⟨a, cap, ls⟩ : Sl Cm)]) (feeds_fn a cap ls _ _ [SA.old W]) (fun A hA => by rw [hA.one]; exact SA.dat_arg g1)
end
end tw
end Go.Proofs.Ythamkpjiecigjaa
