/- wire: WireTables meets the row. -/
import Derived.Test.YtdfncmfjlibidaaWTabT
import Derived.Test.YtdfncmfjlibidaaWOpen
namespace Go.Proofs.Ytdfncmfjlibidaa
set_option linter.unusedVariables false
set_option linter.unusedSimpArgs false
open Go.ChangeShapes Go.WideShapes Go.ChangeAt Go.RowKit
namespace wi
theorem wf_i64 {n : Int} (h : (Lit.int .i64 n).wf = true) : inI n := by
  have := bounds_i64 h
  unfold inI; omega
theorem datCall : DatT Try.prog 44 CT (fun x => inI x.1 ∧ x.2.1.size ≤ reachBytes ∧ True) :=
  DatF.all (DatF.cons (n := 1) Try.underlying44 (i := 0) rfl (by kernel_rfl) (DatT.int Try.underlying3) (DatF.cons (n := 1) Try.underlying44 (i := 1) rfl (by kernel_rfl) (DatT.string Try.underlying9)
    (DatF.last (n := 1) Try.underlying44 (i := 2) rfl (by kernel_rfl) (DatT.j32 Try.underlying21) (by kernel_rfl))))
section
variable {H : Type} {enc : TypeId × Value → H} {W : World} {base : Nat}
set_option maxRecDepth 100000 in
theorem tables_open {v : Value} {d0 d1 d2 : DataW H} {p : List MemPlace} {m s : Int} (hm : (Lit.int .i64 m).wf = true) (o : Value.okWide Try.prog W .any base 39 v) (k : DataW.Trod enc Try.prog W 0 (fun _ => true) true 39 v d1 p)
    (hsz : (DataW.weightsEach Try.prog ([3, 39, 3] ++ []) ([d0, d1, d2] ++ [])).all (· ≤ reachBytes) = true) :
    Calls Try.prog 5 #[.int .i64 m, v, .int .i64 s] W fun e w' => e = .returned (.bool true) ∧ Fr [] W w' := by
  obtain ⟨⟨a, cap, ls⟩, rfl, g1, -⟩ := open_slice (DatT.slice (B := 32) Try.underlying39 (by kernel_rfl) (by kernel_rfl) datCall) Try.underlying39 1 o k hsz rfl rfl
  exact Fn.topD (As := [SA.dat (⟨a, cap, ls⟩ : Sl CT)]) (tables_fn m (wf_i64 hm) a cap ls s [SA.old W]) (fun A hA => by rw [hA.one]; exact SA.dat_arg g1)
end
end wi
end Go.Proofs.Ytdfncmfjlibidaa
