/- repair: the statements on throttles meet the rows. -/
import Derived.Test.YtnmpgiijbalihaaRepU
import Derived.Test.YtnmpgiijbalihaaHOpen
namespace Go.Proofs.Ytnmpgiijbalihaa
set_option linter.unusedVariables false
set_option linter.unusedSimpArgs false
open Go.ChangeShapes Go.WideShapes Go.ChangeAt Go.RowKit
namespace rep
theorem datAsked : DatT Try.prog 34 (UInt32 × Int) (fun x => True ∧ inI x.2) :=
  DatF.all (DatF.cons (n := 1) Try.underlying34 (i := 0) rfl (by kernel_rfl) (DatT.u32 Try.underlying22) (DatF.last (n := 1) Try.underlying34 (i := 1) rfl (by kernel_rfl) (DatT.int Try.underlying2) (by kernel_rfl)))
section
variable {H : Type} {enc : TypeId × Value → H} {W : World} {base : Nat}
set_option maxRecDepth 100000 in
theorem throttles_open {v : Value} {d0 : DataW H} {p : List MemPlace} (o : Value.okWide Try.prog W .any base 30 v) (k : DataW.Trod enc Try.prog W 0 (fun _ => true) true 30 v d0 p)
    (hsz : (DataW.weightsEach Try.prog ([30] ++ []) ([d0] ++ [])).all (· ≤ reachBytes) = true) :
    Calls Try.prog 4 #[v] W fun e w' => e = .returned (.bool true) ∧ Fr [] W w' := by
  obtain ⟨⟨a, cap, ls⟩, rfl, g1, -⟩ := open_slice (DatT.slice (B := 16) Try.underlying30 (by kernel_rfl) (by kernel_rfl) datAsked) Try.underlying30 0 o k hsz rfl rfl
  exact Fn.topD (As := [SA.dat (⟨a, cap, ls⟩ : Sl (UInt32 × Int))]) (throttles_fn a cap ls [SA.old W]) (fun A hA => by rw [hA.one]; exact SA.dat_arg g1)
set_option maxRecDepth 100000 in
theorem seldom_open {v : Value} {d0 d1 : DataW H} {p : List MemPlace} {s : Int} (hs : (Lit.int .u32 s).wf = true) (o : Value.okWide Try.prog W .any base 23 v) (k : DataW.Trod enc Try.prog W 0 (fun _ => true) true 23 v d1 p)
    (hsz : (DataW.weightsEach Try.prog ([22, 23] ++ []) ([d0, d1] ++ [])).all (· ≤ reachBytes) = true) :
    Calls Try.prog 3 #[.int .u32 s, v] W fun e w' => e = .returned (.bool true) ∧ Fr [] W w' := by
  obtain ⟨⟨a, cap, ls⟩, rfl, g1, g2, -⟩ := open_slice (DatT.slice (B := 2) Try.underlying23 (by kernel_rfl) (by kernel_rfl) (DatT.u16 Try.underlying27)) Try.underlying23 1 o k hsz rfl rfl
  rw [wf_u32 hs]
  exact Fn.topD (As := [SA.dat (⟨a, cap, ls⟩ : Sl UInt16)]) (seldom_fn _ a cap ls (by simp only [reachBytes] at g2; omega) [SA.old W]) (fun A hA => by rw [hA.one]; exact SA.dat_arg g1)
end
end rep
end Go.Proofs.Ytnmpgiijbalihaa
