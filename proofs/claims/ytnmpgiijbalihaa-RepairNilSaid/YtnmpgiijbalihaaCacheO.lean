/- repair: the statements on caches meet the rows. -/
import Derived.Test.YtnmpgiijbalihaaCacheN
import Derived.Test.YtnmpgiijbalihaaHOpen
namespace Go.Proofs.Ytnmpgiijbalihaa
set_option linter.unusedVariables false
set_option linter.unusedSimpArgs false
open Go.ChangeShapes Go.WideShapes Go.ChangeAt Go.RowKit
namespace rep
theorem datPut : DatT Try.prog 45 KP (fun x => True ∧ x.2.l.length ≤ reachBytes) :=
  DatF.all (DatF.cons (n := 1) Try.underlying45 (i := 0) rfl (by kernel_rfl) (DatT.u16 Try.underlying27) (DatF.last (n := 1) Try.underlying45 (i := 1) rfl (by kernel_rfl) (DatT.bytes Try.underlying43 Try.underlying5 (by kernel_rfl) (by kernel_rfl)) (by kernel_rfl)))
section
variable {H : Type} {enc : TypeId × Value → H} {W : World} {base : Nat}
set_option maxRecDepth 100000 in
theorem caches_open {v0 v1 : Value} {d0 d1 : DataW H} {p0 p1 : List MemPlace} (o0 : Value.okWide Try.prog W .any base 37 v0) (k0 : DataW.Trod enc Try.prog W 0 (fun _ => true) true 37 v0 d0 p0)
    (o1 : Value.okWide Try.prog W .any base 23 v1) (k1 : DataW.Trod enc Try.prog W 0 (fun _ => true) true 23 v1 d1 p1)
    (hsz : (DataW.weightsEach Try.prog ([37, 23] ++ []) ([d0, d1] ++ [])).all (· ≤ reachBytes) = true) :
    Calls Try.prog 5 #[v0, v1] W fun e w' => e = .returned (.bool true) ∧ Fr [] W w' := by
  obtain ⟨⟨a, cap, ls⟩, rfl, g1, -, g2⟩ := open_slice (DatT.slice (B := 32) Try.underlying37 (by kernel_rfl) (by kernel_rfl) datPut) Try.underlying37 0 o0 k0 hsz rfl rfl
  obtain ⟨⟨b, bcap, as'⟩, rfl, h1, -⟩ := open_slice (DatT.slice (B := 2) Try.underlying23 (by kernel_rfl) (by kernel_rfl) (DatT.u16 Try.underlying27)) Try.underlying23 1 o1 k1 hsz rfl rfl
  exact Fn.topD (As := [SA.dat (⟨a, cap, ls⟩ : Sl KP), SA.dat (⟨b, bcap, as'⟩ : Sl UInt16)]) (caches_fn a cap ls (fun x hx => by have := (g2 x hx).2; simp only [reachBytes] at this; omega) b bcap as' [SA.old W]) (fun A hA => by
    rcases hA.two with rfl | rfl
    · exact SA.dat_arg g1
    · exact SA.dat_arg h1)
set_option maxRecDepth 100000 in
theorem nil_open {v1 : Value} {d0 d1 d2 : DataW H} {p1 : List MemPlace} {q now : Int} (hq : (Lit.int .u16 q).wf = true) (o1 : Value.okWide Try.prog W .any base 43 v1) (k1 : DataW.Trod enc Try.prog W 0 (fun _ => true) true 43 v1 d1 p1)
    (hsz : (DataW.weightsEach Try.prog ([27, 43, 2] ++ []) ([d0, d1, d2] ++ [])).all (· ≤ reachBytes) = true) :
    Calls Try.prog 6 #[.int .u16 q, v1, .int .i64 now] W fun e w' => e = .returned (.bool true) ∧ Fr [] W w' := by
  obtain ⟨⟨b, bcap, bs⟩, rfl, h1, h2⟩ := open_slice (DatT.bytes Try.underlying43 Try.underlying5 (by kernel_rfl) (by kernel_rfl)) Try.underlying43 1 o1 k1 hsz rfl rfl
  rw [wf_u16 hq]
  exact Fn.topD (As := [SA.dat (⟨b, bcap, bs⟩ : Bs)]) (nil_fn _ b bcap bs (by simp only [reachBytes] at h2; omega) now [SA.old W]) (fun A hA => by rw [hA.one]; exact SA.dat_arg h1)
end
end rep
end Go.Proofs.Ytnmpgiijbalihaa
