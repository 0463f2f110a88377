/- The statement on AES counters meets the row. -/
import Derived.Test.YtpddnhjpjmbgfaaAesCount
import Derived.Test.YtpddnhjpjmbgfaaAesOpen
namespace Go.Proofs.Ytpddnhjpjmbgfaa
set_option linter.unusedVariables false
set_option linter.unusedSimpArgs false
open Go.ChangeShapes Go.WideShapes Go.ChangeAt Go.RowKit
namespace aes
section
variable {H : Type} {enc : TypeId × Value → H} {W : World} {base : Nat}
theorem counts_open {v0 v1 : Value} {d0 d1 d2 : DataW H} {p0 p1 : List MemPlace} (m : Int) (w : (Lit.int .u8 m).wf = true) (o0 : Value.okWide Try.prog W .any base 22 v0) (k0 : DataW.Trod enc Try.prog W 0 (fun _ => true) true 22 v0 d0 p0)
    (o1 : Value.okWide Try.prog W .any base 22 v1) (k1 : DataW.Trod enc Try.prog W 0 (fun _ => true) true 22 v1 d1 p1)
    (hsz : (DataW.weightsEach Try.prog ([22, 22, 5] ++ []) ([d0, d1, d2] ++ [])).all (· ≤ reachBytes) = true) :
    Calls Try.prog 6 #[v0, v1, .int .u8 m] W fun e w' => e = .returned (.bool true) ∧ Fr [] W w' := by
  obtain ⟨key, h1, rfl⟩ := open16 0 o0 k0 hsz rfl rfl
  obtain ⟨s, rfl⟩ := open16s 1 o1 k1 hsz rfl rfl
  rw [wf_u8 w]
  exact Fn.top (As := []) ((counts_fn key h1 s (b8 m) [SA.old W]).mono fun v L' ⟨e1, e2⟩ => ⟨L', Ent.refl, e1, e2 ▸ In.here⟩) (fun A hA => hA.nil_elim)
end
end aes
end Go.Proofs.Ytpddnhjpjmbgfaa
