/- ShaLengths and ShaKeeps meet the rows. -/
import Derived.Test.YtdffafhfpfipaaaShaOpen
import Derived.Test.YtdffafhfpfipaaaShaLen
import Derived.Test.YtdffafhfpfipaaaShaKeep
namespace Go.Proofs.Ytdffafhfpfipaaa
set_option linter.unusedVariables false
set_option linter.unusedSimpArgs false
open Go.ChangeShapes Go.WideShapes Go.ChangeAt Go.RowKit
namespace sha
section
variable {H : Type} {enc : TypeId × Value → H} {W : World} {base : Nat}
theorem lengths_open {a b : Int} (ha : (Lit.int .u8 a).wf = true) (hb : (Lit.int .u8 b).wf = true) :
    Calls Try.prog 6 #[.int .u8 a, .int .u8 b] W fun e w' => e = .returned (.bool true) ∧ Fr [] W w' := by
  rw [wf_u8 ha, wf_u8 hb]
  exact Fn.top (As := []) (args := [v8 (b8 a), v8 (b8 b)]) ((lengths_fn (b8 a) (b8 b) [SA.old W]).mono fun v L' ⟨e1, e2⟩ => ⟨L', Ent.refl, e1, e2 ▸ In.here⟩) (fun A hA => hA.nil_elim)
theorem keeps_open {v0 v1 : Value} {d0 d1 : DataW H} {p0 p1 : List MemPlace} (o0 : Value.okWide Try.prog W .any base 22 v0) (k0 : DataW.Trod enc Try.prog W 0 (fun _ => true) true 22 v0 d0 p0)
    (o1 : Value.okWide Try.prog W .any base 22 v1) (k1 : DataW.Trod enc Try.prog W 0 (fun _ => true) true 22 v1 d1 p1)
    (hsz : (DataW.weightsEach Try.prog ([22, 22] ++ []) ([d0, d1] ++ [])).all (· ≤ reachBytes) = true) :
    Calls Try.prog 7 #[v0, v1] W fun e w' => e = .returned (.bool true) ∧ Fr [] W w' := by
  obtain ⟨a, cap, bs, rfl, h1, h2⟩ := open_bytes 0 o0 k0 hsz rfl rfl Try.underlying22 Try.underlying5 (by kernel_rfl) (by kernel_rfl)
  obtain ⟨am, cm, ms, rfl, g1, g2⟩ := open_bytes 1 o1 k1 hsz rfl rfl Try.underlying22 Try.underlying5 (by kernel_rfl) (by kernel_rfl)
  exact two_args (keeps_fn a _ cap bs rfl am _ cm ms rfl (by omega) (by omega) [SA.old W]) (h1.arg (by decide)) (g1.arg (by decide))
end
end sha
end Go.Proofs.Ytdffafhfpfipaaa
