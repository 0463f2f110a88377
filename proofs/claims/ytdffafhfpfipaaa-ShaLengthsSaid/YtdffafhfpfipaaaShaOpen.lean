/- The statements on SHA-1 meet the rows. -/
import Derived.Test.YtdffafhfpfipaaaShaTop2
import Derived.Test.YtdffafhfpfipaaaOpenB
namespace Go.Proofs.Ytdffafhfpfipaaa
set_option linter.unusedVariables false
set_option linter.unusedSimpArgs false
open Go.ChangeShapes Go.WideShapes Go.ChangeAt Go.RowKit
namespace sha
section
variable {H : Type} {enc : TypeId × Value → H} {W : World} {base : Nat}
theorem sums_open {v : Value} {d : DataW H} {p : List MemPlace} (o : Value.okWide Try.prog W .any base 22 v) (k : DataW.Trod enc Try.prog W 0 (fun _ => true) true 22 v d p)
    (hsz : (DataW.weightsEach Try.prog ([22] ++ []) ([d] ++ [])).all (· ≤ reachBytes) = true) :
    Calls Try.prog 3 #[v] W fun e w' => e = .returned (.bool true) ∧ Fr [] W w' := by
  obtain ⟨a, cap, bs, rfl, h1, h2⟩ := open_bytes 0 o k hsz rfl rfl Try.underlying22 Try.underlying5 (by kernel_rfl) (by kernel_rfl)
  exact Fn.top (As := [_]) ((sums_fn a _ cap bs rfl (by omega) [SA.old W]).mono fun v L' ⟨e1, e2⟩ => ⟨L', Ent.refl, e1, e2 ▸ In.there In.here⟩) (fun A hA => by rw [hA.one]; exact h1.arg (by decide))
theorem two_args {f : FuncId} {x y : SA} {W : World} {args : List Value} (h : Fn Try.prog f args (x :: y :: [SA.old W]) (fun v L' => v = .bool true ∧ L' = x :: y :: [SA.old W])) (hx : ∃ R, x.p W (fun _ => False) R ∧ ∀ k, R k → k < W.heap.size) (hy : ∃ R, y.p W (fun _ => False) R ∧ ∀ k, R k → k < W.heap.size) :
    Calls Try.prog f args.toArray W fun e w' => e = .returned (.bool true) ∧ Fr [] W w' :=
  Fn.top (As := [x, y]) (h.mono fun v L' ⟨e1, e2⟩ => ⟨L', Ent.refl, e1, e2 ▸ In.there (In.there In.here)⟩) (fun A hA => by rcases hA.two with rfl | rfl <;> assumption)
theorem macs_open {v0 v1 : Value} {d0 d1 : DataW H} {p0 p1 : List MemPlace} (o0 : Value.okWide Try.prog W .any base 22 v0) (k0 : DataW.Trod enc Try.prog W 0 (fun _ => true) true 22 v0 d0 p0)
    (o1 : Value.okWide Try.prog W .any base 22 v1) (k1 : DataW.Trod enc Try.prog W 0 (fun _ => true) true 22 v1 d1 p1)
    (hsz : (DataW.weightsEach Try.prog ([22, 22] ++ []) ([d0, d1] ++ [])).all (· ≤ reachBytes) = true) :
    Calls Try.prog 5 #[v0, v1] W fun e w' => e = .returned (.bool true) ∧ Fr [] W w' := by
  obtain ⟨a, cap, bs, rfl, h1, h2⟩ := open_bytes 0 o0 k0 hsz rfl rfl Try.underlying22 Try.underlying5 (by kernel_rfl) (by kernel_rfl)
  obtain ⟨am, cm, ms, rfl, g1, g2⟩ := open_bytes 1 o1 k1 hsz rfl rfl Try.underlying22 Try.underlying5 (by kernel_rfl) (by kernel_rfl)
  exact two_args (macs_fn a _ cap bs rfl am _ cm ms rfl (by omega) (by omega) [SA.old W]) (h1.arg (by decide)) (g1.arg (by decide))
theorem crcs_open {v0 v1 : Value} {d0 d1 : DataW H} {p0 p1 : List MemPlace} (o0 : Value.okWide Try.prog W .any base 22 v0) (k0 : DataW.Trod enc Try.prog W 0 (fun _ => true) true 22 v0 d0 p0)
    (o1 : Value.okWide Try.prog W .any base 22 v1) (k1 : DataW.Trod enc Try.prog W 0 (fun _ => true) true 22 v1 d1 p1)
    (hsz : (DataW.weightsEach Try.prog ([22, 22] ++ []) ([d0, d1] ++ [])).all (· ≤ reachBytes) = true) :
    Calls Try.prog 4 #[v0, v1] W fun e w' => e = .returned (.bool true) ∧ Fr [] W w' := by
  obtain ⟨a, cap, bs, rfl, h1, h2⟩ := open_bytes 0 o0 k0 hsz rfl rfl Try.underlying22 Try.underlying5 (by kernel_rfl) (by kernel_rfl)
  obtain ⟨am, cm, ms, rfl, g1, g2⟩ := open_bytes 1 o1 k1 hsz rfl rfl Try.underlying22 Try.underlying5 (by kernel_rfl) (by kernel_rfl)
  exact two_args (crcs_fn a _ cap bs rfl am _ cm ms rfl (by omega) (by omega) [SA.old W]) (h1.arg (by decide)) (g1.arg (by decide))
end
end sha
end Go.Proofs.Ytdffafhfpfipaaa
