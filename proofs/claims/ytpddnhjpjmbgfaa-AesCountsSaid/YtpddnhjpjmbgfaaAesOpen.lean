/- The statements on AES blocks meet the rows. -/
import Derived.Test.YtpddnhjpjmbgfaaAesLaws
import Derived.Test.YtpddnhjpjmbgfaaOpenB
namespace Go.Proofs.Ytpddnhjpjmbgfaa
set_option linter.unusedVariables false
set_option linter.unusedSimpArgs false
open Go.ChangeShapes Go.WideShapes Go.ChangeAt Go.RowKit
namespace aes
section
variable {H : Type} {enc : TypeId × Value → H} {W : World} {base : Nat}
theorem open16 {v : Value} {d : DataW H} {p : List MemPlace} {ts : List TypeId} {ds : List (DataW H)} (j : Nat) (o : Value.okWide Try.prog W .any base 22 v) (k : DataW.Trod enc Try.prog W 0 (fun _ => true) true 22 v d p)
    (hsz : (DataW.weightsEach Try.prog ts ds).all (· ≤ reachBytes) = true) (ht : ts[j]? = some 22) (hd : ds[j]? = some d) : ∃ bs : List UInt8, bs.length = 16 ∧ v = .agg (bs.map v8).toArray :=
  open_byteArr j o k hsz ht hd Try.underlying22 Try.underlying5 (by kernel_rfl) (by kernel_rfl)
theorem open16s {v : Value} {d : DataW H} {p : List MemPlace} {ts : List TypeId} {ds : List (DataW H)} (j : Nat) (o : Value.okWide Try.prog W .any base 22 v) (k : DataW.Trod enc Try.prog W 0 (fun _ => true) true 22 v d p)
    (hsz : (DataW.weightsEach Try.prog ts ds).all (· ≤ reachBytes) = true) (ht : ts[j]? = some 22) (hd : ds[j]? = some d) : ∃ s : St16, v = .agg ((tab 16 s).map v8).toArray := by
  obtain ⟨bs, h1, rfl⟩ := open16 j o k hsz ht hd
  exact ⟨fun i => bs.getD i 0, by rw [tab_of h1]⟩
theorem blocks_open {v0 v1 : Value} {d0 d1 : DataW H} {p0 p1 : List MemPlace} (o0 : Value.okWide Try.prog W .any base 22 v0) (k0 : DataW.Trod enc Try.prog W 0 (fun _ => true) true 22 v0 d0 p0)
    (o1 : Value.okWide Try.prog W .any base 22 v1) (k1 : DataW.Trod enc Try.prog W 0 (fun _ => true) true 22 v1 d1 p1)
    (hsz : (DataW.weightsEach Try.prog ([22, 22] ++ []) ([d0, d1] ++ [])).all (· ≤ reachBytes) = true) :
    Calls Try.prog 3 #[v0, v1] W fun e w' => e = .returned (.bool true) ∧ Fr [] W w' := by
  obtain ⟨key, h1, rfl⟩ := open16 0 o0 k0 hsz rfl rfl
  obtain ⟨s, rfl⟩ := open16s 1 o1 k1 hsz rfl rfl
  exact Fn.top (As := []) ((blocks_fn key h1 s [SA.old W]).mono fun v L' ⟨e1, e2⟩ => ⟨L', Ent.refl, e1, e2 ▸ In.here⟩) (fun A hA => hA.nil_elim)
theorem apart_open {v0 v1 v2 : Value} {d0 d1 d2 : DataW H} {p0 p1 p2 : List MemPlace} (o0 : Value.okWide Try.prog W .any base 22 v0) (k0 : DataW.Trod enc Try.prog W 0 (fun _ => true) true 22 v0 d0 p0)
    (o1 : Value.okWide Try.prog W .any base 22 v1) (k1 : DataW.Trod enc Try.prog W 0 (fun _ => true) true 22 v1 d1 p1)
    (o2 : Value.okWide Try.prog W .any base 22 v2) (k2 : DataW.Trod enc Try.prog W 0 (fun _ => true) true 22 v2 d2 p2)
    (hsz : (DataW.weightsEach Try.prog ([22, 22, 22] ++ []) ([d0, d1, d2] ++ [])).all (· ≤ reachBytes) = true) :
    Calls Try.prog 4 #[v0, v1, v2] W fun e w' => e = .returned (.bool true) ∧ Fr [] W w' := by
  obtain ⟨key, h1, rfl⟩ := open16 0 o0 k0 hsz rfl rfl
  obtain ⟨s, rfl⟩ := open16s 1 o1 k1 hsz rfl rfl
  obtain ⟨t, rfl⟩ := open16s 2 o2 k2 hsz rfl rfl
  exact Fn.top (As := []) ((apart_fn key h1 s t [SA.old W]).mono fun v L' ⟨e1, e2⟩ => ⟨L', Ent.refl, e1, e2 ▸ In.here⟩) (fun A hA => hA.nil_elim)
end
end aes
end Go.Proofs.Ytpddnhjpjmbgfaa
