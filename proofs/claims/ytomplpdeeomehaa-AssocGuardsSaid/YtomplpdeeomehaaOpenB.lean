/- Byte slices among the arguments, opened for the logic. No program is named. -/
import Derived.Test.YtomplpdeeomehaaHEq
import Derived.Test.YtomplpdeeomehaaOpens
namespace Go.Proofs.Ytomplpdeeomehaa
set_option linter.unusedVariables false
set_option linter.unusedSimpArgs false
open Go.ChangeShapes Go.WideShapes Go.ChangeAt Go.RowKit
theorem open_bytes {H : Type} {enc : TypeId × Value → H} {P : Program} {W : World} {base : Nat} {t e : TypeId} {v : Value} {d : DataW H} {p : List MemPlace} {ts : List TypeId} {ds : List (DataW H)} (j : Nat)
    (o : Value.okWide P W .any base t v) (k : DataW.Trod enc P W 0 (fun _ => true) true t v d p) (hsz : (DataW.weightsEach P ts ds).all (· ≤ reachBytes) = true) (ht : ts[j]? = some t) (hd : ds[j]? = some d)
    (hu : P.underlying t = some (.slice e)) (he : P.underlying e = some (.int .u8)) (hc : P.cellsOf e = 1) (hb : P.bytesOf e = 1) :
    ∃ (a : Option Addr) (cap : Nat) (bs : List UInt8), v = .slice a bs.length cap ∧ Rd W 1 (.slice a bs.length cap) bs.length (bs.map v8) ∧ bs.length ≤ 140737488351232 := by
  obtain ⟨a, len, cap, rfl⟩ := okWide_slice hu o
  have h := Opn.top k hsz ht hd
  obtain ⟨bs, h1, h2⟩ := Opn.bytes (v := .slice a len cap) (by simpa [Value.cells] using h) hu he hc hb
  obtain ⟨a', c', hv, _⟩ := h1.val
  cases hv
  exact ⟨_, _, bs, rfl, h1, h2⟩
end Go.Proofs.Ytomplpdeeomehaa
