/- The rotations. -/
import Derived.Test.YtggammbhmoippaaChecked
import Derived.Test.YtggammbhmoippaaHTyp
import Derived.Test.YtggammbhmoippaaHAuto
namespace Go.Proofs.Ytggammbhmoippaa
set_option linter.unusedVariables false
set_option linter.unusedSimpArgs false
open Go.RowKit
namespace rot
namespace FxShaRot
set_option maxRecDepth 100000

end FxShaRot
open FxShaRot
def rotl (x : UInt32) (n : Nat) : UInt32 := shl32 x n ||| shr32 x (32 - n)
theorem ref_fn (x : UInt32) (n : Nat) (hn : n ≤ 32) (L : List SA) : Fn Try.prog 60 [v32 x, .int .u64 (n : Int)] L (fun v L' => v = v32 (rotl x n) ∧ L' = L) := by
  refine Fn.of (N := 13) Try.func60 rfl rfl ?_
  intro Xh
  refine TC.seq ?_
  refine TC.region ?_
  refine TL.val rfl rfl rfl (Y.assign rfl rfl) ?_
  refine TL.nil ?_
  refine TQ.next ?_
  refine TC.seq ?_
  refine TC.region ?_
  refine TL.val rfl rfl rfl (Y.move rfl rfl) ?_
  refine TL.val rfl rfl rfl (Y.move rfl rfl) ?_
  refine TL.val rfl rfl rfl (Y.bin rfl rfl rfl (br_shl32)) ?_
  refine TL.val rfl rfl rfl (Y.move rfl rfl) ?_
  refine TL.val rfl rfl rfl (Y.move rfl rfl) ?_
  refine TL.val rfl rfl rfl (Y.bin rfl rfl rfl (br_subNu (m := 32) (by omega) (by omega))) ?_
  refine TL.val rfl rfl rfl (Y.bin rfl rfl rfl (br_shr32)) ?_
  refine TL.val rfl rfl rfl (Y.bin rfl rfl rfl (br_or32)) ?_
  refine TL.val rfl rfl rfl (Y.assign rfl rfl) ?_
  refine TL.nil ?_
  refine TQ.next ?_
  refine TC.ret ?_
  refine TQ.retE (res1 rfl rfl) (⟨rfl, rfl⟩) ?_
  exact ett
end rot
end Go.Proofs.Ytggammbhmoippaa
