/- The kind of a message, by bits and by numbers. No program is named. -/
import Derived.Test.YtggammbhmoippaaStunPure
import Derived.WalkKit
namespace Go.Proofs.Ytggammbhmoippaa
set_option linter.unusedVariables false
open Go.RowKit

/-- the kind's bits -/
def kindBits (c m : Int) : Int := IntKind.u16.wrap (bits .or .i64 (bits .or .i64 (bits .or .i64 (bits .or .i64 (bits .and .i64 m 15) (wrap64 (bits .and .i64 c 1 * 16))) (wrap64 (bits .and .i64 m 112 * 2))) (wrap64 (bits .and .i64 c 2 * 128))) (wrap64 (bits .and .i64 m 3968 * 4)))
theorem kindBits_fin : ∀ c : Fin 4, ∀ x : Fin 64, ∀ y : Fin 64, kindBits (c.val : Int) ((x.val * 64 + y.val : Nat) : Int) = kindOf (c.val : Int) ((x.val * 64 + y.val : Nat) : Int) := by decide +kernel
theorem kindBits_eq (c m : Int) (h0 : 0 ≤ c) (h1 : c ≤ 3) (h2 : 0 ≤ m) (h3 : m ≤ 4095) : kindBits c m = kindOf c m := by
  obtain ⟨c, rfl⟩ := Int.eq_ofNat_of_zero_le h0
  obtain ⟨m, rfl⟩ := Int.eq_ofNat_of_zero_le h2
  have := kindBits_fin ⟨c, by omega⟩ ⟨m / 64, by omega⟩ ⟨m % 64, by omega⟩
  simp only at this
  rwa [show m / 64 * 64 + m % 64 = m by omega] at this
theorem kindOf_lt (c m : Int) (h0 : 0 ≤ c) (h1 : c ≤ 3) (h2 : 0 ≤ m) (h3 : m ≤ 4095) : 0 ≤ kindOf c m ∧ kindOf c m < 65536 := by unfold kindOf; omega

end Go.Proofs.Ytggammbhmoippaa
