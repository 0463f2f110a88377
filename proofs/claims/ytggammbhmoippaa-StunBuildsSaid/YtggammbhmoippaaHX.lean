/- More rules: tuples, max and min of ints, data put together. No program is named. -/
import Derived.Test.YtggammbhmoippaaHInt
namespace Go.Proofs.Ytggammbhmoippaa
set_option linter.unusedVariables false
set_option linter.unusedSimpArgs false
open Go.RowKit
section
variable {P : Program} {N : Nat} {F : FE} {As L L0 : List SA} {o : Oper} {x y z : Operand} {v : Value}
theorem Y.extract {i : Nat} {vs : Array Value} (ho : o.op = .extract x i) (hx : evO F x = some (.tuple vs)) (hv : vs[i]? = some v) : Yld P N o F As v := fun a w ha _ => by
  unfold execOp; rw [ho]
  replace hx := ha.eval hx
  generalize a.eval = ρ at hx ⊢
  simp [hx, Instr.extract, hv, go_sem]
theorem Y.minI {m n : Int} {at' : Array TypeId} (ho : o.op = .call { callee := .builtin .min, args := #[x, y], argTypes := at' }) (hx : evO F x = some (vI m)) (hy : evO F y = some (vI n)) : Yld P N o F As (vI (min m n)) := fun a w ha hw => by
  unfold execOp; rw [ho]
  replace hx := ha.eval hx
  replace hy := ha.eval hy
  generalize a.eval = ρ at hx hy ⊢
  simp [resolve, invoke, builtin, hx, hy, Builtin.min_, Builtin.min2, Result.andThen, Oper.upon, go_sem]
  split <;> omega
theorem Y.maxI {m n : Int} {at' : Array TypeId} (ho : o.op = .call { callee := .builtin .max, args := #[x, y], argTypes := at' }) (hx : evO F x = some (vI m)) (hy : evO F y = some (vI n)) : Yld P N o F As (vI (max m n)) := fun a w ha hw => by
  unfold execOp; rw [ho]
  replace hx := ha.eval hx
  replace hy := ha.eval hy
  generalize a.eval = ρ at hx hy ⊢
  simp [resolve, invoke, builtin, hx, hy, Builtin.max_, Builtin.max2, Result.andThen, Oper.upon, go_sem]
  split <;> omega
end
end Go.Proofs.Ytggammbhmoippaa
