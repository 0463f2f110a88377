/- More rules: tuples, max and min of ints, data put together. No program is named. -/
import Derived.Test.YtomplpdeeomehaaHInt
namespace Go.Proofs.Ytomplpdeeomehaa
set_option linter.unusedVariables false
set_option linter.unusedSimpArgs false
open Go.RowKit
section
variable {P : Program} {N : Nat} {F : FE} {As L L0 : List SA} {o : Oper} {x y z : Operand} {v : Value}
theorem Y.extract {i : Nat} {vs : Array Value} (ho : o.op = .extract x i) (hx : evO F x = some (.tuple vs)) (hv : vs[i]? = some v) : Yld P N o F As v := fun a w ha _ => by
  unfold execOp; rw [ho]
  replace hx := ha.eval hx
  generalize a.eval = ρ at hx ⊢
  simp [hx, Instr.extract, hv, go_sem]
theorem Y.minI {m n : Int} {at' : Array TypeId} (ho : o.op = .call { callee := .builtin .min, args := #[x, y], argTypes := at' }) (hx : evO F x = some (vI m)) (hy : evO F y = some (vI n)) : Yld P N o F As (vI (min m n)) := fun a w ha hw => by
  unfold execOp; rw [ho]
  replace hx := ha.eval hx
  replace hy := ha.eval hy
  generalize a.eval = ρ at hx hy ⊢
  simp [resolve, invoke, builtin, hx, hy, Builtin.min_, Builtin.min2, Result.andThen, Oper.upon, go_sem]
  split <;> omega
theorem Y.maxI {m n : Int} {at' : Array TypeId} (ho : o.op = .call { callee := .builtin .max, args := #[x, y], argTypes := at' }) (hx : evO F x = some (vI m)) (hy : evO F y = some (vI n)) : Yld P N o F As (vI (max m n)) := fun a w ha hw => by
  unfold execOp; rw [ho]
  replace hx := ha.eval hx
  replace hy := ha.eval hy
  generalize a.eval = ρ at hx hy ⊢
  simp [resolve, invoke, builtin, hx, hy, Builtin.max_, Builtin.max2, Result.andThen, Oper.upon, go_sem]
  split <;> omega
theorem Y.negI {t : TypeId} {n : Int} (ho : o.op = .unOp .neg t x) (hx : evO F x = some (vI n)) (h1 : -9223372036854775808 ≤ -n) (h2 : -n ≤ 9223372036854775807) : Yld P N o F As (vI (-n)) := fun a w ha _ => by
  unfold execOp; rw [ho]
  replace hx := ha.eval hx
  generalize a.eval = ρ at hx ⊢
  have := wrap_i64 (-n) h1 h2
  simp [hx, Op.unary, Op.intArith, go_sem]
  simpa using this
end
theorem br_mulI {m n : Int} (h1 : -9223372036854775808 ≤ m * n) (h2 : m * n ≤ 9223372036854775807) : BR .mul .i64 m .i64 n (.int .i64 (m * n)) := fun P w t => by
  simp [binOp, Op.intArith, go_sem]; exact wrap_i64 _ h1 h2
theorem tdiv_le {m n : Int} (h : 0 < n) (h1 : -9223372036854775808 ≤ m) (h2 : m ≤ 9223372036854775807) : -9223372036854775808 ≤ m.tdiv n ∧ m.tdiv n ≤ 9223372036854775807 := by
  have h3 : (m.tdiv n).natAbs ≤ m.natAbs := by rw [Int.natAbs_tdiv]; exact Nat.div_le_self _ _
  rcases Int.le_total 0 m with h0 | h0
  · have : 0 ≤ m.tdiv n := Int.tdiv_nonneg h0 (by omega)
    omega
  · have h4 : 0 ≤ (-m).tdiv n := Int.tdiv_nonneg (by omega) (by omega)
    rw [Int.neg_tdiv] at h4
    omega
theorem br_quoI {m n : Int} (h : 0 < n) (h1 : -9223372036854775808 ≤ m) (h2 : m ≤ 9223372036854775807) : BR .quo .i64 m .i64 n (.int .i64 (m.tdiv n)) := fun P w t => by
  have : ¬ (n = 0) := by omega
  simp [binOp, Op.intDiv, this, go_sem]
  exact wrap_i64 _ (tdiv_le h h1 h2).1 (tdiv_le h h1 h2).2
theorem br_remI {m n : Int} (h : n ≠ 0) : BR .rem .i64 m .i64 n (.int .i64 (m.tmod n)) := fun P w t => by
  simp [binOp, Op.intDiv, h, go_sem]
theorem br_rem16 {x y : UInt16} (h : y ≠ 0) : BR .rem .u16 x.toNat .u16 y.toNat (v16 (x % y)) := fun P w t => by
  have h0 : y.toNat ≠ 0 := fun e => h (UInt16.toNat_inj.1 e)
  simp [binOp, Op.intDiv, h0, go_sem]
  try rw [Int.tmod_eq_emod_of_nonneg (by omega)]
  try rfl
/-- differences of uint64s that were int64s -/
theorem br_subU {a b : Int} : BR .sub .u64 (a % 18446744073709551616) .u64 (b % 18446744073709551616) (.int .u64 ((a - b) % 18446744073709551616)) := fun P w t => by
  simp [binOp, Op.intArith, go_sem, wrap_u64]
theorem allOne {l : List Value} (h : l.all (·.oneCell') = true) : ∀ v ∈ l, v.oneCell' = true := List.all_eq_true.1 h
/-- '-k & 3' -/
theorem br_negand3 {k : Nat} (h : k < 65536) : BR .and .i64 (-(k : Int)) .i64 3 (vN ((4 - k % 4) % 4)) := fun P w t => by
  show Result.ok (Value.int .i64 (IntKind.i64.wrap ((BitVec.ofInt 64 (-(k : Int)) &&& BitVec.ofInt 64 3).toNat : Nat))) w = _
  have e : (BitVec.ofInt 64 (-(k : Int)) &&& BitVec.ofInt 64 3).toNat = (4 - k % 4) % 4 := by
    rw [BitVec.toNat_and, BitVec.toNat_ofInt, show (BitVec.ofInt 64 3).toNat = 2 ^ 2 - 1 from rfl, Nat.and_two_pow_sub_one_eq_mod]
    omega
  rw [e, wrap_i64 _ (by omega) (by omega)]
/-- a piece of a slice that is read -/
theorem Rd.cut {w : World} {sz n cap lo hi : Nat} {a : Option Addr} {cs : List Value} (h : Rd w sz (.slice a n cap) n cs) (h1 : lo ≤ hi) (h2 : hi ≤ n) : Rd w sz (cutV a cap lo hi sz) (hi - lo) ((cs.drop (lo * sz)).take ((hi - lo) * sz)) :=
  (h.drop (k := lo) (by omega)).take (k := hi - lo) (by omega)
section
variable {P : Program} {As : List SA} {A : SA}
theorem Src.cut {sz n cap lo hi tx e' : Nat} {a : Option Addr} {cs : List Value} (hA : Reads A sz (.slice a n cap) n cs) (hk : P.underlying tx = some (.slice e')) (h : In A As) (h1 : lo ≤ hi) (h2 : hi ≤ n) :
    ∀ w, Holds As w → Src P sz tx (cutV a cap lo hi sz) (hi - lo) ((cs.drop (lo * sz)).take ((hi - lo) * sz)) w := fun w hw => by
  obtain ⟨O, R, hp⟩ := hw A h
  exact ((hA w O R hp).cut h1 h2).src hk
theorem Src.cut8 {n cap lo hi tx e' : Nat} {a : Option Addr} {l : List UInt8} (hA : Reads A 1 (.slice a n cap) n (l.map v8)) (hk : P.underlying tx = some (.slice e')) (h : In A As) (h1 : lo ≤ hi) (h2 : hi ≤ n) :
    ∀ w, Holds As w → Src P 1 tx (cutV a cap lo hi 1) (hi - lo) (((l.drop lo).take (hi - lo)).map v8) w := by
  have := Src.cut (P := P) (As := As) hA hk h h1 h2
  simpa [List.map_take, List.map_drop] using this
end
section
variable {As : List SA} {A : SA} {v : Value}
theorem Cel.rds0 {sz n cap : Nat} {g off : Nat} {cs : List Value} (h : In (SA.rds sz (.slice (some ⟨g, off, none⟩) n cap) n cs) As) (hv : cs[0]? = some v) : Cel As ⟨g, off, none⟩ v := Cel.rdsB (j := 0) h hv
theorem Cel.owns0 {e sz n cap : Nat} {g off : Nat} {cs : List Value} (h : In (SA.owns e sz (.slice (some ⟨g, off, none⟩) n cap) n cs) As) (hv : cs[0]? = some v) : Cel As ⟨g, off, none⟩ v := Cel.owns (j := 0) h hv
end
/-- a piece of bytes that are read, beside the whole -/
theorem Ent.cutRds2 {L : List SA} {n cap lo hi : Nat} {a : Option Addr} {l : List UInt8} (h1 : lo ≤ hi) (h2 : hi ≤ n) :
    Ent (SA.rds 1 (.slice a n cap) n (l.map v8) :: L) (SA.rds 1 (cutV a cap lo hi 1) (hi - lo) (((l.drop lo).take (hi - lo)).map v8) :: SA.rds 1 (.slice a n cap) n (l.map v8) :: L) := by
  refine (Ent.dup Dup.rds).trans (Ent.imp fun w O R h => ⟨O, R, ⟨fun hn q hq => h.1 (by omega) q (own_cut (k := lo) (sz := 1) q ?_), ?_⟩, fun _ h => h, fun _ h => .inr h⟩)
  · revert hq
    unfold cutV
    generalize (if cap = lo then a else a.map (·.add (lo * 1))) = a'
    cases a' <;> simp [own]
  · have := h.2.cut h1 h2
    simpa [List.map_take, List.map_drop] using this
end Go.Proofs.Ytomplpdeeomehaa
