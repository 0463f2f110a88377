/- Bits of ints that are not negative; more on ints. No program is named. -/
import Derived.Test.YtomplpdeeomehaaHCmp
namespace Go.Proofs.Ytomplpdeeomehaa
set_option linter.unusedVariables false
set_option linter.unusedSimpArgs false
open Go.RowKit
theorem ofInt_nat (m : Nat) : BitVec.ofInt 64 (m : Int) = BitVec.ofNat 64 m := by
  apply BitVec.eq_of_toNat_eq; simp
theorem br_andN {m n : Nat} (hm : m < 9223372036854775808) (hn : n < 9223372036854775808) : BR .and .i64 m .i64 n (vN (m &&& n)) := fun P w t => by
  show Result.ok (Value.int .i64 (IntKind.i64.wrap ((BitVec.ofInt 64 (m : Int) &&& BitVec.ofInt 64 (n : Int)).toNat : Nat))) w = _
  rw [ofInt_nat, ofInt_nat, BitVec.toNat_and, BitVec.toNat_ofNat, BitVec.toNat_ofNat, Nat.mod_eq_of_lt (by omega), Nat.mod_eq_of_lt (by omega)]
  have : m &&& n ≤ m := Nat.and_le_left
  rw [wrap_i64 _ (by omega) (by omega)]
theorem br_orN {m n : Nat} (hm : m < 9223372036854775808) (hn : n < 9223372036854775808) : BR .or .i64 m .i64 n (vN (m ||| n)) := fun P w t => by
  show Result.ok (Value.int .i64 (IntKind.i64.wrap ((BitVec.ofInt 64 (m : Int) ||| BitVec.ofInt 64 (n : Int)).toNat : Nat))) w = _
  rw [ofInt_nat, ofInt_nat, BitVec.toNat_or, BitVec.toNat_ofNat, BitVec.toNat_ofNat, Nat.mod_eq_of_lt (by omega), Nat.mod_eq_of_lt (by omega)]
  have : m ||| n < 2 ^ 63 := Nat.or_lt_two_pow (by omega) (by omega)
  rw [wrap_i64 _ (by omega) (by omega)]
theorem br_shlN {m n c : Nat} {k : IntKind} (hc : 2 ^ n = c) (hn : n ≤ 64) (h : m * c < 9223372036854775808) : BR .shl .i64 m k n (vN (m * c)) := fun P w t => by
  subst hc
  have hneg : ¬ ((n : Int) < 0) := by omega
  show (Op.shift .shl .i64 (m : Int) k (n : Int)).run P w = _
  unfold Op.shift
  rw [if_neg hneg]
  show Result.ok (Value.int .i64 (IntKind.i64.wrap ((m : Int) * (2 ^ (min (n : Int).toNat 64))))) w = _
  have e : ((m : Int) * 2 ^ n) = ((m * 2 ^ n : Nat) : Int) := by rw [Int.natCast_mul, Int.natCast_pow]; rfl
  rw [Int.toNat_natCast, Nat.min_eq_left hn, e, wrap_i64 _ (by omega) (by omega)]
theorem br_shrN {m n c : Nat} {k : IntKind} (hc : 2 ^ n = c) (hn : n ≤ 64) : BR .shr .i64 m k n (vN (m / c)) := fun P w t => by
  subst hc
  have hneg : ¬ ((n : Int) < 0) := by omega
  show (Op.shift .shr .i64 (m : Int) k (n : Int)).run P w = _
  unfold Op.shift
  rw [if_neg hneg]
  show Result.ok (Value.int .i64 ((m : Int).fdiv (2 ^ (min (n : Int).toNat 64)))) w = _
  congr 2
  rw [Int.fdiv_eq_ediv_of_nonneg _ (by exact Int.le_of_lt (Int.pow_pos (by decide)))]
  simp only [Int.toNat_natCast]
  rw [Nat.min_eq_left hn, Int.natCast_ediv, Int.natCast_pow]; rfl
end Go.Proofs.Ytomplpdeeomehaa
